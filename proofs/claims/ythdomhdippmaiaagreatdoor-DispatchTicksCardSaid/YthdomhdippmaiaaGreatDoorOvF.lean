/- Layer 24: writing records in a round: what it does to the image and to the numbers of the entries. -/
import Derived.Test.YthdomhdippmaiaaGreatDoorOvE
import Derived.Test.YthdomhdippmaiaaGreatDoorOvC
import Derived.Test.YthdomhdippmaiaaGreatDoorOvB
import Derived.Test.YthdomhdippmaiaaGreatDoorOvD
namespace Go.Ovl
open Go Go.Ab
set_option maxRecDepth 100000
def xsV (E:List Entry) (xs:List Int) (r:Record):List Int:=
 bif (r.Kind==2)&&hasF (keyE r.Floor r.Dir) E then xs.take (posF (keyE r.Floor r.Dir) E)++xs.drop (posF (keyE r.Floor r.Dir) E + 1)
 else bif (r.Kind==1)&&!hasF (keyE r.Floor r.Dir) E then xs.take (posF (keyE r.Floor r.Dir) E)++[0]++xs.drop (posF (keyE r.Floor r.Dir) E)
 else xs
def numK (E:List Entry) (xs:List Int) (F D:Int):Int:=bif hasF (keyE F D) E then xs.getD (posF (keyE F D) E) 0 else 0
def numV (E:List Entry) (xs:List Int) (e:Entry):Int:=numK E xs e.Floor e.Dir
theorem nyc' (e:Entry):isC e.Floor e.Dir e=true:=by unfold isC; simp
theorem n0x' {E:List Entry} (hs:nbc' E) {i:Nat} (hi:i < E.length):posF (E.getD i noE) E=i:=by
 have hp:=nda'.1 hs
 rcases Nat.lt_trichotomy (posF (E.getD i noE) E) i with h | h | h
 ·have h1:=nvc' hs (posF (E.getD i noE) E) (Nat.le_refl _) (by omega)
  have h2:lessE (E.getD (posF (E.getD i noE) E) noE) (E.getD i noE)=true:=by
   generalize posF (E.getD i noE) E=p at h
   have hg:∀ j (hj:j < E.length),E.getD j noE=E[j]:=fun j hj=>by simp [List.getD_eq_getElem?_getD,hj]
   rw [hg p (by omega),hg i hi]
   exact List.pairwise_iff_getElem.1 hp p i (by omega) hi h
  rw [h1] at h2; cases h2
 ·exact h
 ·have h1:=nvd' (E.getD i noE) E i h
  have h2:=(ns4' (nyc' (E.getD i noE))).1
  rw [h1] at h2; cases h2
theorem n78' {E:List Entry} (hs:nbc' E) {i:Nat} (hi:i < E.length):hasF (keyE (E.getD i noE).Floor (E.getD i noE).Dir) E=true:=by
 unfold hasF
 rw [nnm',n0x' hs hi,Bool.and_eq_true]
 exact ⟨Eq.mpr Nat.blt_eq hi,nyc' _⟩
theorem nvb' {E:List Entry} (hs:nbc' E) (xs:List Int) {i:Nat} (hi:i < E.length):numV E xs (E.getD i noE)=xs.getD i 0:=by
 unfold numV numK
 rw [n78' hs hi,nnm',n0x' hs hi]; rfl
theorem nzt' {α:Type} {a b:List α} (d:α) (hl:a.length=b.length) (h:∀ i,i < a.length→a.getD i d=b.getD i d):a=b:=by
 refine List.ext_getElem hl fun i h1 h2=>?_
 have:=h i h1
 simpa [List.getD_eq_getElem?_getD,h1,h2] using this
theorem nyz' {α β:Type} (f:α→β) {l:List α} {i:Nat} (hi:i < l.length) (d:α) (d':β):(l.map f).getD i d'=f (l.getD i d):=by
 simp [List.getD_eq_getElem?_getD,hi]
theorem n0v' {E:List Entry} (hs:nbc' E) {xs:List Int} (hl:xs.length=E.length):E.map (numV E xs)=xs:=by
 refine nzt' 0 (by rw [List.length_map,hl]) fun i hi=>?_
 rw [List.length_map] at hi
 rw [nyz' _ hi noE,nvb' hs xs hi]
theorem n66' {α:Type} {l:List α} {k:Nat} {a:α} (d:α) (h:a=l.getD k d):l.set k a=l:=by
 by_cases hk:k < l.length
 ·refine nzt' d (List.length_set ..) fun i hi=>?_
  by_cases hik:k=i
  ·subst hik
   rw [h]; simp [List.getD_eq_getElem?_getD,hk]
  ·simp [List.getD_eq_getElem?_getD,hik]
 ·rw [List.set_eq_of_length_le (by omega)]
theorem nr2' {c:Entry} {l:List Entry} (h:hasF c l=true):posF c l < l.length∧isC c.Floor c.Dir (l.getD (posF c l) noE)=true:=by
 unfold hasF at h
 rw [Bool.and_eq_true] at h
 exact ⟨Eq.mp Nat.blt_eq h.1,h.2⟩
theorem nqx' {m:Img} (hs:nbc' m.Entries) {xs:List Int} (hl:xs.length=m.Entries.length) (r:Record):xsV m.Entries xs r=(nbh' m r).Entries.map (numV m.Entries xs):=by
 have hbase:=n0v' hs hl
 have hfp:=nju' (c:=keyE r.Floor r.Dir) 0 hs
 rw [Nat.zero_add] at hfp
 have hfp':findF r.Floor r.Dir m.Entries 0=_:=hfp
 unfold nbh' xsV
 by_cases k4:r.Kind=4
 ·rw [k4]; exact hbase.symm
 by_cases k5:r.Kind=5
 ·rw [k5]; exact hbase.symm
 by_cases k6:r.Kind=6
 ·rw [k6]; exact hbase.symm
 rw [beq_f k4,beq_f k5,beq_f k6,hfp']
 simp only [cond_false]
 cases hh:hasF (keyE r.Floor r.Dir) m.Entries with
 | false=>
  simp only [cond_false,beq_self_eq_true,cond_true,Bool.and_false,Bool.not_false,Bool.and_true]
  cases k1:r.Kind==1 with
  | false=>exact hbase.symm
  | true=>
   simp only [cond_true]
   show _=(insL (Entry.mk r.Floor r.Dir (-1) 0 false) false m.Entries).map (numV m.Entries xs)
   have hnone:=nwe' hs hh
   rw [npw' (c:=Entry.mk r.Floor r.Dir (-1) 0 false) (fun x hx=>hnone x hx)]
   have hp:posF (Entry.mk r.Floor r.Dir (-1) 0 false) m.Entries=posF (keyE r.Floor r.Dir) m.Entries:=(nnm' (Entry.mk r.Floor r.Dir (-1) 0 false) m.Entries).symm
   have hn:numV m.Entries xs (Entry.mk r.Floor r.Dir (-1) 0 false)=0:=by
    unfold numV numK
    rw [hh]; rfl
   rw [hp,List.map_append,List.map_append,List.map_take,List.map_drop,hbase,List.map_singleton,hn]
 | true=>
  obtain ⟨p1,p2⟩:=nr2' hh
  simp only [cond_true,Bool.and_true,Bool.not_true,Bool.and_false,cond_false]
  rw [beq_f (show ¬ ((posF (keyE r.Floor r.Dir) m.Entries:Nat):Int)=-1 by omega)]
  simp only [cond_false,Int.toNat_natCast]
  generalize posF (keyE r.Floor r.Dir) m.Entries=p at p1 p2 ⊢
  have hset:∀ e':Entry,e'.Floor=(m.Entries.getD p noE).Floor→e'.Dir=(m.Entries.getD p noE).Dir→(m.Entries.set p e').map (numV m.Entries xs)=xs:=fun e' h1 h2=>by
   rw [List.map_set,hbase]
   refine n66' 0 ?_
   have:numV m.Entries xs e'=numV m.Entries xs (m.Entries.getD p noE):=by
    unfold numV
    rw [h1,h2]
   rw [this,nvb' hs xs p1]
  cases k2:r.Kind==2 with
  | true=>
   simp only [cond_true]
   show _=(m.Entries.take p++m.Entries.drop (p + 1)).map (numV m.Entries xs)
   rw [List.map_append,List.map_take,List.map_drop,hbase]
  | false=>
   simp only [cond_false]
   cases k3:r.Kind==3 with
   | true=>exact (hset (nux' (m.Entries.getD p noE) r.Car) rfl rfl).symm
   | false=>
    simp only [cond_false]
    cases k7:r.Kind==7 with
    | true=>exact (hset (nnl' (m.Entries.getD p noE) r.Value r.Car) rfl rfl).symm
    | false=>exact hbase.symm
theorem n03' {m:Img} (hs:nbc' m.Entries) {xs:List Int} (hl:xs.length=m.Entries.length) (r:Record):(xsV m.Entries xs r).length=(nbh' m r).Entries.length:=by rw [nqx' hs hl,List.length_map]
theorem n3x' {m:Img} (hs:nbc' m.Entries) {r:Record} (h1:r.Kind ≠ 1) {e:Entry} (he:e ∈ (nbh' m r).Entries):∃ e0 ∈ m.Entries,e0.Floor=e.Floor∧e0.Dir=e.Dir:=by
 have hfp:=nju' (c:=keyE r.Floor r.Dir) 0 hs
 rw [Nat.zero_add] at hfp
 have hfp':findF r.Floor r.Dir m.Entries 0=_:=hfp
 unfold nbh' at he
 by_cases k4:r.Kind=4
 ·rw [k4] at he; exact ⟨e,he,rfl,rfl⟩
 by_cases k5:r.Kind=5
 ·rw [k5] at he; exact ⟨e,he,rfl,rfl⟩
 by_cases k6:r.Kind=6
 ·rw [k6] at he; exact ⟨e,he,rfl,rfl⟩
 rw [beq_f k4,beq_f k5,beq_f k6,hfp',beq_f h1] at he
 simp only [cond_false] at he
 cases hh:hasF (keyE r.Floor r.Dir) m.Entries with
 | false=>
  rw [hh] at he
  exact ⟨e,he,rfl,rfl⟩
 | true=>
  obtain ⟨p1,p2⟩:=nr2' hh
  rw [hh] at he
  simp only [cond_true] at he
  rw [beq_f (show ¬ ((posF (keyE r.Floor r.Dir) m.Entries:Nat):Int)=-1 by omega)] at he
  simp only [cond_false,Int.toNat_natCast] at he
  have hset:∀ e':Entry,e'.Floor=(m.Entries.getD (posF (keyE r.Floor r.Dir) m.Entries) noE).Floor→e'.Dir=(m.Entries.getD (posF (keyE r.Floor r.Dir) m.Entries) noE).Dir→e ∈ m.Entries.set (posF (keyE r.Floor r.Dir) m.Entries) e'→∃ e0 ∈ m.Entries,e0.Floor=e.Floor∧e0.Dir=e.Dir:=fun e' q1 q2 he=>by
   rcases njs' he with rfl | he
   ·exact ⟨_,ncq' noE p1,q1.symm,q2.symm⟩
   ·exact ⟨e,he,rfl,rfl⟩
  cases k2:r.Kind==2 with
  | true=>
   rw [k2] at he
   have he':e ∈ m.Entries.take (posF (keyE r.Floor r.Dir) m.Entries)++m.Entries.drop (posF (keyE r.Floor r.Dir) m.Entries + 1):=he
   rcases List.mem_append.1 he' with h | h
   ·exact ⟨e,List.mem_of_mem_take h,rfl,rfl⟩
   ·exact ⟨e,List.mem_of_mem_drop h,rfl,rfl⟩
  | false=>
   rw [k2] at he
   simp only [cond_false] at he
   cases k3:r.Kind==3 with
   | true=>rw [k3] at he; exact hset (nux' (m.Entries.getD (posF (keyE r.Floor r.Dir) m.Entries) noE) r.Car) rfl rfl he
   | false=>
    rw [k3] at he
    simp only [cond_false] at he
    cases k7:r.Kind==7 with
    | true=>rw [k7] at he; exact hset (nnl' (m.Entries.getD (posF (keyE r.Floor r.Dir) m.Entries) noE) r.Value r.Car) rfl rfl he
    | false=>rw [k7] at he; exact ⟨e,he,rfl,rfl⟩
def xsL:Img→List Int→List Record→List Int
 | _,xs,[]=>xs
 | m,xs,r :: t=>xsL (nbh' m r) (xsV m.Entries xs r) t
theorem n9m' {E:List Entry} (hs:nbc' E) (f:Entry→Int) (hf:∀ e e':Entry,e.Floor=e'.Floor→e.Dir=e'.Dir→f e=f e') {e:Entry} (he:∃ e0 ∈ E,e0.Floor=e.Floor∧e0.Dir=e.Dir):numV E (E.map f) e=f e:=by
 obtain ⟨e0,h0,h1,h2⟩:=he
 obtain ⟨i,hi,rfl⟩:=List.getElem_of_mem h0
 have hg:E.getD i noE=E[i]:=by simp [List.getD_eq_getElem?_getD,hi]
 have h:=nvb' hs (E.map f) hi
 rw [nyz' f hi noE,hg] at h
 have e1:numV E (E.map f) e=numV E (E.map f) E[i]:=by
  unfold numV
  rw [h1,h2]
 rw [e1,h]
 exact hf _ _ h1 h2
theorem nuf' {b:Bldg}:∀ {l:List Record} {m:Img},ImgOK b m→(∀ r ∈ l,n0' b r=true∧r.Kind ≠ 1)→∀ {e:Entry},e ∈ (nbn' m l).Entries→∃ e0 ∈ m.Entries,e0.Floor=e.Floor∧e0.Dir=e.Dir
 | [],_,_,_,e,he=>⟨e,he,rfl,rfl⟩
 | r :: t,m,hm,hv,e,he=>by
  have h0:=hv r (List.mem_cons_self ..)
  obtain ⟨e1,h1,h2,h3⟩:=nuf' (nh9' hm h0.1).1 (fun x hx=>hv x (List.mem_cons_of_mem _ hx)) (show e ∈ (nbn' (nbh' m r) t).Entries from he)
  obtain ⟨e2,h4,h5,h6⟩:=n3x' hm.so h0.2 h1
  exact ⟨e2,h4,by rw [h5,h2],by rw [h6,h3]⟩
theorem nqy' {b:Bldg}:∀ {l:List Record} {m:Img} {xs:List Int},ImgOK b m→xs.length=m.Entries.length→(∀ r ∈ l,n0' b r=true∧r.Kind ≠ 1)→xsL m xs l=(nbn' m l).Entries.map (numV m.Entries xs)
 | [],m,xs,hm,hl,_=>(n0v' hm.so hl).symm
 | r :: t,m,xs,hm,hl,hv=>by
  have h0:=hv r (List.mem_cons_self ..)
  have hm1:=(nh9' hm h0.1).1
  have ht:=fun x hx=>hv x (List.mem_cons_of_mem _ hx)
  show xsL (nbh' m r) (xsV m.Entries xs r) t=(nbn' (nbh' m r) t).Entries.map (numV m.Entries xs)
  rw [nqy' hm1 (n03' hm.so hl r) ht,nqx' hm.so hl]
  refine List.map_congr_left fun e he=>?_
  exact n9m' hm1.so (numV m.Entries xs) (fun e e' h1 h2=>by unfold numV; rw [h1,h2]) (nuf' hm1 ht he)
end Go.Ovl
namespace Go.Ovl
open Go Go.Ab
set_option maxRecDepth 100000
theorem n1j':∀ {l:List Nat} {a n:Nat},l.Pairwise (· < ·)→(∀ x ∈ l,a≤x∧x < n)→l.length + a≤n∨l=[]
 | [],_,_,_,_=>.inr rfl
 | x :: t,a,n,h,hr=>by
  left
  obtain ⟨h1,h2⟩:=List.pairwise_cons.1 h
  have hx:=hr x (List.mem_cons_self ..)
  rcases n1j' (a:=x + 1) (n:=n) h2 (fun y hy=>⟨h1 y hy,(hr y (List.mem_cons_of_mem _ hy)).2⟩) with q | q
  ·rw [List.length_cons]; omega
  ·subst q
   simp; omega
theorem n71' {b:Bldg} (hb:b.small) {m:Img} (hm:ImgOK b m):(m.Entries.length:Int)≤2 * (b.Floors - 1):=by
 have lo:=hb.lo
 have hi:=hb.hi
 let ix:Int×Int→Nat:=fun p=>if p.1=0 then 0 else if p.1=b.Floors - 1 then (2 * b.Floors - 3).toNat else (2 * p.1 + p.2 - 2).toNat
 have hv:∀ p ∈ m.Entries.map nbx',(p.2=1∧0≤p.1∧p.1≤b.Floors - 2)∨(p.2=2∧1≤p.1∧p.1≤b.Floors - 1):=fun p hp=>by
  obtain ⟨e,he,rfl⟩:=List.mem_map.1 hp
  have h1:=(ncx'.1 (hm.en e he)).1
  unfold nh' callB at h1
  simp only [Bool.and_eq_true,Bool.or_eq_true,beq_iff_eq,nba'] at h1
  show (e.Dir=1∧0≤e.Floor∧e.Floor≤b.Floors - 2)∨(e.Dir=2∧1≤e.Floor∧e.Floor≤b.Floors - 1)
  omega
 have hp:((m.Entries.map nbx').map ix).Pairwise (· < ·):=by
  rw [List.pairwise_map]
  refine List.Pairwise.imp_of_mem (fun {p q} hp hq h=>?_) hm.so
  have v1:=hv p hp
  have v2:=hv q hq
  unfold ltC at h
  show ix p < ix q
  simp only [ix]
  split <;> split <;> (try split) <;> (try split) <;> omega
 rcases n1j' (a:=0) (n:=(2 * b.Floors - 2).toNat) hp (fun x hx=>by
  obtain ⟨p,hp,rfl⟩:=List.mem_map.1 hx
  have v1:=hv p hp
  refine ⟨Nat.zero_le _,?_⟩
  show ix p < _
  simp only [ix]
  split
  ·omega
  ·split <;> omega) with q | q
 ·rw [List.length_map,List.length_map] at q; omega
 ·have:=congrArg List.length q
  rw [List.length_map,List.length_map,List.length_nil] at this; omega
end Go.Ovl
namespace Go.Ovl
open Go Go.Ab
set_option maxRecDepth 100000
theorem n2k' (e:Entry) (F D:Int):nfr' e.Floor e.Dir e.Car e.Moves e.Moved F D=some ((!lessE e (keyE F D),()),((F,()),(D,()),())):=by
 unfold nfr' lessE keyE
 by_cases h1:F < e.Floor
 ·rw [decide_eq_true h1,decide_eq_false (show ¬ e.Floor < F by omega),beq_f (show ¬ e.Floor=F by omega)]; rfl
 ·rw [decide_eq_false h1]
  by_cases h2:e.Floor=F
  ·rw [h2,decide_eq_false (Int.lt_irrefl F),beq_self_eq_true]
   by_cases h3:e.Dir < D
   ·rw [decide_eq_true h3,decide_eq_false (show ¬ D≤e.Dir by omega)]; rfl
   ·rw [decide_eq_false h3,decide_eq_true (show D≤e.Dir by omega)]; rfl
  ·rw [beq_f h2,decide_eq_true (show e.Floor < F by omega)]; rfl
theorem nt0' (E:List Entry) (hl:E.length≤100000) (F D:Int):∀ (k i:Nat),i + k=E.length→iter (fun x=>nn' x.1.1 x.1.2.2.1 x.1.2.2.2.1 x.2.1.1 x.2.2.1.1) (k + 1) ((E,(),(E.length:Int),(i:Int),()),((F,()),(D,()),()))=some (bif Nat.blt (i + posF (keyE F D) (E.drop i)) E.length then .inr ((((i + posF (keyE F D) (E.drop i):Nat):Int),()),((F,()),(D,()),())) else .inl ((),((F,()),(D,()),())))
 | 0,i,hi=>by
  obtain rfl:i=E.length:=by omega
  refine ni' ?_
  show nn' E (E.length:Int) (E.length:Int) F D=_
  unfold nn'
  rw [decide_eq_false (Int.lt_irrefl (E.length:Int)),List.drop_length]
  have:Nat.blt (E.length + posF (keyE F D) []) E.length=false:=by
   cases h:Nat.blt (E.length + posF (keyE F D) []) E.length with
   | false=>rfl
   | true=>have:=Eq.mp Nat.blt_eq h; omega
  rw [this]; rfl
 | k + 1,i,hi=>by
  have hi':i < E.length:=by omega
  have hs:nn' E (E.length:Int) (i:Int) F D=some (bif lessE (E.getD i noE) (keyE F D) then .inl ((E,(),(E.length:Int),((i + 1:Nat):Int),()),((F,()),(D,()),())) else .inr (.inr (((i:Int),()),((F,()),(D,()),())))):=by
   unfold nn'
   rw [show Entry.mk 0 0 0 0 false=noE from rfl]
   simp only [decide_eq_true (show (i:Int) < (E.length:Int) by omega),nc' (show (0:Int)≤(i:Int) by omega) (show (i:Int) < (E.length:Int) by omega),cond_true,Int.toNat_natCast,n2k',Option.bind_some,wrap1 hi' (show E.length≤nr' by unfold nr'; omega)]
   cases lessE (E.getD i noE) (keyE F D) <;> rfl
  have hd:=n3' noE hi'
  rw [hd]
  simp only [posF]
  cases hq:lessE (E.getD i noE) (keyE F D) with
  | true=>
   rw [hq] at hs
   refine (ns' hs).trans ?_
   rw [nt0' E hl F D k (i + 1) (by omega),cond_true,show i + 1 + posF (keyE F D) (E.drop (i + 1))=i + (posF (keyE F D) (E.drop (i + 1)) + 1) by omega]
  | false=>
   rw [hq] at hs
   refine (ni' hs).trans ?_
   rw [cond_false,Nat.add_zero,show Nat.blt i E.length=true from Eq.mpr Nat.blt_eq hi']; rfl
theorem nr5' (m:Img) (hl:m.Entries.length≤100000) (F D:Int):ng6' m.Phases m.Flags m.Leaving m.Entries F D=some ((((posF (keyE F D) m.Entries:Nat):Int),hasF (keyE F D) m.Entries,()),()):=by
 have h:=nt0' m.Entries hl F D m.Entries.length 0 (by omega)
 have h':=nf' h (by omega)
 rw [List.drop_zero,Nat.zero_add] at h'
 have hle:=nm3' (keyE F D) m.Entries
 unfold ng6' nbk' hasF
 rw [show n1' ((m.Entries,(),(m.Entries.length:Int),(0:Int),()),((F,()),(D,()),()))=_ from h']
 cases hq:Nat.blt (posF (keyE F D) m.Entries) m.Entries.length with
 | false=>
  have hge:m.Entries.length≤posF (keyE F D) m.Entries:=by
   rcases Nat.lt_or_ge (posF (keyE F D) m.Entries) m.Entries.length with g | g
   ·rw [Eq.mpr Nat.blt_eq g] at hq; cases hq
   ·exact g
  rw [show posF (keyE F D) m.Entries=m.Entries.length by omega]
  rfl
 | true=>
  have hlt:posF (keyE F D) m.Entries < m.Entries.length:=Eq.mp Nat.blt_eq hq
  simp only [cond_true,Option.bind_some]
  rw [decide_eq_false (show ¬ ((posF (keyE F D) m.Entries:Nat):Int) < 0 by omega)]
  simp only [cond_false,nc' (show (0:Int)≤((posF (keyE F D) m.Entries:Nat):Int) by omega) (show ((posF (keyE F D) m.Entries:Nat):Int) < (m.Entries.length:Int) by omega),cond_true,Int.toNat_natCast]
  rw [show Entry.mk 0 0 0 0 false=noE from rfl]
  unfold isC
  show Option.bind (bif (m.Entries.getD (posF (keyE F D) m.Entries) noE).Floor==F then _ else _) _=some ((_,true&&((m.Entries.getD (posF (keyE F D) m.Entries) noE).Floor==F&&(m.Entries.getD (posF (keyE F D) m.Entries) noE).Dir==D),()),())
  cases (m.Entries.getD (posF (keyE F D) m.Entries) noE).Floor==F <;> rfl
structure Rnd where
 recs:List Record
 img:Img
 xs:List Int
 lan:Lan
 ref:Int×Int
def Rnd.tup (r:Rnd):List Record×List Int×List Bool×List Bool×List Entry×List Int×List Calls×List Bool×Int×Int×Int×Int×Unit:=(r.recs,r.img.Phases,r.img.Flags,r.img.Leaving,r.img.Entries,r.xs,r.lan.lit,r.lan.gong,r.lan.cl.1,r.lan.cl.2,r.ref.1,r.ref.2,())
def Rnd.tupB (b:Bldg) (r:Rnd):List Record×List Int×List Bool×List Bool×List Entry×List Int×List Calls×List Bool×Int×Int×Int×Int×Int×Int×Int×Int×Nat×Nat×Nat×List Car×Unit:=(r.recs,r.img.Phases,r.img.Flags,r.img.Leaving,r.img.Entries,r.xs,r.lan.lit,r.lan.gong,r.lan.cl.1,r.lan.cl.2,r.ref.1,r.ref.2,b.Floors,b.Debounce,b.Room,b.Park,b.Empty,b.Full,b.Over,b.Cars,())
structure Rnd.ok (b:Bldg) (r:Rnd):Prop where
 img:ImgOK b r.img
 len:r.xs.length=r.img.Entries.length
def noRec:Record:=Record.mk 0 0 0 0 0
def stepW (r:Record) (X:Rnd):Rnd:=⟨X.recs++[r],nbh' X.img r,xsV X.img.Entries X.xs r,X.lan,X.ref⟩
def wrL (l:List Record) (X:Rnd):Rnd:=⟨X.recs++l,nbn' X.img l,xsL X.img X.xs l,X.lan,X.ref⟩
theorem ns0' (r:Record) (l:List Record) (X:Rnd):wrL (r :: l) X=wrL l (stepW r X):=by
 unfold wrL stepW
 simp only [List.append_assoc,List.singleton_append]
 rfl
theorem ntk' {b:Bldg} {X:Rnd} (h:X.ok b) {r:Record} (hv:n0' b r=true):(stepW r X).ok b:=⟨(nh9' h.img hv).1,n03' h.img.so h.len r⟩
theorem nqs' {b:Bldg}:∀ {l:List Record} {X:Rnd},X.ok b→(∀ r ∈ l,n0' b r=true)→(wrL l X).ok b
 | [],X,h,_=>by
  unfold wrL
  rw [List.append_nil]
  exact ⟨h.img,h.len⟩
 | r :: t,X,h,hv=>by
  rw [ns0']
  exact nqs' (ntk' h (hv r (List.mem_cons_self ..))) fun x hx=>hv x (List.mem_cons_of_mem _ hx)
theorem n81' {xs:List Int} {k:Nat} (h:k < xs.length) (hl:xs.length≤100000):ndb' xs (k:Int) (IntKind.i64.wrap ((k:Int) + 1))=some ((xs.take k++xs.drop (k + 1),()),()):=by
 unfold ndb' delF
 rw [nb' (by omega) (by omega),decide_eq_true (show (0:Int)≤(k:Int) by omega),decide_eq_true (show (k:Int) < (k:Int) + 1 by omega),decide_eq_true (show (k:Int) + 1≤(xs.length:Int) by omega),show Int.toNat ((k:Int) + 1)=k + 1 by omega,Int.toNat_natCast]
 rfl
theorem n88' {xs:List Int} {k:Nat} (h:k≤xs.length) (hl:xs.length≤100000):nc9' xs (k:Int) [0]=some ((xs.take k++[0]++xs.drop k,()),()):=by
 unfold nc9' insF
 rw [decide_eq_true (show (0:Int)≤(k:Int) by omega),decide_eq_true (show (k:Int)≤(xs.length:Int) by omega),n2' (show xs.length + [(0:Int)].length≤2147483648 by show xs.length + 1≤_; omega),Int.toNat_natCast]
 rfl
section
variable {b:Bldg} (hb:b.small) (hcode:b.code=0)
include hb hcode
omit hcode in
theorem nb5' {m:Img} (hm:ImgOK b m):m.Entries.length≤14:=by
 have:=n71' hb hm
 have:=hb.hi
 omega
theorem n1v' {X:Rnd} (hX:X.ok b) {l:List Record} (hl:l.length≤100000) {i:Nat} (hi:i < l.length) (hv:n0' b (l.getD i noRec)=true) (hr:X.recs.length≤1000000):nbs' l (l.length:Int) (i:Int) X.recs X.img.Phases X.img.Flags X.img.Leaving X.img.Entries X.xs X.lan.lit X.lan.gong X.lan.cl.1 X.lan.cl.2 X.ref.1 X.ref.2 b.Floors b.Debounce b.Room b.Park b.Empty b.Full b.Over b.Cars=some (.inl (((),l,(l.length:Int),((i + 1:Nat):Int),()),((stepW (l.getD i noRec) X).tupB b,()))):=by
 have hcc:=net' hcode
 have he:=nb5' hb hX.img
 have hlp:=hX.img.lp
 have hxl:=hX.len
 have hpl:=nm3' (keyE (l.getD i noRec).Floor (l.getD i noRec).Dir) X.img.Entries
 have ha:=nzk' hb (by omega) X.img (by omega) (by omega) (l.getD i noRec)
 have ha':nj6' b X.img (l.getD i noRec)=(((),0,()),((nbh' X.img (l.getD i noRec)).tup,())):=by
  unfold nj6'
  rw [Img.ok_iff.2 hX.img,hv]; rfl
 rw [ha'] at ha
 unfold nbs'
 rw [show Record.mk 0 0 0 0 0=noRec from rfl]
 simp only [decide_eq_true (show (i:Int) < (l.length:Int) by omega),nc' (show (0:Int)≤(i:Int) by omega) (show (i:Int) < (l.length:Int) by omega),cond_true,Int.toNat_natCast]
 rw [nr5' X.img (by omega)]
 simp only [Option.bind_some]
 generalize l.getD i noRec=r at *
 have hbl:Nat.ble (X.recs.length + [Record.mk r.Kind r.Floor r.Dir r.Car r.Value].length) 2147483648=true:=n2' (by show X.recs.length + 1≤_; omega)
 have hw:=wrap1 hi (show l.length≤nr' by unfold nr'; omega)
 have hxs:∀ q,xsV X.img.Entries X.xs r=q→(stepW r X).tupB b=(X.recs++[Record.mk r.Kind r.Floor r.Dir r.Car r.Value],(nbh' X.img r).Phases,(nbh' X.img r).Flags,(nbh' X.img r).Leaving,(nbh' X.img r).Entries,q,X.lan.lit,X.lan.gong,X.lan.cl.1,X.lan.cl.2,X.ref.1,X.ref.2,b.Floors,b.Debounce,b.Room,b.Park,b.Empty,b.Full,b.Over,b.Cars,()):=fun q h=>by rw [← h]; rfl
 by_cases k2:r.Kind=2
 ·have k1:(r.Kind==1)=false:=beq_f (by omega)
  have k2':(r.Kind==2)=true:=by rw [k2]; rfl
  cases hf:hasF (keyE r.Floor r.Dir) X.img.Entries with
  | true=>
   rw [hxs _ (show _=X.xs.take (posF (keyE r.Floor r.Dir) X.img.Entries)++X.xs.drop (posF (keyE r.Floor r.Dir) X.img.Entries + 1) by unfold xsV; rw [k2',hf]; rfl)]
   have hp:=(nr2' hf).1
   simp only [k2',cond_true,Option.bind_some,n81' (show posF (keyE r.Floor r.Dir) X.img.Entries < X.xs.length by omega) (by omega)]
   rw [ha]
   simp only [Option.bind_some,beq_self_eq_true,cond_true,hbl,hw]
   rfl
  | false=>
   rw [hxs X.xs (by unfold xsV; rw [hf,k1,Bool.and_false,Bool.false_and]; rfl)]
   simp only [k2',k1,cond_true,cond_false,Option.bind_some]
   rw [ha]
   simp only [Option.bind_some,beq_self_eq_true,cond_true,hbl,hw]
   rfl
 ·have k2':(r.Kind==2)=false:=beq_f k2
  by_cases k1:r.Kind=1
  ·have k1':(r.Kind==1)=true:=by rw [k1]; rfl
   cases hf:hasF (keyE r.Floor r.Dir) X.img.Entries with
   | false=>
    rw [hxs _ (show _=X.xs.take (posF (keyE r.Floor r.Dir) X.img.Entries)++[0]++X.xs.drop (posF (keyE r.Floor r.Dir) X.img.Entries) by unfold xsV; rw [k2',k1',hf]; rfl)]
    simp only [k2',k1',cond_true,cond_false,Option.bind_some,Bool.not_false,n88' (show posF (keyE r.Floor r.Dir) X.img.Entries≤X.xs.length by omega) (by omega)]
    rw [ha]
    simp only [Option.bind_some,beq_self_eq_true,cond_true,hbl,hw]
    rfl
   | true=>
    rw [hxs X.xs (by unfold xsV; rw [hf,k2',Bool.false_and,Bool.not_true,Bool.and_false]; rfl)]
    simp only [k2',k1',cond_true,cond_false,Option.bind_some,Bool.not_true]
    rw [ha]
    simp only [Option.bind_some,beq_self_eq_true,cond_true,hbl,hw]
    rfl
  ·have k1':(r.Kind==1)=false:=beq_f k1
   rw [hxs X.xs (by unfold xsV; rw [k2',k1',Bool.false_and,Bool.false_and]; rfl)]
   simp only [k2',k1',cond_false,Option.bind_some]
   rw [ha]
   simp only [Option.bind_some,beq_self_eq_true,cond_true,hbl,hw]
   rfl
theorem ntd' {X:Rnd} (hX:X.ok b) {l:List Record} (hl:l.length≤100000) (hv:∀ r ∈ l,n0' b r=true) (hr:X.recs.length≤100000):nbl' l X.recs X.img.Phases X.img.Flags X.img.Leaving X.img.Entries X.xs X.lan.lit X.lan.gong X.lan.cl.1 X.lan.cl.2 X.ref.1 X.ref.2 b.Floors b.Debounce b.Room b.Park b.Empty b.Full b.Over b.Cars=some ((),((wrL l X).tupB b,())):=by
 have key:∀ (k i:Nat) (Y:Rnd),i + k=l.length→Y.ok b→Y.recs.length≤100000 + i→iter (fun x=>nbs' x.1.2.1 x.1.2.2.1 x.1.2.2.2.1 x.2.1.1 x.2.1.2.1 x.2.1.2.2.1 x.2.1.2.2.2.1 x.2.1.2.2.2.2.1 x.2.1.2.2.2.2.2.1 x.2.1.2.2.2.2.2.2.1 x.2.1.2.2.2.2.2.2.2.1 x.2.1.2.2.2.2.2.2.2.2.1 x.2.1.2.2.2.2.2.2.2.2.2.1 x.2.1.2.2.2.2.2.2.2.2.2.2.1 x.2.1.2.2.2.2.2.2.2.2.2.2.2.1 x.2.1.2.2.2.2.2.2.2.2.2.2.2.2.1 x.2.1.2.2.2.2.2.2.2.2.2.2.2.2.2.1 x.2.1.2.2.2.2.2.2.2.2.2.2.2.2.2.2.1 x.2.1.2.2.2.2.2.2.2.2.2.2.2.2.2.2.2.1 x.2.1.2.2.2.2.2.2.2.2.2.2.2.2.2.2.2.2.1 x.2.1.2.2.2.2.2.2.2.2.2.2.2.2.2.2.2.2.2.1 x.2.1.2.2.2.2.2.2.2.2.2.2.2.2.2.2.2.2.2.2.1 x.2.1.2.2.2.2.2.2.2.2.2.2.2.2.2.2.2.2.2.2.2.1) (k + 1) (((),l,(l.length:Int),(i:Int),()),(Y.tupB b,()))=some ((),((wrL (l.drop i) Y).tupB b,())):=by
  intro k
  induction k with
  | zero=>
   intro i Y hi _ _
   obtain rfl:i=l.length:=by omega
   refine ni' ?_
   show nbs' l (l.length:Int) (l.length:Int) Y.recs Y.img.Phases Y.img.Flags Y.img.Leaving Y.img.Entries Y.xs Y.lan.lit Y.lan.gong Y.lan.cl.1 Y.lan.cl.2 Y.ref.1 Y.ref.2 b.Floors b.Debounce b.Room b.Park b.Empty b.Full b.Over b.Cars=_
   unfold nbs'
   rw [decide_eq_false (Int.lt_irrefl (l.length:Int)),List.drop_length]
   unfold wrL
   rw [List.append_nil]
   rfl
  | succ k ih=>
   intro i Y hi hY hr
   have hi':i < l.length:=by omega
   have hv':=hv _ (ncq' noRec hi')
   rw [n3' noRec hi',ns0']
   exact (ns' (n1v' hb hcode hY hl hi' hv' (by omega))).trans (ih (i + 1) _ (by omega) (ntk' hY hv') (by show (Y.recs++[_]).length≤_; rw [List.length_append,List.length_singleton]; omega))
 have h:=key l.length 0 X (by omega) hX (by omega)
 rw [List.drop_zero] at h
 have h':nb9' (((),l,(l.length:Int),(0:Int),()),(X.tupB b,()))=_:=nf' h (by omega)
 unfold nbl'
 rw [show nb9' (((),l,(l.length:Int),(0:Int),()),((X.recs,X.img.Phases,X.img.Flags,X.img.Leaving,X.img.Entries,X.xs,X.lan.lit,X.lan.gong,X.lan.cl.1,X.lan.cl.2,X.ref.1,X.ref.2,b.Floors,b.Debounce,b.Room,b.Park,b.Empty,b.Full,b.Over,b.Cars,()),()))=_ from h']
 rfl
end
end Go.Ovl
namespace Go.Ovl
open Go Go.Ab
set_option maxRecDepth 100000
theorem nq8' {F D:Int} {e:Entry} (he:isC F D e=true) (T:List Entry):∀ (P:List Entry) (i:Nat),(∀ p ∈ P,isC F D p=false)→findF F D (P++e :: T) i=((i + P.length:Nat):Int)
 | [],i,_=>by simp only [List.nil_append,findF,he,cond_true,List.length_nil,Nat.add_zero]
 | p :: P,i,h=>by
  simp only [List.cons_append,findF,h p (List.mem_cons_self ..),cond_false]
  rw [nq8' he T P (i + 1) fun x hx=>h x (List.mem_cons_of_mem _ hx),List.length_cons]
  congr 1; omega
theorem n1y' {P T:List Entry} {e:Entry} (h:nbc' (P++e :: T)):∀ p ∈ P,isC e.Floor e.Dir p=false:=by
 intro p hp
 rw [nda'] at h
 have h2:=(List.pairwise_append.1 h).2.2 p hp e (List.mem_cons_self ..)
 rw [neu'] at h2
 unfold isC
 simp only [Bool.and_eq_false_iff,beq_eq_false_iff_ne]
 omega
theorem ny3' (P T:List Entry) (e:Entry):(P++e :: T).getD P.length noE=e:=by
 simp [List.getD_eq_getElem?_getD]
theorem callC (e:Entry):isC e.Floor e.Dir e=true:=by unfold isC; simp
theorem nz8' {m:Img} {P T:List Entry} {e:Entry} (hE:m.Entries=P++e :: T) (hs:∀ p ∈ P,isC e.Floor e.Dir p=false) (n c:Int):nbh' m ⟨7,e.Floor,e.Dir,c,n⟩=m.put (P++nnl' e n c :: T):=by
 unfold nbh'
 have hf:findF e.Floor e.Dir m.Entries 0=(P.length:Int):=by rw [hE,nq8' (callC e) T P 0 hs,Nat.zero_add]
 simp only [hf]
 rw [beq_f (show ¬ (P.length:Int)=-1 by omega),hE,Int.toNat_natCast,ny3',nm7',nm7']
 rfl
theorem nwr' {m:Img} {P T:List Entry} {e:Entry} (hE:m.Entries=P++e :: T) (hs:∀ p ∈ P,isC e.Floor e.Dir p=false) (c:Int):nbh' m ⟨3,e.Floor,e.Dir,c,0⟩=m.put (P++nux' e c :: T):=by
 unfold nbh'
 have hf:findF e.Floor e.Dir m.Entries 0=(P.length:Int):=by rw [hE,nq8' (callC e) T P 0 hs,Nat.zero_add]
 simp only [hf]
 rw [beq_f (show ¬ (P.length:Int)=-1 by omega),hE,Int.toNat_natCast,ny3',nm7',nm7']
 rfl
theorem Img.put_put (m:Img) (l l':List Entry):(m.put l).put l'=m.put l':=rfl
theorem Img.put_self (m:Img):m.put m.Entries=m:=rfl
theorem n20' {m:Img} {P T:List Entry} {e n:Entry} (hE:m.Entries=P++e :: T) (hs:∀ p ∈ P,isC e.Floor e.Dir p=false) (hF:n.Floor=e.Floor) (hD:n.Dir=e.Dir):nbn' m (recsV e n)=m.put (P++n :: T):=by
 obtain ⟨nF,nD,nC,nM,nV⟩:=n
 obtain ⟨eF,eD,eC,eM,eV⟩:=e
 simp only at hF hD
 subst hF hD
 unfold recsV
 simp only
 have mv:∀ c:Int,nnl' ⟨nF,nD,eC,eM,eV⟩ nM c=⟨nF,nD,eC,nM,c==1⟩:=fun _=>rfl
 have cv:((bif nV then (1:Int) else 0)==1)=nV:=by cases nV <;> rfl
 cases hp:(eM != nM||!(eV==nV)) with
 | true=>
  have h1:=nz8' hE hs nM (bif nV then 1 else 0)
  rw [mv,cv] at h1
  cases hq:eC != nC with
  | true=>
   have h2:=nwr' (m:=m.put (P++⟨nF,nD,eC,nM,nV⟩ :: T)) (P:=P) (T:=T) (e:=⟨nF,nD,eC,nM,nV⟩) rfl hs nC
   simp only [cond_true,List.cons_append,List.nil_append,nbn']
   rw [h1,h2]; rfl
  | false=>
   have:eC=nC:=by simpa [bne] using hq
   subst this
   simp only [cond_true,cond_false,List.append_nil,nbn']
   exact h1
 | false=>
  simp only [Bool.or_eq_false_iff,Bool.not_eq_false',bne_eq_false_iff_eq,beq_iff_eq] at hp
  obtain ⟨rfl,rfl⟩:=hp
  cases hq:eC != nC with
  | true=>
   have h2:=nwr' hE hs nC
   simp only [cond_true,cond_false,List.nil_append,nbn']
   exact h2
  | false=>
   have:eC=nC:=by simpa [bne] using hq
   subst this
   simp only [cond_false,List.append_nil,nbn']
   rw [← hE]; exact (Img.put_self m).symm
theorem n2w' {b:Bldg} {e n:Entry} (hcode:b.code=0) (hcall:nh' b n.Floor n.Dir=true) (hc:-2≤n.Car∧n.Car < (b.Cars.length:Int)) (hm:0≤n.Moves∧n.Moves≤255):∀ r ∈ recsV e n,n0' b r=true:=by
 intro r hr
 unfold recsV at hr
 rcases List.mem_append.1 hr with h | h
 ·cases hp:(e.Moves != n.Moves||!(e.Moved==n.Moved)) with
  | false=>rw [hp] at h; cases h
  | true=>
   rw [hp] at h
   rw [List.mem_singleton.1 h]
   unfold n0'
   rw [hcode,hcall,nba'.2 hm]
   cases n.Moved <;> rfl
 ·cases hp:e.Car != n.Car with
  | false=>rw [hp] at h; cases h
  | true=>
   rw [hp] at h
   rw [List.mem_singleton.1 h]
   unfold n0'
   rw [hcode,hcall,nba'.2 ⟨hc.1,show n.Car≤(b.Cars.length:Int) - 1 by omega⟩]
   rfl
noncomputable def decL (b:Bldg) (vs:List View):List Entry→List Int→List Entry
 | e :: t,x :: xs=>decV b vs e x :: decL b vs t xs
 | _,_=>[]
theorem nze' (b:Bldg) (vs:List View):∀ (l:List Entry) (xs:List Int),xs.length=l.length→(decL b vs l xs).length=l.length
 | [],_,_=>by simp [decL]
 | _ :: _,[],h=>by simp at h
 | e :: t,x :: xs,h=>by simp only [decL,List.length_cons,nze' b vs t xs (by simpa using h)]
theorem n11' {b:Bldg} (hc:b.Cars.length≤100) {vs:List View} {e:Entry} (hm:0≤e.Moves∧e.Moves≤255) (x:Int):0≤(decV b vs e x).Moves∧(decV b vs e x).Moves≤255:=by
 unfold decV
 cases e.Car==-2 with
 | true=>exact hm
 | false=>
  cases e.Car==-1 with
  | true=>exact hm
  | false=>
   cases (nd' vs e.Car).Lost with
   | true=>
    by_cases g:(b.Cars.length:Int) < e.Moves
    ·rw [decide_eq_true g]; exact hm
    ·rw [decide_eq_false g]; exact ⟨by show 0≤e.Moves + 1; omega,by show e.Moves + 1≤255; omega⟩
   | false=>
    by_cases g:e.Moves≤(b.Cars.length:Int)
    ·rw [decide_eq_true g]
     cases e.Moved with
     | true=>exact hm
     | false=>
      cases ne5' b vs e x != -1 with
      | true=>exact ⟨by show 0≤e.Moves + 1; omega,by show e.Moves + 1≤255; omega⟩
      | false=>exact hm
    ·rw [decide_eq_false g,Bool.and_false]; exact hm
theorem npt' {b:Bldg} (hc:b.Cars.length≤100) {vs:List View} (hlen:(vs.length:Int)=(b.Cars.length:Int)):∀ (T:List Entry) (xs:List Int) (P:List Entry) (m:Img),xs.length=T.length→ImgOK b m→m.Entries=P++T→nbn' m (planR b vs T xs)=m.put (P++decL b vs T xs)∧(∀ r ∈ planR b vs T xs,n0' b r=true)∧ImgOK b (m.put (P++decL b vs T xs))
 | [],xs,P,m,_,hm,hE=>by
  have:decL b vs [] xs=[]:=by simp [decL]
  have h2:planR b vs [] xs=[]:=by simp [planR]
  rw [this,h2,← hE]
  exact ⟨rfl,(fun _ h=>by cases h),hm⟩
 | _ :: _,[],_,_,h,_,_=>by simp at h
 | e :: T,x :: xs,P,m,h,hm,hE=>by
  have hent:=ncx'.1 (hm.en e (by rw [hE]; simp))
  have hso:=hm.so
  rw [hE] at hso
  have hs:=n1y' hso
  obtain ⟨c1,c2⟩:=nwf' b vs e x
  have hin:=nv0' b (vs:=vs) (e:=e) (by omega) x
  have hmv:=n11' hc (vs:=vs) hent.2.2 x
  have hval:=n2w' (b:=b) (e:=e) (n:=decV b vs e x) hm.code (by rw [c1,c2]; exact hent.1) (by omega) hmv
  have hap:=n20' hE hs c1 c2
  have hok:ImgOK b (m.put (P++decV b vs e x :: T)):=by
   rw [← hap]; exact (nri' hm hval).1
  obtain ⟨g1,g2,g3⟩:=npt' hc hlen T xs (P++[decV b vs e x]) (m.put (P++decV b vs e x :: T)) (by simpa using h) hok (by simp [Img.put])
  simp only [planR,decL]
  have app:∀ (rs qs:List Record) (m:Img),nbn' m (rs++qs)=nbn' (nbn' m rs) qs:=fun rs=>by
   induction rs with
   | nil=>intro _ _; rfl
   | cons r rs ih=>intro qs m; exact ih qs (nbh' m r)
  rw [app,hap,g1,Img.put_put]
  rw [Img.put_put] at g3
  simp only [List.append_assoc,List.singleton_append] at g3 ⊢
  exact ⟨trivial,(fun r hr=>by
   rcases List.mem_append.1 hr with hr | hr
   ·exact hval r hr
   ·exact g2 r hr),g3⟩
end Go.Ovl
namespace Go.Ovl
open Go Go.Ab
set_option maxRecDepth 100000
theorem nz5' {l:List Entry} (hl:l.length≤100000):nm0' l=some (((),()),(((ofC l (0,0)).1,(ofC l (0,0)).2,()),())):=by
 have e2:∀ (k i:Nat) (c:Int×Int),i + k=l.length→iter (fun x=>ngt' x.1.2.2.1 x.1.2.2.2.1 x.1.2.2.2.2.1 x.2.1.1 x.2.1.2.1 x.2.2.1.1 x.2.2.1.2.1) (k + 1) (((),(),l,(l.length:Int),(i:Int),()),(((0:Int),(0:Int),()),(c.1,c.2,()),()))=some (((),(),()),(((0:Int),(0:Int),()),((ofC (l.drop i) c).1,(ofC (l.drop i) c).2,()),())):=by
  intro k
  induction k with
  | zero=>
   intro i c hi
   obtain rfl:i=l.length:=by omega
   refine ni' ?_
   show ngt' l (l.length:Int) (l.length:Int) 0 0 c.1 c.2=_
   unfold ngt'
   rw [decide_eq_false (Int.lt_irrefl (l.length:Int)),List.drop_length]; rfl
  | succ k ih=>
   intro i c hi
   have hi':i < l.length:=by omega
   rw [n3' noE hi']
   refine (ns' (x':=(((),(),l,(l.length:Int),((i + 1:Nat):Int),()),(((0:Int),(0:Int),()),((ncl' c (oneC (l.getD i noE).Floor (l.getD i noE).Dir)).1,(ncl' c (oneC (l.getD i noE).Floor (l.getD i noE).Dir)).2,()),()))) ?_).trans (ih (i + 1) _ (by omega))
   show ngt' l (l.length:Int) (i:Int) 0 0 c.1 c.2=_
   unfold ngt'
   rw [show Entry.mk 0 0 0 0 false=noE from rfl]
   have hu:=nij' c (oneC (l.getD i noE).Floor (l.getD i noE).Dir)
   simp only [decide_eq_true (show (i:Int) < (l.length:Int) by omega),nc' (show (0:Int)≤(i:Int) by omega) (show (i:Int) < (l.length:Int) by omega),cond_true,Int.toNat_natCast,nns',Option.bind_some,hu,wrap1 hi' (show l.length≤nr' by unfold nr'; omega)]
 have h:=e2 l.length 0 (0,0) (by omega)
 rw [List.drop_zero] at h
 have h':nkp' (((),(),l,(l.length:Int),(0:Int),()),(((0:Int),(0:Int),()),((0:Int),(0:Int),()),()))=_:=nf' h (by omega)
 unfold nm0'
 rw [h']; rfl
def regR (e:Entry):Record:=Record.mk 1 e.Floor e.Dir 0 0
def stepG (b:Bldg) (e:Entry) (X:Rnd):Rnd:=bif roomV b X.img then stepW (regR e) X else ⟨X.recs,X.img,X.xs,X.lan,ncl' X.ref (oneC e.Floor e.Dir)⟩
def regL (b:Bldg):List Entry→Rnd→Rnd
 | [],X=>X
 | e :: t,X=>regL b t (stepG b e X)
theorem n4h' (r:Record) (X:Rnd):wrL [r] X=stepW r X:=by
 rw [ns0']
 unfold wrL
 rw [List.append_nil]
 rfl
theorem nod' {b:Bldg} {e:Entry} (h:nh' b e.Floor e.Dir=true):n0' b (regR e)=true:=by
 have hc:(b.code==0)=true:=by
  unfold nh' at h
  rw [Bool.and_eq_true] at h
  exact h.1
 unfold n0' regR
 rw [hc]
 simp only [beq_self_eq_true,cond_true,h,Bool.and_self]
theorem nsr' {b:Bldg} {X:Rnd} (h:X.ok b) {e:Entry} (he:nh' b e.Floor e.Dir=true):(stepG b e X).ok b:=by
 unfold stepG
 cases roomV b X.img with
 | true=>exact ntk' h (nod' he)
 | false=>exact ⟨h.img,h.len⟩
theorem n06' {b:Bldg}:∀ {l:List Entry} {X:Rnd},X.ok b→(∀ e ∈ l,nh' b e.Floor e.Dir=true)→(regL b l X).ok b
 | [],_,h,_=>h
 | e :: t,X,h,hv=>by
  show (regL b t (stepG b e X)).ok b
  exact n06' (nsr' h (hv e (List.mem_cons_self ..))) fun x hx=>hv x (List.mem_cons_of_mem _ hx)
theorem nu5' (b:Bldg) (e:Entry) (X:Rnd):(stepG b e X).recs.length≤X.recs.length + 1:=by
 unfold stepG
 cases roomV b X.img with
 | true=>show (X.recs++[_]).length≤_; rw [List.length_append,List.length_singleton]; exact Nat.le_refl _
 | false=>exact Nat.le_succ _
theorem nrk' (b:Bldg):∀ (l:List Entry) (X:Rnd),(regL b l X).recs.length≤X.recs.length + l.length
 | [],_=>Nat.le_refl _
 | e :: t,X=>by
  have h1:=nrk' b t (stepG b e X)
  have h2:=nu5' b e X
  show (regL b t (stepG b e X)).recs.length≤_
  rw [List.length_cons]
  omega
theorem nql' (c:Int×Int):(listC c).length≤64:=by
 have h:∀ k i:Nat,((List.range' i k).flatMap (nc6' c)).length≤2 * k:=by
  intro k
  induction k with
  | zero=>intro i; exact Nat.le_refl _
  | succ k ih=>
   intro i
   rw [List.range'_succ,List.flatMap_cons,List.length_append]
   have:=ih (i + 1)
   have:=nuu' c i
   omega
 exact h 32 0
theorem nq4' {c:Int×Int} {e:Entry} (h:e ∈ listC c):(0≤e.Floor∧e.Floor < 32)∧(e.Dir=1∨e.Dir=2)∧bitC c e.Floor.toNat e.Dir=true:=by
 obtain ⟨f,h1,h2,h3,h4⟩:=mem_range.1 (List.mem_map.2 ⟨e,h,rfl⟩)
 simp only [nbx'] at h2 h3 h4
 refine ⟨by omega,h3,?_⟩
 rw [h2,Int.toNat_natCast]; exact h4
def nkf' (b:Bldg) (m:Img) (press:Int×Int):Int×Int:=nbf' (bothC press (hallC b)) (ofC m.Entries (0,0))
theorem npo' {b:Bldg} (hb:b.small) (hcode:b.code=0) {press old:Int×Int} {e:Entry} (h:e ∈ listC (nbf' (bothC press (hallC b)) old)):nh' b e.Floor e.Dir=true:=by
 obtain ⟨h1,h2,h3⟩:=nq4' h
 rw [nd8' _ _ (by omega),nl2',Bool.and_eq_true,Bool.and_eq_true,ns7' hb hcode (by omega) h2,Int.toNat_of_nonneg h1.1] at h3
 exact h3.1.2
section
variable {b:Bldg} (hb:b.small) (hcode:b.code=0)
include hb hcode
theorem nxo' {es:List Entry} (hl:es.length≤1000) (hv:∀ e ∈ es,nh' b e.Floor e.Dir=true):∀ (k i:Nat) (Y:Rnd),i + k=es.length→Y.ok b→Y.recs.length≤1000 + i→iter (fun x=>nbi' x.1.2.1 x.1.2.2.1 x.1.2.2.2.1 x.2.1.1 x.2.1.2.1 x.2.1.2.2.1 x.2.1.2.2.2.1 x.2.1.2.2.2.2.1 x.2.1.2.2.2.2.2.1 x.2.1.2.2.2.2.2.2.1 x.2.1.2.2.2.2.2.2.2.1 x.2.1.2.2.2.2.2.2.2.2.1 x.2.1.2.2.2.2.2.2.2.2.2.1 x.2.1.2.2.2.2.2.2.2.2.2.2.1 x.2.1.2.2.2.2.2.2.2.2.2.2.2.1 x.2.1.2.2.2.2.2.2.2.2.2.2.2.2.1 x.2.1.2.2.2.2.2.2.2.2.2.2.2.2.2.1 x.2.1.2.2.2.2.2.2.2.2.2.2.2.2.2.2.1 x.2.1.2.2.2.2.2.2.2.2.2.2.2.2.2.2.2.1 x.2.1.2.2.2.2.2.2.2.2.2.2.2.2.2.2.2.2.1 x.2.1.2.2.2.2.2.2.2.2.2.2.2.2.2.2.2.2.2.1 x.2.1.2.2.2.2.2.2.2.2.2.2.2.2.2.2.2.2.2.2.1 x.2.1.2.2.2.2.2.2.2.2.2.2.2.2.2.2.2.2.2.2.2.1) (k + 1) (((),es,(es.length:Int),(i:Int),()),(Y.tupB b,()))=some ((),((regL b (es.drop i) Y).tupB b,())):=by
 intro k
 induction k with
 | zero=>
  intro i Y hi _ _
  obtain rfl:i=es.length:=by omega
  refine ni' ?_
  show nbi' es (es.length:Int) (es.length:Int) Y.recs Y.img.Phases Y.img.Flags Y.img.Leaving Y.img.Entries Y.xs Y.lan.lit Y.lan.gong Y.lan.cl.1 Y.lan.cl.2 Y.ref.1 Y.ref.2 b.Floors b.Debounce b.Room b.Park b.Empty b.Full b.Over b.Cars=_
  unfold nbi'
  rw [decide_eq_false (Int.lt_irrefl (es.length:Int)),List.drop_length]
  rfl
 | succ k ih=>
  intro i Y hi hY hr
  have hi':i < es.length:=by omega
  have hv':=hv _ (ncq' noE hi')
  have hcc:=net' hcode
  have he:=nb5' hb hY.img
  have hlp:=hY.img.lp
  rw [n3' noE hi']
  refine (ns' (x':=(((),es,(es.length:Int),((i + 1:Nat):Int),()),((stepG b (es.getD i noE) Y).tupB b,()))) ?_).trans (ih (i + 1) _ (by omega) (nsr' hY hv') (by have:=nu5' b (es.getD i noE) Y; omega))
  show nbi' es (es.length:Int) (i:Int) Y.recs Y.img.Phases Y.img.Flags Y.img.Leaving Y.img.Entries Y.xs Y.lan.lit Y.lan.gong Y.lan.cl.1 Y.lan.cl.2 Y.ref.1 Y.ref.2 b.Floors b.Debounce b.Room b.Park b.Empty b.Full b.Over b.Cars=_
  unfold nbi' stepG
  rw [show Entry.mk 0 0 0 0 false=noE from rfl,nz9' hb Y.img (by omega) (by omega) (by omega)]
  simp only [decide_eq_true (show (i:Int) < (es.length:Int) by omega),nc' (show (0:Int)≤(i:Int) by omega) (show (i:Int) < (es.length:Int) by omega),cond_true,Int.toNat_natCast,Option.bind_some,wrap1 hi' (show es.length≤nr' by unfold nr'; omega)]
  cases roomV b Y.img with
  | true=>
   have hw:=ntd' hb hcode hY (l:=[regR (es.getD i noE)]) (by show 1≤100000; omega) (by
    intro r hr
    rw [List.mem_singleton.1 hr]
    exact nod' hv') (by omega)
   rw [n4h'] at hw
   unfold regR at hw
   simp only [cond_true,hw,Option.bind_some]
   rfl
  | false=>
   have hu:=nij' Y.ref (oneC (es.getD i noE).Floor (es.getD i noE).Dir)
   simp only [cond_false,nns',Option.bind_some,hu]
   rfl
theorem n0c' (press old:Int×Int) {X:Rnd} (hX:X.ok b) (hr:X.recs.length≤1000):nck' press.1 press.2 old.1 old.2 X.recs X.img.Phases X.img.Flags X.img.Leaving X.img.Entries X.xs X.lan.lit X.lan.gong X.lan.cl.1 X.lan.cl.2 X.ref.1 X.ref.2 b.Floors b.Debounce b.Room b.Park b.Empty b.Full b.Over b.Cars=some ((),((regL b (listC (nbf' (bothC press (hallC b)) old)) X).tupB b,())):=by
 have hl:=nql' (nbf' (bothC press (hallC b)) old)
 have h:=nxo' hb hcode (es:=listC (nbf' (bothC press (hallC b)) old)) (by omega) (fun e he=>npo' hb hcode he) _ 0 X (Nat.zero_add _) hX (by omega)
 rw [List.drop_zero] at h
 have h':nch' (((),listC (nbf' (bothC press (hallC b)) old),((listC (nbf' (bothC press (hallC b)) old)).length:Int),(0:Int),()),(X.tupB b,()))=_:=nf' h (by omega)
 unfold nck'
 rw [nn3' hb hcode]
 simp only [Option.bind_some]
 rw [nmc' press (hallC b)]
 simp only [Option.bind_some]
 rw [nld' (bothC press (hallC b)) old]
 simp only [Option.bind_some]
 rw [nxq']
 simp only [Option.bind_some]
 unfold Rnd.tupB at h'
 rw [h']
 rfl
end
theorem nxs' (n:Int):neg' n=some ((!inR 0 1000000 n,()),()):=by
 unfold neg' inR
 by_cases g:n < 0
 ·rw [decide_eq_true g,decide_eq_false (show ¬ 0≤n by omega)]; rfl
 ·rw [decide_eq_false g,decide_eq_true (show 0≤n by omega)]
  by_cases g':1000000 < n
  ·rw [decide_eq_true g',decide_eq_false (show ¬ n≤1000000 by omega)]; rfl
  ·rw [decide_eq_false g',decide_eq_true (show n≤1000000 by omega)]; rfl
theorem nx9' {xs:List Int} (hl:xs.length≤maxLen):nbb' xs=some ((!expOK xs,()),()):=by
 have hm:maxLen≤9223372036854775807:=by decide
 have key:∀ (k i:Nat),i + k=xs.length→∃ y,iter (fun x=>nw' x.1.1 x.1.2.2.1 x.1.2.2.2.1) (k + 1) ((xs,(),(xs.length:Int),(i:Int),()),())=some y∧(match y with | .inl _=>(xs.drop i).all (inR 0 1000000)=true | .inr z=>0≤z.1.1∧(xs.drop i).all (inR 0 1000000)=false):=by
  intro k
  induction k with
  | zero=>
   intro i hi
   refine ⟨.inl ((),()),ni' ?_,?_⟩
   ·show nw' xs (xs.length:Int) (i:Int)=_
    unfold nw'
    rw [show decide ((i:Int) < (xs.length:Int))=false by simp; omega]; rfl
   ·rw [show i=xs.length by omega,List.drop_length]; rfl
  | succ k ih=>
   intro i hi
   have hi':i < xs.length:=by omega
   have hs:nw' xs (xs.length:Int) (i:Int)=some (bif inR 0 1000000 (xs.getD i 0) then .inl ((xs,(),(xs.length:Int),((i + 1:Nat):Int),()),()) else .inr (.inr (((i:Int),()),()))):=by
    unfold nw'
    have w:IntKind.i64.wrap ((i:Int) + 1)=((i + 1:Nat):Int):=by rw [nb' (by omega) (by omega)]; omega
    rw [show decide ((i:Int) < (xs.length:Int))=true by simp; omega,nc' (by omega) (by omega),nxs',w]
    simp only [cond_true,Int.toNat_natCast,Option.bind_some]
    cases inR 0 1000000 (xs.getD i 0) <;> rfl
   rw [n3' (0:Int) hi',List.all_cons]
   cases hq:inR 0 1000000 (xs.getD i 0) with
   | true=>
    rw [hq] at hs
    obtain ⟨y,h1,h2⟩:=ih (i + 1) (by omega)
    exact ⟨y,(ns' hs).trans h1,by rw [Bool.true_and]; exact h2⟩
   | false=>
    rw [hq] at hs
    exact ⟨_,ni' hs,by show (0:Int)≤(i:Int)∧_; exact ⟨by omega,rfl⟩⟩
 obtain ⟨y,h1,h2⟩:=key xs.length 0 (by omega)
 have h1':nbe' ((xs,(),(xs.length:Int),(0:Int),()),())=some y:=nf' h1 (by omega)
 rw [List.drop_zero] at h2
 unfold nbb' nb1' expOK
 rw [h1']
 cases y with
 | inl z=>simp only at h2; rw [h2]; rfl
 | inr z=>
  simp only at h2
  rw [h2.2]
  simp only [Option.bind_some]
  rw [decide_eq_true h2.1]; rfl
theorem nka' (m:Img) {xs:List Int} (hl:xs.length≤maxLen):ne7' m.Phases m.Flags m.Leaving m.Entries xs=some (((((xs.length:Int)==(m.Entries.length:Int))&&expOK xs),()),()):=by
 unfold ne7'
 rw [nx9' hl]
 cases ((xs.length:Int)==(m.Entries.length:Int)) with
 | false=>rfl
 | true=>simp only [cond_true,Option.bind_some,Bool.true_and,Bool.not_not]
theorem nnc' {α:Type} (l:List α) (h:l.length≤100000):cloF l=some ((l,()),()):=by
 unfold cloF
 rw [n2' (show l.length≤2147483648 by omega)]; rfl
def darkV (n:Nat):Lan:=⟨List.replicate n noP,List.replicate n false,(0,0)⟩
def tickX (b:Bldg) (m:Img) (xs:List Int) (vs:List View) (ps:List Calls) (press:Int×Int) (good:Bool):Rnd:=
 bif good then regL b (listC (nkf' b m press)) (wrL (servL b vs m.Entries) ⟨[],m,xs,ncd' b vs ps,(0,0)⟩) else ⟨[],m,xs,darkV vs.length,(0,0)⟩
noncomputable def tickP (b:Bldg) (m:Img) (xs:List Int) (vs:List View) (ps:List Calls) (press:Int×Int) (good:Bool):List Record×List Int×Int×Unit:=planV b (tickX b m xs vs ps press good).img (tickX b m xs vs ps press good).xs vs
noncomputable def tickV (b:Bldg) (m:Img) (xs:List Int) (vs:List View) (ps:List Calls) (press:Int×Int) (good:Bool):Rnd:={ wrL (tickP b m xs vs ps press good).1 (tickX b m xs vs ps press good) with xs:=(tickP b m xs vs ps press good).2.1 }
theorem nln' {b:Bldg} (hcode:b.code=0) (vs:List View):∀ {l:List Entry},(∀ e ∈ l,nh' b e.Floor e.Dir=true)→∀ r ∈ servL b vs l,n0' b r=true∧r.Kind=2:=fun h r hr=>by
 obtain ⟨e,he,hr⟩:=List.mem_flatMap.1 hr
 have hc:=h e he
 cases hs:servB b vs e.Floor e.Dir with
 | false=>rw [hs] at hr; cases hr
 | true=>
  rw [hs] at hr
  rw [List.mem_singleton.1 hr]
  refine ⟨?_,rfl⟩
  unfold n0'
  rw [hcode]
  simp only [show ((2:Int)==1)=false from rfl,cond_false,beq_self_eq_true,cond_true,hc,Bool.and_self]
theorem not' {b:Bldg} (hcode:b.code=0) {vs:List View} {m:Img} (hm:ImgOK b m) (xs:List Int):∀ r ∈ (planV b m xs vs).1,n0' b r=true:=by
 have hcc:=net' hcode
 unfold planV
 rw [Img.ok_iff.2 hm]
 cases hq:((xs.length:Int)==(m.Entries.length:Int)) with
 | false=>exact fun r hr=>by cases hr
 | true=>
  cases hv:((vs.length:Int)==(b.Cars.length:Int)) with
  | false=>exact fun r hr=>by cases hr
  | true=>
   cases expOK xs with
   | false=>exact fun r hr=>by cases hr
   | true=>
    have h1:(xs.length:Int)=(m.Entries.length:Int):=by simpa using hq
    have h2:(vs.length:Int)=(b.Cars.length:Int):=by simpa using hv
    exact (npt' (b:=b) (by omega) h2 m.Entries xs [] m (by omega) hm rfl).2.1
section
variable {b:Bldg} (hb:b.small) (hcode:b.code=0) {m:Img} (hm:ImgOK b m) {xs:List Int} (hx:xs.length=m.Entries.length) {vs:List View} (ps:List Calls) (press:Int×Int) (good:Bool)
include hb hcode hm hx
theorem nk8':(tickX b m xs vs ps press good).ok b∧(tickX b m xs vs ps press good).recs.length≤100:=by
 have he:=nb5' hb hm
 have hX:∀ L:Lan,Rnd.ok b ⟨[],m,xs,L,(0,0)⟩:=fun L=>⟨hm,hx⟩
 unfold tickX
 cases good with
 | false=>exact ⟨hX _,Nat.zero_le _⟩
 | true=>
  have hv:=nln' hcode vs (l:=m.Entries) fun e he=>(ncx'.1 (hm.en e he)).1
  refine ⟨n06' (nqs' (hX _) fun r hr=>(hv r hr).1) fun e he=>npo' hb hcode he,?_⟩
  have h1:=nrk' b (listC (nkf' b m press)) (wrL (servL b vs m.Entries) ⟨[],m,xs,ncd' b vs ps,(0,0)⟩)
  have h2:=nql' (nkf' b m press)
  have h3:=noh' b vs m.Entries
  have h4:(wrL (servL b vs m.Entries) ⟨[],m,xs,ncd' b vs ps,(0,0)⟩).recs.length=(servL b vs m.Entries).length:=rfl
  show (regL b (listC (nkf' b m press)) (wrL (servL b vs m.Entries) ⟨[],m,xs,ncd' b vs ps,(0,0)⟩)).recs.length≤100
  omega
theorem nte' (hexp:expOK xs=true) (hv:okViews vs) (hvl:vs.length=b.Cars.length) (hp:ps.length=b.Cars.length):nu' b.Floors b.Debounce b.Room b.Park b.Empty b.Full b.Over b.Cars m.Phases m.Flags m.Leaving m.Entries xs vs ps press.1 press.2 good=some (((),0,()),((tickV b m xs vs ps press good).tup,())):=by
 have hcc:=net' hcode
 have he:=nb5' hb hm
 have hlp:=hm.lp
 have hlf:=hm.lf
 have hll:=hm.ll
 have hmx:100000≤maxLen:=by decide
 have hX:∀ L:Lan,Rnd.ok b ⟨[],m,xs,L,(0,0)⟩:=fun L=>⟨hm,hx⟩
 obtain ⟨hok,hrl⟩:=nk8' hb hcode hm hx (vs:=vs) ps press good
 have hlight:=njk' hb hcode vs ps (by omega)
 unfold nh5' at hlight
 rw [show ((vs.length:Int)==(b.Cars.length:Int))=true by rw [hvl]; exact beq_self_eq_true _,show ((ps.length:Int)==(b.Cars.length:Int))=true by rw [hp]; exact beq_self_eq_true _] at hlight
 simp only [Bool.and_self,cond_true] at hlight
 have hXl:=nb5' hb hok.img
 have hXp:=hok.img.lp
 have hXx:=hok.len
 have hplan:=nvu' hb hv (by omega) (tickX b m xs vs ps press good).img (by omega) (by omega) (tickX b m xs vs ps press good).xs (by omega)
 have hpl:=(nw0' b (tickX b m xs vs ps press good).img (tickX b m xs vs ps press good).xs vs).1
 have hwr:=ntd' hb hcode hok (l:=(planV b (tickX b m xs vs ps press good).img (tickX b m xs vs ps press good).xs vs).1) (by omega) (not' hcode hok.img _) (by omega)
 unfold nu'
 rw [hlight]
 simp only [Option.bind_some,bne_self_eq_false,cond_false,Lan.tup]
 rw [nd3' hb m (by omega) (by omega),Img.ok_iff.2 hm]
 simp only [Option.bind_some,Bool.not_true,cond_false]
 rw [nka' m (by omega),show ((xs.length:Int)==(m.Entries.length:Int))=true by rw [hx]; exact beq_self_eq_true _,hexp]
 unfold nf4' ncf' nbt' nbq' nj2'
 rw [nnc' m.Phases (by omega),nnc' m.Flags (by omega),nnc' m.Leaving (by omega),nnc' m.Entries (by omega),nnc' xs (by omega)]
 simp only [Option.bind_some,Bool.and_self,Bool.not_true,cond_false,decide_eq_true (show (0:Int)≤(vs.length:Int) by omega),decide_eq_true (Int.le_refl (vs.length:Int)),decide_eq_true (show (vs.length:Int)≤2147483648 by omega),cond_true,Int.toNat_natCast]
 cases good with
 | false=>
  simp only [cond_false,Option.bind_some]
  rw [show nfe' b.Floors b.Debounce b.Room b.Park b.Empty b.Full b.Over b.Cars m.Phases m.Flags m.Leaving m.Entries xs vs=_ from hplan]
  simp only [Option.bind_some]
  rw [show nbl' (planV b (tickX b m xs vs ps press false).img (tickX b m xs vs ps press false).xs vs).1 [] m.Phases m.Flags m.Leaving m.Entries xs (List.replicate vs.length (Calls.mk 0 0)) (List.replicate vs.length false) 0 0 0 0 b.Floors b.Debounce b.Room b.Park b.Empty b.Full b.Over b.Cars=_ from hwr]
  rfl
 | true=>
  have hsv:=nln' hcode vs (l:=m.Entries) fun e he=>(ncx'.1 (hm.en e he)).1
  have hsl:=noh' b vs m.Entries
  have hw1:=ntd' hb hcode (hX (ncd' b vs ps)) (l:=servL b vs m.Entries) (by omega) (fun r hr=>(hsv r hr).1) (Nat.zero_le _)
  have hrg:=n0c' hb hcode press (ofC m.Entries (0,0)) (X:=wrL (servL b vs m.Entries) ⟨[],m,xs,ncd' b vs ps,(0,0)⟩) (nqs' (hX _) fun r hr=>(hsv r hr).1) (by show ([]++servL b vs m.Entries).length≤_; rw [List.nil_append]; omega)
  unfold nkw'
  simp only [cond_true]
  rw [nss' hb hcode hm (by omega) vs (by omega)]
  simp only [Option.bind_some]
  simp only at hw1
  rw [hw1]
  simp only [Option.bind_some,nz5' (show m.Entries.length≤100000 by omega),Rnd.tupB]
  rw [hrg]
  simp only [Option.bind_some,Rnd.tupB]
  rw [show nfe' b.Floors b.Debounce b.Room b.Park b.Empty b.Full b.Over b.Cars (regL b (listC (nbf' (bothC press (hallC b)) (ofC m.Entries (0,0)))) (wrL (servL b vs m.Entries) ⟨[],m,xs,ncd' b vs ps,(0,0)⟩)).img.Phases (regL b (listC (nbf' (bothC press (hallC b)) (ofC m.Entries (0,0)))) (wrL (servL b vs m.Entries) ⟨[],m,xs,ncd' b vs ps,(0,0)⟩)).img.Flags (regL b (listC (nbf' (bothC press (hallC b)) (ofC m.Entries (0,0)))) (wrL (servL b vs m.Entries) ⟨[],m,xs,ncd' b vs ps,(0,0)⟩)).img.Leaving (regL b (listC (nbf' (bothC press (hallC b)) (ofC m.Entries (0,0)))) (wrL (servL b vs m.Entries) ⟨[],m,xs,ncd' b vs ps,(0,0)⟩)).img.Entries (regL b (listC (nbf' (bothC press (hallC b)) (ofC m.Entries (0,0)))) (wrL (servL b vs m.Entries) ⟨[],m,xs,ncd' b vs ps,(0,0)⟩)).xs vs=_ from hplan]
  simp only [Option.bind_some]
  refine Eq.trans (congrArg (fun o=>Option.bind o _) (show _=some ((),((wrL (planV b (tickX b m xs vs ps press true).img (tickX b m xs vs ps press true).xs vs).1 (tickX b m xs vs ps press true)).tupB b,())) from hwr)) ?_
  rfl
end
end Go.Ovl
namespace Go.Ovl
open Go Go.Ab
set_option maxRecDepth 100000
theorem u8r.bif {p:Bool} {a b:Int} (ha:u8r a) (hb:u8r b):u8r (bif p then a else b):=by cases p <;> assumption
theorem njt' (n:Int):u32r (IntKind.u32.wrap n):=by
 unfold u32r
 simp only [IntKind.wrap,IntKind.signed,IntKind.bits]
 simp
 omega
theorem n6l' {l:List Int} (hl:∀ e ∈ l,u8r e) (_hlen:l.length≤maxLen) (out:List View) {i:Nat} (hi:i < 100) (b:Bldg) :
  ∃ y:(List Int×Unit×List View×Int×Unit×Unit)×((Int×Int×Int×Int×Nat×Nat×Nat×List Car×Unit)×(Int×Int×Int×Int×Unit)×Unit),
   nhg' ((l,(),out,(i:Int),(),(0:Int),()),(b.tup,((0:Int),(0:Int),(0:Int),(0:Int),()),()))=some y ∧
   ∃ x0 x1 x2 x3:Int,u8r x0∧u8r x1∧u8r x2∧u8r x3∧y=((l,(),out,(i:Int),(),()),(b.tup,(x0,x1,x2,x3,()),())):=by
 have hm:maxLen≤9223372036854775807:=by decide
 refine npa' (fun x=>∃ (k:Nat) (x0 x1 x2 x3:Int),k≤4∧u8r x0∧u8r x1∧u8r x2∧u8r x3∧x=((l,(),out,(i:Int),(),(k:Int),()),(b.tup,(x0,x1,x2,x3,()),())))
  (fun y=>∃ x0 x1 x2 x3:Int,u8r x0∧u8r x1∧u8r x2∧u8r x3∧y=((l,(),out,(i:Int),(),()),(b.tup,(x0,x1,x2,x3,()),())))
  (fun x=>4 - x.1.2.2.2.2.2.1.toNat) ?_ ⟨0,0,0,0,0,by omega,u8r0,u8r0,u8r0,u8r0,rfl⟩ (by show 4 - 0 < _; omega)
 rintro _ ⟨k,x0,x1,x2,x3,hk,h0,h1,h2,h3,rfl⟩
 show (∃ x',njg' l out i k b.Floors b.Debounce b.Room b.Park b.Empty b.Full b.Over b.Cars x0 x1 x2 x3=_∧_)∨∃ y,njg' l out i k b.Floors b.Debounce b.Room b.Park b.Empty b.Full b.Over b.Cars x0 x1 x2 x3=_∧_
 unfold njg'
 by_cases g:(k:Int) < 4
 ·rw [decide_eq_true g,cond_true]
  by_cases g':(0:Int) < (l.length:Int)
  ·have w1:IntKind.i64.wrap (4 * (i:Int))=4 * (i:Int):=nb' (by omega) (by omega)
   have w2:IntKind.i64.wrap (4 * (i:Int) + k)=4 * (i:Int) + k:=nb' (by omega) (by omega)
   have w3:IntKind.i64.wrap ((k:Int) + 1)=((k + 1:Nat):Int):=by rw [nb' (by omega) (by omega)]; omega
   have hmod:Int.tmod (4 * (i:Int) + k) (l.length:Int)=(((4 * i + k) % l.length:Nat):Int):=by rw [Int.tmod_eq_emod_of_nonneg (by omega)]; norm_cast
   have hlt:(4 * i + k) % l.length < l.length:=Nat.mod_lt _ (by omega)
   have e:=ntf' (P:=u8r) hl (d:=(0:Int)) hlt
   rw [decide_eq_true g']
   simp only [w1,w2,w3,hmod,bne_t (show ¬ (l.length:Int)=0 by omega),cond_true,nc' (show (0:Int)≤(((4 * i + k) % l.length:Nat):Int) by omega) (show (((4 * i + k) % l.length:Nat):Int) < (l.length:Int) by omega),nc' (show (0:Int)≤(k:Int) by omega) (show (k:Int) < ((4:Nat):Int) from g),Int.toNat_natCast]
   exact .inl ⟨_,rfl,⟨k + 1,_,_,_,_,by omega,u8r.bif e h0,u8r.bif e h1,u8r.bif e h2,u8r.bif e h3,rfl⟩,by simp only [Int.toNat_natCast]; omega⟩
  ·rw [decide_eq_false g']
   exact .inr ⟨_,rfl,x0,x1,x2,x3,h0,h1,h2,h3,rfl⟩
 ·rw [decide_eq_false g]
  exact .inr ⟨_,rfl,x0,x1,x2,x3,h0,h1,h2,h3,rfl⟩
structure Made (b:Bldg) (vs:List View):Prop where
 len:vs.length=b.Cars.length
 ok:okViews vs
 lost:∀ v ∈ vs,v.Lost=true→v.Ready=false
 flo:∀ v ∈ vs,-1≤v.Floor∧v.Floor < b.Floors
theorem nvp' {b:Bldg} (hb:b.small) (hc:b.Cars.length≤8) {l:List Int} (hl:∀ e ∈ l,u8r e) (hlen:l.length≤maxLen) :
  ∃ vs:List View,nlp' b.Floors b.Debounce b.Room b.Park b.Empty b.Full b.Over b.Cars l=some ((vs,()),())∧Made b vs:=by
 have lo:=hb.lo
 have hi:=hb.hi
 have key:∃ y:(List View×Unit)×Unit,nhe' ((l,(),([]:List View),(0:Int),()),(b.tup,()))=some y∧∃ vs,Made b vs∧y=((vs,()),()):=by
  refine npa' (fun x=>∃ (i:Nat) (out:List View),i≤b.Cars.length∧out.length=i∧okViews out∧(∀ v ∈ out,v.Lost=true→v.Ready=false)∧(∀ v ∈ out,-1≤v.Floor∧v.Floor < b.Floors)∧x=((l,(),out,(i:Int),()),(b.tup,())))
   (fun y=>∃ vs,Made b vs∧y=((vs,()),())) (fun x=>b.Cars.length - x.1.2.2.2.1.toNat) ?_ ⟨0,[],by omega,rfl,(fun v h=>by cases h),(fun v h=>by cases h),(fun v h=>by cases h),rfl⟩ (by show b.Cars.length - 0 < _; omega)
  rintro _ ⟨i,out,hi1,hi2,ho,hlo,hfl,rfl⟩
  show (∃ x',njh' l out i b.Floors b.Debounce b.Room b.Park b.Empty b.Full b.Over b.Cars=_∧_)∨∃ y,njh' l out i b.Floors b.Debounce b.Room b.Park b.Empty b.Full b.Over b.Cars=_∧_
  unfold njh'
  by_cases g:(i:Int) < (b.Cars.length:Int)
  ·obtain ⟨_,e1,x0,x1,x2,x3,h0,h1,h2,h3,rfl⟩:=n6l' hl hlen out (show i < 100 by omega) b
   have e1':nhg' ((l,(),out,(i:Int),(),(0:Int),()),((b.Floors,b.Debounce,b.Room,b.Park,b.Empty,b.Full,b.Over,b.Cars,()),((0:Int),(0:Int),(0:Int),(0:Int),()),()))=_:=e1
   have w3:IntKind.i64.wrap ((i:Int) + 1)=((i + 1:Nat):Int):=by rw [nb' (by omega) (by omega)]; omega
   have w4:IntKind.i64.wrap (b.Floors + 1)=b.Floors + 1:=nb' (by omega) (by omega)
   have w5:IntKind.i64.wrap x1=x1:=nb' (by unfold u8r at h1; omega) (by unfold u8r at h1; omega)
   have m1:0≤Int.tmod x1 (b.Floors + 1)∧Int.tmod x1 (b.Floors + 1) < b.Floors + 1:=by
    rw [Int.tmod_eq_emod_of_nonneg h1.1]
    exact ⟨Int.emod_nonneg _ (by omega),Int.emod_lt_of_pos _ (by omega)⟩
   have w6:IntKind.i64.wrap (Int.tmod x1 (b.Floors + 1) - 1)=Int.tmod x1 (b.Floors + 1) - 1:=nb' (by omega) (by omega)
   have ap:∀ v:View,Nat.ble (out.length + [v].length) 2147483648=true:=fun v=>n2' (by simp; omega)
   rw [decide_eq_true g,e1']
   simp only [cond_true,Option.bind_some,Bldg.tup,w3,w4,w5,w6,ap,bne_t (show ¬ b.Floors + 1=0 by omega)]
   have fin:∀ v:View,v.ok→(v.Lost=true→v.Ready=false)→(-1≤v.Floor∧v.Floor < b.Floors) →
     ∃ (j:Nat) (o:List View),j≤b.Cars.length∧o.length=j∧okViews o∧(∀ v ∈ o,v.Lost=true→v.Ready=false)∧(∀ v ∈ o,-1≤v.Floor∧v.Floor < b.Floors)∧((l,(),out++[v],((i + 1:Nat):Int),()),((b.Floors,b.Debounce,b.Room,b.Park,b.Empty,b.Full,b.Over,b.Cars,()),()))=((l,(),o,(j:Int),()),((b.Floors,b.Debounce,b.Room,b.Park,b.Empty,b.Full,b.Over,b.Cars,()),())):=fun v k1 k2 k3=>by
    refine ⟨i + 1,out++[v],by omega,by simp; omega,fun x hx=>?_,fun x hx=>?_,fun x hx=>?_,rfl⟩
    ·rcases List.mem_append.1 hx with h | h
     ·exact ho x h
     ·rw [List.mem_singleton.1 h]; exact k1
    ·rcases List.mem_append.1 hx with h | h
     ·exact hlo x h
     ·rw [List.mem_singleton.1 h]; exact k2
    ·rcases List.mem_append.1 hx with h | h
     ·exact hfl x h
     ·rw [List.mem_singleton.1 h]; exact k3
   cases hz:(Int.tmod (IntKind.u8.wrap (Int.tdiv x0 16)) 4==0) with
   | true=>
    simp only [cond_true]
    exact .inl ⟨_,rfl,fin _ ⟨njt' _,njt' _,njt' _⟩ (fun _=>rfl) ⟨by show -1≤Int.tmod x1 (b.Floors + 1) - 1; omega,by show Int.tmod x1 (b.Floors + 1) - 1 < b.Floors; omega⟩,by simp only [Int.toNat_natCast]; omega⟩
   | false=>
    simp only [cond_false]
    exact .inl ⟨_,rfl,fin _ ⟨njt' _,njt' _,njt' _⟩ (fun h=>by cases h) ⟨by show -1≤Int.tmod x1 (b.Floors + 1) - 1; omega,by show Int.tmod x1 (b.Floors + 1) - 1 < b.Floors; omega⟩,by simp only [Int.toNat_natCast]; omega⟩
  ·rw [decide_eq_false g]
   exact .inr ⟨_,rfl,out,⟨by omega,ho,hlo,hfl⟩,rfl⟩
 obtain ⟨_,h1,vs,h2,rfl⟩:=key
 refine ⟨vs,?_,h2⟩
 unfold nlp'
 have h1':nhe' ((l,(),([]:List View),(0:Int),()),((b.Floors,b.Debounce,b.Room,b.Park,b.Empty,b.Full,b.Over,b.Cars,()),()))=_:=h1
 rw [h1']
 rfl
end Go.Ovl
