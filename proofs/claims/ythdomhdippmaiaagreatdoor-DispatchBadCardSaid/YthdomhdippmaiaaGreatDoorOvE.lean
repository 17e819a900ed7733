/- Layer 24: writing records in a round: what it does to the image and to the numbers of the entries. -/
import Derived.Test.YthdomhdippmaiaaGreatDoorOvD
import Derived.Test.YthdomhdippmaiaaGreatDoorOvC
import Derived.Test.YthdomhdippmaiaaGreatDoorOvB
namespace Go.Ovl
open Go Go.Ab
set_option maxRecDepth 100000
def xsV (E:List Entry) (xs:List Int) (r:Record):List Int:=
 bif (r.Kind==2)&&hasF (keyE r.Floor r.Dir) E then xs.take (posF (keyE r.Floor r.Dir) E)++xs.drop (posF (keyE r.Floor r.Dir) E + 1)
 else bif (r.Kind==1)&&!hasF (keyE r.Floor r.Dir) E then xs.take (posF (keyE r.Floor r.Dir) E)++[0]++xs.drop (posF (keyE r.Floor r.Dir) E)
 else xs
def numK (E:List Entry) (xs:List Int) (F D:Int):Int:=bif hasF (keyE F D) E then xs.getD (posF (keyE F D) E) 0 else 0
def numV (E:List Entry) (xs:List Int) (e:Entry):Int:=numK E xs e.Floor e.Dir
theorem nuc' (e:Entry):isC e.Floor e.Dir e=true:=by unfold isC; simp
theorem nxa' {E:List Entry} (hs:nbi' E) {i:Nat} (hi:i < E.length):posF (E.getD i noE) E=i:=by
 have hp:=ncp'.1 hs
 rcases Nat.lt_trichotomy (posF (E.getD i noE) E) i with h | h | h
 ·have h1:=nr5' hs (posF (E.getD i noE) E) (Nat.le_refl _) (by omega)
  have h2:lessE (E.getD (posF (E.getD i noE) E) noE) (E.getD i noE)=true:=by
   generalize posF (E.getD i noE) E=p at h
   have hg:∀ j (hj:j < E.length),E.getD j noE=E[j]:=fun j hj=>by simp [List.getD_eq_getElem?_getD,hj]
   rw [hg p (by omega),hg i hi]
   exact List.pairwise_iff_getElem.1 hp p i (by omega) hi h
  rw [h1] at h2; cases h2
 ·exact h
 ·have h1:=nry' (E.getD i noE) E i h
  have h2:=(npd' (nuc' (E.getD i noE))).1
  rw [h1] at h2; cases h2
theorem n3l' {E:List Entry} (hs:nbi' E) {i:Nat} (hi:i < E.length):hasF (keyE (E.getD i noE).Floor (E.getD i noE).Dir) E=true:=by
 unfold hasF
 rw [nkw',nxa' hs hi,Bool.and_eq_true]
 exact ⟨Eq.mpr Nat.blt_eq hi,nuc' _⟩
theorem nxq' {E:List Entry} (hs:nbi' E) (xs:List Int) {i:Nat} (hi:i < E.length):numV E xs (E.getD i noE)=xs.getD i 0:=by
 unfold numV numK
 rw [n3l' hs hi,nkw',nxa' hs hi]; rfl
theorem nup' {α:Type} {a b:List α} (d:α) (hl:a.length=b.length) (h:∀ i,i < a.length→a.getD i d=b.getD i d):a=b:=by
 refine List.ext_getElem hl fun i h1 h2=>?_
 have:=h i h1
 simpa [List.getD_eq_getElem?_getD,h1,h2] using this
theorem n2m' {α β:Type} (f:α→β) {l:List α} {i:Nat} (hi:i < l.length) (d:α) (d':β):(l.map f).getD i d'=f (l.getD i d):=by
 simp [List.getD_eq_getElem?_getD,hi]
theorem n3v' {E:List Entry} (hs:nbi' E) {xs:List Int} (hl:xs.length=E.length):E.map (numV E xs)=xs:=by
 refine nup' 0 (by rw [List.length_map,hl]) fun i hi=>?_
 rw [List.length_map] at hi
 rw [n2m' _ hi noE,nxq' hs xs hi]
theorem n2y' {α:Type} {l:List α} {k:Nat} {a:α} (d:α) (h:a=l.getD k d):l.set k a=l:=by
 by_cases hk:k < l.length
 ·refine nup' d (List.length_set ..) fun i hi=>?_
  by_cases hik:k=i
  ·subst hik
   rw [h]; simp [List.getD_eq_getElem?_getD,hk]
  ·simp [List.getD_eq_getElem?_getD,hik]
 ·rw [List.set_eq_of_length_le (by omega)]
theorem nxr' {c:Entry} {l:List Entry} (h:hasF c l=true):posF c l < l.length∧isC c.Floor c.Dir (l.getD (posF c l) noE)=true:=by
 unfold hasF at h
 rw [Bool.and_eq_true] at h
 exact ⟨Eq.mp Nat.blt_eq h.1,h.2⟩
theorem nzo' {m:Img} (hs:nbi' m.Entries) {xs:List Int} (hl:xs.length=m.Entries.length) (r:Record):xsV m.Entries xs r=(nbz' m r).Entries.map (numV m.Entries xs):=by
 have hbase:=n3v' hs hl
 have hfp:=nlx' (c:=keyE r.Floor r.Dir) 0 hs
 rw [Nat.zero_add] at hfp
 have hfp':findF r.Floor r.Dir m.Entries 0=_:=hfp
 unfold nbz' xsV
 by_cases k4:r.Kind=4
 ·rw [k4]; exact hbase.symm
 by_cases k5:r.Kind=5
 ·rw [k5]; exact hbase.symm
 by_cases k6:r.Kind=6
 ·rw [k6]; exact hbase.symm
 rw [beq_f k4,beq_f k5,beq_f k6,hfp']
 simp only [cond_false]
 cases hh:hasF (keyE r.Floor r.Dir) m.Entries with
 | false=>
  simp only [cond_false,beq_self_eq_true,cond_true,Bool.and_false,Bool.not_false,Bool.and_true]
  cases k1:r.Kind==1 with
  | false=>exact hbase.symm
  | true=>
   simp only [cond_true]
   show _=(insL (Entry.mk r.Floor r.Dir (-1) 0 false) false m.Entries).map (numV m.Entries xs)
   have hnone:=nso' hs hh
   rw [npq' (c:=Entry.mk r.Floor r.Dir (-1) 0 false) (fun x hx=>hnone x hx)]
   have hp:posF (Entry.mk r.Floor r.Dir (-1) 0 false) m.Entries=posF (keyE r.Floor r.Dir) m.Entries:=(nkw' (Entry.mk r.Floor r.Dir (-1) 0 false) m.Entries).symm
   have hn:numV m.Entries xs (Entry.mk r.Floor r.Dir (-1) 0 false)=0:=by
    unfold numV numK
    rw [hh]; rfl
   rw [hp,List.map_append,List.map_append,List.map_take,List.map_drop,hbase,List.map_singleton,hn]
 | true=>
  obtain ⟨p1,p2⟩:=nxr' hh
  simp only [cond_true,Bool.and_true,Bool.not_true,Bool.and_false,cond_false]
  rw [beq_f (show ¬ ((posF (keyE r.Floor r.Dir) m.Entries:Nat):Int)=-1 by omega)]
  simp only [cond_false,Int.toNat_natCast]
  generalize posF (keyE r.Floor r.Dir) m.Entries=p at p1 p2 ⊢
  have hset:∀ e':Entry,e'.Floor=(m.Entries.getD p noE).Floor→e'.Dir=(m.Entries.getD p noE).Dir→(m.Entries.set p e').map (numV m.Entries xs)=xs:=fun e' h1 h2=>by
   rw [List.map_set,hbase]
   refine n2y' 0 ?_
   have:numV m.Entries xs e'=numV m.Entries xs (m.Entries.getD p noE):=by
    unfold numV
    rw [h1,h2]
   rw [this,nxq' hs xs p1]
  cases k2:r.Kind==2 with
  | true=>
   simp only [cond_true]
   show _=(m.Entries.take p++m.Entries.drop (p + 1)).map (numV m.Entries xs)
   rw [List.map_append,List.map_take,List.map_drop,hbase]
  | false=>
   simp only [cond_false]
   cases k3:r.Kind==3 with
   | true=>exact (hset (nul' (m.Entries.getD p noE) r.Car) rfl rfl).symm
   | false=>
    simp only [cond_false]
    cases k7:r.Kind==7 with
    | true=>exact (hset (nm5' (m.Entries.getD p noE) r.Value r.Car) rfl rfl).symm
    | false=>exact hbase.symm
theorem n3j' {m:Img} (hs:nbi' m.Entries) {xs:List Int} (hl:xs.length=m.Entries.length) (r:Record):(xsV m.Entries xs r).length=(nbz' m r).Entries.length:=by rw [nzo' hs hl,List.length_map]
def xsL:Img→List Int→List Record→List Int
 | _,xs,[]=>xs
 | m,xs,r :: t=>xsL (nbz' m r) (xsV m.Entries xs r) t
end Go.Ovl
namespace Go.Ovl
open Go Go.Ab
set_option maxRecDepth 100000
theorem nxh':∀ {l:List Nat} {a n:Nat},l.Pairwise (· < ·)→(∀ x ∈ l,a≤x∧x < n)→l.length + a≤n∨l=[]
 | [],_,_,_,_=>.inr rfl
 | x :: t,a,n,h,hr=>by
  left
  obtain ⟨h1,h2⟩:=List.pairwise_cons.1 h
  have hx:=hr x (List.mem_cons_self ..)
  rcases nxh' (a:=x + 1) (n:=n) h2 (fun y hy=>⟨h1 y hy,(hr y (List.mem_cons_of_mem _ hy)).2⟩) with q | q
  ·rw [List.length_cons]; omega
  ·subst q
   simp; omega
theorem n27' {b:Bldg} (hb:b.small) {m:Img} (hm:ImgOK b m):(m.Entries.length:Int)≤2 * (b.Floors - 1):=by
 have lo:=hb.lo
 have hi:=hb.hi
 let ix:Int×Int→Nat:=fun p=>if p.1=0 then 0 else if p.1=b.Floors - 1 then (2 * b.Floors - 3).toNat else (2 * p.1 + p.2 - 2).toNat
 have hv:∀ p ∈ m.Entries.map new',(p.2=1∧0≤p.1∧p.1≤b.Floors - 2)∨(p.2=2∧1≤p.1∧p.1≤b.Floors - 1):=fun p hp=>by
  obtain ⟨e,he,rfl⟩:=List.mem_map.1 hp
  have h1:=(ne0'.1 (hm.en e he)).1
  unfold nv' callB at h1
  simp only [Bool.and_eq_true,Bool.or_eq_true,beq_iff_eq,n4'] at h1
  show (e.Dir=1∧0≤e.Floor∧e.Floor≤b.Floors - 2)∨(e.Dir=2∧1≤e.Floor∧e.Floor≤b.Floors - 1)
  omega
 have hp:((m.Entries.map new').map ix).Pairwise (· < ·):=by
  rw [List.pairwise_map]
  refine List.Pairwise.imp_of_mem (fun {p q} hp hq h=>?_) hm.so
  have v1:=hv p hp
  have v2:=hv q hq
  unfold ltC at h
  show ix p < ix q
  simp only [ix]
  split <;> split <;> (try split) <;> (try split) <;> omega
 rcases nxh' (a:=0) (n:=(2 * b.Floors - 2).toNat) hp (fun x hx=>by
  obtain ⟨p,hp,rfl⟩:=List.mem_map.1 hx
  have v1:=hv p hp
  refine ⟨Nat.zero_le _,?_⟩
  show ix p < _
  simp only [ix]
  split
  ·omega
  ·split <;> omega) with q | q
 ·rw [List.length_map,List.length_map] at q; omega
 ·have:=congrArg List.length q
  rw [List.length_map,List.length_map,List.length_nil] at this; omega
end Go.Ovl
namespace Go.Ovl
open Go Go.Ab
set_option maxRecDepth 100000
theorem nx2' (e:Entry) (F D:Int):nev' e.Floor e.Dir e.Car e.Moves e.Moved F D=some ((!lessE e (keyE F D),()),((F,()),(D,()),())):=by
 unfold nev' lessE keyE
 by_cases h1:F < e.Floor
 ·rw [decide_eq_true h1,decide_eq_false (show ¬ e.Floor < F by omega),beq_f (show ¬ e.Floor=F by omega)]; rfl
 ·rw [decide_eq_false h1]
  by_cases h2:e.Floor=F
  ·rw [h2,decide_eq_false (Int.lt_irrefl F),beq_self_eq_true]
   by_cases h3:e.Dir < D
   ·rw [decide_eq_true h3,decide_eq_false (show ¬ D≤e.Dir by omega)]; rfl
   ·rw [decide_eq_false h3,decide_eq_true (show D≤e.Dir by omega)]; rfl
  ·rw [beq_f h2,decide_eq_true (show e.Floor < F by omega)]; rfl
theorem nqs' (E:List Entry) (hl:E.length≤100000) (F D:Int):∀ (k i:Nat),i + k=E.length→iter (fun x=>nh' x.1.1 x.1.2.2.1 x.1.2.2.2.1 x.2.1.1 x.2.2.1.1) (k + 1) ((E,(),(E.length:Int),(i:Int),()),((F,()),(D,()),()))=some (bif Nat.blt (i + posF (keyE F D) (E.drop i)) E.length then .inr ((((i + posF (keyE F D) (E.drop i):Nat):Int),()),((F,()),(D,()),())) else .inl ((),((F,()),(D,()),())))
 | 0,i,hi=>by
  obtain rfl:i=E.length:=by omega
  refine nr' ?_
  show nh' E (E.length:Int) (E.length:Int) F D=_
  unfold nh'
  rw [decide_eq_false (Int.lt_irrefl (E.length:Int)),List.drop_length]
  have:Nat.blt (E.length + posF (keyE F D) []) E.length=false:=by
   cases h:Nat.blt (E.length + posF (keyE F D) []) E.length with
   | false=>rfl
   | true=>have:=Eq.mp Nat.blt_eq h; omega
  rw [this]; rfl
 | k + 1,i,hi=>by
  have hi':i < E.length:=by omega
  have hs:nh' E (E.length:Int) (i:Int) F D=some (bif lessE (E.getD i noE) (keyE F D) then .inl ((E,(),(E.length:Int),((i + 1:Nat):Int),()),((F,()),(D,()),())) else .inr (.inr (((i:Int),()),((F,()),(D,()),())))):=by
   unfold nh'
   rw [show Entry.mk 0 0 0 0 false=noE from rfl]
   simp only [decide_eq_true (show (i:Int) < (E.length:Int) by omega),nd' (show (0:Int)≤(i:Int) by omega) (show (i:Int) < (E.length:Int) by omega),cond_true,Int.toNat_natCast,nx2',Option.bind_some,wrap1 hi' (show E.length≤nby' by unfold nby'; omega)]
   cases lessE (E.getD i noE) (keyE F D) <;> rfl
  have hd:=nbn' noE hi'
  rw [hd]
  simp only [posF]
  cases hq:lessE (E.getD i noE) (keyE F D) with
  | true=>
   rw [hq] at hs
   refine (ny' hs).trans ?_
   rw [nqs' E hl F D k (i + 1) (by omega),cond_true,show i + 1 + posF (keyE F D) (E.drop (i + 1))=i + (posF (keyE F D) (E.drop (i + 1)) + 1) by omega]
  | false=>
   rw [hq] at hs
   refine (nr' hs).trans ?_
   rw [cond_false,Nat.add_zero,show Nat.blt i E.length=true from Eq.mpr Nat.blt_eq hi']; rfl
theorem nov' (m:Img) (hl:m.Entries.length≤100000) (F D:Int):nf2' m.Phases m.Flags m.Leaving m.Entries F D=some ((((posF (keyE F D) m.Entries:Nat):Int),hasF (keyE F D) m.Entries,()),()):=by
 have h:=nqs' m.Entries hl F D m.Entries.length 0 (by omega)
 have h':=nx' h (by omega)
 rw [List.drop_zero,Nat.zero_add] at h'
 have hle:=nkl' (keyE F D) m.Entries
 unfold nf2' n8' hasF
 rw [show nw' ((m.Entries,(),(m.Entries.length:Int),(0:Int),()),((F,()),(D,()),()))=_ from h']
 cases hq:Nat.blt (posF (keyE F D) m.Entries) m.Entries.length with
 | false=>
  have hge:m.Entries.length≤posF (keyE F D) m.Entries:=by
   rcases Nat.lt_or_ge (posF (keyE F D) m.Entries) m.Entries.length with g | g
   ·rw [Eq.mpr Nat.blt_eq g] at hq; cases hq
   ·exact g
  rw [show posF (keyE F D) m.Entries=m.Entries.length by omega]
  rfl
 | true=>
  have hlt:posF (keyE F D) m.Entries < m.Entries.length:=Eq.mp Nat.blt_eq hq
  simp only [cond_true,Option.bind_some]
  rw [decide_eq_false (show ¬ ((posF (keyE F D) m.Entries:Nat):Int) < 0 by omega)]
  simp only [cond_false,nd' (show (0:Int)≤((posF (keyE F D) m.Entries:Nat):Int) by omega) (show ((posF (keyE F D) m.Entries:Nat):Int) < (m.Entries.length:Int) by omega),cond_true,Int.toNat_natCast]
  rw [show Entry.mk 0 0 0 0 false=noE from rfl]
  unfold isC
  show Option.bind (bif (m.Entries.getD (posF (keyE F D) m.Entries) noE).Floor==F then _ else _) _=some ((_,true&&((m.Entries.getD (posF (keyE F D) m.Entries) noE).Floor==F&&(m.Entries.getD (posF (keyE F D) m.Entries) noE).Dir==D),()),())
  cases (m.Entries.getD (posF (keyE F D) m.Entries) noE).Floor==F <;> rfl
structure Rnd where
 recs:List Record
 img:Img
 xs:List Int
 lan:Lan
 ref:Int×Int
def Rnd.tup (r:Rnd):List Record×List Int×List Bool×List Bool×List Entry×List Int×List Calls×List Bool×Int×Int×Int×Int×Unit:=(r.recs,r.img.Phases,r.img.Flags,r.img.Leaving,r.img.Entries,r.xs,r.lan.lit,r.lan.gong,r.lan.cl.1,r.lan.cl.2,r.ref.1,r.ref.2,())
def Rnd.tupB (b:Bldg) (r:Rnd):List Record×List Int×List Bool×List Bool×List Entry×List Int×List Calls×List Bool×Int×Int×Int×Int×Int×Int×Int×Int×Nat×Nat×Nat×List Car×Unit:=(r.recs,r.img.Phases,r.img.Flags,r.img.Leaving,r.img.Entries,r.xs,r.lan.lit,r.lan.gong,r.lan.cl.1,r.lan.cl.2,r.ref.1,r.ref.2,b.Floors,b.Debounce,b.Room,b.Park,b.Empty,b.Full,b.Over,b.Cars,())
structure Rnd.ok (b:Bldg) (r:Rnd):Prop where
 img:ImgOK b r.img
 len:r.xs.length=r.img.Entries.length
def noRec:Record:=Record.mk 0 0 0 0 0
def stepW (r:Record) (X:Rnd):Rnd:=⟨X.recs++[r],nbz' X.img r,xsV X.img.Entries X.xs r,X.lan,X.ref⟩
def wrL (l:List Record) (X:Rnd):Rnd:=⟨X.recs++l,ndd' X.img l,xsL X.img X.xs l,X.lan,X.ref⟩
theorem npn' (r:Record) (l:List Record) (X:Rnd):wrL (r :: l) X=wrL l (stepW r X):=by
 unfold wrL stepW
 simp only [List.append_assoc,List.singleton_append]
 rfl
theorem npy' {b:Bldg} {X:Rnd} (h:X.ok b) {r:Record} (hv:nbb' b r=true):(stepW r X).ok b:=⟨(nnz' h.img hv).1,n3j' h.img.so h.len r⟩
theorem nv5' {b:Bldg}:∀ {l:List Record} {X:Rnd},X.ok b→(∀ r ∈ l,nbb' b r=true)→(wrL l X).ok b
 | [],X,h,_=>by
  unfold wrL
  rw [List.append_nil]
  exact ⟨h.img,h.len⟩
 | r :: t,X,h,hv=>by
  rw [npn']
  exact nv5' (npy' h (hv r (List.mem_cons_self ..))) fun x hx=>hv x (List.mem_cons_of_mem _ hx)
theorem n4o' {xs:List Int} {k:Nat} (h:k < xs.length) (hl:xs.length≤100000):nco' xs (k:Int) (IntKind.i64.wrap ((k:Int) + 1))=some ((xs.take k++xs.drop (k + 1),()),()):=by
 unfold nco' delF
 rw [nb' (by omega) (by omega),decide_eq_true (show (0:Int)≤(k:Int) by omega),decide_eq_true (show (k:Int) < (k:Int) + 1 by omega),decide_eq_true (show (k:Int) + 1≤(xs.length:Int) by omega),show Int.toNat ((k:Int) + 1)=k + 1 by omega,Int.toNat_natCast]
 rfl
theorem n4w' {xs:List Int} {k:Nat} (h:k≤xs.length) (hl:xs.length≤100000):ncq' xs (k:Int) [0]=some ((xs.take k++[0]++xs.drop k,()),()):=by
 unfold ncq' insF
 rw [decide_eq_true (show (0:Int)≤(k:Int) by omega),decide_eq_true (show (k:Int)≤(xs.length:Int) by omega),nbl' (show xs.length + [(0:Int)].length≤2147483648 by show xs.length + 1≤_; omega),Int.toNat_natCast]
 rfl
section
variable {b:Bldg} (hb:b.small) (hcode:b.code=0)
include hb hcode
omit hcode in
theorem ng4' {m:Img} (hm:ImgOK b m):m.Entries.length≤14:=by
 have:=n27' hb hm
 have:=hb.hi
 omega
theorem nyr' {X:Rnd} (hX:X.ok b) {l:List Record} (hl:l.length≤100000) {i:Nat} (hi:i < l.length) (hv:nbb' b (l.getD i noRec)=true) (hr:X.recs.length≤1000000):nbg' l (l.length:Int) (i:Int) X.recs X.img.Phases X.img.Flags X.img.Leaving X.img.Entries X.xs X.lan.lit X.lan.gong X.lan.cl.1 X.lan.cl.2 X.ref.1 X.ref.2 b.Floors b.Debounce b.Room b.Park b.Empty b.Full b.Over b.Cars=some (.inl (((),l,(l.length:Int),((i + 1:Nat):Int),()),((stepW (l.getD i noRec) X).tupB b,()))):=by
 have hcc:=njs' hcode
 have he:=ng4' hb hX.img
 have hlp:=hX.img.lp
 have hxl:=hX.len
 have hpl:=nkl' (keyE (l.getD i noRec).Floor (l.getD i noRec).Dir) X.img.Entries
 have ha:=nt7' hb (by omega) X.img (by omega) (by omega) (l.getD i noRec)
 have ha':njg' b X.img (l.getD i noRec)=(((),0,()),((nbz' X.img (l.getD i noRec)).tup,())):=by
  unfold njg'
  rw [Img.ok_iff.2 hX.img,hv]; rfl
 rw [ha'] at ha
 unfold nbg'
 rw [show Record.mk 0 0 0 0 0=noRec from rfl]
 simp only [decide_eq_true (show (i:Int) < (l.length:Int) by omega),nd' (show (0:Int)≤(i:Int) by omega) (show (i:Int) < (l.length:Int) by omega),cond_true,Int.toNat_natCast]
 rw [nov' X.img (by omega)]
 simp only [Option.bind_some]
 generalize l.getD i noRec=r at *
 have hbl:Nat.ble (X.recs.length + [Record.mk r.Kind r.Floor r.Dir r.Car r.Value].length) 2147483648=true:=nbl' (by show X.recs.length + 1≤_; omega)
 have hw:=wrap1 hi (show l.length≤nby' by unfold nby'; omega)
 have hxs:∀ q,xsV X.img.Entries X.xs r=q→(stepW r X).tupB b=(X.recs++[Record.mk r.Kind r.Floor r.Dir r.Car r.Value],(nbz' X.img r).Phases,(nbz' X.img r).Flags,(nbz' X.img r).Leaving,(nbz' X.img r).Entries,q,X.lan.lit,X.lan.gong,X.lan.cl.1,X.lan.cl.2,X.ref.1,X.ref.2,b.Floors,b.Debounce,b.Room,b.Park,b.Empty,b.Full,b.Over,b.Cars,()):=fun q h=>by rw [← h]; rfl
 by_cases k2:r.Kind=2
 ·have k1:(r.Kind==1)=false:=beq_f (by omega)
  have k2':(r.Kind==2)=true:=by rw [k2]; rfl
  cases hf:hasF (keyE r.Floor r.Dir) X.img.Entries with
  | true=>
   rw [hxs _ (show _=X.xs.take (posF (keyE r.Floor r.Dir) X.img.Entries)++X.xs.drop (posF (keyE r.Floor r.Dir) X.img.Entries + 1) by unfold xsV; rw [k2',hf]; rfl)]
   have hp:=(nxr' hf).1
   simp only [k2',cond_true,Option.bind_some,n4o' (show posF (keyE r.Floor r.Dir) X.img.Entries < X.xs.length by omega) (by omega)]
   rw [ha]
   simp only [Option.bind_some,beq_self_eq_true,cond_true,hbl,hw]
   rfl
  | false=>
   rw [hxs X.xs (by unfold xsV; rw [hf,k1,Bool.and_false,Bool.false_and]; rfl)]
   simp only [k2',k1,cond_true,cond_false,Option.bind_some]
   rw [ha]
   simp only [Option.bind_some,beq_self_eq_true,cond_true,hbl,hw]
   rfl
 ·have k2':(r.Kind==2)=false:=beq_f k2
  by_cases k1:r.Kind=1
  ·have k1':(r.Kind==1)=true:=by rw [k1]; rfl
   cases hf:hasF (keyE r.Floor r.Dir) X.img.Entries with
   | false=>
    rw [hxs _ (show _=X.xs.take (posF (keyE r.Floor r.Dir) X.img.Entries)++[0]++X.xs.drop (posF (keyE r.Floor r.Dir) X.img.Entries) by unfold xsV; rw [k2',k1',hf]; rfl)]
    simp only [k2',k1',cond_true,cond_false,Option.bind_some,Bool.not_false,n4w' (show posF (keyE r.Floor r.Dir) X.img.Entries≤X.xs.length by omega) (by omega)]
    rw [ha]
    simp only [Option.bind_some,beq_self_eq_true,cond_true,hbl,hw]
    rfl
   | true=>
    rw [hxs X.xs (by unfold xsV; rw [hf,k2',Bool.false_and,Bool.not_true,Bool.and_false]; rfl)]
    simp only [k2',k1',cond_true,cond_false,Option.bind_some,Bool.not_true]
    rw [ha]
    simp only [Option.bind_some,beq_self_eq_true,cond_true,hbl,hw]
    rfl
  ·have k1':(r.Kind==1)=false:=beq_f k1
   rw [hxs X.xs (by unfold xsV; rw [k2',k1',Bool.false_and,Bool.false_and]; rfl)]
   simp only [k2',k1',cond_false,Option.bind_some]
   rw [ha]
   simp only [Option.bind_some,beq_self_eq_true,cond_true,hbl,hw]
   rfl
theorem npj' {X:Rnd} (hX:X.ok b) {l:List Record} (hl:l.length≤100000) (hv:∀ r ∈ l,nbb' b r=true) (hr:X.recs.length≤100000):n9' l X.recs X.img.Phases X.img.Flags X.img.Leaving X.img.Entries X.xs X.lan.lit X.lan.gong X.lan.cl.1 X.lan.cl.2 X.ref.1 X.ref.2 b.Floors b.Debounce b.Room b.Park b.Empty b.Full b.Over b.Cars=some ((),((wrL l X).tupB b,())):=by
 have key:∀ (k i:Nat) (Y:Rnd),i + k=l.length→Y.ok b→Y.recs.length≤100000 + i→iter (fun x=>nbg' x.1.2.1 x.1.2.2.1 x.1.2.2.2.1 x.2.1.1 x.2.1.2.1 x.2.1.2.2.1 x.2.1.2.2.2.1 x.2.1.2.2.2.2.1 x.2.1.2.2.2.2.2.1 x.2.1.2.2.2.2.2.2.1 x.2.1.2.2.2.2.2.2.2.1 x.2.1.2.2.2.2.2.2.2.2.1 x.2.1.2.2.2.2.2.2.2.2.2.1 x.2.1.2.2.2.2.2.2.2.2.2.2.1 x.2.1.2.2.2.2.2.2.2.2.2.2.2.1 x.2.1.2.2.2.2.2.2.2.2.2.2.2.2.1 x.2.1.2.2.2.2.2.2.2.2.2.2.2.2.2.1 x.2.1.2.2.2.2.2.2.2.2.2.2.2.2.2.2.1 x.2.1.2.2.2.2.2.2.2.2.2.2.2.2.2.2.2.1 x.2.1.2.2.2.2.2.2.2.2.2.2.2.2.2.2.2.2.1 x.2.1.2.2.2.2.2.2.2.2.2.2.2.2.2.2.2.2.2.1 x.2.1.2.2.2.2.2.2.2.2.2.2.2.2.2.2.2.2.2.2.1 x.2.1.2.2.2.2.2.2.2.2.2.2.2.2.2.2.2.2.2.2.2.1) (k + 1) (((),l,(l.length:Int),(i:Int),()),(Y.tupB b,()))=some ((),((wrL (l.drop i) Y).tupB b,())):=by
  intro k
  induction k with
  | zero=>
   intro i Y hi _ _
   obtain rfl:i=l.length:=by omega
   refine nr' ?_
   show nbg' l (l.length:Int) (l.length:Int) Y.recs Y.img.Phases Y.img.Flags Y.img.Leaving Y.img.Entries Y.xs Y.lan.lit Y.lan.gong Y.lan.cl.1 Y.lan.cl.2 Y.ref.1 Y.ref.2 b.Floors b.Debounce b.Room b.Park b.Empty b.Full b.Over b.Cars=_
   unfold nbg'
   rw [decide_eq_false (Int.lt_irrefl (l.length:Int)),List.drop_length]
   unfold wrL
   rw [List.append_nil]
   rfl
  | succ k ih=>
   intro i Y hi hY hr
   have hi':i < l.length:=by omega
   have hv':=hv _ (ndg' noRec hi')
   rw [nbn' noRec hi',npn']
   exact (ny' (nyr' hb hcode hY hl hi' hv' (by omega))).trans (ih (i + 1) _ (by omega) (npy' hY hv') (by show (Y.recs++[_]).length≤_; rw [List.length_append,List.length_singleton]; omega))
 have h:=key l.length 0 X (by omega) hX (by omega)
 rw [List.drop_zero] at h
 have h':nbq' (((),l,(l.length:Int),(0:Int),()),(X.tupB b,()))=_:=nx' h (by omega)
 unfold n9'
 rw [show nbq' (((),l,(l.length:Int),(0:Int),()),((X.recs,X.img.Phases,X.img.Flags,X.img.Leaving,X.img.Entries,X.xs,X.lan.lit,X.lan.gong,X.lan.cl.1,X.lan.cl.2,X.ref.1,X.ref.2,b.Floors,b.Debounce,b.Room,b.Park,b.Empty,b.Full,b.Over,b.Cars,()),()))=_ from h']
 rfl
end
end Go.Ovl
namespace Go.Ovl
open Go Go.Ab
set_option maxRecDepth 100000
theorem nn7' {F D:Int} {e:Entry} (he:isC F D e=true) (T:List Entry):∀ (P:List Entry) (i:Nat),(∀ p ∈ P,isC F D p=false)→findF F D (P++e :: T) i=((i + P.length:Nat):Int)
 | [],i,_=>by simp only [List.nil_append,findF,he,cond_true,List.length_nil,Nat.add_zero]
 | p :: P,i,h=>by
  simp only [List.cons_append,findF,h p (List.mem_cons_self ..),cond_false]
  rw [nn7' he T P (i + 1) fun x hx=>h x (List.mem_cons_of_mem _ hx),List.length_cons]
  congr 1; omega
theorem nyu' {P T:List Entry} {e:Entry} (h:nbi' (P++e :: T)):∀ p ∈ P,isC e.Floor e.Dir p=false:=by
 intro p hp
 rw [ncp'] at h
 have h2:=(List.pairwise_append.1 h).2.2 p hp e (List.mem_cons_self ..)
 rw [nd8'] at h2
 unfold isC
 simp only [Bool.and_eq_false_iff,beq_eq_false_iff_ne]
 omega
theorem nv0' (P T:List Entry) (e:Entry):(P++e :: T).getD P.length noE=e:=by
 simp [List.getD_eq_getElem?_getD]
theorem callC (e:Entry):isC e.Floor e.Dir e=true:=by unfold isC; simp
theorem nwk' {m:Img} {P T:List Entry} {e:Entry} (hE:m.Entries=P++e :: T) (hs:∀ p ∈ P,isC e.Floor e.Dir p=false) (n c:Int):nbz' m ⟨7,e.Floor,e.Dir,c,n⟩=m.put (P++nm5' e n c :: T):=by
 unfold nbz'
 have hf:findF e.Floor e.Dir m.Entries 0=(P.length:Int):=by rw [hE,nn7' (callC e) T P 0 hs,Nat.zero_add]
 simp only [hf]
 rw [beq_f (show ¬ (P.length:Int)=-1 by omega),hE,Int.toNat_natCast,nv0',nkq',nkq']
 rfl
theorem nsy' {m:Img} {P T:List Entry} {e:Entry} (hE:m.Entries=P++e :: T) (hs:∀ p ∈ P,isC e.Floor e.Dir p=false) (c:Int):nbz' m ⟨3,e.Floor,e.Dir,c,0⟩=m.put (P++nul' e c :: T):=by
 unfold nbz'
 have hf:findF e.Floor e.Dir m.Entries 0=(P.length:Int):=by rw [hE,nn7' (callC e) T P 0 hs,Nat.zero_add]
 simp only [hf]
 rw [beq_f (show ¬ (P.length:Int)=-1 by omega),hE,Int.toNat_natCast,nv0',nkq',nkq']
 rfl
theorem Img.put_put (m:Img) (l l':List Entry):(m.put l).put l'=m.put l':=rfl
theorem Img.put_self (m:Img):m.put m.Entries=m:=rfl
theorem nyj' {m:Img} {P T:List Entry} {e n:Entry} (hE:m.Entries=P++e :: T) (hs:∀ p ∈ P,isC e.Floor e.Dir p=false) (hF:n.Floor=e.Floor) (hD:n.Dir=e.Dir):ndd' m (recsV e n)=m.put (P++n :: T):=by
 obtain ⟨nF,nD,nC,nM,nV⟩:=n
 obtain ⟨eF,eD,eC,eM,eV⟩:=e
 simp only at hF hD
 subst hF hD
 unfold recsV
 simp only
 have mv:∀ c:Int,nm5' ⟨nF,nD,eC,eM,eV⟩ nM c=⟨nF,nD,eC,nM,c==1⟩:=fun _=>rfl
 have cv:((bif nV then (1:Int) else 0)==1)=nV:=by cases nV <;> rfl
 cases hp:(eM != nM||!(eV==nV)) with
 | true=>
  have h1:=nwk' hE hs nM (bif nV then 1 else 0)
  rw [mv,cv] at h1
  cases hq:eC != nC with
  | true=>
   have h2:=nsy' (m:=m.put (P++⟨nF,nD,eC,nM,nV⟩ :: T)) (P:=P) (T:=T) (e:=⟨nF,nD,eC,nM,nV⟩) rfl hs nC
   simp only [cond_true,List.cons_append,List.nil_append,ndd']
   rw [h1,h2]; rfl
  | false=>
   have:eC=nC:=by simpa [bne] using hq
   subst this
   simp only [cond_true,cond_false,List.append_nil,ndd']
   exact h1
 | false=>
  simp only [Bool.or_eq_false_iff,Bool.not_eq_false',bne_eq_false_iff_eq,beq_iff_eq] at hp
  obtain ⟨rfl,rfl⟩:=hp
  cases hq:eC != nC with
  | true=>
   have h2:=nsy' hE hs nC
   simp only [cond_true,cond_false,List.nil_append,ndd']
   exact h2
  | false=>
   have:eC=nC:=by simpa [bne] using hq
   subst this
   simp only [cond_false,List.append_nil,ndd']
   rw [← hE]; exact (Img.put_self m).symm
theorem ny1' {b:Bldg} {e n:Entry} (hcode:b.code=0) (hcall:nv' b n.Floor n.Dir=true) (hc:-2≤n.Car∧n.Car < (b.Cars.length:Int)) (hm:0≤n.Moves∧n.Moves≤255):∀ r ∈ recsV e n,nbb' b r=true:=by
 intro r hr
 unfold recsV at hr
 rcases List.mem_append.1 hr with h | h
 ·cases hp:(e.Moves != n.Moves||!(e.Moved==n.Moved)) with
  | false=>rw [hp] at h; cases h
  | true=>
   rw [hp] at h
   rw [List.mem_singleton.1 h]
   unfold nbb'
   rw [hcode,hcall,n4'.2 hm]
   cases n.Moved <;> rfl
 ·cases hp:e.Car != n.Car with
  | false=>rw [hp] at h; cases h
  | true=>
   rw [hp] at h
   rw [List.mem_singleton.1 h]
   unfold nbb'
   rw [hcode,hcall,n4'.2 ⟨hc.1,show n.Car≤(b.Cars.length:Int) - 1 by omega⟩]
   rfl
noncomputable def decL (b:Bldg) (vs:List View):List Entry→List Int→List Entry
 | e :: t,x :: xs=>decV b vs e x :: decL b vs t xs
 | _,_=>[]
theorem nyf' {b:Bldg} (hc:b.Cars.length≤100) {vs:List View} {e:Entry} (hm:0≤e.Moves∧e.Moves≤255) (x:Int):0≤(decV b vs e x).Moves∧(decV b vs e x).Moves≤255:=by
 unfold decV
 cases e.Car==-2 with
 | true=>exact hm
 | false=>
  cases e.Car==-1 with
  | true=>exact hm
  | false=>
   cases (ne' vs e.Car).Lost with
   | true=>
    by_cases g:(b.Cars.length:Int) < e.Moves
    ·rw [decide_eq_true g]; exact hm
    ·rw [decide_eq_false g]; exact ⟨by show 0≤e.Moves + 1; omega,by show e.Moves + 1≤255; omega⟩
   | false=>
    by_cases g:e.Moves≤(b.Cars.length:Int)
    ·rw [decide_eq_true g]
     cases e.Moved with
     | true=>exact hm
     | false=>
      cases neu' b vs e x != -1 with
      | true=>exact ⟨by show 0≤e.Moves + 1; omega,by show e.Moves + 1≤255; omega⟩
      | false=>exact hm
    ·rw [decide_eq_false g,Bool.and_false]; exact hm
theorem nrh' {b:Bldg} (hc:b.Cars.length≤100) {vs:List View} (hlen:(vs.length:Int)=(b.Cars.length:Int)):∀ (T:List Entry) (xs:List Int) (P:List Entry) (m:Img),xs.length=T.length→ImgOK b m→m.Entries=P++T→ndd' m (planR b vs T xs)=m.put (P++decL b vs T xs)∧(∀ r ∈ planR b vs T xs,nbb' b r=true)∧ImgOK b (m.put (P++decL b vs T xs))
 | [],xs,P,m,_,hm,hE=>by
  have:decL b vs [] xs=[]:=by simp [decL]
  have h2:planR b vs [] xs=[]:=by simp [planR]
  rw [this,h2,← hE]
  exact ⟨rfl,(fun _ h=>by cases h),hm⟩
 | _ :: _,[],_,_,h,_,_=>by simp at h
 | e :: T,x :: xs,P,m,h,hm,hE=>by
  have hent:=ne0'.1 (hm.en e (by rw [hE]; simp))
  have hso:=hm.so
  rw [hE] at hso
  have hs:=nyu' hso
  obtain ⟨c1,c2⟩:=n1t' b vs e x
  have hin:=nxi' b (vs:=vs) (e:=e) (by omega) x
  have hmv:=nyf' hc (vs:=vs) hent.2.2 x
  have hval:=ny1' (b:=b) (e:=e) (n:=decV b vs e x) hm.code (by rw [c1,c2]; exact hent.1) (by omega) hmv
  have hap:=nyj' hE hs c1 c2
  have hok:ImgOK b (m.put (P++decV b vs e x :: T)):=by
   rw [← hap]; exact (nnw' hm hval).1
  obtain ⟨g1,g2,g3⟩:=nrh' hc hlen T xs (P++[decV b vs e x]) (m.put (P++decV b vs e x :: T)) (by simpa using h) hok (by simp [Img.put])
  simp only [planR,decL]
  have app:∀ (rs qs:List Record) (m:Img),ndd' m (rs++qs)=ndd' (ndd' m rs) qs:=fun rs=>by
   induction rs with
   | nil=>intro _ _; rfl
   | cons r rs ih=>intro qs m; exact ih qs (nbz' m r)
  rw [app,hap,g1,Img.put_put]
  rw [Img.put_put] at g3
  simp only [List.append_assoc,List.singleton_append] at g3 ⊢
  exact ⟨trivial,(fun r hr=>by
   rcases List.mem_append.1 hr with hr | hr
   ·exact hval r hr
   ·exact g2 r hr),g3⟩
end Go.Ovl
namespace Go.Ovl
open Go Go.Ab
set_option maxRecDepth 100000
theorem nwv' {l:List Entry} (hl:l.length≤100000):nki' l=some (((),()),(((ofC l (0,0)).1,(ofC l (0,0)).2,()),())):=by
 have e2:∀ (k i:Nat) (c:Int×Int),i + k=l.length→iter (fun x=>nfu' x.1.2.2.1 x.1.2.2.2.1 x.1.2.2.2.2.1 x.2.1.1 x.2.1.2.1 x.2.2.1.1 x.2.2.1.2.1) (k + 1) (((),(),l,(l.length:Int),(i:Int),()),(((0:Int),(0:Int),()),(c.1,c.2,()),()))=some (((),(),()),(((0:Int),(0:Int),()),((ofC (l.drop i) c).1,(ofC (l.drop i) c).2,()),())):=by
  intro k
  induction k with
  | zero=>
   intro i c hi
   obtain rfl:i=l.length:=by omega
   refine nr' ?_
   show nfu' l (l.length:Int) (l.length:Int) 0 0 c.1 c.2=_
   unfold nfu'
   rw [decide_eq_false (Int.lt_irrefl (l.length:Int)),List.drop_length]; rfl
  | succ k ih=>
   intro i c hi
   have hi':i < l.length:=by omega
   rw [nbn' noE hi']
   refine (ny' (x':=(((),(),l,(l.length:Int),((i + 1:Nat):Int),()),(((0:Int),(0:Int),()),((neb' c (oneC (l.getD i noE).Floor (l.getD i noE).Dir)).1,(neb' c (oneC (l.getD i noE).Floor (l.getD i noE).Dir)).2,()),()))) ?_).trans (ih (i + 1) _ (by omega))
   show nfu' l (l.length:Int) (i:Int) 0 0 c.1 c.2=_
   unfold nfu'
   rw [show Entry.mk 0 0 0 0 false=noE from rfl]
   have hu:=ng8' c (oneC (l.getD i noE).Floor (l.getD i noE).Dir)
   simp only [decide_eq_true (show (i:Int) < (l.length:Int) by omega),nd' (show (0:Int)≤(i:Int) by omega) (show (i:Int) < (l.length:Int) by omega),cond_true,Int.toNat_natCast,nla',Option.bind_some,hu,wrap1 hi' (show l.length≤nby' by unfold nby'; omega)]
 have h:=e2 l.length 0 (0,0) (by omega)
 rw [List.drop_zero] at h
 have h':nh4' (((),(),l,(l.length:Int),(0:Int),()),(((0:Int),(0:Int),()),((0:Int),(0:Int),()),()))=_:=nx' h (by omega)
 unfold nki'
 rw [h']; rfl
def regR (e:Entry):Record:=Record.mk 1 e.Floor e.Dir 0 0
def stepG (b:Bldg) (e:Entry) (X:Rnd):Rnd:=bif roomV b X.img then stepW (regR e) X else ⟨X.recs,X.img,X.xs,X.lan,neb' X.ref (oneC e.Floor e.Dir)⟩
def regL (b:Bldg):List Entry→Rnd→Rnd
 | [],X=>X
 | e :: t,X=>regL b t (stepG b e X)
theorem n38' (r:Record) (X:Rnd):wrL [r] X=stepW r X:=by
 rw [npn']
 unfold wrL
 rw [List.append_nil]
 rfl
theorem nsp' {b:Bldg} {e:Entry} (h:nv' b e.Floor e.Dir=true):nbb' b (regR e)=true:=by
 have hc:(b.code==0)=true:=by
  unfold nv' at h
  rw [Bool.and_eq_true] at h
  exact h.1
 unfold nbb' regR
 rw [hc]
 simp only [beq_self_eq_true,cond_true,h,Bool.and_self]
theorem nuz' {b:Bldg} {X:Rnd} (h:X.ok b) {e:Entry} (he:nv' b e.Floor e.Dir=true):(stepG b e X).ok b:=by
 unfold stepG
 cases roomV b X.img with
 | true=>exact npy' h (nsp' he)
 | false=>exact ⟨h.img,h.len⟩
theorem nw8' {b:Bldg}:∀ {l:List Entry} {X:Rnd},X.ok b→(∀ e ∈ l,nv' b e.Floor e.Dir=true)→(regL b l X).ok b
 | [],_,h,_=>h
 | e :: t,X,h,hv=>by
  show (regL b t (stepG b e X)).ok b
  exact nw8' (nuz' h (hv e (List.mem_cons_self ..))) fun x hx=>hv x (List.mem_cons_of_mem _ hx)
theorem nqj' (b:Bldg) (e:Entry) (X:Rnd):(stepG b e X).recs.length≤X.recs.length + 1:=by
 unfold stepG
 cases roomV b X.img with
 | true=>show (X.recs++[_]).length≤_; rw [List.length_append,List.length_singleton]; exact Nat.le_refl _
 | false=>exact Nat.le_succ _
theorem nta' (b:Bldg):∀ (l:List Entry) (X:Rnd),(regL b l X).recs.length≤X.recs.length + l.length
 | [],_=>Nat.le_refl _
 | e :: t,X=>by
  have h1:=nta' b t (stepG b e X)
  have h2:=nqj' b e X
  show (regL b t (stepG b e X)).recs.length≤_
  rw [List.length_cons]
  omega
theorem nsl' (c:Int×Int):(listC c).length≤64:=by
 have h:∀ k i:Nat,((List.range' i k).flatMap (nij' c)).length≤2 * k:=by
  intro k
  induction k with
  | zero=>intro i; exact Nat.le_refl _
  | succ k ih=>
   intro i
   rw [List.range'_succ,List.flatMap_cons,List.length_append]
   have:=ih (i + 1)
   have:=nyn' c i
   omega
 exact h 32 0
theorem nz9' {c:Int×Int} {e:Entry} (h:e ∈ listC c):(0≤e.Floor∧e.Floor < 32)∧(e.Dir=1∨e.Dir=2)∧bitC c e.Floor.toNat e.Dir=true:=by
 obtain ⟨f,h1,h2,h3,h4⟩:=mem_range.1 (List.mem_map.2 ⟨e,h,rfl⟩)
 simp only [new'] at h2 h3 h4
 refine ⟨by omega,h3,?_⟩
 rw [h2,Int.toNat_natCast]; exact h4
def nqu' (b:Bldg) (m:Img) (press:Int×Int):Int×Int:=nb9' (bothC press (hallC b)) (ofC m.Entries (0,0))
theorem nqo' {b:Bldg} (hb:b.small) (hcode:b.code=0) {press old:Int×Int} {e:Entry} (h:e ∈ listC (nb9' (bothC press (hallC b)) old)):nv' b e.Floor e.Dir=true:=by
 obtain ⟨h1,h2,h3⟩:=nz9' h
 rw [nx3' _ _ (by omega),nnq',Bool.and_eq_true,Bool.and_eq_true,n16' hb hcode (by omega) h2,Int.toNat_of_nonneg h1.1] at h3
 exact h3.1.2
section
variable {b:Bldg} (hb:b.small) (hcode:b.code=0)
include hb hcode
theorem ntw' {es:List Entry} (hl:es.length≤1000) (hv:∀ e ∈ es,nv' b e.Floor e.Dir=true):∀ (k i:Nat) (Y:Rnd),i + k=es.length→Y.ok b→Y.recs.length≤1000 + i→iter (fun x=>n6' x.1.2.1 x.1.2.2.1 x.1.2.2.2.1 x.2.1.1 x.2.1.2.1 x.2.1.2.2.1 x.2.1.2.2.2.1 x.2.1.2.2.2.2.1 x.2.1.2.2.2.2.2.1 x.2.1.2.2.2.2.2.2.1 x.2.1.2.2.2.2.2.2.2.1 x.2.1.2.2.2.2.2.2.2.2.1 x.2.1.2.2.2.2.2.2.2.2.2.1 x.2.1.2.2.2.2.2.2.2.2.2.2.1 x.2.1.2.2.2.2.2.2.2.2.2.2.2.1 x.2.1.2.2.2.2.2.2.2.2.2.2.2.2.1 x.2.1.2.2.2.2.2.2.2.2.2.2.2.2.2.1 x.2.1.2.2.2.2.2.2.2.2.2.2.2.2.2.2.1 x.2.1.2.2.2.2.2.2.2.2.2.2.2.2.2.2.2.1 x.2.1.2.2.2.2.2.2.2.2.2.2.2.2.2.2.2.2.1 x.2.1.2.2.2.2.2.2.2.2.2.2.2.2.2.2.2.2.2.1 x.2.1.2.2.2.2.2.2.2.2.2.2.2.2.2.2.2.2.2.2.1 x.2.1.2.2.2.2.2.2.2.2.2.2.2.2.2.2.2.2.2.2.2.1) (k + 1) (((),es,(es.length:Int),(i:Int),()),(Y.tupB b,()))=some ((),((regL b (es.drop i) Y).tupB b,())):=by
 intro k
 induction k with
 | zero=>
  intro i Y hi _ _
  obtain rfl:i=es.length:=by omega
  refine nr' ?_
  show n6' es (es.length:Int) (es.length:Int) Y.recs Y.img.Phases Y.img.Flags Y.img.Leaving Y.img.Entries Y.xs Y.lan.lit Y.lan.gong Y.lan.cl.1 Y.lan.cl.2 Y.ref.1 Y.ref.2 b.Floors b.Debounce b.Room b.Park b.Empty b.Full b.Over b.Cars=_
  unfold n6'
  rw [decide_eq_false (Int.lt_irrefl (es.length:Int)),List.drop_length]
  rfl
 | succ k ih=>
  intro i Y hi hY hr
  have hi':i < es.length:=by omega
  have hv':=hv _ (ndg' noE hi')
  have hcc:=njs' hcode
  have he:=ng4' hb hY.img
  have hlp:=hY.img.lp
  rw [nbn' noE hi']
  refine (ny' (x':=(((),es,(es.length:Int),((i + 1:Nat):Int),()),((stepG b (es.getD i noE) Y).tupB b,()))) ?_).trans (ih (i + 1) _ (by omega) (nuz' hY hv') (by have:=nqj' b (es.getD i noE) Y; omega))
  show n6' es (es.length:Int) (i:Int) Y.recs Y.img.Phases Y.img.Flags Y.img.Leaving Y.img.Entries Y.xs Y.lan.lit Y.lan.gong Y.lan.cl.1 Y.lan.cl.2 Y.ref.1 Y.ref.2 b.Floors b.Debounce b.Room b.Park b.Empty b.Full b.Over b.Cars=_
  unfold n6' stepG
  rw [show Entry.mk 0 0 0 0 false=noE from rfl,nw2' hb Y.img (by omega) (by omega) (by omega)]
  simp only [decide_eq_true (show (i:Int) < (es.length:Int) by omega),nd' (show (0:Int)≤(i:Int) by omega) (show (i:Int) < (es.length:Int) by omega),cond_true,Int.toNat_natCast,Option.bind_some,wrap1 hi' (show es.length≤nby' by unfold nby'; omega)]
  cases roomV b Y.img with
  | true=>
   have hw:=npj' hb hcode hY (l:=[regR (es.getD i noE)]) (by show 1≤100000; omega) (by
    intro r hr
    rw [List.mem_singleton.1 hr]
    exact nsp' hv') (by omega)
   rw [n38'] at hw
   unfold regR at hw
   simp only [cond_true,hw,Option.bind_some]
   rfl
  | false=>
   have hu:=ng8' Y.ref (oneC (es.getD i noE).Floor (es.getD i noE).Dir)
   simp only [cond_false,nla',Option.bind_some,hu]
   rfl
theorem nwu' (press old:Int×Int) {X:Rnd} (hX:X.ok b) (hr:X.recs.length≤1000):nb1' press.1 press.2 old.1 old.2 X.recs X.img.Phases X.img.Flags X.img.Leaving X.img.Entries X.xs X.lan.lit X.lan.gong X.lan.cl.1 X.lan.cl.2 X.ref.1 X.ref.2 b.Floors b.Debounce b.Room b.Park b.Empty b.Full b.Over b.Cars=some ((),((regL b (listC (nb9' (bothC press (hallC b)) old)) X).tupB b,())):=by
 have hl:=nsl' (nb9' (bothC press (hallC b)) old)
 have h:=ntw' hb hcode (es:=listC (nb9' (bothC press (hallC b)) old)) (by omega) (fun e he=>nqo' hb hcode he) _ 0 X (Nat.zero_add _) hX (by omega)
 rw [List.drop_zero] at h
 have h':nbu' (((),listC (nb9' (bothC press (hallC b)) old),((listC (nb9' (bothC press (hallC b)) old)).length:Int),(0:Int),()),(X.tupB b,()))=_:=nx' h (by omega)
 unfold nb1'
 rw [nk4' hb hcode]
 simp only [Option.bind_some]
 rw [nj0' press (hallC b)]
 simp only [Option.bind_some]
 rw [nis' (bothC press (hallC b)) old]
 simp only [Option.bind_some]
 rw [nt4']
 simp only [Option.bind_some]
 unfold Rnd.tupB at h'
 rw [h']
 rfl
end
theorem nt6' (n:Int):ndx' n=some ((!inR 0 1000000 n,()),()):=by
 unfold ndx' inR
 by_cases g:n < 0
 ·rw [decide_eq_true g,decide_eq_false (show ¬ 0≤n by omega)]; rfl
 ·rw [decide_eq_false g,decide_eq_true (show 0≤n by omega)]
  by_cases g':1000000 < n
  ·rw [decide_eq_true g',decide_eq_false (show ¬ n≤1000000 by omega)]; rfl
  ·rw [decide_eq_false g',decide_eq_true (show n≤1000000 by omega)]; rfl
theorem nuo' {xs:List Int} (hl:xs.length≤maxLen):n2' xs=some ((!expOK xs,()),()):=by
 have hm:maxLen≤9223372036854775807:=by decide
 have key:∀ (k i:Nat),i + k=xs.length→∃ y,iter (fun x=>nq' x.1.1 x.1.2.2.1 x.1.2.2.2.1) (k + 1) ((xs,(),(xs.length:Int),(i:Int),()),())=some y∧(match y with | .inl _=>(xs.drop i).all (inR 0 1000000)=true | .inr z=>0≤z.1.1∧(xs.drop i).all (inR 0 1000000)=false):=by
  intro k
  induction k with
  | zero=>
   intro i hi
   refine ⟨.inl ((),()),nr' ?_,?_⟩
   ·show nq' xs (xs.length:Int) (i:Int)=_
    unfold nq'
    rw [show decide ((i:Int) < (xs.length:Int))=false by simp; omega]; rfl
   ·rw [show i=xs.length by omega,List.drop_length]; rfl
  | succ k ih=>
   intro i hi
   have hi':i < xs.length:=by omega
   have hs:nq' xs (xs.length:Int) (i:Int)=some (bif inR 0 1000000 (xs.getD i 0) then .inl ((xs,(),(xs.length:Int),((i + 1:Nat):Int),()),()) else .inr (.inr (((i:Int),()),()))):=by
    unfold nq'
    have w:IntKind.i64.wrap ((i:Int) + 1)=((i + 1:Nat):Int):=by rw [nb' (by omega) (by omega)]; omega
    rw [show decide ((i:Int) < (xs.length:Int))=true by simp; omega,nd' (by omega) (by omega),nt6',w]
    simp only [cond_true,Int.toNat_natCast,Option.bind_some]
    cases inR 0 1000000 (xs.getD i 0) <;> rfl
   rw [nbn' (0:Int) hi',List.all_cons]
   cases hq:inR 0 1000000 (xs.getD i 0) with
   | true=>
    rw [hq] at hs
    obtain ⟨y,h1,h2⟩:=ih (i + 1) (by omega)
    exact ⟨y,(ny' hs).trans h1,by rw [Bool.true_and]; exact h2⟩
   | false=>
    rw [hq] at hs
    exact ⟨_,nr' hs,by show (0:Int)≤(i:Int)∧_; exact ⟨by omega,rfl⟩⟩
 obtain ⟨y,h1,h2⟩:=key xs.length 0 (by omega)
 have h1':n3' ((xs,(),(xs.length:Int),(0:Int),()),())=some y:=nx' h1 (by omega)
 rw [List.drop_zero] at h2
 unfold n2' nbo' expOK
 rw [h1']
 cases y with
 | inl z=>simp only at h2; rw [h2]; rfl
 | inr z=>
  simp only at h2
  rw [h2.2]
  simp only [Option.bind_some]
  rw [decide_eq_true h2.1]; rfl
theorem nm8' (m:Img) {xs:List Int} (hl:xs.length≤maxLen):neh' m.Phases m.Flags m.Leaving m.Entries xs=some (((((xs.length:Int)==(m.Entries.length:Int))&&expOK xs),()),()):=by
 unfold neh'
 rw [nuo' hl]
 cases ((xs.length:Int)==(m.Entries.length:Int)) with
 | false=>rfl
 | true=>simp only [cond_true,Option.bind_some,Bool.true_and,Bool.not_not]
theorem nll' {α:Type} (l:List α) (h:l.length≤100000):cloF l=some ((l,()),()):=by
 unfold cloF
 rw [nbl' (show l.length≤2147483648 by omega)]; rfl
def darkV (n:Nat):Lan:=⟨List.replicate n noP,List.replicate n false,(0,0)⟩
def tickX (b:Bldg) (m:Img) (xs:List Int) (vs:List View) (ps:List Calls) (press:Int×Int) (good:Bool):Rnd:=
 bif good then regL b (listC (nqu' b m press)) (wrL (servL b vs m.Entries) ⟨[],m,xs,nee' b vs ps,(0,0)⟩) else ⟨[],m,xs,darkV vs.length,(0,0)⟩
noncomputable def tickP (b:Bldg) (m:Img) (xs:List Int) (vs:List View) (ps:List Calls) (press:Int×Int) (good:Bool):List Record×List Int×Int×Unit:=planV b (tickX b m xs vs ps press good).img (tickX b m xs vs ps press good).xs vs
noncomputable def tickV (b:Bldg) (m:Img) (xs:List Int) (vs:List View) (ps:List Calls) (press:Int×Int) (good:Bool):Rnd:={ wrL (tickP b m xs vs ps press good).1 (tickX b m xs vs ps press good) with xs:=(tickP b m xs vs ps press good).2.1 }
theorem no9' {b:Bldg} (hcode:b.code=0) (vs:List View):∀ {l:List Entry},(∀ e ∈ l,nv' b e.Floor e.Dir=true)→∀ r ∈ servL b vs l,nbb' b r=true∧r.Kind=2:=fun h r hr=>by
 obtain ⟨e,he,hr⟩:=List.mem_flatMap.1 hr
 have hc:=h e he
 cases hs:servB b vs e.Floor e.Dir with
 | false=>rw [hs] at hr; cases hr
 | true=>
  rw [hs] at hr
  rw [List.mem_singleton.1 hr]
  refine ⟨?_,rfl⟩
  unfold nbb'
  rw [hcode]
  simp only [show ((2:Int)==1)=false from rfl,cond_false,beq_self_eq_true,cond_true,hc,Bool.and_self]
theorem nwy' {b:Bldg} (hcode:b.code=0) {vs:List View} {m:Img} (hm:ImgOK b m) (xs:List Int):∀ r ∈ (planV b m xs vs).1,nbb' b r=true:=by
 have hcc:=njs' hcode
 unfold planV
 rw [Img.ok_iff.2 hm]
 cases hq:((xs.length:Int)==(m.Entries.length:Int)) with
 | false=>exact fun r hr=>by cases hr
 | true=>
  cases hv:((vs.length:Int)==(b.Cars.length:Int)) with
  | false=>exact fun r hr=>by cases hr
  | true=>
   cases expOK xs with
   | false=>exact fun r hr=>by cases hr
   | true=>
    have h1:(xs.length:Int)=(m.Entries.length:Int):=by simpa using hq
    have h2:(vs.length:Int)=(b.Cars.length:Int):=by simpa using hv
    exact (nrh' (b:=b) (by omega) h2 m.Entries xs [] m (by omega) hm rfl).2.1
section
variable {b:Bldg} (hb:b.small) (hcode:b.code=0) {m:Img} (hm:ImgOK b m) {xs:List Int} (hx:xs.length=m.Entries.length) {vs:List View} (ps:List Calls) (press:Int×Int) (good:Bool)
include hb hcode hm hx
theorem n2k':(tickX b m xs vs ps press good).ok b∧(tickX b m xs vs ps press good).recs.length≤100:=by
 have he:=ng4' hb hm
 have hX:∀ L:Lan,Rnd.ok b ⟨[],m,xs,L,(0,0)⟩:=fun L=>⟨hm,hx⟩
 unfold tickX
 cases good with
 | false=>exact ⟨hX _,Nat.zero_le _⟩
 | true=>
  have hv:=no9' hcode vs (l:=m.Entries) fun e he=>(ne0'.1 (hm.en e he)).1
  refine ⟨nw8' (nv5' (hX _) fun r hr=>(hv r hr).1) fun e he=>nqo' hb hcode he,?_⟩
  have h1:=nta' b (listC (nqu' b m press)) (wrL (servL b vs m.Entries) ⟨[],m,xs,nee' b vs ps,(0,0)⟩)
  have h2:=nsl' (nqu' b m press)
  have h3:=nn3' b vs m.Entries
  have h4:(wrL (servL b vs m.Entries) ⟨[],m,xs,nee' b vs ps,(0,0)⟩).recs.length=(servL b vs m.Entries).length:=rfl
  show (regL b (listC (nqu' b m press)) (wrL (servL b vs m.Entries) ⟨[],m,xs,nee' b vs ps,(0,0)⟩)).recs.length≤100
  omega
theorem npk' (hexp:expOK xs=true) (hv:okViews vs) (hvl:vs.length=b.Cars.length) (hp:ps.length=b.Cars.length):nbw' b.Floors b.Debounce b.Room b.Park b.Empty b.Full b.Over b.Cars m.Phases m.Flags m.Leaving m.Entries xs vs ps press.1 press.2 good=some (((),0,()),((tickV b m xs vs ps press good).tup,())):=by
 have hcc:=njs' hcode
 have he:=ng4' hb hm
 have hlp:=hm.lp
 have hlf:=hm.lf
 have hll:=hm.ll
 have hmx:100000≤maxLen:=by decide
 have hX:∀ L:Lan,Rnd.ok b ⟨[],m,xs,L,(0,0)⟩:=fun L=>⟨hm,hx⟩
 obtain ⟨hok,hrl⟩:=n2k' hb hcode hm hx (vs:=vs) ps press good
 have hlight:=npu' hb hcode vs ps (by omega)
 unfold nrf' at hlight
 rw [show ((vs.length:Int)==(b.Cars.length:Int))=true by rw [hvl]; exact beq_self_eq_true _,show ((ps.length:Int)==(b.Cars.length:Int))=true by rw [hp]; exact beq_self_eq_true _] at hlight
 simp only [Bool.and_self,cond_true] at hlight
 have hXl:=ng4' hb hok.img
 have hXp:=hok.img.lp
 have hXx:=hok.len
 have hplan:=nsh' hb hv (by omega) (tickX b m xs vs ps press good).img (by omega) (by omega) (tickX b m xs vs ps press good).xs (by omega)
 have hpl:=(ntj' b (tickX b m xs vs ps press good).img (tickX b m xs vs ps press good).xs vs).1
 have hwr:=npj' hb hcode hok (l:=(planV b (tickX b m xs vs ps press good).img (tickX b m xs vs ps press good).xs vs).1) (by omega) (nwy' hcode hok.img _) (by omega)
 unfold nbw'
 rw [hlight]
 simp only [Option.bind_some,bne_self_eq_false,cond_false,Lan.tup]
 rw [nfs' hb m (by omega) (by omega),Img.ok_iff.2 hm]
 simp only [Option.bind_some,Bool.not_true,cond_false]
 rw [nm8' m (by omega),show ((xs.length:Int)==(m.Entries.length:Int))=true by rw [hx]; exact beq_self_eq_true _,hexp]
 unfold nha' nbs' nbh' nbe' nik'
 rw [nll' m.Phases (by omega),nll' m.Flags (by omega),nll' m.Leaving (by omega),nll' m.Entries (by omega),nll' xs (by omega)]
 simp only [Option.bind_some,Bool.and_self,Bool.not_true,cond_false,decide_eq_true (show (0:Int)≤(vs.length:Int) by omega),decide_eq_true (Int.le_refl (vs.length:Int)),decide_eq_true (show (vs.length:Int)≤2147483648 by omega),cond_true,Int.toNat_natCast]
 cases good with
 | false=>
  simp only [cond_false,Option.bind_some]
  rw [show nel' b.Floors b.Debounce b.Room b.Park b.Empty b.Full b.Over b.Cars m.Phases m.Flags m.Leaving m.Entries xs vs=_ from hplan]
  simp only [Option.bind_some]
  rw [show n9' (planV b (tickX b m xs vs ps press false).img (tickX b m xs vs ps press false).xs vs).1 [] m.Phases m.Flags m.Leaving m.Entries xs (List.replicate vs.length (Calls.mk 0 0)) (List.replicate vs.length false) 0 0 0 0 b.Floors b.Debounce b.Room b.Park b.Empty b.Full b.Over b.Cars=_ from hwr]
  rfl
 | true=>
  have hsv:=no9' hcode vs (l:=m.Entries) fun e he=>(ne0'.1 (hm.en e he)).1
  have hsl:=nn3' b vs m.Entries
  have hw1:=npj' hb hcode (hX (nee' b vs ps)) (l:=servL b vs m.Entries) (by omega) (fun r hr=>(hsv r hr).1) (Nat.zero_le _)
  have hrg:=nwu' hb hcode press (ofC m.Entries (0,0)) (X:=wrL (servL b vs m.Entries) ⟨[],m,xs,nee' b vs ps,(0,0)⟩) (nv5' (hX _) fun r hr=>(hsv r hr).1) (by show ([]++servL b vs m.Entries).length≤_; rw [List.nil_append]; omega)
  unfold nib'
  simp only [cond_true]
  rw [npe' hb hcode hm (by omega) vs (by omega)]
  simp only [Option.bind_some]
  simp only at hw1
  rw [hw1]
  simp only [Option.bind_some,nwv' (show m.Entries.length≤100000 by omega),Rnd.tupB]
  rw [hrg]
  simp only [Option.bind_some,Rnd.tupB]
  rw [show nel' b.Floors b.Debounce b.Room b.Park b.Empty b.Full b.Over b.Cars (regL b (listC (nb9' (bothC press (hallC b)) (ofC m.Entries (0,0)))) (wrL (servL b vs m.Entries) ⟨[],m,xs,nee' b vs ps,(0,0)⟩)).img.Phases (regL b (listC (nb9' (bothC press (hallC b)) (ofC m.Entries (0,0)))) (wrL (servL b vs m.Entries) ⟨[],m,xs,nee' b vs ps,(0,0)⟩)).img.Flags (regL b (listC (nb9' (bothC press (hallC b)) (ofC m.Entries (0,0)))) (wrL (servL b vs m.Entries) ⟨[],m,xs,nee' b vs ps,(0,0)⟩)).img.Leaving (regL b (listC (nb9' (bothC press (hallC b)) (ofC m.Entries (0,0)))) (wrL (servL b vs m.Entries) ⟨[],m,xs,nee' b vs ps,(0,0)⟩)).img.Entries (regL b (listC (nb9' (bothC press (hallC b)) (ofC m.Entries (0,0)))) (wrL (servL b vs m.Entries) ⟨[],m,xs,nee' b vs ps,(0,0)⟩)).xs vs=_ from hplan]
  simp only [Option.bind_some]
  refine Eq.trans (congrArg (fun o=>Option.bind o _) (show _=some ((),((wrL (planV b (tickX b m xs vs ps press true).img (tickX b m xs vs ps press true).xs vs).1 (tickX b m xs vs ps press true)).tupB b,())) from hwr)) ?_
  rfl
end
end Go.Ovl
namespace Go.Ovl
open Go Go.Ab
set_option maxRecDepth 100000
theorem u8r.bif {p:Bool} {a b:Int} (ha:u8r a) (hb:u8r b):u8r (bif p then a else b):=by cases p <;> assumption
theorem nh1' (n:Int):u32r (IntKind.u32.wrap n):=by
 unfold u32r
 simp only [IntKind.wrap,IntKind.signed,IntKind.bits]
 simp
 omega
theorem n2n' {l:List Int} (hl:∀ e ∈ l,u8r e) (_hlen:l.length≤maxLen) (out:List View) {i:Nat} (hi:i < 100) (b:Bldg) :
  ∃ y:(List Int×Unit×List View×Int×Unit×Unit)×((Int×Int×Int×Int×Nat×Nat×Nat×List Car×Unit)×(Int×Int×Int×Int×Unit)×Unit),
   nf9' ((l,(),out,(i:Int),(),(0:Int),()),(b.tup,((0:Int),(0:Int),(0:Int),(0:Int),()),()))=some y ∧
   ∃ x0 x1 x2 x3:Int,u8r x0∧u8r x1∧u8r x2∧u8r x3∧y=((l,(),out,(i:Int),(),()),(b.tup,(x0,x1,x2,x3,()),())):=by
 have hm:maxLen≤9223372036854775807:=by decide
 refine nmq' (fun x=>∃ (k:Nat) (x0 x1 x2 x3:Int),k≤4∧u8r x0∧u8r x1∧u8r x2∧u8r x3∧x=((l,(),out,(i:Int),(),(k:Int),()),(b.tup,(x0,x1,x2,x3,()),())))
  (fun y=>∃ x0 x1 x2 x3:Int,u8r x0∧u8r x1∧u8r x2∧u8r x3∧y=((l,(),out,(i:Int),(),()),(b.tup,(x0,x1,x2,x3,()),())))
  (fun x=>4 - x.1.2.2.2.2.2.1.toNat) ?_ ⟨0,0,0,0,0,by omega,u8r0,u8r0,u8r0,u8r0,rfl⟩ (by show 4 - 0 < _; omega)
 rintro _ ⟨k,x0,x1,x2,x3,hk,h0,h1,h2,h3,rfl⟩
 show (∃ x',nhm' l out i k b.Floors b.Debounce b.Room b.Park b.Empty b.Full b.Over b.Cars x0 x1 x2 x3=_∧_)∨∃ y,nhm' l out i k b.Floors b.Debounce b.Room b.Park b.Empty b.Full b.Over b.Cars x0 x1 x2 x3=_∧_
 unfold nhm'
 by_cases g:(k:Int) < 4
 ·rw [decide_eq_true g,cond_true]
  by_cases g':(0:Int) < (l.length:Int)
  ·have w1:IntKind.i64.wrap (4 * (i:Int))=4 * (i:Int):=nb' (by omega) (by omega)
   have w2:IntKind.i64.wrap (4 * (i:Int) + k)=4 * (i:Int) + k:=nb' (by omega) (by omega)
   have w3:IntKind.i64.wrap ((k:Int) + 1)=((k + 1:Nat):Int):=by rw [nb' (by omega) (by omega)]; omega
   have hmod:Int.tmod (4 * (i:Int) + k) (l.length:Int)=(((4 * i + k) % l.length:Nat):Int):=by rw [Int.tmod_eq_emod_of_nonneg (by omega)]; norm_cast
   have hlt:(4 * i + k) % l.length < l.length:=Nat.mod_lt _ (by omega)
   have e:=npg' (P:=u8r) hl (d:=(0:Int)) hlt
   rw [decide_eq_true g']
   simp only [w1,w2,w3,hmod,bne_t (show ¬ (l.length:Int)=0 by omega),cond_true,nd' (show (0:Int)≤(((4 * i + k) % l.length:Nat):Int) by omega) (show (((4 * i + k) % l.length:Nat):Int) < (l.length:Int) by omega),nd' (show (0:Int)≤(k:Int) by omega) (show (k:Int) < ((4:Nat):Int) from g),Int.toNat_natCast]
   exact .inl ⟨_,rfl,⟨k + 1,_,_,_,_,by omega,u8r.bif e h0,u8r.bif e h1,u8r.bif e h2,u8r.bif e h3,rfl⟩,by simp only [Int.toNat_natCast]; omega⟩
  ·rw [decide_eq_false g']
   exact .inr ⟨_,rfl,x0,x1,x2,x3,h0,h1,h2,h3,rfl⟩
 ·rw [decide_eq_false g]
  exact .inr ⟨_,rfl,x0,x1,x2,x3,h0,h1,h2,h3,rfl⟩
structure Made (b:Bldg) (vs:List View):Prop where
 len:vs.length=b.Cars.length
 ok:okViews vs
 lost:∀ v ∈ vs,v.Lost=true→v.Ready=false
 flo:∀ v ∈ vs,-1≤v.Floor∧v.Floor < b.Floors
theorem nrr' {b:Bldg} (hb:b.small) (hc:b.Cars.length≤8) {l:List Int} (hl:∀ e ∈ l,u8r e) (hlen:l.length≤maxLen) :
  ∃ vs:List View,ni2' b.Floors b.Debounce b.Room b.Park b.Empty b.Full b.Over b.Cars l=some ((vs,()),())∧Made b vs:=by
 have lo:=hb.lo
 have hi:=hb.hi
 have key:∃ y:(List View×Unit)×Unit,nf4' ((l,(),([]:List View),(0:Int),()),(b.tup,()))=some y∧∃ vs,Made b vs∧y=((vs,()),()):=by
  refine nmq' (fun x=>∃ (i:Nat) (out:List View),i≤b.Cars.length∧out.length=i∧okViews out∧(∀ v ∈ out,v.Lost=true→v.Ready=false)∧(∀ v ∈ out,-1≤v.Floor∧v.Floor < b.Floors)∧x=((l,(),out,(i:Int),()),(b.tup,())))
   (fun y=>∃ vs,Made b vs∧y=((vs,()),())) (fun x=>b.Cars.length - x.1.2.2.2.1.toNat) ?_ ⟨0,[],by omega,rfl,(fun v h=>by cases h),(fun v h=>by cases h),(fun v h=>by cases h),rfl⟩ (by show b.Cars.length - 0 < _; omega)
  rintro _ ⟨i,out,hi1,hi2,ho,hlo,hfl,rfl⟩
  show (∃ x',nhi' l out i b.Floors b.Debounce b.Room b.Park b.Empty b.Full b.Over b.Cars=_∧_)∨∃ y,nhi' l out i b.Floors b.Debounce b.Room b.Park b.Empty b.Full b.Over b.Cars=_∧_
  unfold nhi'
  by_cases g:(i:Int) < (b.Cars.length:Int)
  ·obtain ⟨_,e1,x0,x1,x2,x3,h0,h1,h2,h3,rfl⟩:=n2n' hl hlen out (show i < 100 by omega) b
   have e1':nf9' ((l,(),out,(i:Int),(),(0:Int),()),((b.Floors,b.Debounce,b.Room,b.Park,b.Empty,b.Full,b.Over,b.Cars,()),((0:Int),(0:Int),(0:Int),(0:Int),()),()))=_:=e1
   have w3:IntKind.i64.wrap ((i:Int) + 1)=((i + 1:Nat):Int):=by rw [nb' (by omega) (by omega)]; omega
   have w4:IntKind.i64.wrap (b.Floors + 1)=b.Floors + 1:=nb' (by omega) (by omega)
   have w5:IntKind.i64.wrap x1=x1:=nb' (by unfold u8r at h1; omega) (by unfold u8r at h1; omega)
   have m1:0≤Int.tmod x1 (b.Floors + 1)∧Int.tmod x1 (b.Floors + 1) < b.Floors + 1:=by
    rw [Int.tmod_eq_emod_of_nonneg h1.1]
    exact ⟨Int.emod_nonneg _ (by omega),Int.emod_lt_of_pos _ (by omega)⟩
   have w6:IntKind.i64.wrap (Int.tmod x1 (b.Floors + 1) - 1)=Int.tmod x1 (b.Floors + 1) - 1:=nb' (by omega) (by omega)
   have ap:∀ v:View,Nat.ble (out.length + [v].length) 2147483648=true:=fun v=>nbl' (by simp; omega)
   rw [decide_eq_true g,e1']
   simp only [cond_true,Option.bind_some,Bldg.tup,w3,w4,w5,w6,ap,bne_t (show ¬ b.Floors + 1=0 by omega)]
   have fin:∀ v:View,v.ok→(v.Lost=true→v.Ready=false)→(-1≤v.Floor∧v.Floor < b.Floors) →
     ∃ (j:Nat) (o:List View),j≤b.Cars.length∧o.length=j∧okViews o∧(∀ v ∈ o,v.Lost=true→v.Ready=false)∧(∀ v ∈ o,-1≤v.Floor∧v.Floor < b.Floors)∧((l,(),out++[v],((i + 1:Nat):Int),()),((b.Floors,b.Debounce,b.Room,b.Park,b.Empty,b.Full,b.Over,b.Cars,()),()))=((l,(),o,(j:Int),()),((b.Floors,b.Debounce,b.Room,b.Park,b.Empty,b.Full,b.Over,b.Cars,()),())):=fun v k1 k2 k3=>by
    refine ⟨i + 1,out++[v],by omega,by simp; omega,fun x hx=>?_,fun x hx=>?_,fun x hx=>?_,rfl⟩
    ·rcases List.mem_append.1 hx with h | h
     ·exact ho x h
     ·rw [List.mem_singleton.1 h]; exact k1
    ·rcases List.mem_append.1 hx with h | h
     ·exact hlo x h
     ·rw [List.mem_singleton.1 h]; exact k2
    ·rcases List.mem_append.1 hx with h | h
     ·exact hfl x h
     ·rw [List.mem_singleton.1 h]; exact k3
   cases hz:(Int.tmod (IntKind.u8.wrap (Int.tdiv x0 16)) 4==0) with
   | true=>
    simp only [cond_true]
    exact .inl ⟨_,rfl,fin _ ⟨nh1' _,nh1' _,nh1' _⟩ (fun _=>rfl) ⟨by show -1≤Int.tmod x1 (b.Floors + 1) - 1; omega,by show Int.tmod x1 (b.Floors + 1) - 1 < b.Floors; omega⟩,by simp only [Int.toNat_natCast]; omega⟩
   | false=>
    simp only [cond_false]
    exact .inl ⟨_,rfl,fin _ ⟨nh1' _,nh1' _,nh1' _⟩ (fun h=>by cases h) ⟨by show -1≤Int.tmod x1 (b.Floors + 1) - 1; omega,by show Int.tmod x1 (b.Floors + 1) - 1 < b.Floors; omega⟩,by simp only [Int.toNat_natCast]; omega⟩
  ·rw [decide_eq_false g]
   exact .inr ⟨_,rfl,out,⟨by omega,ho,hlo,hfl⟩,rfl⟩
 obtain ⟨_,h1,vs,h2,rfl⟩:=key
 refine ⟨vs,?_,h2⟩
 unfold ni2'
 have h1':nf4' ((l,(),([]:List View),(0:Int),()),((b.Floors,b.Debounce,b.Room,b.Park,b.Empty,b.Full,b.Over,b.Cars,()),()))=_:=h1
 rw [h1']
 rfl
end Go.Ovl
