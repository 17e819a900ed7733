/- Layer 10, the program's side: the binary search, what a record changes, images behind records. -/
import Derived.Test.YthdomhdippmaiaaGreatDoorOvB
import Derived.Test.YthdomhdippmaiaaGreatDoorOvA
import Derived.Test.YthdomhdippmaiaaGreatDoorDefs2
namespace Go.Ovl
open Go Go.Ab
set_option maxRecDepth 100000
def keyE (F D:Int):Entry:=⟨F,D,0,0,false⟩
theorem n3b' {i j:Nat} (h:i + j < 9223372036854775808):IntKind.i64.wrap (Int.fdiv (IntKind.u64.wrap (IntKind.i64.wrap ((i:Int) + (j:Int)))) ((2:Int) ^ (Min.min (Int.toNat (1:Int)) (IntKind.bits IntKind.u64))))=(((i + j) / 2:Nat):Int):=by
 rw [nb' (n:=(i:Int) + (j:Int)) (by omega) (by omega),nnn' (by omega) (by omega)]
 rw [show ((2:Int) ^ (Min.min (Int.toNat (1:Int)) (IntKind.bits IntKind.u64)))=2 from rfl]
 rw [Int.fdiv_eq_ediv_of_nonneg _ (by omega)]
 rw [nb' (by omega) (by omega)]
 omega
theorem n0b' {l:List Entry} (hs:nbc' l) (hl:l.length≤100000) (F D:Int) :
  nt' ((l,(),(),(l.length:Int),(0:Int),(l.length:Int),()),((F,D,0,0,false,()),()))=some ((l,(),(),(l.length:Int),((posF (keyE F D) l:Nat):Int),()),((F,D,0,0,false,()),())):=by
 refine n7t' (fun x y=>∃ i j:Nat,i≤posF (keyE F D) l∧posF (keyE F D) l≤j∧j≤l.length∧x=((l,(),(),(l.length:Int),(i:Int),(j:Int),()),((F,D,(0:Int),(0:Int),false,()),()))∧y=((l,(),(),(l.length:Int),((posF (keyE F D) l:Nat):Int),()),((F,D,(0:Int),(0:Int),false,()),()))) (fun x=>x.1.2.2.2.2.2.1.toNat - x.1.2.2.2.2.1.toNat) ?_ (x:=((l,(),(),(l.length:Int),(0:Int),(l.length:Int),()),((F,D,0,0,false,()),()))) (y:=((l,(),(),(l.length:Int),((posF (keyE F D) l:Nat):Int),()),((F,D,0,0,false,()),()))) ⟨0,l.length,Nat.zero_le _,nm3' _ _,Nat.le_refl _,rfl,rfl⟩ (by show ((l.length:Int).toNat - Int.toNat 0) < _; omega)
 rintro _ _ ⟨i,j,h1,h2,h3,rfl,rfl⟩
 show (∃ x',nv' l (l.length:Int) (i:Int) (j:Int) F D 0 0 false=_∧_)∨nv' l (l.length:Int) (i:Int) (j:Int) F D 0 0 false=_
 unfold nv'
 rw [n3b' (by omega)]
 by_cases hij:i < j
 ·left
  have hh:(i + j) / 2 < l.length:=by omega
  obtain ⟨n,c1,c2,_⟩:=nk9' (l.getD ((i + j) / 2) noE) (keyE F D)
  unfold keyE at c1
  unfold noE at c1
  simp only [decide_eq_true (show (i:Int) < (j:Int) by omega),nc' (show (0:Int)≤(((i + j) / 2:Nat):Int) by omega) (show (((i + j) / 2:Nat):Int) < (l.length:Int) by omega),Int.toNat_natCast,cond_true,c1,Option.bind_some]
  have c2':decide (n < 0)=lessE (l.getD ((i + j) / 2) noE) (keyE F D):=by rw [nq6',c2,Bool.not_not]
  rw [c2']
  cases hq:lessE (l.getD ((i + j) / 2) noE) (keyE F D) with
  | true=>
   have:(i + j) / 2 < posF (keyE F D) l:=by
    rcases Nat.lt_or_ge ((i + j) / 2) (posF (keyE F D) l) with h | h
    ·exact h
    ·have:=nvc' hs _ h hh
     rw [hq] at this; cases this
   rw [cond_true,show IntKind.i64.wrap ((((i + j) / 2:Nat):Int) + 1)=(((i + j) / 2 + 1:Nat):Int) by rw [nb' (by omega) (by omega)]; omega]
   exact ⟨_,rfl,⟨(i + j) / 2 + 1,j,by omega,h2,h3,rfl,trivial⟩,by show Int.toNat (j:Int) - Int.toNat (((i + j) / 2 + 1:Nat):Int) < Int.toNat (j:Int) - Int.toNat (i:Int); omega⟩
  | false=>
   have:posF (keyE F D) l≤(i + j) / 2:=by
    rcases Nat.lt_or_ge ((i + j) / 2) (posF (keyE F D) l) with h | h
    ·have:=nvd' (keyE F D) l _ h
     rw [hq] at this; cases this
    ·exact h
   rw [cond_false]
   exact ⟨_,rfl,⟨i,(i + j) / 2,h1,this,by omega,rfl,trivial⟩,by show Int.toNat (((i + j) / 2:Nat):Int) - Int.toNat (i:Int) < Int.toNat (j:Int) - Int.toNat (i:Int); omega⟩
 ·right
  rw [decide_eq_false (show ¬ (i:Int) < (j:Int) by omega),show i=posF (keyE F D) l by omega]
  rfl
theorem n0i' (m:Img) (hs:nbc' m.Entries) (hl:m.Entries.length≤100000) (F D:Int):nmr' m.Phases m.Flags m.Leaving m.Entries F D=some ((((posF (keyE F D) m.Entries:Nat):Int),hasF (keyE F D) m.Entries,()),()):=by
 unfold nmr' n5'
 simp only
 rw [n0b' hs hl F D]
 simp only [Option.bind_some]
 have hp:=nm3' (keyE F D) m.Entries
 unfold hasF
 by_cases h:posF (keyE F D) m.Entries < m.Entries.length
 ·obtain ⟨n,c1,_,c3⟩:=nk9' (m.Entries.getD (posF (keyE F D) m.Entries) noE) (keyE F D)
  rw [decide_eq_true (show ((posF (keyE F D) m.Entries:Nat):Int) < (m.Entries.length:Int) by omega),nc' (show (0:Int)≤((posF (keyE F D) m.Entries:Nat):Int) by omega) (show ((posF (keyE F D) m.Entries:Nat):Int) < (m.Entries.length:Int) by omega),Int.toNat_natCast,show Nat.blt (posF (keyE F D) m.Entries) m.Entries.length=true by rw [Nat.blt_eq]; exact h]
  have e:(n==0)=isC (keyE F D).Floor (keyE F D).Dir (m.Entries.getD (posF (keyE F D) m.Entries) noE):=by
   rw [Bool.eq_iff_iff,beq_iff_eq,c3]
   unfold isC
   rw [Bool.and_eq_true,beq_iff_eq,beq_iff_eq]
  rw [← e]
  generalize posF (keyE F D) m.Entries=p at *
  unfold noE at c1
  unfold keyE at c1
  simp only [cond_true,c1,Option.bind_some,Bool.true_and]
 ·rw [decide_eq_false (show ¬ ((posF (keyE F D) m.Entries:Nat):Int) < (m.Entries.length:Int) by omega),show Nat.blt (posF (keyE F D) m.Entries) m.Entries.length=false by rw [← Bool.not_eq_true,Nat.blt_eq]; exact h]
  rfl
theorem n5u' (x:Entry) (e:Entry):lessE x (keyE e.Floor e.Dir)=lessE x e:=rfl
theorem nnm' (e:Entry):∀ l:List Entry,posF (keyE e.Floor e.Dir) l=posF e l
 | []=>rfl
 | x :: t=>by simp only [posF,n5u',nnm' e t]
theorem nxn' {m:Img} (hs:nbc' m.Entries) (hl:m.Entries.length≤100000) (r:Record) (hc:(r.Kind=4∨r.Kind=5∨r.Kind=6)→0≤r.Car∧r.Car < (m.Phases.length:Int)∧r.Car < (m.Flags.length:Int)∧r.Car < (m.Leaving.length:Int)) :
  nk1' r.Kind r.Floor r.Dir r.Car r.Value m.Phases m.Flags m.Leaving m.Entries=some ((),((nbh' m r).tup,())):=by
 unfold nk1' nbh'
 rw [n0i' m hs hl]
 simp only [Option.bind_some]
 by_cases k4:r.Kind=4
 ·obtain ⟨c0,c1,c2,c3⟩:=hc (.inl k4)
  rw [k4]
  simp only [beq_self_eq_true,cond_true,nc' c0 c1]
  rfl
 rw [beq_f k4]
 by_cases k5:r.Kind=5
 ·obtain ⟨c0,c1,c2,c3⟩:=hc (.inr (.inl k5))
  rw [k5]
  simp only [beq_self_eq_true,cond_true,cond_false,nc' c0 c2]
  rfl
 rw [beq_f k5]
 by_cases k6:r.Kind=6
 ·obtain ⟨c0,c1,c2,c3⟩:=hc (.inr (.inr k6))
  rw [k6]
  simp only [beq_self_eq_true,cond_true,cond_false,nc' c0 c3]
  rfl
 rw [beq_f k6]
 simp only [cond_false]
 have hf:=nju' (c:=keyE r.Floor r.Dir) 0 hs
 simp only [Nat.zero_add] at hf
 rw [show findF r.Floor r.Dir m.Entries 0=_ from hf]
 have hp:=nm3' (keyE r.Floor r.Dir) m.Entries
 cases hq:hasF (keyE r.Floor r.Dir) m.Entries with
 | false=>
  have hn:=nwe' hs hq
  simp only [cond_false,cond_true,Bool.not_false,beq_self_eq_true]
  by_cases k1:r.Kind=1
  ·rw [k1]
   simp only [beq_self_eq_true,cond_true]
   unfold ncp' insF
   rw [decide_eq_true (show (0:Int)≤((posF (keyE r.Floor r.Dir) m.Entries:Nat):Int) by omega),decide_eq_true (show ((posF (keyE r.Floor r.Dir) m.Entries:Nat):Int)≤(m.Entries.length:Int) by omega)]
   rw [show Nat.blt 0 [Entry.mk r.Floor r.Dir (-1) 0 false].length=true from rfl,n2' (show m.Entries.length + [Entry.mk r.Floor r.Dir (-1) 0 false].length≤2147483648 by rw [List.length_singleton]; omega)]
   have hi:=npw' (c:=⟨r.Floor,r.Dir,-1,0,false⟩) (l:=m.Entries) hn
   rw [hi,show posF ⟨r.Floor,r.Dir,-1,0,false⟩ m.Entries=posF (keyE r.Floor r.Dir) m.Entries from (nnm' ⟨r.Floor,r.Dir,-1,0,false⟩ m.Entries).symm]
   rfl
  ·rw [beq_f k1]
   cases r.Kind==2 <;> cases r.Kind==3 <;> cases r.Kind==7 <;> rfl
 | true=>
  have hlt:posF (keyE r.Floor r.Dir) m.Entries < m.Entries.length:=by
   unfold hasF at hq
   rw [Bool.and_eq_true,Nat.blt_eq] at hq
   exact hq.1
  simp only [cond_true,Bool.not_true,cond_false,beq_f (show ¬ ((posF (keyE r.Floor r.Dir) m.Entries:Nat):Int)=-1 by omega),Int.toNat_natCast]
  generalize posF (keyE r.Floor r.Dir) m.Entries=p at hp hlt ⊢
  have w:IntKind.i64.wrap ((p:Int) + 1)=((p + 1:Nat):Int):=by rw [nb' (by omega) (by omega)]; omega
  have ib:inB (p:Int) m.Entries.length=true:=nc' (by omega) (by omega)
  by_cases k1:r.Kind=1
  ·simp only [k1,beq_self_eq_true,cond_true,cond_false,show ((1:Int)==2)=false from rfl,show ((1:Int)==3)=false from rfl,show ((1:Int)==7)=false from rfl]
   rfl
  rw [beq_f k1,cond_false]
  cases r.Kind==2 with
  | true=>
   unfold nco' delF
   simp only [cond_true,w,decide_eq_true (show (0:Int)≤(p:Int) by omega),decide_eq_true (show (p:Int) < ((p + 1:Nat):Int) by omega),decide_eq_true (show ((p + 1:Nat):Int)≤(m.Entries.length:Int) by omega),Bool.and_self,Option.bind_some,Int.toNat_natCast]
   rfl
  | false=>
   simp only [cond_false]
   cases r.Kind==3 with
   | true=>simp only [cond_true,ib]; rfl
   | false=>
    simp only [cond_false]
    cases r.Kind==7 with
    | true=>
     have ib2:∀ y:Entry,inB (p:Int) (m.Entries.set p y).length=true:=fun y=>nc' (by omega) (by rw [List.length_set]; omega)
     have hg:∀ y:Entry,(m.Entries.set p y).getD p (Entry.mk 0 0 0 0 false)=y:=fun y=>by
      simp [List.getD_eq_getElem?_getD,hlt]
     simp only [cond_true,ib,ib2,hg,List.set_set]
     rfl
    | false=>rfl
theorem nzk' {b:Bldg} (hb:b.small) (hcl:b.Cars.length≤100) (m:Img) (hp:m.Phases.length≤100000) (hl:m.Entries.length≤10000) (r:Record) :
  nit' b.Floors b.Debounce b.Room b.Park b.Empty b.Full b.Over b.Cars m.Phases m.Flags m.Leaving m.Entries r.Kind r.Floor r.Dir r.Car r.Value=some (nj6' b m r):=by
 have hmx:100000≤maxLen:=by decide
 unfold nit' nj6'
 rw [nd3' hb m (by omega) (by omega)]
 simp only [Option.bind_some]
 cases hok:m.ok b with
 | false=>rfl
 | true=>
  rw [ntu' hb hcl r]
  simp only [Bool.not_true,cond_false,Option.bind_some,Bool.true_and]
  cases hv:n0' b r with
  | false=>rfl
  | true=>
   have hm:=Img.ok_iff.1 hok
   have h1:=hm.lp
   have h2:=hm.lf
   have h3:=hm.ll
   simp only [Bool.not_true,cond_false,cond_true]
   rw [nzy' m hp (by omega) (by omega) (by omega)]
   simp only [Option.bind_some,Img.tup]
   rw [nxn' hm.so (by omega) r fun hk=>by
    have:=nml' hv hk
    omega]
   rfl
theorem roomW {a b:Nat} (h:a≤100000) (h':b≤100000):IntKind.i64.wrap (IntKind.i64.wrap (18 * IntKind.i64.wrap (IntKind.i64.wrap ((a:Int) + (b:Int)) + 1)) + 6)=18 * ((a:Int) + (b:Int) + 1) + 6:=by
 rw [nb' (n:=(a:Int) + (b:Int)) (by omega) (by omega),nb' (n:=(a:Int) + (b:Int) + 1) (by omega) (by omega),nb' (n:=18 * ((a:Int) + (b:Int) + 1)) (by omega) (by omega),nb' (by omega) (by omega)]
def roomV (b:Bldg) (m:Img):Bool:=m.ok b&&decide (18 * ((b.Cars.length:Int) + (m.Entries.length:Int) + 1) + 6≤b.Room)
theorem nz9' {b:Bldg} (hb:b.small) (m:Img) (hc:b.Cars.length≤100000) (hp:m.Phases.length≤100000) (hl:m.Entries.length≤100000) :
  nm2' b.Floors b.Debounce b.Room b.Park b.Empty b.Full b.Over b.Cars m.Phases m.Flags m.Leaving m.Entries=some ((roomV b m,()),()):=by
 have hmx:100000≤maxLen:=by decide
 unfold nm2' roomV
 rw [nd3' hb m (by omega) (by omega)]
 simp only [Option.bind_some,roomW hc hl]
 cases m.ok b <;> rfl
end Go.Ovl
namespace Go.Ovl
open Go Go.Ab
set_option maxRecDepth 100000
def allN (p:Nat→Bool):Nat→Nat→Bool
 | 0,_=>true
 | m + 1,i=>p i&&allN p m (i + 1)
theorem nc4' {X Y:Type} {step:X→Option (Sum X Y)} (N:Nat) (g:Nat→X) (p:Nat→Bool) (y0 y1:Y) (h1:∀ i,i < N→step (g i)=some (bif p i then .inl (g (i + 1)) else .inr y1)) (h2:step (g N)=some (.inr y0)) :
  ∀ m i:Nat,i + m=N→iter step (m + 1) (g i)=some (bif allN p m i then y0 else y1)
 | 0,i,hi=>by
  obtain rfl:i=N:=by omega
  exact ni' h2
 | m + 1,i,hi=>by
  have h:=h1 i (by omega)
  simp only [allN]
  cases hp:p i with
  | true=>
   rw [hp] at h
   rw [ns' h,Bool.true_and]
   exact nc4' N g p y0 y1 h1 h2 m (i + 1) (by omega)
  | false=>
   rw [hp] at h
   rw [ni' h]; rfl
theorem n1o' {α:Type} (f:α→α→Bool) (hf:∀ x y,f x y=true↔x=y) (d:α) (a b:List α) (hl:a.length=b.length):∀ m i:Nat,i + m=a.length→(allN (fun i=>f (a.getD i d) (b.getD i d)) m i=true↔a.drop i=b.drop i)
 | 0,i,hi=>by
  obtain rfl:i=a.length:=by omega
  rw [List.drop_length,hl,List.drop_length]
  exact ⟨fun _=>rfl,fun _=>rfl⟩
 | m + 1,i,hi=>by
  simp only [allN,Bool.and_eq_true,hf]
  rw [n1o' f hf d a b hl m (i + 1) (by omega),n3' d (show i < a.length by omega),n3' d (show i < b.length by omega),List.cons.injEq]
theorem n7p' {α:Type} (f:α→α→Bool) (hf:∀ x y,f x y=true↔x=y) (d:α) {a b:List α} (hl:a.length=b.length):allN (fun i=>f (a.getD i d) (b.getD i d)) a.length 0=@decide (a=b) (Classical.propDecidable _):=by
 rw [Bool.eq_iff_iff,n1o' f hf d a b hl a.length 0 (by omega)]
 simp
noncomputable def eqL {α:Type} (a b:List α):Bool:=@decide (a=b) (Classical.propDecidable _)
theorem new' {α:Type} {a b:List α} (h:¬ a.length=b.length):eqL a b=false:=by
 have:¬ a=b:=fun e=>h (by rw [e])
 unfold eqL
 simp [this]
theorem nzv' {α:Type} (a:List α):eqL a a=true:=by unfold eqL; simp
theorem ngq' {α:Type} (f:α→α→Bool) (hf:∀ x y,f x y=true↔x=y) (d:α) {a b:List α} (hl:a.length=b.length):allN (fun i=>f (a.getD i d) (b.getD i d)) a.length 0=eqL a b:=n7p' f hf d hl
theorem ngx' {α:Type} (a b:List α):((((a.length:Nat):Int) != ((b.length:Nat):Int))=true)↔¬ a.length=b.length:=by
 simp; omega
def eqEnt (x y:Entry):Bool:=(x.Floor==y.Floor)&&((x.Dir==y.Dir)&&((x.Car==y.Car)&&((x.Moves==y.Moves)&&((x.Moved==y.Moved)&&true))))
theorem nwb' (x y:Entry):eqEnt x y=true↔x=y:=by
 cases x; cases y
 simp [eqEnt]
def eqRec (x y:Record):Bool:=(x.Kind==y.Kind)&&((x.Floor==y.Floor)&&((x.Dir==y.Dir)&&((x.Car==y.Car)&&((x.Value==y.Value)&&true))))
theorem nwp' (x y:Record):eqRec x y=true↔x=y:=by
 cases x; cases y
 simp [eqRec]
theorem nlb' {α:Type} [BEq α] [LawfulBEq α] (x y:α):(x==y)=true↔x=y:=beq_iff_eq
def nr':Nat:=10000000
theorem wrap1 {i n:Nat} (h:i < n) (hn:n≤nr'):IntKind.i64.wrap ((i:Int) + 1)=((i + 1:Nat):Int):=by
 unfold nr' at hn
 rw [nb' (by omega) (by omega)]; omega
section
variable {α:Type}
theorem nnp' {a b:List Int} (ha:a.length≤nr'):ncs' a b=some ((eqL a b,()),()):=by
 unfold ncs'
 by_cases hl:a.length=b.length
 ·rw [show (((a.length:Nat):Int) != ((b.length:Nat):Int))=false by simp [hl],cond_false]
  have h:=nf' (nc4' (step:=fun x=>nb8' x.1.1 x.1.2.1 x.1.2.2.1 x.1.2.2.2.1) a.length (fun i=>((a,b,(a.length:Int),(i:Int),()),())) (fun i=>a.getD i 0==b.getD i 0) (Sum.inl ((),())) (Sum.inr ((false,()),())) (fun i hi=>by
   show nb8' a b (a.length:Int) (i:Int)=_
   unfold nb8'
   simp only [decide_eq_true (show (i:Int) < (a.length:Int) by omega),nc' (show (0:Int)≤(i:Int) by omega) (show (i:Int) < (a.length:Int) by omega),nc' (show (0:Int)≤(i:Int) by omega) (show (i:Int) < (b.length:Int) by omega),cond_true,Int.toNat_natCast,wrap1 hi ha,bne]
   cases a.getD i 0==b.getD i 0 <;> rfl) (by
   show nb8' a b (a.length:Int) (a.length:Int)=_
   unfold nb8'
   simp only [decide_eq_false (Int.lt_irrefl (a.length:Int)),cond_false]) a.length 0 (by omega)) (by unfold nr' at ha; omega)
  rw [ngq' (fun x y=>x==y) nlb' 0 hl] at h
  rw [show nc2' ((a,b,(a.length:Int),(0:Int),()),())=_ from h]
  cases eqL a b <;> rfl
 ·rw [(ngx' a b).2 hl,new' hl]; rfl
theorem nis' {a b:List Bool} (ha:a.length≤nr'):nb6' a b=some ((eqL a b,()),()):=by
 unfold nb6'
 by_cases hl:a.length=b.length
 ·rw [show (((a.length:Nat):Int) != ((b.length:Nat):Int))=false by simp [hl],cond_false]
  have h:=nf' (nc4' (step:=fun x=>nbz' x.1.1 x.1.2.1 x.1.2.2.1 x.1.2.2.2.1) a.length (fun i=>((a,b,(a.length:Int),(i:Int),()),())) (fun i=>a.getD i false==b.getD i false) (Sum.inl ((),())) (Sum.inr ((false,()),())) (fun i hi=>by
   show nbz' a b (a.length:Int) (i:Int)=_
   unfold nbz'
   simp only [decide_eq_true (show (i:Int) < (a.length:Int) by omega),nc' (show (0:Int)≤(i:Int) by omega) (show (i:Int) < (a.length:Int) by omega),nc' (show (0:Int)≤(i:Int) by omega) (show (i:Int) < (b.length:Int) by omega),cond_true,Int.toNat_natCast,wrap1 hi ha]
   cases a.getD i false==b.getD i false <;> rfl) (by
   show nbz' a b (a.length:Int) (a.length:Int)=_
   unfold nbz'
   simp only [decide_eq_false (Int.lt_irrefl (a.length:Int)),cond_false]) a.length 0 (by omega)) (by unfold nr' at ha; omega)
  rw [ngq' (fun x y=>x==y) nlb' false hl] at h
  rw [show ncu' ((a,b,(a.length:Int),(0:Int),()),())=_ from h]
  cases eqL a b <;> rfl
 ·rw [(ngx' a b).2 hl,new' hl]; rfl
theorem nqp' {a b:List Entry} (ha:a.length≤nr'):nca' a b=some ((eqL a b,()),()):=by
 unfold nca'
 by_cases hl:a.length=b.length
 ·rw [show (((a.length:Nat):Int) != ((b.length:Nat):Int))=false by simp [hl],cond_false]
  have h:=nf' (nc4' (step:=fun x=>n8' x.1.1 x.1.2.1 x.1.2.2.1 x.1.2.2.2.1) a.length (fun i=>((a,b,(a.length:Int),(i:Int),()),())) (fun i=>eqEnt (a.getD i noE) (b.getD i noE)) (Sum.inl ((),())) (Sum.inr ((false,()),())) (fun i hi=>by
   show n8' a b (a.length:Int) (i:Int)=_
   unfold n8' eqEnt noE
   simp only [decide_eq_true (show (i:Int) < (a.length:Int) by omega),nc' (show (0:Int)≤(i:Int) by omega) (show (i:Int) < (a.length:Int) by omega),nc' (show (0:Int)≤(i:Int) by omega) (show (i:Int) < (b.length:Int) by omega),cond_true,Int.toNat_natCast,wrap1 hi ha]
   generalize ((a.getD i (Entry.mk 0 0 0 0 false)).Floor==(b.getD i (Entry.mk 0 0 0 0 false)).Floor&&((a.getD i (Entry.mk 0 0 0 0 false)).Dir==(b.getD i (Entry.mk 0 0 0 0 false)).Dir&&((a.getD i (Entry.mk 0 0 0 0 false)).Car==(b.getD i (Entry.mk 0 0 0 0 false)).Car&&((a.getD i (Entry.mk 0 0 0 0 false)).Moves==(b.getD i (Entry.mk 0 0 0 0 false)).Moves&&((a.getD i (Entry.mk 0 0 0 0 false)).Moved==(b.getD i (Entry.mk 0 0 0 0 false)).Moved&&true)))))=q
   cases q <;> rfl) (by
   show n8' a b (a.length:Int) (a.length:Int)=_
   unfold n8'
   simp only [decide_eq_false (Int.lt_irrefl (a.length:Int)),cond_false]) a.length 0 (by omega)) (by unfold nr' at ha; omega)
  rw [ngq' eqEnt nwb' noE hl] at h
  rw [show nb3' ((a,b,(a.length:Int),(0:Int),()),())=_ from h]
  cases eqL a b <;> rfl
 ·rw [(ngx' a b).2 hl,new' hl]; rfl
end
structure Img.fit (m:Img):Prop where
 p:m.Phases.length≤100000
 f:m.Flags.length≤100000
 l:m.Leaving.length≤100000
 e:m.Entries.length≤100000
noncomputable def sameI (a c:Img):Bool:=eqL a.Phases c.Phases&&(eqL a.Flags c.Flags&&(eqL a.Leaving c.Leaving&&eqL a.Entries c.Entries))
theorem n2b' (a:Img):sameI a a=true:=by unfold sameI; simp [nzv']
theorem nz6' {a c:Img} (ha:a.fit):nmt' a.Phases a.Flags a.Leaving a.Entries c.Phases c.Flags c.Leaving c.Entries=some ((sameI a c,()),()):=by
 have h5:100000≤nr':=by decide
 unfold nmt' sameI
 rw [nnp' (by have:=ha.p; omega),nis' (by have:=ha.f; omega),nis' (by have:=ha.l; omega),nqp' (by have:=ha.e; omega)]
 cases eqL a.Phases c.Phases <;> cases eqL a.Flags c.Flags <;> cases eqL a.Leaving c.Leaving <;> rfl
section
variable {a c:Img} (ha:a.fit)
include ha
theorem nu8' (hl:a.Phases.length=c.Phases.length):nkn' (((),(),(0:Int),()),(a.tup,c.tup,()))=some (bif eqL a.Phases c.Phases then .inl (((),(),()),(a.tup,c.tup,())) else .inr ((false,()),())):=by
 have hs:=ha.p
 have h5:100000≤nr':=by decide
 have h:=nf' (nc4' (step:=fun x=>ngr' x.1.2.2.1 x.2.1.1 x.2.1.2.1 x.2.1.2.2.1 x.2.1.2.2.2.1 x.2.2.1.1 x.2.2.1.2.1 x.2.2.1.2.2.1 x.2.2.1.2.2.2.1) a.Phases.length (fun i=>(((),(),(i:Int),()),(a.tup,c.tup,()))) (fun i=>a.Phases.getD i 0==c.Phases.getD i 0) (Sum.inl (((),(),()),(a.tup,c.tup,()))) (Sum.inr ((false,()),())) (fun i hi=>by
  show ngr' (i:Int) a.Phases a.Flags a.Leaving a.Entries c.Phases c.Flags c.Leaving c.Entries=_
  unfold ngr'
  simp only [decide_eq_true (show (i:Int) < (a.Phases.length:Int) by omega),nc' (show (0:Int)≤(i:Int) by omega) (show (i:Int) < (a.Phases.length:Int) by omega),nc' (show (0:Int)≤(i:Int) by omega) (show (i:Int) < (c.Phases.length:Int) by omega),cond_true,Int.toNat_natCast,wrap1 hi (by omega),bne]
  cases a.Phases.getD i 0==c.Phases.getD i 0 <;> rfl) (by
  show ngr' (a.Phases.length:Int) a.Phases a.Flags a.Leaving a.Entries c.Phases c.Flags c.Leaving c.Entries=_
  unfold ngr'
  simp only [decide_eq_false (Int.lt_irrefl (a.Phases.length:Int)),cond_false]; rfl) a.Phases.length 0 (by omega)) (by omega)
 rw [ngq' (fun x y=>x==y) nlb' 0 hl] at h
 exact h
theorem nvn' (hl:a.Flags.length=c.Flags.length):nj9' (((),(),(0:Int),()),(a.tup,c.tup,()))=some (bif eqL a.Flags c.Flags then .inl (((),(),()),(a.tup,c.tup,())) else .inr ((false,()),())):=by
 have hs:=ha.f
 have h5:100000≤nr':=by decide
 have h:=nf' (nc4' (step:=fun x=>ngy' x.1.2.2.1 x.2.1.1 x.2.1.2.1 x.2.1.2.2.1 x.2.1.2.2.2.1 x.2.2.1.1 x.2.2.1.2.1 x.2.2.1.2.2.1 x.2.2.1.2.2.2.1) a.Flags.length (fun i=>(((),(),(i:Int),()),(a.tup,c.tup,()))) (fun i=>a.Flags.getD i false==c.Flags.getD i false) (Sum.inl (((),(),()),(a.tup,c.tup,()))) (Sum.inr ((false,()),())) (fun i hi=>by
  show ngy' (i:Int) a.Phases a.Flags a.Leaving a.Entries c.Phases c.Flags c.Leaving c.Entries=_
  unfold ngy'
  simp only [decide_eq_true (show (i:Int) < (a.Flags.length:Int) by omega),nc' (show (0:Int)≤(i:Int) by omega) (show (i:Int) < (a.Flags.length:Int) by omega),nc' (show (0:Int)≤(i:Int) by omega) (show (i:Int) < (c.Flags.length:Int) by omega),cond_true,Int.toNat_natCast,wrap1 hi (by omega)]
  cases a.Flags.getD i false==c.Flags.getD i false <;> rfl) (by
  show ngy' (a.Flags.length:Int) a.Phases a.Flags a.Leaving a.Entries c.Phases c.Flags c.Leaving c.Entries=_
  unfold ngy'
  simp only [decide_eq_false (Int.lt_irrefl (a.Flags.length:Int)),cond_false]; rfl) a.Flags.length 0 (by omega)) (by omega)
 rw [ngq' (fun x y=>x==y) nlb' false hl] at h
 exact h
theorem nv4' (hl:a.Leaving.length=c.Leaving.length):nky' (((),(),(0:Int),()),(a.tup,c.tup,()))=some (bif eqL a.Leaving c.Leaving then .inl (((),(),()),(a.tup,c.tup,())) else .inr ((false,()),())):=by
 have hs:=ha.l
 have h5:100000≤nr':=by decide
 have h:=nf' (nc4' (step:=fun x=>ngn' x.1.2.2.1 x.2.1.1 x.2.1.2.1 x.2.1.2.2.1 x.2.1.2.2.2.1 x.2.2.1.1 x.2.2.1.2.1 x.2.2.1.2.2.1 x.2.2.1.2.2.2.1) a.Leaving.length (fun i=>(((),(),(i:Int),()),(a.tup,c.tup,()))) (fun i=>a.Leaving.getD i false==c.Leaving.getD i false) (Sum.inl (((),(),()),(a.tup,c.tup,()))) (Sum.inr ((false,()),())) (fun i hi=>by
  show ngn' (i:Int) a.Phases a.Flags a.Leaving a.Entries c.Phases c.Flags c.Leaving c.Entries=_
  unfold ngn'
  simp only [decide_eq_true (show (i:Int) < (a.Leaving.length:Int) by omega),nc' (show (0:Int)≤(i:Int) by omega) (show (i:Int) < (a.Leaving.length:Int) by omega),nc' (show (0:Int)≤(i:Int) by omega) (show (i:Int) < (c.Leaving.length:Int) by omega),cond_true,Int.toNat_natCast,wrap1 hi (by omega)]
  cases a.Leaving.getD i false==c.Leaving.getD i false <;> rfl) (by
  show ngn' (a.Leaving.length:Int) a.Phases a.Flags a.Leaving a.Entries c.Phases c.Flags c.Leaving c.Entries=_
  unfold ngn'
  simp only [decide_eq_false (Int.lt_irrefl (a.Leaving.length:Int)),cond_false]; rfl) a.Leaving.length 0 (by omega)) (by omega)
 rw [ngq' (fun x y=>x==y) nlb' false hl] at h
 exact h
theorem nvy' (hl:a.Entries.length=c.Entries.length):nj1' (((),(),(0:Int),()),(a.tup,c.tup,()))=some (bif eqL a.Entries c.Entries then .inl ((),()) else .inr ((false,()),())):=by
 have hs:=ha.e
 have h5:100000≤nr':=by decide
 have h:=nf' (nc4' (step:=fun x=>ngh' x.1.2.2.1 x.2.1.1 x.2.1.2.1 x.2.1.2.2.1 x.2.1.2.2.2.1 x.2.2.1.1 x.2.2.1.2.1 x.2.2.1.2.2.1 x.2.2.1.2.2.2.1) a.Entries.length (fun i=>(((),(),(i:Int),()),(a.tup,c.tup,()))) (fun i=>eqEnt (a.Entries.getD i noE) (c.Entries.getD i noE)) (Sum.inl ((),())) (Sum.inr ((false,()),())) (fun i hi=>by
  show ngh' (i:Int) a.Phases a.Flags a.Leaving a.Entries c.Phases c.Flags c.Leaving c.Entries=_
  unfold ngh' eqEnt noE
  simp only [decide_eq_true (show (i:Int) < (a.Entries.length:Int) by omega),nc' (show (0:Int)≤(i:Int) by omega) (show (i:Int) < (a.Entries.length:Int) by omega),nc' (show (0:Int)≤(i:Int) by omega) (show (i:Int) < (c.Entries.length:Int) by omega),cond_true,Int.toNat_natCast,wrap1 hi (by omega)]
  generalize ((a.Entries.getD i (Entry.mk 0 0 0 0 false)).Floor==(c.Entries.getD i (Entry.mk 0 0 0 0 false)).Floor&&((a.Entries.getD i (Entry.mk 0 0 0 0 false)).Dir==(c.Entries.getD i (Entry.mk 0 0 0 0 false)).Dir&&((a.Entries.getD i (Entry.mk 0 0 0 0 false)).Car==(c.Entries.getD i (Entry.mk 0 0 0 0 false)).Car&&((a.Entries.getD i (Entry.mk 0 0 0 0 false)).Moves==(c.Entries.getD i (Entry.mk 0 0 0 0 false)).Moves&&((a.Entries.getD i (Entry.mk 0 0 0 0 false)).Moved==(c.Entries.getD i (Entry.mk 0 0 0 0 false)).Moved&&true)))))=q
  cases q <;> rfl) (by
  show ngh' (a.Entries.length:Int) a.Phases a.Flags a.Leaving a.Entries c.Phases c.Flags c.Leaving c.Entries=_
  unfold ngh'
  simp only [decide_eq_false (Int.lt_irrefl (a.Entries.length:Int)),cond_false]) a.Entries.length 0 (by omega)) (by omega)
 rw [ngq' eqEnt nwb' noE hl] at h
 exact h
theorem n0g':nmz' a.Phases a.Flags a.Leaving a.Entries c.Phases c.Flags c.Leaving c.Entries=some ((sameI a c,()),()):=by
 unfold nmz' sameI
 by_cases h0:a.Phases.length=c.Phases.length
 ·rw [show (((a.Phases.length:Nat):Int) != ((c.Phases.length:Nat):Int))=false by simp [h0],cond_false]
  by_cases h1:a.Flags.length=c.Flags.length
  ·rw [show (((a.Flags.length:Nat):Int) != ((c.Flags.length:Nat):Int))=false by simp [h1],cond_false]
   by_cases h2:a.Leaving.length=c.Leaving.length
   ·rw [show (((a.Leaving.length:Nat):Int) != ((c.Leaving.length:Nat):Int))=false by simp [h2],cond_false]
    by_cases h3:a.Entries.length=c.Entries.length
    ·rw [show (((a.Entries.length:Nat):Int) != ((c.Entries.length:Nat):Int))=false by simp [h3],cond_false]
     have l0:=nu8' ha (c:=c) h0
     have l1:=nvn' ha (c:=c) h1
     have l2:=nv4' ha (c:=c) h2
     have l3:=nvy' ha (c:=c) h3
     simp only [Img.tup] at l0 l1 l2 l3
     rw [l0]
     cases eqL a.Phases c.Phases
     ·rfl
     simp only [Option.bind_some,cond_true,Bool.true_and,l1]
     cases eqL a.Flags c.Flags
     ·rfl
     simp only [Option.bind_some,cond_true,Bool.true_and,l2]
     cases eqL a.Leaving c.Leaving
     ·rfl
     simp only [Option.bind_some,cond_true,Bool.true_and,l3]
     cases eqL a.Entries c.Entries <;> rfl
    ·rw [(ngx' _ _).2 h3,new' h3]; simp
   ·rw [(ngx' _ _).2 h2,new' h2]; simp
  ·rw [(ngx' _ _).2 h1,new' h1]; simp
 ·rw [(ngx' _ _).2 h0,new' h0]; simp
end
end Go.Ovl
namespace Go.Ovl
open Go Go.Ab
set_option maxRecDepth 100000
theorem noj' {α:Type} (f:Nat→List α):∀ (k i:Nat) (s:List α),foldN (fun i s=>s++f i) k i s=s++(List.range' i k).flatMap f
 | 0,i,s=>by simp [foldN]
 | k + 1,i,s=>by
  simp only [foldN]
  rw [noj' f k (i + 1),List.range'_succ,List.flatMap_cons,List.append_assoc]
theorem npr' {α β:Type} (f:α→List β) (d:α):∀ (l:List α) (i k:Nat),i + k=l.length→(List.range' i k).flatMap (fun i=>f (l.getD i d))=(l.drop i).flatMap f
 | l,i,0,h=>by
  obtain rfl:i=l.length:=by omega
  simp
 | l,i,k + 1,h=>by
  rw [List.range'_succ,List.flatMap_cons,npr' f d l (i + 1) k (by omega),n3' d (show i < l.length by omega),List.flatMap_cons]
section
variable {m:Img} (hf:m.fit)
include hf
end
section
variable {b:Bldg} (hb:b.small) {m:Img} (hf:m.fit)
include hb hf
end
theorem nmg' (m:Img):∀ (a c:List Record),nbn' m (a++c)=nbn' (nbn' m a) c
 | [],_=>rfl
 | r :: t,c=>by
  show nbn' (nbh' m r) (t++c)=nbn' (nbn' (nbh' m r) t) c
  exact nmg' (nbh' m r) t c
end Go.Ovl
namespace Go.Ovl
open Go Go.Ab
set_option maxRecDepth 100000
def powC (floor:Int):Int:=IntKind.u32.wrap (1 * 2 ^ min (Int.toNat floor) (IntKind.bits .u32))
def oneC (floor dir:Int):Int×Int:=
 bif inR 0 31 floor then (bif dir==1 then (powC floor,0) else bif dir==2 then (0,powC floor) else (0,0)) else (0,0)
theorem nu3' (floor dir:Int):nib' floor dir=some (((),()),(((oneC floor dir).1,(oneC floor dir).2,()),())):=by
 unfold nib' oneC inR
 by_cases g:floor < 0
 ·rw [decide_eq_true g,decide_eq_false (show ¬ 0≤floor by omega)]; rfl
 ·rw [decide_eq_false g,decide_eq_true (show 0≤floor by omega)]
  by_cases g':31 < floor
  ·rw [decide_eq_true g',decide_eq_false (show ¬ floor≤31 by omega)]; rfl
  ·rw [decide_eq_false g',decide_eq_true (show floor≤31 by omega)]
   have w:IntKind.u64.wrap floor=floor:=nnn' (by omega) (by omega)
   simp only [cond_false,w,decide_eq_true (show 0≤floor by omega),cond_true,Bool.and_self]
   cases dir==1 <;> cases dir==2 <;> rfl
def orC (a c:Int):Int:=vb (bv a ||| bv c)
def minC (a c:Int):Int:=vb (bv a &&& ~~~ bv c)
def ncl' (a c:Int×Int):Int×Int:=(orC a.1 c.1,orC a.2 c.2)
def nbf' (a c:Int×Int):Int×Int:=(minC a.1 c.1,minC a.2 c.2)
theorem nrg' (a c:Int×Int):nhp' a.1 a.2 c.1 c.2=some (((),()),(((ncl' a c).1,(ncl' a c).2,()),())):=by
 unfold nhp'
 rw [w_or,w_or]; rfl
theorem nqm' (a c:Int×Int):ni0' a.1 a.2 c.1 c.2=some (((),()),(((nbf' a c).1,(nbf' a c).2,()),())):=by
 unfold ni0'
 rw [np3',np3']; rfl
def bitC (c:Int×Int) (f:Nat) (d:Int):Bool:=bif d==1 then bitF c.1 f else bif d==2 then bitF c.2 f else false
def u32C (c:Int×Int):Prop:=(0≤c.1∧c.1 < 4294967296)∧(0≤c.2∧c.2 < 4294967296)
theorem nom' (a c:Int×Int):u32C (ncl' a c):=⟨nid' _,nid' _⟩
theorem nxe' (a c:Int×Int):u32C (nbf' a c):=⟨nid' _,nid' _⟩
theorem njn':u32C (0,0):=⟨⟨by decide,by decide⟩,⟨by decide,by decide⟩⟩
theorem nrr' (i:Nat):bitF 0 i=false:=by
 unfold bitF bv
 simp
theorem nes' (f:Nat) (d:Int):bitC (0,0) f d=false:=by
 unfold bitC
 simp only [nrr']
 cases d==1 <;> cases d==2 <;> rfl
theorem nfq' (a c:Int×Int) (f:Nat) (d:Int):bitC (ncl' a c) f d=(bitC a f d||bitC c f d):=by
 unfold bitC ncl' orC
 simp only [nrp',BitVec.getLsbD_or]
 cases d==1 <;> cases d==2 <;> rfl
theorem nd8' (a c:Int×Int) {f:Nat} (hf:f < 32) (d:Int):bitC (nbf' a c) f d=(bitC a f d&&!bitC c f d):=by
 unfold bitC nbf' minC
 simp only [nrp',BitVec.getLsbD_and,BitVec.getLsbD_not,hf,decide_true,Bool.true_and]
 cases d==1 <;> cases d==2 <;> rfl
theorem njl' {F D:Int} (hF:0≤F∧F < 32) (hD:D=1∨D=2) (f:Nat) {d:Int} (hd:d=1∨d=2):bitC (oneC F D) f d=decide (((f:Int),d)=(F,D)):=by
 have hp:bitF (powC F) f=decide (f=F.toNat):=n05' (k:=F.toNat) (by omega) f
 have e:decide (((f:Int),d)=(F,D))=(decide (f=F.toNat)&&decide (d=D)):=by
  rw [Bool.eq_iff_iff,Bool.and_eq_true,decide_eq_true_eq,decide_eq_true_eq,decide_eq_true_eq,Prod.mk.injEq]
  constructor
  ·rintro ⟨h1,h2⟩; exact ⟨by omega,h2⟩
  ·rintro ⟨h1,h2⟩; exact ⟨by omega,h2⟩
 rw [e]
 unfold oneC bitC
 rw [nba'.2 ⟨hF.1,show F≤31 by omega⟩]
 rcases hD with rfl | rfl <;> rcases hd with rfl | rfl
 ·simp [hp]
 ·simp [nrr']
 ·simp [nrr']
 ·simp [hp]
theorem noc' {a c:Int×Int} (ha:u32C a) (hc:u32C c) (h:∀ f:Nat,f < 32→∀ d:Int,(d=1∨d=2)→bitC a f d=bitC c f d):a=c:=by
 have h1:a.1=c.1:=n1c' ha.1 hc.1 fun i hi=>h i hi 1 (.inl rfl)
 have h2:a.2=c.2:=n1c' ha.2 hc.2 fun i hi=>h i hi 2 (.inr rfl)
 exact Prod.ext h1 h2
def callE (e:Entry):Prop:=(0≤e.Floor∧e.Floor < 32)∧(e.Dir=1∨e.Dir=2)
def ofC:List Entry→Int×Int→Int×Int
 | [],c=>c
 | e :: t,c=>ofC t (ncl' c (oneC e.Floor e.Dir))
theorem nrv':∀ (l:List Entry) {c:Int×Int},u32C c→u32C (ofC l c)
 | [],_,h=>h
 | _ :: t,_,_=>nrv' t (nom' _ _)
theorem nvh':∀ {l:List Entry} {c:Int×Int},(∀ e ∈ l,callE e)→∀ (f:Nat) {d:Int},(d=1∨d=2)→(bitC (ofC l c) f d=true↔bitC c f d=true∨((f:Int),d) ∈ l.map nbx')
 | [],_,_,f,d,_=>by simp [ofC]
 | e :: t,c,h,f,d,hd=>by
  have he:=h e (List.mem_cons_self ..)
  simp only [ofC]
  rw [nvh' (fun x hx=>h x (List.mem_cons_of_mem _ hx)) f hd,nfq',njl' he.1 he.2 f hd,Bool.or_eq_true,decide_eq_true_eq,List.map_cons,List.mem_cons]
  show (_∨_=(e.Floor,e.Dir))∨_↔_∨_=(e.Floor,e.Dir)∨_
  exact or_assoc
theorem nts' {c:Int×Int} (hc:u32C c) {f:Nat} (hf:f < 32) {d:Int} (hd:d=1∨d=2):njo' c.1 c.2 (f:Int) d=some ((bitC c f d,()),()):=by
 have w:IntKind.u64.wrap (f:Int)=(f:Int):=nnn' (by omega) (by omega)
 have t1:=nst' hc.1 hf
 have t2:=nst' hc.2 hf
 unfold njo' bitC
 rw [decide_eq_false (show ¬ (f:Int) < 0 by omega),decide_eq_false (show ¬ (31:Int) < (f:Int) by omega)]
 simp only [cond_false,w,decide_eq_true (show (0:Int)≤(f:Int) by omega),cond_true,Int.toNat_natCast,nni',t1,t2]
 rcases hd with rfl | rfl
 ·simp only [beq_self_eq_true,cond_true,show ((1:Int)==2)=false from rfl,cond_false]
  cases bitF c.1 f <;> rfl
 ·simp only [show ((2:Int)==1)=false from rfl,cond_false,beq_self_eq_true,cond_true,Option.bind_some]
def nc6' (c:Int×Int) (f:Nat):List Entry:=(bif bitC c f 1 then [⟨(f:Int),1,-1,0,false⟩] else [])++(bif bitC c f 2 then [⟨(f:Int),2,-1,0,false⟩] else [])
theorem nuu' (c:Int×Int) (f:Nat):(nc6' c f).length≤2:=by
 unfold nc6'
 cases bitC c f 1 <;> cases bitC c f 2 <;> simp
theorem n2c' {c:Int×Int} (hc:u32C c) {f:Nat} (hf:f < 32) {out:List Entry} (ho:out.length≤1000):nko' (((),out,(f:Int),(1:Int),()),((c.1,c.2,()),()))=some (((),out++nc6' c f,(f:Int),()),((c.1,c.2,()),())):=by
 have b1:∀ (l:List Entry) (e:Entry),l.length≤1001→Nat.ble (l.length + [e].length) 2147483648=true:=fun l e h=>n2' (by rw [List.length_singleton]; omega)
 have r:∀ (l:List Entry) (d:Int),l.length≤1001→(d=1∨d=2)→nkk' l (f:Int) d c.1 c.2=some (.inl (((),l++(bif bitC c f d then [⟨(f:Int),d,-1,0,false⟩] else []),(f:Int),d + 1,()),((c.1,c.2,()),()))):=fun l d hl hd=>by
  unfold nkk'
  rw [decide_eq_true (show d≤2 by omega),nts' hc hf hd,nb' (n:=d + 1) (by omega) (by omega)]
  simp only [cond_true,Option.bind_some,b1 l _ hl]
  cases bitC c f d
  ·simp
  ·rfl
 have h:iter (fun x=>nkk' x.1.2.1 x.1.2.2.1 x.1.2.2.2.1 x.2.1.1 x.2.1.2.1) 3 (((),out,(f:Int),(1:Int),()),((c.1,c.2,()),()))=some (((),out++nc6' c f,(f:Int),()),((c.1,c.2,()),())):=by
  refine (ns' (r out 1 (by omega) (.inl rfl))).trans ?_
  refine (ns' (r _ 2 ?_ (.inr rfl))).trans ?_
  ·rw [List.length_append]
   cases bitC c f 1 <;> simp <;> omega
  ·rw [List.append_assoc]
   exact ni' rfl
 exact nf' h (by omega)
def listC (c:Int×Int):List Entry:=(List.range' 0 32).flatMap (nc6' c)
theorem npx' {c:Int×Int} {f:Nat} {p:Int×Int}:p ∈ (nc6' c f).map nbx'↔p.1=(f:Int)∧(p.2=1∨p.2=2)∧bitC c f p.2=true:=by
 obtain ⟨a,d⟩:=p
 unfold nc6'
 rw [List.map_append,List.mem_append]
 have h:∀ D:Int,(a,d) ∈ (bif bitC c f D then [Entry.mk (f:Int) D (-1) 0 false] else []).map nbx'↔a=(f:Int)∧d=D∧bitC c f D=true:=fun D=>by
  cases bitC c f D <;> simp [nbx']
 rw [h,h]
 constructor
 ·rintro (⟨h1,rfl,h3⟩ | ⟨h1,rfl,h3⟩)
  ·exact ⟨h1,.inl rfl,h3⟩
  ·exact ⟨h1,.inr rfl,h3⟩
 ·rintro ⟨h1,h2,h3⟩
  simp only at h1 h2 h3
  rcases h2 with rfl | rfl
  ·exact .inl ⟨h1,rfl,h3⟩
  ·exact .inr ⟨h1,rfl,h3⟩
theorem mem_range {c:Int×Int} {p:Int×Int} {i k:Nat}:p ∈ ((List.range' i k).flatMap (nc6' c)).map nbx'↔∃ f:Nat,(i≤f∧f < i + k)∧p.1=(f:Int)∧(p.2=1∨p.2=2)∧bitC c f p.2=true:=by
 constructor
 ·intro h
  obtain ⟨e,he,rfl⟩:=List.mem_map.1 h
  obtain ⟨f,hf,he⟩:=List.mem_flatMap.1 he
  exact ⟨f,List.mem_range'_1.1 hf,npx'.1 (List.mem_map.2 ⟨e,he,rfl⟩)⟩
 ·rintro ⟨f,hf,h⟩
  obtain ⟨e,he,h2⟩:=List.mem_map.1 (npx'.2 h)
  exact List.mem_map.2 ⟨e,List.mem_flatMap.2 ⟨f,List.mem_range'_1.2 hf,he⟩,h2⟩
theorem nrd' (c:Int×Int):∀ k i:Nat,nbc' ((List.range' i k).flatMap (nc6' c))
 | 0,i=>by simp [nbc']
 | k + 1,i=>by
  unfold nbc'
  rw [List.range'_succ,List.flatMap_cons,List.map_append,List.pairwise_append]
  refine ⟨?_,nrd' c k (i + 1),fun p hp q hq=>?_⟩
  ·unfold nc6'
   cases bitC c i 1 <;> cases bitC c i 2 <;> simp [nbx',ltC]
  ·have h1:=npx'.1 hp
   obtain ⟨f,hf,h2,_⟩:=mem_range.1 hq
   left
   rw [h1.1,h2]
   omega
end Go.Ovl
namespace Go.Ovl
open Go Go.Ab
set_option maxRecDepth 100000
theorem nns' (floor dir:Int):nhn' floor dir=some (((),()),(((oneC floor dir).1,(oneC floor dir).2,()),())):=by
 unfold nhn' oneC inR
 by_cases g:0≤floor
 ·by_cases g':floor < 32
  ·rw [decide_eq_true g,decide_eq_true g',decide_eq_true (show floor≤31 by omega)]
   simp only [cond_true,Option.bind_some,Bool.and_self,decide_eq_true g]
   cases dir==1 <;> cases dir==2 <;> rfl
  ·rw [decide_eq_true g,decide_eq_false g',decide_eq_false (show ¬ floor≤31 by omega)]; rfl
 ·rw [decide_eq_false g]; rfl
theorem nij' (a c:Int×Int):nen' a.1 a.2 c.1 c.2=some (((),()),(((ncl' a c).1,(ncl' a c).2,()),())):=by
 unfold nen'
 rw [w_or,w_or]; rfl
theorem nld' (a c:Int×Int):nfk' a.1 a.2 c.1 c.2=some (((),()),(((nbf' a c).1,(nbf' a c).2,()),())):=by
 unfold nfk'
 rw [np3',np3']; rfl
def bothC (a c:Int×Int):Int×Int:=(vb (bv a.1 &&& bv c.1),vb (bv a.2 &&& bv c.2))
theorem nnt' (a c:Int×Int):u32C (bothC a c):=⟨nid' _,nid' _⟩
theorem nmc' (a c:Int×Int):neb' a.1 a.2 c.1 c.2=some (((),()),(((bothC a c).1,(bothC a c).2,()),())):=by
 unfold neb'
 rw [w_and,w_and]; rfl
theorem nou' (a c:Int×Int):nku' a.1 a.2 c.1 c.2=some (((),()),(((bothC a c).1,(bothC a c).2,()),())):=by
 unfold nku'
 rw [w_and,w_and]; rfl
theorem nl2' (a c:Int×Int) (f:Nat) (d:Int):bitC (bothC a c) f d=(bitC a f d&&bitC c f d):=by
 unfold bitC bothC
 simp only [nrp',BitVec.getLsbD_and]
 cases d==1 <;> cases d==2 <;> rfl
def isZ (c:Int×Int):Bool:=(c.1==0)&&((c.2==0)&&true)
theorem nve' {c:Int×Int} (hc:u32C c):isZ c=true↔∀ f:Nat,f < 32→∀ d:Int,(d=1∨d=2)→bitC c f d=false:=by
 constructor
 ·intro h f _ d _
  unfold isZ at h
  simp only [Bool.and_eq_true,beq_iff_eq] at h
  obtain ⟨h1,h2,_⟩:=h
  rw [show c=(0,0) from Prod.ext h1 h2,nes']
 ·intro h
  have:c=(0,0):=noc' hc njn' fun f hf d hd=>by rw [h f hf d hd,nes']
  rw [this]; rfl
theorem nre' (c:Int×Int) {F D:Int} (hF:0≤F∧F < 32) (hD:D=1∨D=2):ndi' c.1 c.2 F D=some ((bitC c F.toNat D,()),()):=by
 unfold ndi'
 rw [nns']
 simp only [Option.bind_some]
 rw [nmc' c (oneC F D)]
 simp only [Option.bind_some]
 show some ((!(isZ (bothC c (oneC F D))),()),())=_
 have e:isZ (bothC c (oneC F D))=!bitC c F.toNat D:=by
  cases h:bitC c F.toNat D with
  | false=>
   refine (nve' (nnt' _ _)).2 fun f hf d hd=>?_
   rw [nl2',njl' hF hD f hd]
   by_cases g:((f:Int),d)=(F,D)
   ·obtain ⟨h1,h2⟩:=Prod.mk.inj g
    rw [show f=F.toNat by omega,h2,h]; rfl
   ·rw [decide_eq_false g,Bool.and_false]
  | true=>
   cases hz:isZ (bothC c (oneC F D)) with
   | false=>rfl
   | true=>
    have:=(nve' (nnt' _ _)).1 hz F.toNat (by omega) D hD
    rw [nl2',njl' hF hD F.toNat hD,h,decide_eq_true (show (((F.toNat:Nat):Int),D)=(F,D) by rw [Int.toNat_of_nonneg hF.1])] at this
    cases this
 rw [e,Bool.not_not]
theorem n2p' {c:Int×Int} (hc:u32C c) {F D:Int} (hF:0≤F∧F < 32) (hD:D=1∨D=2):njo' c.1 c.2 F D=some ((bitC c F.toNat D,()),()):=by
 have h:=nts' hc (f:=F.toNat) (by omega) hD
 rw [Int.toNat_of_nonneg hF.1] at h
 exact h
def hallC (b:Bldg):Int×Int:=(IntKind.u32.wrap (IntKind.u32.wrap (1 * 2 ^ min (Int.toNat (b.Floors - 1)) (IntKind.bits .u32)) - 1),IntKind.u32.wrap (IntKind.u32.wrap (IntKind.u32.wrap (1 * 2 ^ min (Int.toNat (b.Floors - 1)) (IntKind.bits .u32)) - 1) * 2 ^ min (Int.toNat (1:Int)) (IntKind.bits .u32)))
theorem nn3' {b:Bldg} (hb:b.small) (hcode:b.code=0):nfp' b.Floors b.Debounce b.Room b.Park b.Empty b.Full b.Over b.Cars=some (((),()),(((hallC b).1,(hallC b).2,()),())):=by
 have lo:=hb.lo
 have hi:=hb.hi
 unfold nfp' hallC
 rw [ncr',hcode]
 simp only [Option.bind_some,bne_self_eq_false,cond_false,nb' (n:=b.Floors - 1) (by omega) (by omega),decide_eq_true (show 0≤b.Floors - 1 by omega),cond_true]
def hallU (n:Nat):Int:=IntKind.u32.wrap (IntKind.u32.wrap (1 * 2 ^ min n (IntKind.bits .u32)) - 1)
theorem n6n':((List.range 9).all fun n=>(List.range 32).all fun i=>(bitF (hallU n) i==decide (i < n))&&(bitF (IntKind.u32.wrap (hallU n * 2 ^ min (Int.toNat 1) (IntKind.bits .u32))) i==(decide (1≤i)&&decide (i≤n))))=true:=by kernel_rfl
theorem n7m' (b:Bldg):u32C (hallC b):=by
 have k:∀ n:Int,0≤IntKind.u32.wrap n∧IntKind.u32.wrap n < 4294967296:=fun n=>by
  simp only [IntKind.wrap,IntKind.signed,IntKind.bits]
  simp
  omega
 exact ⟨k _,k _⟩
theorem ns7' {b:Bldg} (hb:b.small) (hcode:b.code=0) {f:Nat} (hf:f < 32) {d:Int} (hd:d=1∨d=2):bitC (hallC b) f d=nh' b (f:Int) d:=by
 have lo:=hb.lo
 have hi:=hb.hi
 have t:=List.all_eq_true.1 (List.all_eq_true.1 n6n' (b.Floors - 1).toNat (List.mem_range.2 (by omega))) f (List.mem_range.2 hf)
 rw [Bool.and_eq_true,beq_iff_eq,beq_iff_eq] at t
 unfold nh' callB
 rw [hcode]
 rcases hd with rfl | rfl
 ·have e:bitC (hallC b) f 1=bitF (hallU (b.Floors - 1).toNat) f:=rfl
  rw [e,t.1]
  unfold inR
  rw [decide_eq_true (show (0:Int)≤(f:Int) by omega)]
  by_cases g:f < (b.Floors - 1).toNat
  ·rw [decide_eq_true g,decide_eq_true (show (f:Int)≤b.Floors - 2 by omega)]; rfl
  ·rw [decide_eq_false g,decide_eq_false (show ¬ (f:Int)≤b.Floors - 2 by omega)]; rfl
 ·have e:bitC (hallC b) f 2=bitF (IntKind.u32.wrap (hallU (b.Floors - 1).toNat * 2 ^ min (Int.toNat 1) (IntKind.bits .u32))) f:=rfl
  rw [e,t.2]
  unfold inR
  by_cases g:1≤f
  ·rw [decide_eq_true g,decide_eq_true (show (1:Int)≤(f:Int) by omega)]
   by_cases g':f≤(b.Floors - 1).toNat
   ·rw [decide_eq_true g',decide_eq_true (show (f:Int)≤b.Floors - 1 by omega)]; rfl
   ·rw [decide_eq_false g',decide_eq_false (show ¬ (f:Int)≤b.Floors - 1 by omega)]; rfl
  ·rw [decide_eq_false g,decide_eq_false (show ¬ (1:Int)≤(f:Int) by omega)]; rfl
def hallS (b:Bldg) (i:Nat) (s:Int×Int):Int×Int:=(bif nh' b (i:Int) 1 then orC s.1 (powC (i:Int)) else s.1,bif nh' b (i:Int) 2 then orC s.2 (powC (i:Int)) else s.2)
theorem nsn' {b:Bldg} (hb:b.small) (hcode:b.code=0):nj8' b.Floors b.Debounce b.Room b.Park b.Empty b.Full b.Over b.Cars=some (((),()),(((hallC b).1,(hallC b).2,()),())):=by
 have h:=nfw' (step:=fun x=>ngf' x.1.2.2.2.1 x.2.1.1 x.2.1.2.1 x.2.1.2.2.1 x.2.1.2.2.2.1 x.2.1.2.2.2.2.1 x.2.1.2.2.2.2.2.1 x.2.1.2.2.2.2.2.2.1 x.2.1.2.2.2.2.2.2.2.1 x.2.2.1.1 x.2.2.1.2.1 x.2.2.2.1.1 x.2.2.2.1.2.1) 32 (fun i (s:Int×Int)=>(((),(),(),(i:Int),()),(b.tup,((0:Int),(0:Int),()),(s.1,s.2,()),()))) (hallS b)
  (fun i s=>u32C s∧∀ f:Nat,f < 32→∀ d:Int,(d=1∨d=2)→bitC s f d=(decide (f < i)&&nh' b (f:Int) d)) (fun s=>(((),(),()),(((0:Int),(0:Int),()),(s.1,s.2,()),()))) (fun i s hi hs=>by
  have w:IntKind.u64.wrap (i:Int)=(i:Int):=nnn' (by omega) (by omega)
  have hp:∀ j,bitF (powC (i:Int)) j=decide (j=i):=fun j=>n05' (k:=i) hi j
  refine ⟨?_,⟨?_,?_⟩,fun f hf d hd=>?_⟩
  ·show ngf' (i:Int) b.Floors b.Debounce b.Room b.Park b.Empty b.Full b.Over b.Cars 0 0 s.1 s.2=_
   unfold ngf' hallS
   rw [nhd' hb,decide_eq_true (show (i:Int) < 32 by omega)]
   simp only [Option.bind_some,cond_true,w,decide_eq_true (show (0:Int)≤(i:Int) by omega),w_or]
   cases nh' b (i:Int) 1 with
   | true=>
    simp only [cond_true,Option.bind_some,nhd' hb,w,decide_eq_true (show (0:Int)≤(i:Int) by omega),nb' (n:=(i:Int) + 1) (by omega) (by omega)]
    cases nh' b (i:Int) 2 <;> rfl
   | false=>
    simp only [cond_false,Option.bind_some,nhd' hb,w,decide_eq_true (show (0:Int)≤(i:Int) by omega),cond_true,nb' (n:=(i:Int) + 1) (by omega) (by omega)]
    cases nh' b (i:Int) 2 <;> rfl
  ·unfold hallS
   cases nh' b (i:Int) 1
   ·exact hs.1.1
   ·exact nid' _
  ·unfold hallS
   cases nh' b (i:Int) 2
   ·exact hs.1.2
   ·exact nid' _
  ·have hk:=hs.2 f hf d hd
   have dk:decide (f < i + 1)=(decide (f < i)||decide (f=i)):=by
    rw [Bool.eq_iff_iff,Bool.or_eq_true,decide_eq_true_eq,decide_eq_true_eq,decide_eq_true_eq]; omega
   rw [dk]
   rcases hd with rfl | rfl
   ·have e:bitC (hallS b i s) f 1=bitF (bif nh' b (i:Int) 1 then orC s.1 (powC (i:Int)) else s.1) f:=rfl
    have hk':bitF s.1 f=_:=hk
    rw [e]
    cases hc:nh' b (i:Int) 1 with
    | true=>
     rw [cond_true]
     unfold orC
     rw [nrp',BitVec.getLsbD_or]
     show (bitF s.1 f||bitF (powC (i:Int)) f)=_
     rw [hk',hp]
     by_cases g:f=i
     ·subst g; rw [hc]; simp
     ·rw [decide_eq_false g]; simp
    | false=>
     rw [cond_false,hk']
     by_cases g:f=i
     ·subst g; rw [hc]; simp
     ·rw [decide_eq_false g]; simp
   ·have e:bitC (hallS b i s) f 2=bitF (bif nh' b (i:Int) 2 then orC s.2 (powC (i:Int)) else s.2) f:=rfl
    have hk':bitF s.2 f=_:=hk
    rw [e]
    cases hc:nh' b (i:Int) 2 with
    | true=>
     rw [cond_true]
     unfold orC
     rw [nrp',BitVec.getLsbD_or]
     show (bitF s.2 f||bitF (powC (i:Int)) f)=_
     rw [hk',hp]
     by_cases g:f=i
     ·subst g; rw [hc]; simp
     ·rw [decide_eq_false g]; simp
    | false=>
     rw [cond_false,hk']
     by_cases g:f=i
     ·subst g; rw [hc]; simp
     ·rw [decide_eq_false g]; simp) (fun s _=>by
  show ngf' 32 b.Floors b.Debounce b.Room b.Park b.Empty b.Full b.Over b.Cars 0 0 s.1 s.2=_
  unfold ngf'
  rw [show decide ((32:Int) < 32)=false from rfl]; rfl) 32 0 (0,0) (by omega) ⟨njn',fun f _ d _=>by rw [nes']; simp⟩
 have h':=nf' h.1 (by omega)
 have hall:foldN (hallS b) 32 0 (0,0)=hallC b:=noc' h.2.1 (n7m' b) fun f hf d hd=>by
  rw [h.2.2 f hf d hd,ns7' hb hcode hf hd,decide_eq_true hf,Bool.true_and]
 rw [hall] at h'
 unfold nj8'
 simp only [Bldg.tup] at h'
 rw [show nj5' (((),(),(),(0:Int),()),((b.Floors,b.Debounce,b.Room,b.Park,b.Empty,b.Full,b.Over,b.Cars,()),((0:Int),(0:Int),()),((0:Int),(0:Int),()),()))=_ from h']
 rfl
def nbd' (b:Bldg) (v:View):Int×Int:=bif v.Serving then bothC (v.Shows_Up,v.Shows_Down) (hallC b) else (0,0)
theorem n2i' (b:Bldg) (v:View):u32C (nbd' b v):=by
 unfold nbd'
 cases v.Serving
 ·exact njn'
 ·exact nnt' _ _
theorem nmk' {b:Bldg} (hb:b.small) (hcode:b.code=0) (v:View):ne2' b.Floors b.Debounce b.Room b.Park b.Empty b.Full b.Over b.Cars v.Ready v.Serving v.Legacy v.Lost v.Floor v.Dir v.Load v.Shows_Up v.Shows_Down v.Stops_Car v.Stops_Hall_Up v.Stops_Hall_Down=some (((),()),(((nbd' b v).1,(nbd' b v).2,()),())):=by
 unfold ne2' nbd'
 cases v.Serving with
 | false=>rfl
 | true=>
  rw [nn3' hb hcode]
  simp only [Bool.not_true,cond_false,Option.bind_some,cond_true]
  rw [nmc' (v.Shows_Up,v.Shows_Down) (hallC b)]
  rfl
theorem np6' {b:Bldg} (hb:b.small) (hcode:b.code=0) (v:View):nia' b.Floors b.Debounce b.Room b.Park b.Empty b.Full b.Over b.Cars v.Ready v.Serving v.Legacy v.Lost v.Floor v.Dir v.Load v.Shows_Up v.Shows_Down v.Stops_Car v.Stops_Hall_Up v.Stops_Hall_Down=some (((),()),(((nbd' b v).1,(nbd' b v).2,()),())):=by
 unfold nia' nbd'
 cases v.Serving with
 | false=>rfl
 | true=>
  rw [nsn' hb hcode]
  simp only [Bool.not_true,cond_false,Option.bind_some,cond_true]
  rw [nou' (v.Shows_Up,v.Shows_Down) (hallC b)]
  rfl
theorem nsp' {c:Int×Int} (hc:u32C c):nmx' c.1 c.2=some ((listC c,()),()):=by
 have h:=nfw' (step:=fun x=>nks' x.1.2.1 x.1.2.2.1 x.2.1.1 x.2.1.2.1) 32 (fun f out=>(((),out,(f:Int),()),((c.1,c.2,()),()))) (fun f out=>out++nc6' c f) (fun f out=>out.length≤2 * f) (fun out=>((out,()),())) (fun f out hf ho=>by
  have:=nuu' c f
  refine ⟨?_,by rw [List.length_append]; omega⟩
  show nks' out (f:Int) c.1 c.2=_
  unfold nks'
  rw [decide_eq_true (show (f:Int) < 32 by omega),n2c' hc hf (by omega)]
  simp only [cond_true,Option.bind_some,nb' (n:=(f:Int) + 1) (by omega) (by omega)]
  rfl) (fun out _=>rfl) 32 0 [] (by omega) (by simp)
 have h':=nf' h.1 (by omega)
 rw [noj',List.nil_append] at h'
 unfold nmx'
 rw [show nkm' (((),([]:List Entry),(0:Int),()),((c.1,c.2,()),()))=_ from h']
 rfl
theorem nuc' {c:Int×Int} (h:Int→Int→Option ((Bool×Unit)×Unit)) (hh:∀ f:Nat,f < 32→∀ d:Int,(d=1∨d=2)→h (f:Int) d=some ((bitC c f d,()),())):∀ k i:Nat,i + k≤32→collO h (fun f d=>Entry.mk f d (-1) 0 false) ((List.range' i k).flatMap fun f:Nat=>[((f:Int),1),((f:Int),2)])=some ((List.range' i k).flatMap (nc6' c))
 | 0,_,_=>rfl
 | k + 1,i,hk=>by
  rw [List.range'_succ,List.flatMap_cons,List.flatMap_cons]
  show collO h _ (((i:Int),1) :: ((i:Int),2) :: ((List.range' (i + 1) k).flatMap fun f:Nat=>[((f:Int),1),((f:Int),2)]))=_
  simp only [collO]
  rw [hh i (by omega) 1 (.inl rfl),hh i (by omega) 2 (.inr rfl),nuc' h hh k (i + 1) (by omega)]
  unfold nc6'
  cases bitC c i 1 <;> cases bitC c i 2 <;> rfl
theorem nxq' (c:Int×Int):nj7' c.1 c.2=some ((listC c,()),()):=by
 unfold nj7' lstF
 have e:pairs64=(List.range' 0 32).flatMap fun f:Nat=>[((f:Int),1),((f:Int),2)]:=by
  unfold pairs64
  rw [List.range_eq_range']
 have h:=nuc' (c:=c) (fun f d=>ndi' c.1 c.2 f d) (fun f hf d hd=>by
  have h:=nre' c (F:=(f:Int)) (D:=d) ⟨by omega,by omega⟩ hd
  rw [Int.toNat_natCast] at h
  exact h) 32 0 (by omega)
 rw [e,h]
 rfl
end Go.Ovl
namespace Go.Ovl
open Go Go.Ab
set_option maxRecDepth 100000
def chkTz (s:Nat):Option ((Int×Unit)×Unit)→Bool
 | some ((k,_),_)=>Nat.beq s 0||(decide (0≤k)&&(decide (k < 8)&&(s.testBit k.toNat&&(List.range 8).all fun i=>Nat.ble k.toNat i||!s.testBit i)))
 | none=>false
def n4o' (s:Nat):Option ((Int×Unit)×Unit)→Bool
 | some ((k,_),_)=>Nat.beq s 0||(decide (1≤k)&&(decide (k≤8)&&(s.testBit (k.toNat - 1)&&(List.range 8).all fun i=>Nat.blt i k.toNat||!s.testBit i)))
 | none=>false
def ones8 (s:Nat):Nat:=(List.range 8).foldl (fun n i=>n + (s.testBit i).toNat) 0
def n1m' (s:Nat):Option ((Int×Unit)×Unit)→Bool
 | some ((k,_),_)=>k==(ones8 s:Int)
 | none=>false
theorem n9s':((List.range 256).all fun s=>chkTz s (nc8' (s:Int)))=true:=by kernel_rfl
theorem n7x':((List.range 256).all fun s=>n4o' s (nh7' (s:Int)))=true:=by kernel_rfl
theorem n6o':((List.range 256).all fun s=>n1m' s (ncv' (s:Int)))=true:=by kernel_rfl
theorem tz_eq {s:Nat} (h:s < 256) (h0:s ≠ 0):∃ k:Nat,nc8' (s:Int)=some (((k:Int),()),())∧k < 8∧s.testBit k=true∧∀ i,i < k→s.testBit i=false:=by
 have:=List.all_eq_true.1 n9s' s (List.mem_range.2 h)
 cases hf:nc8' (s:Int) with
 | none=>rw [hf] at this; cases this
 | some r=>
  obtain ⟨⟨k,_⟩,_⟩:=r
  rw [hf] at this
  have hb:Nat.beq s 0=false:=by cases hb:Nat.beq s 0 with
   | false=>rfl
   | true=>exact absurd (Nat.eq_of_beq_eq_true hb) h0
  simp only [chkTz,hb,Bool.false_or,Bool.and_eq_true,decide_eq_true_eq,List.all_eq_true] at this
  obtain ⟨a1,a2,a3,a4⟩:=this
  refine ⟨k.toNat,by rw [Int.toNat_of_nonneg a1],by omega,a3,fun i hi=>?_⟩
  have:=a4 i (List.mem_range.2 (by omega))
  have hn:Nat.ble k.toNat i=false:=by
   cases hb:Nat.ble k.toNat i with
   | false=>rfl
   | true=>exact absurd (Nat.le_of_ble_eq_true hb) (by omega)
  rw [hn] at this
  simpa using this
theorem n9l' {s:Nat} (h:s < 256) (h0:s ≠ 0):∃ k:Nat,nh7' (s:Int)=some ((((k + 1:Nat):Int),()),())∧k < 8∧s.testBit k=true∧∀ i,k < i→s.testBit i=false:=by
 have:=List.all_eq_true.1 n7x' s (List.mem_range.2 h)
 cases hf:nh7' (s:Int) with
 | none=>rw [hf] at this; cases this
 | some r=>
  obtain ⟨⟨k,_⟩,_⟩:=r
  rw [hf] at this
  have hb:Nat.beq s 0=false:=by cases hb:Nat.beq s 0 with
   | false=>rfl
   | true=>exact absurd (Nat.eq_of_beq_eq_true hb) h0
  simp only [n4o',hb,Bool.false_or,Bool.and_eq_true,decide_eq_true_eq,List.all_eq_true] at this
  obtain ⟨a1,a2,a3,a4⟩:=this
  refine ⟨k.toNat - 1,by congr 3; omega,by omega,a3,fun i hi=>?_⟩
  by_cases hi8:i < 8
  ·have:=a4 i (List.mem_range.2 hi8)
   have hn:Nat.blt i k.toNat=false:=by
    cases hb:Nat.blt i k.toNat with
    | false=>rfl
    | true=>exact absurd (Nat.le_of_ble_eq_true hb) (by omega)
   rw [hn] at this
   simpa using this
  ·exact Nat.testBit_lt_two_pow (Nat.lt_of_lt_of_le h (by rw [show 256=2 ^ 8 from rfl]; exact Nat.pow_le_pow_right (by omega) (by omega)))
theorem nv5' {s:Nat} (h:s < 256):ncv' (s:Int)=some ((((ones8 s:Nat):Int),()),()):=by
 have:=List.all_eq_true.1 n6o' s (List.mem_range.2 h)
 cases hf:ncv' (s:Int) with
 | none=>rw [hf] at this; cases this
 | some r=>
  obtain ⟨⟨k,_⟩,_⟩:=r
  rw [hf] at this
  simp only [n1m',beq_iff_eq] at this
  rw [this]
end Go.Ovl
namespace Go.Ovl
open Go Go.Ab
set_option maxRecDepth 100000
def allM (fl:Nat):Int:=IntKind.u32.wrap (IntKind.u32.wrap (1 * 2 ^ min fl (IntKind.bits .u32)) - 1)
theorem n6r':((List.range 9).all fun fl=>(List.range 32).all fun i=>(bitF (allM fl) i==decide (i < fl))&&((bitF (Int.fdiv (allM fl) (2 ^ min (Int.toNat 1) (IntKind.bits .u32))) i==decide (i + 1 < fl))&&(bitF (IntKind.u32.wrap (stk (allM fl) 1 (BitVec.toNat (BitVec.ofInt (IntKind.bits .u32) (allM fl) &&& ~~~ BitVec.ofInt (IntKind.bits .u32) 1)))) i==(decide (0 < i)&&decide (i < fl)))))=true:=by kernel_rfl
theorem nh3' {fl:Nat} (h:fl≤8) {i:Nat} (hi:i < 32):bitF (allM fl) i=decide (i < fl)∧bitF (Int.fdiv (allM fl) (2 ^ min (Int.toNat 1) (IntKind.bits .u32))) i=decide (i + 1 < fl) ∧
  bitF (IntKind.u32.wrap (stk (allM fl) 1 (BitVec.toNat (BitVec.ofInt (IntKind.bits .u32) (allM fl) &&& ~~~ BitVec.ofInt (IntKind.bits .u32) 1)))) i=(decide (0 < i)&&decide (i < fl)):=by
 have:=List.all_eq_true.1 (List.all_eq_true.1 n6r' fl (List.mem_range.2 (by omega))) i (List.mem_range.2 hi)
 simpa only [Bool.and_eq_true,beq_iff_eq] using this
def u32r (n:Int):Prop:=0≤n∧n < 4294967296
theorem nyd' {b:BitVec 32} {fl:Nat} (hfl:fl≤8) (h:∀ i,i < 32→b.getLsbD i=true→i < fl):b.toNat < 256:=by
 have:b.toNat < 2 ^ 8:=by
  refine Nat.lt_pow_two_of_testBit _ fun i hi=>?_
  by_cases h32:i < 32
  ·cases hb:b.toNat.testBit i with
   | false=>rfl
   | true=>have:=h i h32 (by rw [BitVec.getLsbD]; exact hb); omega
  ·rw [← BitVec.getLsbD]; exact BitVec.getLsbD_of_ge _ _ (by omega)
 simpa using this
structure Cnt (fl:Nat) (car up down:Int) (a u d:Nat):Prop where
 la:a < 256
 lu:u < 256
 ld:d < 256
 ab:∀ i,i < fl→a.testBit i=bitF car i
 ub:∀ i,i < fl→u.testBit i=(decide (i + 1 < fl)&&bitF up i)
 db:∀ i,i < fl→d.testBit i=(decide (0 < i)&&bitF down i)
 hi:∀ i,fl≤i→a.testBit i=false∧u.testBit i=false∧d.testBit i=false
theorem nmj' {fl:Nat} (hfl:fl≤8) (car up down:Int):∃ a u d:Nat,ngg' fl car up down=some (((),()),(((a:Int),(u:Int),(d:Int),()),()))∧Cnt fl car up down a u d:=by
 have e0:decide ((0:Int)≤(fl:Int))=true:=by simp
 have tn:Int.toNat (fl:Int)=fl:=by omega
 refine ⟨(bv car &&& bv (allM fl)).toNat,(bv up &&& bv (Int.fdiv (allM fl) (2 ^ min (Int.toNat 1) (IntKind.bits .u32)))).toNat,(bv down &&& bv (IntKind.u32.wrap (stk (allM fl) 1 (BitVec.toNat (BitVec.ofInt (IntKind.bits .u32) (allM fl) &&& ~~~ BitVec.ofInt (IntKind.bits .u32) 1))))).toNat,?_,?_⟩
 ·unfold ngg'
  rw [e0,cond_true,tn]
  unfold neb'
  simp only [Option.bind_some]
  rw [show IntKind.u32.wrap (IntKind.u32.wrap (1 * 2 ^ min fl (IntKind.bits .u32)) - 1)=allM fl from rfl]
  rw [w_and,w_and,w_and]
  rfl
 ·have hb:∀ (x y:Int) (i:Nat),(bv x &&& bv y).toNat.testBit i=(bitF x i&&bitF y i):=fun x y i=>by
   rw [← BitVec.getLsbD,BitVec.getLsbD_and]; rfl
  have hlo:∀ (x y:Int),(∀ i,i < 32→bitF y i=true→i < fl)→(bv x &&& bv y).toNat < 256:=fun x y h=>nyd' hfl fun i hi hg=>h i hi (by
   rw [BitVec.getLsbD_and,Bool.and_eq_true] at hg; exact hg.2)
  refine ⟨hlo _ _ fun i hi h=>?_,hlo _ _ fun i hi h=>?_,hlo _ _ fun i hi h=>?_,fun i hi=>?_,fun i hi=>?_,fun i hi=>?_,fun i hi=>?_⟩
  ·rw [(nh3' hfl hi).1] at h; simpa using h
  ·rw [(nh3' hfl hi).2.1] at h; have:=of_decide_eq_true h; omega
  ·rw [(nh3' hfl hi).2.2,Bool.and_eq_true] at h; exact of_decide_eq_true h.2
  ·rw [hb,(nh3' hfl (by omega)).1]; simp [hi]
  ·rw [hb,(nh3' hfl (by omega)).2.1,Bool.and_comm]
  ·rw [hb,(nh3' hfl (by omega)).2.2,Bool.and_comm]; simp [hi]
  ·rw [hb,hb,hb]
   by_cases h32:i < 32
   ·obtain ⟨h1,h2,h3⟩:=nh3' hfl h32
    rw [h1,h2,h3,show decide (i < fl)=false from decide_eq_false (by omega),show decide (i + 1 < fl)=false from decide_eq_false (by omega)]
    simp
   ·rw [nvr' _ (by omega),nvr' up (by omega),nvr' down (by omega)]
    simp
theorem nq0' {f:Int} (h:u32r f) {i:Nat} (hi:i < 32) :
  (IntKind.u32.wrap (stk (Int.fdiv f (2 ^ min i (IntKind.bits .u32))) 1 (BitVec.toNat (BitVec.ofInt (IntKind.bits .u32) (Int.fdiv f (2 ^ min i (IntKind.bits .u32))) &&& BitVec.ofInt (IntKind.bits .u32) 1)))==1)=bitF f i:=by
 rw [nni']; exact nst' h hi
theorem nsk' {fl:Nat} (h2:2≤fl) (hfl:fl≤8) {car up down:Int} (hc:u32r car) (hu:u32r up) (hd:u32r down) {a u d:Nat} (c:Cnt fl car up down a u d) {f:Nat} (hf:f < fl) :
  nem' fl car up down f 0=some ((a.testBit f,()),())∧nem' fl car up down f 1=some ((u.testBit f,()),())∧nem' fl car up down f 2=some ((d.testBit f,()),()):=by
 have w:IntKind.u64.wrap (f:Int)=(f:Int):=nnn' (by omega) (by omega)
 have e0:decide ((0:Int)≤(f:Int))=true:=by simp
 have tn:Int.toNat (f:Int)=f:=by omega
 have w1:IntKind.i64.wrap ((fl:Int) - 1)=(fl:Int) - 1:=nb' (by omega) (by omega)
 refine ⟨?_,?_,?_⟩
 ·unfold nem'
  rw [show ((0:Int)==1)=false from rfl,show ((0:Int)==2)=false from rfl]
  simp only [cond_false,w,e0,tn,cond_true,nq0' hc (show f < 32 by omega),c.ab f hf]
 ·unfold nem'
  rw [show ((1:Int)==1)=true from rfl]
  simp only [cond_true,w,w1,e0,tn,nq0' hu (show f < 32 by omega),c.ub f hf]
  by_cases h:f + 1 < fl
  ·rw [show decide ((f:Int) < (fl:Int) - 1)=true from decide_eq_true (by omega),show decide (f + 1 < fl)=true from decide_eq_true h]
   simp
  ·rw [show decide ((f:Int) < (fl:Int) - 1)=false from decide_eq_false (by omega),show decide (f + 1 < fl)=false from decide_eq_false h]
   simp
 ·unfold nem'
  rw [show ((2:Int)==1)=false from rfl,show ((2:Int)==2)=true from rfl]
  simp only [cond_true,cond_false,w,e0,tn,nq0' hd (show f < 32 by omega),c.db f hf]
  by_cases h:0 < f
  ·rw [show decide ((0:Int) < (f:Int))=true from decide_eq_true (by omega),show decide (0 < f)=true from decide_eq_true h]
   simp
  ·rw [show decide ((0:Int) < (f:Int))=false from decide_eq_false (by omega),show decide (0 < f)=false from decide_eq_false h]
   simp
end Go.Ovl
