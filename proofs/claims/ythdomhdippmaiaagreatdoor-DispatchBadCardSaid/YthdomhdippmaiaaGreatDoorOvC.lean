/- Layer 10, the program's side: the binary search, what a record changes, images behind records. -/
import Derived.Test.YthdomhdippmaiaaGreatDoorOvB
import Derived.Test.YthdomhdippmaiaaGreatDoorOvA
import Derived.Test.YthdomhdippmaiaaGreatDoorDefs2
namespace Go.Ovl
open Go Go.Ab
set_option maxRecDepth 100000
def keyE (F D:Int):Entry:=⟨F,D,0,0,false⟩
theorem n1b' {i j:Nat} (h:i + j < 9223372036854775808):IntKind.i64.wrap (Int.fdiv (IntKind.u64.wrap (IntKind.i64.wrap ((i:Int) + (j:Int)))) ((2:Int) ^ (Min.min (Int.toNat (1:Int)) (IntKind.bits IntKind.u64))))=(((i + j) / 2:Nat):Int):=by
 rw [nb' (n:=(i:Int) + (j:Int)) (by omega) (by omega),npt' (by omega) (by omega)]
 rw [show ((2:Int) ^ (Min.min (Int.toNat (1:Int)) (IntKind.bits IntKind.u64)))=2 from rfl]
 rw [Int.fdiv_eq_ediv_of_nonneg _ (by omega)]
 rw [nb' (by omega) (by omega)]
 omega
theorem nw0' {l:List Entry} (hs:nbi' l) (hl:l.length≤100000) (F D:Int) :
  np' ((l,(),(),(l.length:Int),(0:Int),(l.length:Int),()),((F,D,0,0,false,()),()))=some ((l,(),(),(l.length:Int),((posF (keyE F D) l:Nat):Int),()),((F,D,0,0,false,()),())):=by
 refine n3c' (fun x y=>∃ i j:Nat,i≤posF (keyE F D) l∧posF (keyE F D) l≤j∧j≤l.length∧x=((l,(),(),(l.length:Int),(i:Int),(j:Int),()),((F,D,(0:Int),(0:Int),false,()),()))∧y=((l,(),(),(l.length:Int),((posF (keyE F D) l:Nat):Int),()),((F,D,(0:Int),(0:Int),false,()),()))) (fun x=>x.1.2.2.2.2.2.1.toNat - x.1.2.2.2.2.1.toNat) ?_ (x:=((l,(),(),(l.length:Int),(0:Int),(l.length:Int),()),((F,D,0,0,false,()),()))) (y:=((l,(),(),(l.length:Int),((posF (keyE F D) l:Nat):Int),()),((F,D,0,0,false,()),()))) ⟨0,l.length,Nat.zero_le _,nkl' _ _,Nat.le_refl _,rfl,rfl⟩ (by show ((l.length:Int).toNat - Int.toNat 0) < _; omega)
 rintro _ _ ⟨i,j,h1,h2,h3,rfl,rfl⟩
 show (∃ x',nn' l (l.length:Int) (i:Int) (j:Int) F D 0 0 false=_∧_)∨nn' l (l.length:Int) (i:Int) (j:Int) F D 0 0 false=_
 unfold nn'
 rw [n1b' (by omega)]
 by_cases hij:i < j
 ·left
  have hh:(i + j) / 2 < l.length:=by omega
  obtain ⟨n,c1,c2,_⟩:=nix' (l.getD ((i + j) / 2) noE) (keyE F D)
  unfold keyE at c1
  unfold noE at c1
  simp only [decide_eq_true (show (i:Int) < (j:Int) by omega),nd' (show (0:Int)≤(((i + j) / 2:Nat):Int) by omega) (show (((i + j) / 2:Nat):Int) < (l.length:Int) by omega),Int.toNat_natCast,cond_true,c1,Option.bind_some]
  have c2':decide (n < 0)=lessE (l.getD ((i + j) / 2) noE) (keyE F D):=by rw [nq7',c2,Bool.not_not]
  rw [c2']
  cases hq:lessE (l.getD ((i + j) / 2) noE) (keyE F D) with
  | true=>
   have:(i + j) / 2 < posF (keyE F D) l:=by
    rcases Nat.lt_or_ge ((i + j) / 2) (posF (keyE F D) l) with h | h
    ·exact h
    ·have:=nr5' hs _ h hh
     rw [hq] at this; cases this
   rw [cond_true,show IntKind.i64.wrap ((((i + j) / 2:Nat):Int) + 1)=(((i + j) / 2 + 1:Nat):Int) by rw [nb' (by omega) (by omega)]; omega]
   exact ⟨_,rfl,⟨(i + j) / 2 + 1,j,by omega,h2,h3,rfl,trivial⟩,by show Int.toNat (j:Int) - Int.toNat (((i + j) / 2 + 1:Nat):Int) < Int.toNat (j:Int) - Int.toNat (i:Int); omega⟩
  | false=>
   have:posF (keyE F D) l≤(i + j) / 2:=by
    rcases Nat.lt_or_ge ((i + j) / 2) (posF (keyE F D) l) with h | h
    ·have:=nry' (keyE F D) l _ h
     rw [hq] at this; cases this
    ·exact h
   rw [cond_false]
   exact ⟨_,rfl,⟨i,(i + j) / 2,h1,this,by omega,rfl,trivial⟩,by show Int.toNat (((i + j) / 2:Nat):Int) - Int.toNat (i:Int) < Int.toNat (j:Int) - Int.toNat (i:Int); omega⟩
 ·right
  rw [decide_eq_false (show ¬ (i:Int) < (j:Int) by omega),show i=posF (keyE F D) l by omega]
  rfl
theorem nwp' (m:Img) (hs:nbi' m.Entries) (hl:m.Entries.length≤100000) (F D:Int):nkk' m.Phases m.Flags m.Leaving m.Entries F D=some ((((posF (keyE F D) m.Entries:Nat):Int),hasF (keyE F D) m.Entries,()),()):=by
 unfold nkk' n0'
 simp only
 rw [nw0' hs hl F D]
 simp only [Option.bind_some]
 have hp:=nkl' (keyE F D) m.Entries
 unfold hasF
 by_cases h:posF (keyE F D) m.Entries < m.Entries.length
 ·obtain ⟨n,c1,_,c3⟩:=nix' (m.Entries.getD (posF (keyE F D) m.Entries) noE) (keyE F D)
  rw [decide_eq_true (show ((posF (keyE F D) m.Entries:Nat):Int) < (m.Entries.length:Int) by omega),nd' (show (0:Int)≤((posF (keyE F D) m.Entries:Nat):Int) by omega) (show ((posF (keyE F D) m.Entries:Nat):Int) < (m.Entries.length:Int) by omega),Int.toNat_natCast,show Nat.blt (posF (keyE F D) m.Entries) m.Entries.length=true by rw [Nat.blt_eq]; exact h]
  have e:(n==0)=isC (keyE F D).Floor (keyE F D).Dir (m.Entries.getD (posF (keyE F D) m.Entries) noE):=by
   rw [Bool.eq_iff_iff,beq_iff_eq,c3]
   unfold isC
   rw [Bool.and_eq_true,beq_iff_eq,beq_iff_eq]
  rw [← e]
  generalize posF (keyE F D) m.Entries=p at *
  unfold noE at c1
  unfold keyE at c1
  simp only [cond_true,c1,Option.bind_some,Bool.true_and]
 ·rw [decide_eq_false (show ¬ ((posF (keyE F D) m.Entries:Nat):Int) < (m.Entries.length:Int) by omega),show Nat.blt (posF (keyE F D) m.Entries) m.Entries.length=false by rw [← Bool.not_eq_true,Nat.blt_eq]; exact h]
  rfl
theorem n1c' (x:Entry) (e:Entry):lessE x (keyE e.Floor e.Dir)=lessE x e:=rfl
theorem nkw' (e:Entry):∀ l:List Entry,posF (keyE e.Floor e.Dir) l=posF e l
 | []=>rfl
 | x :: t=>by simp only [posF,n1c',nkw' e t]
theorem ntx' {m:Img} (hs:nbi' m.Entries) (hl:m.Entries.length≤100000) (r:Record) (hc:(r.Kind=4∨r.Kind=5∨r.Kind=6)→0≤r.Car∧r.Car < (m.Phases.length:Int)∧r.Car < (m.Flags.length:Int)∧r.Car < (m.Leaving.length:Int)) :
  nic' r.Kind r.Floor r.Dir r.Car r.Value m.Phases m.Flags m.Leaving m.Entries=some ((),((nbz' m r).tup,())):=by
 unfold nic' nbz'
 rw [nwp' m hs hl]
 simp only [Option.bind_some]
 by_cases k4:r.Kind=4
 ·obtain ⟨c0,c1,c2,c3⟩:=hc (.inl k4)
  rw [k4]
  simp only [beq_self_eq_true,cond_true,nd' c0 c1]
  rfl
 rw [beq_f k4]
 by_cases k5:r.Kind=5
 ·obtain ⟨c0,c1,c2,c3⟩:=hc (.inr (.inl k5))
  rw [k5]
  simp only [beq_self_eq_true,cond_true,cond_false,nd' c0 c2]
  rfl
 rw [beq_f k5]
 by_cases k6:r.Kind=6
 ·obtain ⟨c0,c1,c2,c3⟩:=hc (.inr (.inr k6))
  rw [k6]
  simp only [beq_self_eq_true,cond_true,cond_false,nd' c0 c3]
  rfl
 rw [beq_f k6]
 simp only [cond_false]
 have hf:=nlx' (c:=keyE r.Floor r.Dir) 0 hs
 simp only [Nat.zero_add] at hf
 rw [show findF r.Floor r.Dir m.Entries 0=_ from hf]
 have hp:=nkl' (keyE r.Floor r.Dir) m.Entries
 cases hq:hasF (keyE r.Floor r.Dir) m.Entries with
 | false=>
  have hn:=nso' hs hq
  simp only [cond_false,cond_true,Bool.not_false,beq_self_eq_true]
  by_cases k1:r.Kind=1
  ·rw [k1]
   simp only [beq_self_eq_true,cond_true]
   unfold nb7' insF
   rw [decide_eq_true (show (0:Int)≤((posF (keyE r.Floor r.Dir) m.Entries:Nat):Int) by omega),decide_eq_true (show ((posF (keyE r.Floor r.Dir) m.Entries:Nat):Int)≤(m.Entries.length:Int) by omega)]
   rw [show Nat.blt 0 [Entry.mk r.Floor r.Dir (-1) 0 false].length=true from rfl,nbl' (show m.Entries.length + [Entry.mk r.Floor r.Dir (-1) 0 false].length≤2147483648 by rw [List.length_singleton]; omega)]
   have hi:=npq' (c:=⟨r.Floor,r.Dir,-1,0,false⟩) (l:=m.Entries) hn
   rw [hi,show posF ⟨r.Floor,r.Dir,-1,0,false⟩ m.Entries=posF (keyE r.Floor r.Dir) m.Entries from (nkw' ⟨r.Floor,r.Dir,-1,0,false⟩ m.Entries).symm]
   rfl
  ·rw [beq_f k1]
   cases r.Kind==2 <;> cases r.Kind==3 <;> cases r.Kind==7 <;> rfl
 | true=>
  have hlt:posF (keyE r.Floor r.Dir) m.Entries < m.Entries.length:=by
   unfold hasF at hq
   rw [Bool.and_eq_true,Nat.blt_eq] at hq
   exact hq.1
  simp only [cond_true,Bool.not_true,cond_false,beq_f (show ¬ ((posF (keyE r.Floor r.Dir) m.Entries:Nat):Int)=-1 by omega),Int.toNat_natCast]
  generalize posF (keyE r.Floor r.Dir) m.Entries=p at hp hlt ⊢
  have w:IntKind.i64.wrap ((p:Int) + 1)=((p + 1:Nat):Int):=by rw [nb' (by omega) (by omega)]; omega
  have ib:inB (p:Int) m.Entries.length=true:=nd' (by omega) (by omega)
  by_cases k1:r.Kind=1
  ·simp only [k1,beq_self_eq_true,cond_true,cond_false,show ((1:Int)==2)=false from rfl,show ((1:Int)==3)=false from rfl,show ((1:Int)==7)=false from rfl]
   rfl
  rw [beq_f k1,cond_false]
  cases r.Kind==2 with
  | true=>
   unfold nb6' delF
   simp only [cond_true,w,decide_eq_true (show (0:Int)≤(p:Int) by omega),decide_eq_true (show (p:Int) < ((p + 1:Nat):Int) by omega),decide_eq_true (show ((p + 1:Nat):Int)≤(m.Entries.length:Int) by omega),Bool.and_self,Option.bind_some,Int.toNat_natCast]
   rfl
  | false=>
   simp only [cond_false]
   cases r.Kind==3 with
   | true=>simp only [cond_true,ib]; rfl
   | false=>
    simp only [cond_false]
    cases r.Kind==7 with
    | true=>
     have ib2:∀ y:Entry,inB (p:Int) (m.Entries.set p y).length=true:=fun y=>nd' (by omega) (by rw [List.length_set]; omega)
     have hg:∀ y:Entry,(m.Entries.set p y).getD p (Entry.mk 0 0 0 0 false)=y:=fun y=>by
      simp [List.getD_eq_getElem?_getD,hlt]
     simp only [cond_true,ib,ib2,hg,List.set_set]
     rfl
    | false=>rfl
theorem nt7' {b:Bldg} (hb:b.small) (hcl:b.Cars.length≤100) (m:Img) (hp:m.Phases.length≤100000) (hl:m.Entries.length≤10000) (r:Record) :
  ni4' b.Floors b.Debounce b.Room b.Park b.Empty b.Full b.Over b.Cars m.Phases m.Flags m.Leaving m.Entries r.Kind r.Floor r.Dir r.Car r.Value=some (njg' b m r):=by
 have hmx:100000≤maxLen:=by decide
 unfold ni4' njg'
 rw [nfs' hb m (by omega) (by omega)]
 simp only [Option.bind_some]
 cases hok:m.ok b with
 | false=>rfl
 | true=>
  rw [nrb' hb hcl r]
  simp only [Bool.not_true,cond_false,Option.bind_some,Bool.true_and]
  cases hv:nbb' b r with
  | false=>rfl
  | true=>
   have hm:=Img.ok_iff.1 hok
   have h1:=hm.lp
   have h2:=hm.lf
   have h3:=hm.ll
   simp only [Bool.not_true,cond_false,cond_true]
   rw [nvm' m hp (by omega) (by omega) (by omega)]
   simp only [Option.bind_some,Img.tup]
   rw [ntx' hm.so (by omega) r fun hk=>by
    have:=nj6' hv hk
    omega]
   rfl
theorem roomW {a b:Nat} (h:a≤100000) (h':b≤100000):IntKind.i64.wrap (IntKind.i64.wrap (18 * IntKind.i64.wrap (IntKind.i64.wrap ((a:Int) + (b:Int)) + 1)) + 6)=18 * ((a:Int) + (b:Int) + 1) + 6:=by
 rw [nb' (n:=(a:Int) + (b:Int)) (by omega) (by omega),nb' (n:=(a:Int) + (b:Int) + 1) (by omega) (by omega),nb' (n:=18 * ((a:Int) + (b:Int) + 1)) (by omega) (by omega),nb' (by omega) (by omega)]
def roomV (b:Bldg) (m:Img):Bool:=m.ok b&&decide (18 * ((b.Cars.length:Int) + (m.Entries.length:Int) + 1) + 6≤b.Room)
theorem nw2' {b:Bldg} (hb:b.small) (m:Img) (hc:b.Cars.length≤100000) (hp:m.Phases.length≤100000) (hl:m.Entries.length≤100000) :
  nkf' b.Floors b.Debounce b.Room b.Park b.Empty b.Full b.Over b.Cars m.Phases m.Flags m.Leaving m.Entries=some ((roomV b m,()),()):=by
 have hmx:100000≤maxLen:=by decide
 unfold nkf' roomV
 rw [nfs' hb m (by omega) (by omega)]
 simp only [Option.bind_some,roomW hc hl]
 cases m.ok b <;> rfl
end Go.Ovl
namespace Go.Ovl
open Go Go.Ab
set_option maxRecDepth 100000
def nby':Nat:=10000000
theorem wrap1 {i n:Nat} (h:i < n) (hn:n≤nby'):IntKind.i64.wrap ((i:Int) + 1)=((i + 1:Nat):Int):=by
 unfold nby' at hn
 rw [nb' (by omega) (by omega)]; omega
section
variable {α:Type}
end
structure Img.fit (m:Img):Prop where
 p:m.Phases.length≤100000
 f:m.Flags.length≤100000
 l:m.Leaving.length≤100000
 e:m.Entries.length≤100000
section
variable {a c:Img} (ha:a.fit)
include ha
end
end Go.Ovl
namespace Go.Ovl
open Go Go.Ab
set_option maxRecDepth 100000
theorem nto' {α:Type} (f:Nat→List α):∀ (k i:Nat) (s:List α),foldN (fun i s=>s++f i) k i s=s++(List.range' i k).flatMap f
 | 0,i,s=>by simp [foldN]
 | k + 1,i,s=>by
  simp only [foldN]
  rw [nto' f k (i + 1),List.range'_succ,List.flatMap_cons,List.append_assoc]
theorem nqd' {α β:Type} (f:α→List β) (d:α):∀ (l:List α) (i k:Nat),i + k=l.length→(List.range' i k).flatMap (fun i=>f (l.getD i d))=(l.drop i).flatMap f
 | l,i,0,h=>by
  obtain rfl:i=l.length:=by omega
  simp
 | l,i,k + 1,h=>by
  rw [List.range'_succ,List.flatMap_cons,nqd' f d l (i + 1) k (by omega),nbn' d (show i < l.length by omega),List.flatMap_cons]
section
variable {m:Img} (hf:m.fit)
include hf
end
section
variable {b:Bldg} (hb:b.small) {m:Img} (hf:m.fit)
include hb hf
end
end Go.Ovl
namespace Go.Ovl
open Go Go.Ab
set_option maxRecDepth 100000
def powC (floor:Int):Int:=IntKind.u32.wrap (1 * 2 ^ min (Int.toNat floor) (IntKind.bits .u32))
def oneC (floor dir:Int):Int×Int:=
 bif inR 0 31 floor then (bif dir==1 then (powC floor,0) else bif dir==2 then (0,powC floor) else (0,0)) else (0,0)
theorem nx7' (floor dir:Int):nhy' floor dir=some (((),()),(((oneC floor dir).1,(oneC floor dir).2,()),())):=by
 unfold nhy' oneC inR
 by_cases g:floor < 0
 ·rw [decide_eq_true g,decide_eq_false (show ¬ 0≤floor by omega)]; rfl
 ·rw [decide_eq_false g,decide_eq_true (show 0≤floor by omega)]
  by_cases g':31 < floor
  ·rw [decide_eq_true g',decide_eq_false (show ¬ floor≤31 by omega)]; rfl
  ·rw [decide_eq_false g',decide_eq_true (show floor≤31 by omega)]
   have w:IntKind.u64.wrap floor=floor:=npt' (by omega) (by omega)
   simp only [cond_false,w,decide_eq_true (show 0≤floor by omega),cond_true,Bool.and_self]
   cases dir==1 <;> cases dir==2 <;> rfl
def orC (a c:Int):Int:=vb (bv a ||| bv c)
def minC (a c:Int):Int:=vb (bv a &&& ~~~ bv c)
def neb' (a c:Int×Int):Int×Int:=(orC a.1 c.1,orC a.2 c.2)
def nb9' (a c:Int×Int):Int×Int:=(minC a.1 c.1,minC a.2 c.2)
def bitC (c:Int×Int) (f:Nat) (d:Int):Bool:=bif d==1 then bitF c.1 f else bif d==2 then bitF c.2 f else false
def u32C (c:Int×Int):Prop:=(0≤c.1∧c.1 < 4294967296)∧(0≤c.2∧c.2 < 4294967296)
theorem n2s':u32C (0,0):=⟨⟨by decide,by decide⟩,⟨by decide,by decide⟩⟩
theorem nnu' (i:Nat):bitF 0 i=false:=by
 unfold bitF bv
 simp
theorem nnn' (f:Nat) (d:Int):bitC (0,0) f d=false:=by
 unfold bitC
 simp only [nnu']
 cases d==1 <;> cases d==2 <;> rfl
theorem nyb' (a c:Int×Int) (f:Nat) (d:Int):bitC (neb' a c) f d=(bitC a f d||bitC c f d):=by
 unfold bitC neb' orC
 simp only [nv4',BitVec.getLsbD_or]
 cases d==1 <;> cases d==2 <;> rfl
theorem nx3' (a c:Int×Int) {f:Nat} (hf:f < 32) (d:Int):bitC (nb9' a c) f d=(bitC a f d&&!bitC c f d):=by
 unfold bitC nb9' minC
 simp only [nv4',BitVec.getLsbD_and,BitVec.getLsbD_not,hf,decide_true,Bool.true_and]
 cases d==1 <;> cases d==2 <;> rfl
theorem nuh' {F D:Int} (hF:0≤F∧F < 32) (hD:D=1∨D=2) (f:Nat) {d:Int} (hd:d=1∨d=2):bitC (oneC F D) f d=decide (((f:Int),d)=(F,D)):=by
 have hp:bitF (powC F) f=decide (f=F.toNat):=n3f' (k:=F.toNat) (by omega) f
 have e:decide (((f:Int),d)=(F,D))=(decide (f=F.toNat)&&decide (d=D)):=by
  rw [Bool.eq_iff_iff,Bool.and_eq_true,decide_eq_true_eq,decide_eq_true_eq,decide_eq_true_eq,Prod.mk.injEq]
  constructor
  ·rintro ⟨h1,h2⟩; exact ⟨by omega,h2⟩
  ·rintro ⟨h1,h2⟩; exact ⟨by omega,h2⟩
 rw [e]
 unfold oneC bitC
 rw [n4'.2 ⟨hF.1,show F≤31 by omega⟩]
 rcases hD with rfl | rfl <;> rcases hd with rfl | rfl
 ·simp [hp]
 ·simp [nnu']
 ·simp [nnu']
 ·simp [hp]
theorem nzk' {a c:Int×Int} (ha:u32C a) (hc:u32C c) (h:∀ f:Nat,f < 32→∀ d:Int,(d=1∨d=2)→bitC a f d=bitC c f d):a=c:=by
 have h1:a.1=c.1:=nxj' ha.1 hc.1 fun i hi=>h i hi 1 (.inl rfl)
 have h2:a.2=c.2:=nxj' ha.2 hc.2 fun i hi=>h i hi 2 (.inr rfl)
 exact Prod.ext h1 h2
def callE (e:Entry):Prop:=(0≤e.Floor∧e.Floor < 32)∧(e.Dir=1∨e.Dir=2)
def ofC:List Entry→Int×Int→Int×Int
 | [],c=>c
 | e :: t,c=>ofC t (neb' c (oneC e.Floor e.Dir))
def nij' (c:Int×Int) (f:Nat):List Entry:=(bif bitC c f 1 then [⟨(f:Int),1,-1,0,false⟩] else [])++(bif bitC c f 2 then [⟨(f:Int),2,-1,0,false⟩] else [])
theorem nyn' (c:Int×Int) (f:Nat):(nij' c f).length≤2:=by
 unfold nij'
 cases bitC c f 1 <;> cases bitC c f 2 <;> simp
def listC (c:Int×Int):List Entry:=(List.range' 0 32).flatMap (nij' c)
theorem nre' {c:Int×Int} {f:Nat} {p:Int×Int}:p ∈ (nij' c f).map new'↔p.1=(f:Int)∧(p.2=1∨p.2=2)∧bitC c f p.2=true:=by
 obtain ⟨a,d⟩:=p
 unfold nij'
 rw [List.map_append,List.mem_append]
 have h:∀ D:Int,(a,d) ∈ (bif bitC c f D then [Entry.mk (f:Int) D (-1) 0 false] else []).map new'↔a=(f:Int)∧d=D∧bitC c f D=true:=fun D=>by
  cases bitC c f D <;> simp [new']
 rw [h,h]
 constructor
 ·rintro (⟨h1,rfl,h3⟩ | ⟨h1,rfl,h3⟩)
  ·exact ⟨h1,.inl rfl,h3⟩
  ·exact ⟨h1,.inr rfl,h3⟩
 ·rintro ⟨h1,h2,h3⟩
  simp only at h1 h2 h3
  rcases h2 with rfl | rfl
  ·exact .inl ⟨h1,rfl,h3⟩
  ·exact .inr ⟨h1,rfl,h3⟩
theorem mem_range {c:Int×Int} {p:Int×Int} {i k:Nat}:p ∈ ((List.range' i k).flatMap (nij' c)).map new'↔∃ f:Nat,(i≤f∧f < i + k)∧p.1=(f:Int)∧(p.2=1∨p.2=2)∧bitC c f p.2=true:=by
 constructor
 ·intro h
  obtain ⟨e,he,rfl⟩:=List.mem_map.1 h
  obtain ⟨f,hf,he⟩:=List.mem_flatMap.1 he
  exact ⟨f,List.mem_range'_1.1 hf,nre'.1 (List.mem_map.2 ⟨e,he,rfl⟩)⟩
 ·rintro ⟨f,hf,h⟩
  obtain ⟨e,he,h2⟩:=List.mem_map.1 (nre'.2 h)
  exact List.mem_map.2 ⟨e,List.mem_flatMap.2 ⟨f,List.mem_range'_1.2 hf,he⟩,h2⟩
end Go.Ovl
namespace Go.Ovl
open Go Go.Ab
set_option maxRecDepth 100000
theorem nla' (floor dir:Int):ngg' floor dir=some (((),()),(((oneC floor dir).1,(oneC floor dir).2,()),())):=by
 unfold ngg' oneC inR
 by_cases g:0≤floor
 ·by_cases g':floor < 32
  ·rw [decide_eq_true g,decide_eq_true g',decide_eq_true (show floor≤31 by omega)]
   simp only [cond_true,Option.bind_some,Bool.and_self,decide_eq_true g]
   cases dir==1 <;> cases dir==2 <;> rfl
  ·rw [decide_eq_true g,decide_eq_false g',decide_eq_false (show ¬ floor≤31 by omega)]; rfl
 ·rw [decide_eq_false g]; rfl
theorem ng8' (a c:Int×Int):nd0' a.1 a.2 c.1 c.2=some (((),()),(((neb' a c).1,(neb' a c).2,()),())):=by
 unfold nd0'
 rw [w_or,w_or]; rfl
theorem nis' (a c:Int×Int):ner' a.1 a.2 c.1 c.2=some (((),()),(((nb9' a c).1,(nb9' a c).2,()),())):=by
 unfold ner'
 rw [nux',nux']; rfl
def bothC (a c:Int×Int):Int×Int:=(vb (bv a.1 &&& bv c.1),vb (bv a.2 &&& bv c.2))
theorem nvn' (a c:Int×Int):u32C (bothC a c):=⟨nvo' _,nvo' _⟩
theorem nj0' (a c:Int×Int):ndp' a.1 a.2 c.1 c.2=some (((),()),(((bothC a c).1,(bothC a c).2,()),())):=by
 unfold ndp'
 rw [w_and,w_and]; rfl
theorem nnq' (a c:Int×Int) (f:Nat) (d:Int):bitC (bothC a c) f d=(bitC a f d&&bitC c f d):=by
 unfold bitC bothC
 simp only [nv4',BitVec.getLsbD_and]
 cases d==1 <;> cases d==2 <;> rfl
def isZ (c:Int×Int):Bool:=(c.1==0)&&((c.2==0)&&true)
theorem nxc' {c:Int×Int} (hc:u32C c):isZ c=true↔∀ f:Nat,f < 32→∀ d:Int,(d=1∨d=2)→bitC c f d=false:=by
 constructor
 ·intro h f _ d _
  unfold isZ at h
  simp only [Bool.and_eq_true,beq_iff_eq] at h
  obtain ⟨h1,h2,_⟩:=h
  rw [show c=(0,0) from Prod.ext h1 h2,nnn']
 ·intro h
  have:c=(0,0):=nzk' hc n2s' fun f hf d hd=>by rw [h f hf d hd,nnn']
  rw [this]; rfl
theorem nny' (c:Int×Int) {F D:Int} (hF:0≤F∧F < 32) (hD:D=1∨D=2):ncv' c.1 c.2 F D=some ((bitC c F.toNat D,()),()):=by
 unfold ncv'
 rw [nla']
 simp only [Option.bind_some]
 rw [nj0' c (oneC F D)]
 simp only [Option.bind_some]
 show some ((!(isZ (bothC c (oneC F D))),()),())=_
 have e:isZ (bothC c (oneC F D))=!bitC c F.toNat D:=by
  cases h:bitC c F.toNat D with
  | false=>
   refine (nxc' (nvn' _ _)).2 fun f hf d hd=>?_
   rw [nnq',nuh' hF hD f hd]
   by_cases g:((f:Int),d)=(F,D)
   ·obtain ⟨h1,h2⟩:=Prod.mk.inj g
    rw [show f=F.toNat by omega,h2,h]; rfl
   ·rw [decide_eq_false g,Bool.and_false]
  | true=>
   cases hz:isZ (bothC c (oneC F D)) with
   | false=>rfl
   | true=>
    have:=(nxc' (nvn' _ _)).1 hz F.toNat (by omega) D hD
    rw [nnq',nuh' hF hD F.toNat hD,h,decide_eq_true (show (((F.toNat:Nat):Int),D)=(F,D) by rw [Int.toNat_of_nonneg hF.1])] at this
    cases this
 rw [e,Bool.not_not]
def hallC (b:Bldg):Int×Int:=(IntKind.u32.wrap (IntKind.u32.wrap (1 * 2 ^ min (Int.toNat (b.Floors - 1)) (IntKind.bits .u32)) - 1),IntKind.u32.wrap (IntKind.u32.wrap (IntKind.u32.wrap (1 * 2 ^ min (Int.toNat (b.Floors - 1)) (IntKind.bits .u32)) - 1) * 2 ^ min (Int.toNat (1:Int)) (IntKind.bits .u32)))
theorem nk4' {b:Bldg} (hb:b.small) (hcode:b.code=0):ne4' b.Floors b.Debounce b.Room b.Park b.Empty b.Full b.Over b.Cars=some (((),()),(((hallC b).1,(hallC b).2,()),())):=by
 have lo:=hb.lo
 have hi:=hb.hi
 unfold ne4' hallC
 rw [nb8',hcode]
 simp only [Option.bind_some,bne_self_eq_false,cond_false,nb' (n:=b.Floors - 1) (by omega) (by omega),decide_eq_true (show 0≤b.Floors - 1 by omega),cond_true]
def hallU (n:Nat):Int:=IntKind.u32.wrap (IntKind.u32.wrap (1 * 2 ^ min n (IntKind.bits .u32)) - 1)
theorem n2a':((List.range 9).all fun n=>(List.range 32).all fun i=>(bitF (hallU n) i==decide (i < n))&&(bitF (IntKind.u32.wrap (hallU n * 2 ^ min (Int.toNat 1) (IntKind.bits .u32))) i==(decide (1≤i)&&decide (i≤n))))=true:=by kernel_rfl
theorem n16' {b:Bldg} (hb:b.small) (hcode:b.code=0) {f:Nat} (hf:f < 32) {d:Int} (hd:d=1∨d=2):bitC (hallC b) f d=nv' b (f:Int) d:=by
 have lo:=hb.lo
 have hi:=hb.hi
 have t:=List.all_eq_true.1 (List.all_eq_true.1 n2a' (b.Floors - 1).toNat (List.mem_range.2 (by omega))) f (List.mem_range.2 hf)
 rw [Bool.and_eq_true,beq_iff_eq,beq_iff_eq] at t
 unfold nv' callB
 rw [hcode]
 rcases hd with rfl | rfl
 ·have e:bitC (hallC b) f 1=bitF (hallU (b.Floors - 1).toNat) f:=rfl
  rw [e,t.1]
  unfold inR
  rw [decide_eq_true (show (0:Int)≤(f:Int) by omega)]
  by_cases g:f < (b.Floors - 1).toNat
  ·rw [decide_eq_true g,decide_eq_true (show (f:Int)≤b.Floors - 2 by omega)]; rfl
  ·rw [decide_eq_false g,decide_eq_false (show ¬ (f:Int)≤b.Floors - 2 by omega)]; rfl
 ·have e:bitC (hallC b) f 2=bitF (IntKind.u32.wrap (hallU (b.Floors - 1).toNat * 2 ^ min (Int.toNat 1) (IntKind.bits .u32))) f:=rfl
  rw [e,t.2]
  unfold inR
  by_cases g:1≤f
  ·rw [decide_eq_true g,decide_eq_true (show (1:Int)≤(f:Int) by omega)]
   by_cases g':f≤(b.Floors - 1).toNat
   ·rw [decide_eq_true g',decide_eq_true (show (f:Int)≤b.Floors - 1 by omega)]; rfl
   ·rw [decide_eq_false g',decide_eq_false (show ¬ (f:Int)≤b.Floors - 1 by omega)]; rfl
  ·rw [decide_eq_false g,decide_eq_false (show ¬ (1:Int)≤(f:Int) by omega)]; rfl
def nca' (b:Bldg) (v:View):Int×Int:=bif v.Serving then bothC (v.Shows_Up,v.Shows_Down) (hallC b) else (0,0)
theorem nj2' {b:Bldg} (hb:b.small) (hcode:b.code=0) (v:View):ned' b.Floors b.Debounce b.Room b.Park b.Empty b.Full b.Over b.Cars v.Ready v.Serving v.Legacy v.Lost v.Floor v.Dir v.Load v.Shows_Up v.Shows_Down v.Stops_Car v.Stops_Hall_Up v.Stops_Hall_Down=some (((),()),(((nca' b v).1,(nca' b v).2,()),())):=by
 unfold ned' nca'
 cases v.Serving with
 | false=>rfl
 | true=>
  rw [nk4' hb hcode]
  simp only [Bool.not_true,cond_false,Option.bind_some,cond_true]
  rw [nj0' (v.Shows_Up,v.Shows_Down) (hallC b)]
  rfl
theorem nqq' {c:Int×Int} (h:Int→Int→Option ((Bool×Unit)×Unit)) (hh:∀ f:Nat,f < 32→∀ d:Int,(d=1∨d=2)→h (f:Int) d=some ((bitC c f d,()),())):∀ k i:Nat,i + k≤32→collO h (fun f d=>Entry.mk f d (-1) 0 false) ((List.range' i k).flatMap fun f:Nat=>[((f:Int),1),((f:Int),2)])=some ((List.range' i k).flatMap (nij' c))
 | 0,_,_=>rfl
 | k + 1,i,hk=>by
  rw [List.range'_succ,List.flatMap_cons,List.flatMap_cons]
  show collO h _ (((i:Int),1) :: ((i:Int),2) :: ((List.range' (i + 1) k).flatMap fun f:Nat=>[((f:Int),1),((f:Int),2)]))=_
  simp only [collO]
  rw [hh i (by omega) 1 (.inl rfl),hh i (by omega) 2 (.inr rfl),nqq' h hh k (i + 1) (by omega)]
  unfold nij'
  cases bitC c i 1 <;> cases bitC c i 2 <;> rfl
theorem nt4' (c:Int×Int):nih' c.1 c.2=some ((listC c,()),()):=by
 unfold nih' lstF
 have e:pairs64=(List.range' 0 32).flatMap fun f:Nat=>[((f:Int),1),((f:Int),2)]:=by
  unfold pairs64
  rw [List.range_eq_range']
 have h:=nqq' (c:=c) (fun f d=>ncv' c.1 c.2 f d) (fun f hf d hd=>by
  have h:=nny' c (F:=(f:Int)) (D:=d) ⟨by omega,by omega⟩ hd
  rw [Int.toNat_natCast] at h
  exact h) 32 0 (by omega)
 rw [e,h]
 rfl
end Go.Ovl
namespace Go.Ovl
open Go Go.Ab
set_option maxRecDepth 100000
def chkTz (s:Nat):Option ((Int×Unit)×Unit)→Bool
 | some ((k,_),_)=>Nat.beq s 0||(decide (0≤k)&&(decide (k < 8)&&(s.testBit k.toNat&&(List.range 8).all fun i=>Nat.ble k.toNat i||!s.testBit i)))
 | none=>false
def nz4' (s:Nat):Option ((Int×Unit)×Unit)→Bool
 | some ((k,_),_)=>Nat.beq s 0||(decide (1≤k)&&(decide (k≤8)&&(s.testBit (k.toNat - 1)&&(List.range 8).all fun i=>Nat.blt i k.toNat||!s.testBit i)))
 | none=>false
def ones8 (s:Nat):Nat:=(List.range 8).foldl (fun n i=>n + (s.testBit i).toNat) 0
def nxv' (s:Nat):Option ((Int×Unit)×Unit)→Bool
 | some ((k,_),_)=>k==(ones8 s:Int)
 | none=>false
theorem n4f':((List.range 256).all fun s=>chkTz s (ncm' (s:Int)))=true:=by kernel_rfl
theorem n3q':((List.range 256).all fun s=>nz4' s (ngw' (s:Int)))=true:=by kernel_rfl
theorem n2h':((List.range 256).all fun s=>nxv' s (ncd' (s:Int)))=true:=by kernel_rfl
theorem tz_eq {s:Nat} (h:s < 256) (h0:s ≠ 0):∃ k:Nat,ncm' (s:Int)=some (((k:Int),()),())∧k < 8∧s.testBit k=true∧∀ i,i < k→s.testBit i=false:=by
 have:=List.all_eq_true.1 n4f' s (List.mem_range.2 h)
 cases hf:ncm' (s:Int) with
 | none=>rw [hf] at this; cases this
 | some r=>
  obtain ⟨⟨k,_⟩,_⟩:=r
  rw [hf] at this
  have hb:Nat.beq s 0=false:=by cases hb:Nat.beq s 0 with
   | false=>rfl
   | true=>exact absurd (Nat.eq_of_beq_eq_true hb) h0
  simp only [chkTz,hb,Bool.false_or,Bool.and_eq_true,decide_eq_true_eq,List.all_eq_true] at this
  obtain ⟨a1,a2,a3,a4⟩:=this
  refine ⟨k.toNat,by rw [Int.toNat_of_nonneg a1],by omega,a3,fun i hi=>?_⟩
  have:=a4 i (List.mem_range.2 (by omega))
  have hn:Nat.ble k.toNat i=false:=by
   cases hb:Nat.ble k.toNat i with
   | false=>rfl
   | true=>exact absurd (Nat.le_of_ble_eq_true hb) (by omega)
  rw [hn] at this
  simpa using this
theorem n39' {s:Nat} (h:s < 256) (h0:s ≠ 0):∃ k:Nat,ngw' (s:Int)=some ((((k + 1:Nat):Int),()),())∧k < 8∧s.testBit k=true∧∀ i,k < i→s.testBit i=false:=by
 have:=List.all_eq_true.1 n3q' s (List.mem_range.2 h)
 cases hf:ngw' (s:Int) with
 | none=>rw [hf] at this; cases this
 | some r=>
  obtain ⟨⟨k,_⟩,_⟩:=r
  rw [hf] at this
  have hb:Nat.beq s 0=false:=by cases hb:Nat.beq s 0 with
   | false=>rfl
   | true=>exact absurd (Nat.eq_of_beq_eq_true hb) h0
  simp only [nz4',hb,Bool.false_or,Bool.and_eq_true,decide_eq_true_eq,List.all_eq_true] at this
  obtain ⟨a1,a2,a3,a4⟩:=this
  refine ⟨k.toNat - 1,by congr 3; omega,by omega,a3,fun i hi=>?_⟩
  by_cases hi8:i < 8
  ·have:=a4 i (List.mem_range.2 hi8)
   have hn:Nat.blt i k.toNat=false:=by
    cases hb:Nat.blt i k.toNat with
    | false=>rfl
    | true=>exact absurd (Nat.le_of_ble_eq_true hb) (by omega)
   rw [hn] at this
   simpa using this
  ·exact Nat.testBit_lt_two_pow (Nat.lt_of_lt_of_le h (by rw [show 256=2 ^ 8 from rfl]; exact Nat.pow_le_pow_right (by omega) (by omega)))
theorem nr3' {s:Nat} (h:s < 256):ncd' (s:Int)=some ((((ones8 s:Nat):Int),()),()):=by
 have:=List.all_eq_true.1 n2h' s (List.mem_range.2 h)
 cases hf:ncd' (s:Int) with
 | none=>rw [hf] at this; cases this
 | some r=>
  obtain ⟨⟨k,_⟩,_⟩:=r
  rw [hf] at this
  simp only [nxv',beq_iff_eq] at this
  rw [this]
end Go.Ovl
namespace Go.Ovl
open Go Go.Ab
set_option maxRecDepth 100000
def allM (fl:Nat):Int:=IntKind.u32.wrap (IntKind.u32.wrap (1 * 2 ^ min fl (IntKind.bits .u32)) - 1)
theorem n24':((List.range 9).all fun fl=>(List.range 32).all fun i=>(bitF (allM fl) i==decide (i < fl))&&((bitF (Int.fdiv (allM fl) (2 ^ min (Int.toNat 1) (IntKind.bits .u32))) i==decide (i + 1 < fl))&&(bitF (IntKind.u32.wrap (stk (allM fl) 1 (BitVec.toNat (BitVec.ofInt (IntKind.bits .u32) (allM fl) &&& ~~~ BitVec.ofInt (IntKind.bits .u32) 1)))) i==(decide (0 < i)&&decide (i < fl)))))=true:=by kernel_rfl
theorem ng1' {fl:Nat} (h:fl≤8) {i:Nat} (hi:i < 32):bitF (allM fl) i=decide (i < fl)∧bitF (Int.fdiv (allM fl) (2 ^ min (Int.toNat 1) (IntKind.bits .u32))) i=decide (i + 1 < fl) ∧
  bitF (IntKind.u32.wrap (stk (allM fl) 1 (BitVec.toNat (BitVec.ofInt (IntKind.bits .u32) (allM fl) &&& ~~~ BitVec.ofInt (IntKind.bits .u32) 1)))) i=(decide (0 < i)&&decide (i < fl)):=by
 have:=List.all_eq_true.1 (List.all_eq_true.1 n24' fl (List.mem_range.2 (by omega))) i (List.mem_range.2 hi)
 simpa only [Bool.and_eq_true,beq_iff_eq] using this
def u32r (n:Int):Prop:=0≤n∧n < 4294967296
theorem nuf' {b:BitVec 32} {fl:Nat} (hfl:fl≤8) (h:∀ i,i < 32→b.getLsbD i=true→i < fl):b.toNat < 256:=by
 have:b.toNat < 2 ^ 8:=by
  refine Nat.lt_pow_two_of_testBit _ fun i hi=>?_
  by_cases h32:i < 32
  ·cases hb:b.toNat.testBit i with
   | false=>rfl
   | true=>have:=h i h32 (by rw [BitVec.getLsbD]; exact hb); omega
  ·rw [← BitVec.getLsbD]; exact BitVec.getLsbD_of_ge _ _ (by omega)
 simpa using this
structure Cnt (fl:Nat) (car up down:Int) (a u d:Nat):Prop where
 la:a < 256
 lu:u < 256
 ld:d < 256
 ab:∀ i,i < fl→a.testBit i=bitF car i
 ub:∀ i,i < fl→u.testBit i=(decide (i + 1 < fl)&&bitF up i)
 db:∀ i,i < fl→d.testBit i=(decide (0 < i)&&bitF down i)
 hi:∀ i,fl≤i→a.testBit i=false∧u.testBit i=false∧d.testBit i=false
theorem nj3' {fl:Nat} (hfl:fl≤8) (car up down:Int):∃ a u d:Nat,nfo' fl car up down=some (((),()),(((a:Int),(u:Int),(d:Int),()),()))∧Cnt fl car up down a u d:=by
 have e0:decide ((0:Int)≤(fl:Int))=true:=by simp
 have tn:Int.toNat (fl:Int)=fl:=by omega
 refine ⟨(bv car &&& bv (allM fl)).toNat,(bv up &&& bv (Int.fdiv (allM fl) (2 ^ min (Int.toNat 1) (IntKind.bits .u32)))).toNat,(bv down &&& bv (IntKind.u32.wrap (stk (allM fl) 1 (BitVec.toNat (BitVec.ofInt (IntKind.bits .u32) (allM fl) &&& ~~~ BitVec.ofInt (IntKind.bits .u32) 1))))).toNat,?_,?_⟩
 ·unfold nfo'
  rw [e0,cond_true,tn]
  unfold ndp'
  simp only [Option.bind_some]
  rw [show IntKind.u32.wrap (IntKind.u32.wrap (1 * 2 ^ min fl (IntKind.bits .u32)) - 1)=allM fl from rfl]
  rw [w_and,w_and,w_and]
  rfl
 ·have hb:∀ (x y:Int) (i:Nat),(bv x &&& bv y).toNat.testBit i=(bitF x i&&bitF y i):=fun x y i=>by
   rw [← BitVec.getLsbD,BitVec.getLsbD_and]; rfl
  have hlo:∀ (x y:Int),(∀ i,i < 32→bitF y i=true→i < fl)→(bv x &&& bv y).toNat < 256:=fun x y h=>nuf' hfl fun i hi hg=>h i hi (by
   rw [BitVec.getLsbD_and,Bool.and_eq_true] at hg; exact hg.2)
  refine ⟨hlo _ _ fun i hi h=>?_,hlo _ _ fun i hi h=>?_,hlo _ _ fun i hi h=>?_,fun i hi=>?_,fun i hi=>?_,fun i hi=>?_,fun i hi=>?_⟩
  ·rw [(ng1' hfl hi).1] at h; simpa using h
  ·rw [(ng1' hfl hi).2.1] at h; have:=of_decide_eq_true h; omega
  ·rw [(ng1' hfl hi).2.2,Bool.and_eq_true] at h; exact of_decide_eq_true h.2
  ·rw [hb,(ng1' hfl (by omega)).1]; simp [hi]
  ·rw [hb,(ng1' hfl (by omega)).2.1,Bool.and_comm]
  ·rw [hb,(ng1' hfl (by omega)).2.2,Bool.and_comm]; simp [hi]
  ·rw [hb,hb,hb]
   by_cases h32:i < 32
   ·obtain ⟨h1,h2,h3⟩:=ng1' hfl h32
    rw [h1,h2,h3,show decide (i < fl)=false from decide_eq_false (by omega),show decide (i + 1 < fl)=false from decide_eq_false (by omega)]
    simp
   ·rw [nr1' _ (by omega),nr1' up (by omega),nr1' down (by omega)]
    simp
theorem noi' {f:Int} (h:u32r f) {i:Nat} (hi:i < 32) :
  (IntKind.u32.wrap (stk (Int.fdiv f (2 ^ min i (IntKind.bits .u32))) 1 (BitVec.toNat (BitVec.ofInt (IntKind.bits .u32) (Int.fdiv f (2 ^ min i (IntKind.bits .u32))) &&& BitVec.ofInt (IntKind.bits .u32) 1)))==1)=bitF f i:=by
 rw [nmi']; exact n2x' h hi
theorem no2' {fl:Nat} (h2:2≤fl) (hfl:fl≤8) {car up down:Int} (hc:u32r car) (hu:u32r up) (hd:u32r down) {a u d:Nat} (c:Cnt fl car up down a u d) {f:Nat} (hf:f < fl) :
  nd1' fl car up down f 0=some ((a.testBit f,()),())∧nd1' fl car up down f 1=some ((u.testBit f,()),())∧nd1' fl car up down f 2=some ((d.testBit f,()),()):=by
 have w:IntKind.u64.wrap (f:Int)=(f:Int):=npt' (by omega) (by omega)
 have e0:decide ((0:Int)≤(f:Int))=true:=by simp
 have tn:Int.toNat (f:Int)=f:=by omega
 have w1:IntKind.i64.wrap ((fl:Int) - 1)=(fl:Int) - 1:=nb' (by omega) (by omega)
 refine ⟨?_,?_,?_⟩
 ·unfold nd1'
  rw [show ((0:Int)==1)=false from rfl,show ((0:Int)==2)=false from rfl]
  simp only [cond_false,w,e0,tn,cond_true,noi' hc (show f < 32 by omega),c.ab f hf]
 ·unfold nd1'
  rw [show ((1:Int)==1)=true from rfl]
  simp only [cond_true,w,w1,e0,tn,noi' hu (show f < 32 by omega),c.ub f hf]
  by_cases h:f + 1 < fl
  ·rw [show decide ((f:Int) < (fl:Int) - 1)=true from decide_eq_true (by omega),show decide (f + 1 < fl)=true from decide_eq_true h]
   simp
  ·rw [show decide ((f:Int) < (fl:Int) - 1)=false from decide_eq_false (by omega),show decide (f + 1 < fl)=false from decide_eq_false h]
   simp
 ·unfold nd1'
  rw [show ((2:Int)==1)=false from rfl,show ((2:Int)==2)=true from rfl]
  simp only [cond_true,cond_false,w,e0,tn,noi' hd (show f < 32 by omega),c.db f hf]
  by_cases h:0 < f
  ·rw [show decide ((0:Int) < (f:Int))=true from decide_eq_true (by omega),show decide (0 < f)=true from decide_eq_true h]
   simp
  ·rw [show decide ((0:Int) < (f:Int))=false from decide_eq_false (by omega),show decide (0 < f)=false from decide_eq_false h]
   simp
end Go.Ovl
namespace Go.Ovl
open Go Go.Ab
set_option maxRecDepth 100000
def nex' (p:Bool) (i:Int) (x:Int×Int):Int×Int:=bif p then (bif decide (x.1 < i) then i else x.1,bif decide (i < x.2) then i else x.2) else x
def hlF (p:Nat→Bool):Nat→Nat→Int×Int→Int×Int
 | 0,_,x=>x
 | m + 1,i,x=>hlF p m (i + 1) (nex' (p i) i x)
theorem nwz' (p:Bool) (i:Int) (x:Int×Int):((nex' p i x).1=x.1∨(p=true∧(nex' p i x).1=i))∧((nex' p i x).2=x.2∨(p=true∧(nex' p i x).2=i))∧x.1≤(nex' p i x).1∧(nex' p i x).2≤x.2∧(p=true→i≤(nex' p i x).1∧(nex' p i x).2≤i):=by
 unfold nex'
 cases p with
 | false=>simp
 | true=>
  simp only [cond_true]
  by_cases h1:x.1 < i <;> by_cases h2:i < x.2 <;> simp [h1,h2] <;> omega
theorem nvu' (p:Nat→Bool):∀ (m i:Nat) (x:Int×Int),
  ((hlF p m i x).1=x.1∨∃ j,i≤j∧j < i + m∧p j=true∧(hlF p m i x).1=(j:Int))∧((hlF p m i x).2=x.2∨∃ j,i≤j∧j < i + m∧p j=true∧(hlF p m i x).2=(j:Int)) ∧
  x.1≤(hlF p m i x).1∧(hlF p m i x).2≤x.2∧∀ j,i≤j→j < i + m→p j=true→(j:Int)≤(hlF p m i x).1∧(hlF p m i x).2≤(j:Int)
 | 0,i,x=>⟨.inl rfl,.inl rfl,Int.le_refl _,Int.le_refl _,fun j h1 h2=>by omega⟩
 | m + 1,i,x=>by
  obtain ⟨s1,s2,s3,s4,s5⟩:=nwz' (p i) i x
  obtain ⟨t1,t2,t3,t4,t5⟩:=nvu' p m (i + 1) (nex' (p i) i x)
  show ((hlF p m (i + 1) (nex' (p i) i x)).1=x.1∨_)∧_
  refine ⟨?_,?_,Int.le_trans s3 t3,Int.le_trans t4 s4,fun j h1 h2 h3=>?_⟩
  ·rcases t1 with t1 | ⟨j,j1,j2,j3,j4⟩
   ·rcases s1 with s1 | ⟨s1,s1'⟩
    ·exact .inl (t1.trans s1)
    ·exact .inr ⟨i,Nat.le_refl _,by omega,s1,t1.trans s1'⟩
   ·exact .inr ⟨j,by omega,by omega,j3,j4⟩
  ·rcases t2 with t1 | ⟨j,j1,j2,j3,j4⟩
   ·rcases s2 with s1 | ⟨s1,s1'⟩
    ·exact .inl (t1.trans s1)
    ·exact .inr ⟨i,Nat.le_refl _,by omega,s1,t1.trans s1'⟩
   ·exact .inr ⟨j,by omega,by omega,j3,j4⟩
  ·by_cases e:j=i
   ·subst e
    have:=s5 h3
    exact ⟨Int.le_trans this.1 t3,Int.le_trans t4 this.2⟩
   ·exact t5 j (by omega) (by omega) h3
theorem nty' {fl:Nat} (h2:2≤fl) (hfl:fl≤8) {car up down:Int} (hc:u32r car) (hu:u32r up) (hd:u32r down) {a u d:Nat} (c:Cnt fl car up down a u d) (from_ sweep floor dir:Int) (x:Int×Int) :
  nh9' (((fl:Int),from_,sweep,floor,dir,(),x.1,x.2,(0:Int),()),((car,up,down,()),()))=some ((from_,sweep,floor,dir,(hlF (fun i=>a.testBit i||(u.testBit i||d.testBit i)) fl 0 x).1,(hlF (fun i=>a.testBit i||(u.testBit i||d.testBit i)) fl 0 x).2,()),()):=by
 have key:∀ (m i:Nat) (x:Int×Int),i + m=fl→iter (fun x=>nfi' x.1.1 x.1.2.1 x.1.2.2.1 x.1.2.2.2.1 x.1.2.2.2.2.1 x.1.2.2.2.2.2.2.1 x.1.2.2.2.2.2.2.2.1 x.1.2.2.2.2.2.2.2.2.1 x.2.1.1 x.2.1.2.1 x.2.1.2.2.1) (m + 1) (((fl:Int),from_,sweep,floor,dir,(),x.1,x.2,(i:Int),()),((car,up,down,()),()))=some ((from_,sweep,floor,dir,(hlF (fun i=>a.testBit i||(u.testBit i||d.testBit i)) m i x).1,(hlF (fun i=>a.testBit i||(u.testBit i||d.testBit i)) m i x).2,()),()):=by
  intro m
  induction m with
  | zero=>
   intro i x hi'
   refine nr' ?_
   show nfi' (fl:Int) from_ sweep floor dir x.1 x.2 (i:Int) car up down=_
   unfold nfi'
   have e:decide ((i:Int) < (fl:Int))=false:=by simp; omega
   rw [e]; rfl
  | succ m ih=>
   intro i x hi'
   obtain ⟨k0,k1,k2⟩:=no2' h2 hfl hc hu hd c (show i < fl by omega)
   have e:decide ((i:Int) < (fl:Int))=true:=by simp; omega
   have w:IntKind.i64.wrap ((i:Int) + 1)=((i + 1:Nat):Int):=by rw [nb' (by omega) (by omega)]; omega
   refine (ny' (x':=(((fl:Int),from_,sweep,floor,dir,(),(nex' (a.testBit i||(u.testBit i||d.testBit i)) i x).1,(nex' (a.testBit i||(u.testBit i||d.testBit i)) i x).2,((i + 1:Nat):Int),()),((car,up,down,()),()))) ?_).trans (ih (i + 1) _ (by omega))
   show nfi' (fl:Int) from_ sweep floor dir x.1 x.2 (i:Int) car up down=_
   unfold nfi'
   simp only [e,cond_true,k0,k1,k2,Option.bind_some]
   cases a.testBit i with
   | true=>simp only [cond_true,Option.bind_some,w,Bool.true_or]; rfl
   | false=>
    cases u.testBit i with
    | true=>simp only [cond_true,cond_false,Option.bind_some,w,Bool.true_or,Bool.false_or]; rfl
    | false=>
     cases d.testBit i with
     | true=>simp only [cond_true,cond_false,Option.bind_some,w,Bool.false_or]; rfl
     | false=>simp only [cond_false,Option.bind_some,w,Bool.false_or]; rfl
 exact nx' (key fl 0 x (by omega)) (by omega)
theorem n4k' {fl:Nat} {p:Nat→Bool} {S:Nat} {from_ floor:Nat} (_hfr:from_ < fl) (_hfo:floor < fl) (hS:∀ i,S.testBit i=(decide (i < fl)&&p i||(decide (i=from_)||decide (i=floor))))
  {hi lo:Nat} (h1:S.testBit hi=true) (h2:∀ i,hi < i→S.testBit i=false) (l1:S.testBit lo=true) (l2:∀ i,i < lo→S.testBit i=false) :
  hlF p fl 0 (bif decide ((from_:Int) < floor) then (floor:Int) else from_,bif decide ((floor:Int) < from_) then (floor:Int) else from_)=((hi:Int),(lo:Int)):=by
 obtain ⟨s1,s2,s3,s4,s5⟩:=nvu' p fl 0 (bif decide ((from_:Int) < floor) then (floor:Int) else from_,bif decide ((floor:Int) < from_) then (floor:Int) else from_)
 generalize hlF p fl 0 (bif decide ((from_:Int) < floor) then (floor:Int) else from_,bif decide ((floor:Int) < from_) then (floor:Int) else from_)=r at *
 have bmax:(bif decide ((from_:Int) < floor) then (floor:Int) else from_)=((max from_ floor:Nat):Int):=by
  by_cases h:(from_:Int) < floor
  ·rw [decide_eq_true h]; simp only [cond_true]; omega
  ·rw [decide_eq_false h]; simp only [cond_false]; omega
 have bmin:(bif decide ((floor:Int) < from_) then (floor:Int) else from_)=((min from_ floor:Nat):Int):=by
  by_cases h:(floor:Int) < from_
  ·rw [decide_eq_true h]; simp only [cond_true]; omega
  ·rw [decide_eq_false h]; simp only [cond_false]; omega
 simp only [bmax,bmin] at s1 s2 s3 s4
 have mem:∀ i,i < fl→p i=true→S.testBit i=true:=fun i h hp=>by rw [hS,decide_eq_true h,hp]; rfl
 have mfr:S.testBit from_=true:=by rw [hS]; simp
 have mfo:S.testBit floor=true:=by rw [hS]; simp
 have up:∀ i,S.testBit i=true→i≤hi:=fun i h=>by
  rcases Nat.lt_or_ge hi i with h' | h'
  ·rw [h2 i h'] at h; cases h
  ·exact h'
 have dn:∀ i,S.testBit i=true→lo≤i:=fun i h=>by
  rcases Nat.lt_or_ge i lo with h' | h'
  ·rw [l2 i h'] at h; cases h
  ·exact h'
 have inS:∀ i,S.testBit i=true→(i < fl∧p i=true)∨i=from_∨i=floor:=fun i h=>by
  rw [hS] at h
  simp only [Bool.or_eq_true,Bool.and_eq_true,decide_eq_true_eq] at h
  exact h
 have u1:=up _ mfr
 have u2:=up _ mfo
 have d1:=dn _ mfr
 have d2:=dn _ mfo
 have r1:r.1≤(hi:Int):=by
  rcases s1 with s1 | ⟨j,_,j2,j3,j4⟩
  ·omega
  ·have:=up j (mem j (by omega) j3); omega
 have r2:(lo:Int)≤r.2:=by
  rcases s2 with s1 | ⟨j,_,j2,j3,j4⟩
  ·omega
  ·have:=dn j (mem j (by omega) j3); omega
 clear s1 s2
 have q1:(hi:Int)≤r.1:=by
  rcases inS hi h1 with ⟨g1,g2⟩ | g | g
  ·exact (s5 hi (Nat.zero_le _) (by omega) g2).1
  ·omega
  ·omega
 have q2:r.2≤(lo:Int):=by
  rcases inS lo l1 with ⟨g1,g2⟩ | g | g
  ·exact (s5 lo (Nat.zero_le _) (by omega) g2).2
  ·omega
  ·omega
 exact Prod.ext (Int.le_antisymm r1 q1) (Int.le_antisymm q2 r2)
end Go.Ovl
namespace Go.Ovl
open Go Go.Ab
set_option maxRecDepth 100000
def distF (f at_:Int):Int:=bif decide (f - at_ < at_ - f) then at_ - f else f - at_
def wayF:List Int→Int→Int→Int
 | [],n,_=>n
 | f :: t,n,at_=>wayF t (n + distF f at_) f
theorem nur' {s:List Int} (hs:∀ e ∈ s,0≤e∧e < 100) (hsl:s.length≤100) (b0 b1:Int):∀ (m i:Nat) (n at_:Int),i + m=s.length→m≤100→0≤at_∧at_ < 100→0≤n∧n + 100 * (m:Int) < 100000 →
  iter (fun x=>nb4' x.1.1 x.1.2.1 x.1.2.2.1 x.1.2.2.2.1 x.1.2.2.2.2.1 x.2.1.1 x.2.2.1.1) (m + 1) ((n,at_,s,(s.length:Int),(i:Int),()),((b0,()),(b1,()),()))=some ((wayF (s.drop i) n at_,()),((b0,()),(b1,()),()))
 | 0,i,n,at_,hi,_,_,_=>by
  refine nr' ?_
  show nb4' n at_ s (s.length:Int) (i:Int) b0 b1=_
  unfold nb4'
  have e:decide ((i:Int) < (s.length:Int))=false:=by simp; omega
  rw [e,show i=s.length by omega,List.drop_length]; rfl
 | m + 1,i,n,at_,hi,hm,ha,hn=>by
  have hg:0≤s.getD i 0∧s.getD i 0 < 100:=by
   have h:i < s.length:=by omega
   simp only [List.getD_eq_getElem?_getD,List.getElem?_eq_getElem h,Option.getD_some]
   exact hs _ (List.getElem_mem h)
  have hd:0≤distF (s.getD i 0) at_∧distF (s.getD i 0) at_ < 100:=by
   unfold distF
   by_cases h:s.getD i 0 - at_ < at_ - s.getD i 0
   ·rw [decide_eq_true h]; simp only [cond_true]; omega
   ·rw [decide_eq_false h]; simp only [cond_false]; omega
  have e:decide ((i:Int) < (s.length:Int))=true:=by simp; omega
  have ib:inB (i:Int) s.length=true:=nd' (by omega) (by omega)
  have tn:Int.toNat (i:Int)=i:=by omega
  have w:IntKind.i64.wrap ((i:Int) + 1)=((i + 1:Nat):Int):=by rw [nb' (by omega) (by omega)]; omega
  have w1:IntKind.i64.wrap (s.getD i 0 - at_)=s.getD i 0 - at_:=nb' (by omega) (by omega)
  have w2:IntKind.i64.wrap (at_ - s.getD i 0)=at_ - s.getD i 0:=nb' (by omega) (by omega)
  have w3:IntKind.i64.wrap (n + distF (s.getD i 0) at_)=n + distF (s.getD i 0) at_:=nb' (by omega) (by omega)
  refine (ny' (x':=((n + distF (s.getD i 0) at_,s.getD i 0,s,(s.length:Int),((i + 1:Nat):Int),()),((b0,()),(b1,()),()))) ?_).trans ?_
  ·show nb4' n at_ s (s.length:Int) (i:Int) b0 b1=_
   unfold nb4'
   simp only [e,ib,tn,w,w1,w2,cond_true]
   rw [show (bif decide (s.getD i 0 - at_ < at_ - s.getD i 0) then at_ - s.getD i 0 else s.getD i 0 - at_)=distF (s.getD i 0) at_ from rfl,w3]
  ·rw [nur' hs hsl b0 b1 m (i + 1) _ _ (by omega) (by omega) hg (by omega),nbn' (0:Int) (show i < s.length by omega)]
   rfl
theorem njv' {l:List Int} (hl:∀ e ∈ l,0≤e∧e < 100) (hlen:l.length≤10) {from_ floor:Int} (hf:0≤from_∧from_ < 100) (ho:0≤floor∧floor < 100) :
  ns' l from_ floor=some ((wayF (l++[floor]) 0 from_,()),((from_,()),(floor,()),())):=by
 unfold ns'
 have hb:Nat.ble (l.length + [floor].length) 2147483648=true:=nbl' (by simp; omega)
 have hs:∀ e ∈ l++[floor],0≤e∧e < 100:=fun e he=>by
  rcases List.mem_append.1 he with h | h
  ·exact hl e h
  ·rw [List.mem_singleton.1 h]; exact ho
 have hl2:(l++[floor]).length≤11:=by simp; omega
 have h0:ndo' (((0:Int),from_,l++[floor],((l++[floor]).length:Int),(0:Int),()),((from_,()),(floor,()),()))=_:=nx' (nur' hs (by omega) from_ floor (l++[floor]).length 0 0 from_ (by omega) (by omega) hf (by omega)) (by omega)
 rw [List.drop_zero] at h0
 simp only [hb,cond_true,h0,Option.bind_some]
end Go.Ovl
namespace Go.Ovl
open Go Go.Ab
set_option maxRecDepth 100000
def nfq' (fl floor dir:Int):Bool:=(dir==1&&(decide (0≤floor)&&decide (floor < fl - 1)))||(dir==2&&(decide (0 < floor)&&decide (floor < fl)))
theorem nln' {fl:Int} (h:0≤fl∧fl < 100) (floor dir:Int):nhk' fl floor dir=some ((nfq' fl floor dir,()),()):=by
 have w:IntKind.i64.wrap (fl - 1)=fl - 1:=nb' (by omega) (by omega)
 unfold nhk' nfq'
 rw [w]
 cases dir==1 <;> cases decide (0≤floor) <;> cases decide (floor < fl - 1) <;> cases dir==2 <;> cases decide (0 < floor) <;> cases decide (floor < fl) <;> rfl
theorem ngv' {fl:Int} (h:2≤fl∧fl≤32):nez' fl=some ((true,()),()):=by
 unfold nez'
 rw [decide_eq_true h.1,decide_eq_true h.2]; rfl
theorem refG {fl:Int} (h:0≤fl∧fl < 100) (from_ sweep floor dir car up down:Int):(bif (dir==(1:Int)) then bif (decide ((0:Int)≤floor)) then bif (decide (floor < (Go.IntKind.wrap Go.IntKind.i64 (fl - (1:Int))))) then some ((fl,from_,sweep,floor,dir,(),false,()),((car,up,down,()),())) else bif (dir==(2:Int)) then bif (decide ((0:Int) < floor)) then some ((fl,from_,sweep,floor,dir,(),(!(decide (floor < fl))),()),((car,up,down,()),())) else some ((fl,from_,sweep,floor,dir,(),true,()),((car,up,down,()),())) else some ((fl,from_,sweep,floor,dir,(),true,()),((car,up,down,()),())) else bif (dir==(2:Int)) then bif (decide ((0:Int) < floor)) then some ((fl,from_,sweep,floor,dir,(),(!(decide (floor < fl))),()),((car,up,down,()),())) else some ((fl,from_,sweep,floor,dir,(),true,()),((car,up,down,()),())) else some ((fl,from_,sweep,floor,dir,(),true,()),((car,up,down,()),())) else bif (dir==(2:Int)) then bif (decide ((0:Int) < floor)) then some ((fl,from_,sweep,floor,dir,(),(!(decide (floor < fl))),()),((car,up,down,()),())) else some ((fl,from_,sweep,floor,dir,(),true,()),((car,up,down,()),())) else some ((fl,from_,sweep,floor,dir,(),true,()),((car,up,down,()),())))=some ((fl,from_,sweep,floor,dir,(),!nfq' fl floor dir,()),((car,up,down,()),())):=by
 have w:IntKind.i64.wrap (fl - 1)=fl - 1:=nb' (by omega) (by omega)
 unfold nfq'
 rw [w]
 cases dir==1 <;> cases decide (0≤floor) <;> cases decide (floor < fl - 1) <;> cases dir==2 <;> cases decide (0 < floor) <;> cases decide (floor < fl) <;> rfl
def pathV (sw di fr fo lo hi:Int):Int:=
 bif sw==0 then (bif decide (fr - fo < fo - fr) then fo - fr else fr - fo)
 else bif sw==1 then (bif di==1 then (bif decide (fr≤fo) then fo - fr else hi - fr + hi - lo + fo - lo) else hi - fr + hi - fo)
 else (bif di==2 then (bif decide (fo≤fr) then fr - fo else fr - lo + hi - lo + hi - fo) else fr - lo + fo - lo)
theorem n4n' {fl:Nat} (hfl:fl≤8) {car up down:Int} {a u d:Nat} (c:Cnt fl car up down a u d) {fr fo:Nat} (hr:fr < fl) (ho:fo < fl) :
  ∃ S:Nat,S < 256∧S ≠ 0∧(∀ i,S.testBit i=(decide (i < fl)&&(a.testBit i||(u.testBit i||d.testBit i))||(decide (i=fr)||decide (i=fo)))) ∧
   vb ((((bv a ||| bv u) ||| bv d) ||| BitVec.twoPow 32 fr) ||| BitVec.twoPow 32 fo)=(S:Int):=by
 have hb:∀ (x:Nat),x < 256→∀ i,(bv (x:Int)).getLsbD i=x.testBit i:=fun x hx i=>by
  show bitF (x:Int) i=_
  rw [n0j' ⟨by omega,by omega⟩]; simp
 have hS:∀ i,((((bv a ||| bv u) ||| bv d) ||| BitVec.twoPow 32 fr) ||| BitVec.twoPow 32 fo).getLsbD i=(decide (i < fl)&&(a.testBit i||(u.testBit i||d.testBit i))||(decide (i=fr)||decide (i=fo))):=by
  intro i
  simp only [BitVec.getLsbD_or,hb a c.la,hb u c.lu,hb d c.ld,BitVec.getLsbD_twoPow]
  have e1:(decide (fr < 32)&&decide (fr=i))=decide (i=fr):=by rw [decide_eq_true (show fr < 32 by omega),Bool.true_and]; exact decide_eq_decide.2 eq_comm
  have e2:(decide (fo < 32)&&decide (fo=i))=decide (i=fo):=by rw [decide_eq_true (show fo < 32 by omega),Bool.true_and]; exact decide_eq_decide.2 eq_comm
  rw [e1,e2]
  by_cases hi:i < fl
  ·rw [decide_eq_true hi,Bool.true_and]
   cases a.testBit i <;> cases u.testBit i <;> cases d.testBit i <;> cases decide (i=fr) <;> cases decide (i=fo) <;> rfl
  ·obtain ⟨q1,q2,q3⟩:=c.hi i (by omega)
   rw [q1,q2,q3,decide_eq_false hi]; rfl
 refine ⟨((((bv a ||| bv u) ||| bv d) ||| BitVec.twoPow 32 fr) ||| BitVec.twoPow 32 fo).toNat,nuf' hfl fun i _ h=>?_,fun h0=>?_,hS,rfl⟩
 ·rw [hS] at h
  simp only [Bool.or_eq_true,Bool.and_eq_true,decide_eq_true_eq] at h
  rcases h with ⟨h,_⟩ | rfl | rfl
  ·exact h
  ·exact hr
  ·exact ho
 ·have:=hS fr
  rw [BitVec.getLsbD,h0] at this
  simp at this
theorem nyg' {fl:Nat} (h2:2≤fl) (hfl:fl≤8) (car up down from_ sweep floor dir:Int) (h:¬ (0≤from_∧from_ < fl∧0≤sweep∧sweep≤2∧nfq' fl floor dir=true)) :
  ndm' (fl:Int) from_ sweep car up down floor dir=some ((-1,()),())∧nd7' (fl:Int) from_ sweep car up down floor dir=some ((-1,()),()):=by
 unfold ndm' nd7'
 rw [ngv' ⟨by omega,by omega⟩,nln' ⟨by omega,by omega⟩]
 simp only [Option.bind_some,Bool.not_true,cond_false]
 rw [decide_eq_false (show ¬ ((fl:Int) < 2) by omega),decide_eq_false (show ¬ ((32:Int) < fl) by omega)]
 simp only [cond_false]
 by_cases g1:from_ < 0
 ·rw [decide_eq_true g1]; exact ⟨rfl,rfl⟩
 rw [decide_eq_false g1]
 simp only [cond_false]
 by_cases g2:(fl:Int)≤from_
 ·rw [decide_eq_true g2]; exact ⟨rfl,rfl⟩
 rw [decide_eq_false g2]
 simp only [cond_false]
 by_cases g3:sweep < 0
 ·rw [decide_eq_true g3]; exact ⟨rfl,rfl⟩
 rw [decide_eq_false g3]
 simp only [cond_false]
 by_cases g4:2 < sweep
 ·rw [decide_eq_true g4]; exact ⟨rfl,rfl⟩
 rw [decide_eq_false g4]
 simp only [cond_false]
 have hc:nfq' fl floor dir=false:=by
  cases hq:nfq' fl floor dir with
  | false=>rfl
  | true=>exact absurd ⟨by omega,by omega,by omega,by omega,hq⟩ h
 rw [refG ⟨by omega,by omega⟩,hc]
 exact ⟨rfl,rfl⟩
end Go.Ovl
namespace Go.Ovl
open Go Go.Ab
set_option maxRecDepth 100000
theorem nks' {f g:Int} (h:g≤f):distF f g=f - g:=by
 unfold distF
 rw [decide_eq_false (by omega)]; rfl
theorem nkm' {f g:Int} (h:f≤g):distF f g=g - f:=by
 unfold distF
 by_cases e:f - g < g - f
 ·rw [decide_eq_true e]; rfl
 ·rw [decide_eq_false e]; simp only [cond_false]; omega
theorem w_nil {fr fo:Nat} (h1:fr < 100) (h2:fo < 100):ns' [] (fr:Int) (fo:Int)=some ((distF fo fr,()),(((fr:Int),()),((fo:Int),()),())):=by
 rw [njv' (l:=[]) (by simp) (by simp) (by omega) (by omega)]
 simp only [List.nil_append,wayF,Int.zero_add]
theorem w_one {a fr fo:Nat} (h:a < 100) (h1:fr < 100) (h2:fo < 100):ns' [(a:Int)] (fr:Int) (fo:Int)=some ((distF a fr + distF fo a,()),(((fr:Int),()),((fo:Int),()),())):=by
 rw [njv' (l:=[(a:Int)]) (by simp; omega) (by simp) (by omega) (by omega)]
 simp only [List.cons_append,List.nil_append,wayF,Int.zero_add]
theorem w_two {a b fr fo:Nat} (h:a < 100) (h':b < 100) (h1:fr < 100) (h2:fo < 100):ns' [(a:Int),(b:Int)] (fr:Int) (fo:Int)=some ((distF a fr + distF b a + distF fo b,()),(((fr:Int),()),((fo:Int),()),())):=by
 rw [njv' (l:=[(a:Int),(b:Int)]) (by simp; omega) (by simp) (by omega) (by omega)]
 simp only [List.cons_append,List.nil_append,wayF,Int.zero_add]
theorem n1h' {lo hi fr fo:Nat} (b1:lo≤fr) (b2:lo≤fo) (b3:fr≤hi) (b4:fo≤hi) (b5:hi < 8) {sweep dir:Int} (hsw:sweep=0∨sweep=1∨sweep=2) (hdir:dir=1∨dir=2) :
    (
      Option.bind (bif (sweep == (1 : Int)) then
            bif (decide ((fr:Int)≤(fo:Int))) then
              some ((sweep,dir,(lo:Int),(hi:Int),(),true,()),(((fr:Int),()),((fo:Int),()),()))
            else
              bif (sweep==(2:Int)) then
                some ((sweep,dir,(lo:Int),(hi:Int),(),(decide ((fo:Int)≤(fr:Int))),()),(((fr:Int),()),((fo:Int),()),()))
              else
                some ((sweep,dir,(lo:Int),(hi:Int),(),false,()),(((fr:Int),()),((fo:Int),()),()))
          else
            bif (sweep==(2:Int)) then
              some ((sweep,dir,(lo:Int),(hi:Int),(),(decide ((fo:Int)≤(fr:Int))),()),(((fr:Int),()),((fo:Int),()),()))
            else
              some ((sweep,dir,(lo:Int),(hi:Int),(),false,()),(((fr:Int),()),((fo:Int),()),()))) fun y6=>
      Option.bind (bif (y6.1.1 == (0 : Int)) then
            some ((y6.1.1,y6.1.2.1,y6.1.2.2.1,y6.1.2.2.2.1,(),true,()),((y6.2.1.1,()),(y6.2.2.1.1,()),()))
          else
            bif (y6.1.1==y6.1.2.1) then
              some ((y6.1.1,y6.1.2.1,y6.1.2.2.1,y6.1.2.2.2.1,(),y6.1.2.2.2.2.2.1,()),((y6.2.1.1,()),(y6.2.2.1.1,()),()))
            else
              some ((y6.1.1,y6.1.2.1,y6.1.2.2.1,y6.1.2.2.2.1,(),false,()),((y6.2.1.1,()),(y6.2.2.1.1,()),()))) fun y7=>
      bif y7.1.2.2.2.2.2.1 then
        (ns' [] y7.2.1.1 y7.2.2.1.1).bind fun y8=>
        some ((y8.1.1,()),())
      else
        Option.bind (bif (y7.1.1 != y7.1.2.1) then
              some ((y7.1.1,y7.1.2.1,y7.1.2.2.1,y7.1.2.2.2.1,(),(y7.1.1==(1:Int)),()),((y7.2.1.1,()),(y7.2.2.1.1,()),()))
            else
              some ((y7.1.1,y7.1.2.1,y7.1.2.2.1,y7.1.2.2.2.1,(),false,()),((y7.2.1.1,()),(y7.2.2.1.1,()),()))) fun y9=>
        bif y9.1.2.2.2.2.2.1 then
          (ns' [y9.1.2.2.2.1] y9.2.1.1 y9.2.2.1.1).bind fun y10=>
          some ((y10.1.1,()),())
        else
          bif (y9.1.1 != y9.1.2.1) then
            (ns' [y9.1.2.2.1] y9.2.1.1 y9.2.2.1.1).bind fun y11=>
            some ((y11.1.1,()),())
          else
            bif (y9.1.1==(1:Int)) then
              (ns' [y9.1.2.2.2.1,y9.1.2.2.1] y9.2.1.1 y9.2.2.1.1).bind fun y12=>
              some ((y12.1.1,()),())
            else
              (ns' [y9.1.2.2.1,y9.1.2.2.2.1] y9.2.1.1 y9.2.2.1.1).bind fun y13=>
              some ((y13.1.1,()),()))=some ((pathV sweep dir fr fo lo hi,()),()):=by
  have fin:∀ {x y:Int},x=y→(some ((x,()),()):Option ((Int×Unit)×Unit))=some ((y,()),()):=fun h=>by rw [h]
  have e1:distF (fo:Int) fr=bif decide ((fr:Int) - fo < fo - fr) then (fo:Int) - fr else fr - fo:=by
    unfold distF
    by_cases g:(fo:Int) - fr < fr - fo
    · rw [decide_eq_true g,decide_eq_false (by omega)]; rfl
    · rw [decide_eq_false g]; by_cases g':(fr:Int) - fo < fo - fr
      · rw [decide_eq_true g']; rfl
      · rw [decide_eq_false g']; simp only [cond_false]; omega
  have W0:=w_nil (fr:=fr) (fo:=fo) (by omega) (by omega)
  have W1:=w_one (a:=hi) (fr:=fr) (fo:=fo) (by omega) (by omega) (by omega)
  have W2:=w_one (a:=lo) (fr:=fr) (fo:=fo) (by omega) (by omega) (by omega)
  have W3:=w_two (a:=hi) (b:=lo) (fr:=fr) (fo:=fo) (by omega) (by omega) (by omega) (by omega)
  have W4:=w_two (a:=lo) (b:=hi) (fr:=fr) (fo:=fo) (by omega) (by omega) (by omega) (by omega)
  rw [nks' (f:=hi) (g:=fr) (by omega),nkm' (f:=fo) (g:=hi) (by omega)] at W1
  rw [nkm' (f:=lo) (g:=fr) (by omega),nks' (f:=fo) (g:=lo) (by omega)] at W2
  rw [nks' (f:=hi) (g:=fr) (by omega),nkm' (f:=lo) (g:=hi) (by omega),nks' (f:=fo) (g:=lo) (by omega)] at W3
  rw [nkm' (f:=lo) (g:=fr) (by omega),nks' (f:=hi) (g:=lo) (by omega),nkm' (f:=fo) (g:=hi) (by omega)] at W4
  rcases hsw with rfl | rfl | rfl
  · rw [show ((0:Int)==1)=false from rfl,show ((0:Int)==2)=false from rfl]
    simp only [Option.bind_some,cond_true,cond_false,beq_self_eq_true,W0,pathV,e1]
  · rw [show ((1:Int)==1)=true from rfl,show ((1:Int)==2)=false from rfl]
    rcases hdir with rfl | rfl
    · by_cases g:(fr:Int)≤fo
      · simp only [Option.bind_some,cond_true,cond_false,decide_eq_true g,show ((1:Int)==0)=false from rfl,show ((1:Int)==1)=true from rfl,W0,pathV]
        rw [nks' g]
      · simp only [Option.bind_some,cond_true,cond_false,decide_eq_false g,show ((1:Int)==0)=false from rfl,show ((1:Int)==1)=true from rfl,bne,Bool.not_true,W3,pathV]
        refine fin ?_; omega
    · cases hg:decide ((fr:Int)≤fo) <;>
        (simp only [Option.bind_some,cond_true,cond_false,show ((1:Int)==0)=false from rfl,show ((1:Int)==1)=true from rfl,show ((1:Int)==2)=false from rfl,show ((2:Int)==1)=false from rfl,bne,Bool.not_false,W1,pathV]; refine fin ?_; omega)
  · rw [show ((2:Int)==1)=false from rfl,show ((2:Int)==2)=true from rfl]
    rcases hdir with rfl | rfl
    · cases hg:decide ((fo:Int)≤fr) <;>
        (simp only [Option.bind_some,cond_true,cond_false,show ((2:Int)==0)=false from rfl,show ((2:Int)==1)=false from rfl,show ((1:Int)==2)=false from rfl,bne,Bool.not_false,W2,pathV]; refine fin ?_; omega)
    · by_cases g:(fo:Int)≤fr
      · simp only [Option.bind_some,cond_true,cond_false,decide_eq_true g,show ((2:Int)==0)=false from rfl,show ((2:Int)==1)=false from rfl,show ((2:Int)==2)=true from rfl,W0,pathV]
        rw [nkm' g]
      · simp only [Option.bind_some,cond_true,cond_false,decide_eq_false g,show ((2:Int)==0)=false from rfl,show ((2:Int)==1)=false from rfl,show ((2:Int)==2)=true from rfl,bne,Bool.not_true,W4,pathV]
        refine fin ?_; omega
end Go.Ovl
