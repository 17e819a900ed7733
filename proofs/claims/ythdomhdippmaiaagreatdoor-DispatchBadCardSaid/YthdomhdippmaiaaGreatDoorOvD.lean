/- How far a car goes (layer 21): the program and the reference say the same. -/
import Derived.Test.YthdomhdippmaiaaGreatDoorOvC
import Derived.Test.YthdomhdippmaiaaGreatDoorOvA
namespace Go.Ovl
open Go Go.Ab
set_option maxRecDepth 100000
set_option maxHeartbeats 1000000 in
theorem nzp' {fl:Nat} (h2:2≤fl) (hfl:fl≤8) {car up down:Int} (hc:u32r car) (hu:u32r up) (hd:u32r down) {fr fo:Nat} (hr:fr < fl) (ho:fo < fl) {sweep dir:Int} (hs:0≤sweep∧sweep≤2) (hcall:nfq' fl fo dir=true) :
  ∃ lo hi:Nat,lo≤fr∧lo≤fo∧fr≤hi∧fo≤hi∧hi < 8∧ndm' (fl:Int) fr sweep car up down fo dir=some ((pathV sweep dir fr fo lo hi,()),())∧nd7' (fl:Int) fr sweep car up down fo dir=some ((pathV sweep dir fr fo lo hi,()),()):=by
 obtain ⟨a,u,d,hcnt,c⟩:=nj3' hfl car up down
 obtain ⟨S,s1,s2,s3,s4⟩:=n4n' hfl c hr ho
 obtain ⟨lo,t1,t2,t3,t4⟩:=tz_eq s1 s2
 obtain ⟨hi,l1,l2,l3,l4⟩:=n39' s1 s2
 have hl:=n4k' (p:=fun i=>a.testBit i||(u.testBit i||d.testBit i)) hr ho s3 l3 l4 t3 t4
 have hlo:∀ i,S.testBit i=true→lo≤i:=fun i h=>by
  rcases Nat.lt_or_ge i lo with h' | h'
  ·rw [t4 i h'] at h; cases h
  ·exact h'
 have hhi:∀ i,S.testBit i=true→i≤hi:=fun i h=>by
  rcases Nat.lt_or_ge hi i with h' | h'
  ·rw [l4 i h'] at h; cases h
  ·exact h'
 have mfr:S.testBit fr=true:=by rw [s3]; simp
 have mfo:S.testBit fo=true:=by rw [s3]; simp
 have b1:=hlo _ mfr
 have b2:=hlo _ mfo
 have b3:=hhi _ mfr
 have b4:=hhi _ mfo
 have hdir:dir=1∨dir=2:=by
  unfold nfq' at hcall
  simp only [Bool.or_eq_true,Bool.and_eq_true,beq_iff_eq] at hcall
  omega
 have hsw:sweep=0∨sweep=1∨sweep=2:=by omega
 have x0:IntKind.i64.wrap (((hi:Nat):Int) - ((fr:Nat):Int))=((hi:Nat):Int) - ((fr:Nat):Int):=nb' (by omega) (by omega)
 have x1:IntKind.i64.wrap (((hi:Nat):Int) - ((fr:Nat):Int) + ((hi:Nat):Int))=((hi:Nat):Int) - ((fr:Nat):Int) + ((hi:Nat):Int):=nb' (by omega) (by omega)
 have x2:IntKind.i64.wrap (((hi:Nat):Int) - ((fr:Nat):Int) + ((hi:Nat):Int) - ((fo:Nat):Int))=((hi:Nat):Int) - ((fr:Nat):Int) + ((hi:Nat):Int) - ((fo:Nat):Int):=nb' (by omega) (by omega)
 have x3:IntKind.i64.wrap (((hi:Nat):Int) - ((fr:Nat):Int) + ((hi:Nat):Int) - ((lo:Nat):Int))=((hi:Nat):Int) - ((fr:Nat):Int) + ((hi:Nat):Int) - ((lo:Nat):Int):=nb' (by omega) (by omega)
 have x4:IntKind.i64.wrap (((hi:Nat):Int) - ((fr:Nat):Int) + ((hi:Nat):Int) - ((lo:Nat):Int) + ((fo:Nat):Int))=((hi:Nat):Int) - ((fr:Nat):Int) + ((hi:Nat):Int) - ((lo:Nat):Int) + ((fo:Nat):Int):=nb' (by omega) (by omega)
 have x5:IntKind.i64.wrap (((hi:Nat):Int) - ((fr:Nat):Int) + ((hi:Nat):Int) - ((lo:Nat):Int) + ((fo:Nat):Int) - ((lo:Nat):Int))=((hi:Nat):Int) - ((fr:Nat):Int) + ((hi:Nat):Int) - ((lo:Nat):Int) + ((fo:Nat):Int) - ((lo:Nat):Int):=nb' (by omega) (by omega)
 have x6:IntKind.i64.wrap (((fr:Nat):Int) - ((lo:Nat):Int))=((fr:Nat):Int) - ((lo:Nat):Int):=nb' (by omega) (by omega)
 have x7:IntKind.i64.wrap (((fr:Nat):Int) - ((lo:Nat):Int) + ((fo:Nat):Int))=((fr:Nat):Int) - ((lo:Nat):Int) + ((fo:Nat):Int):=nb' (by omega) (by omega)
 have x8:IntKind.i64.wrap (((fr:Nat):Int) - ((lo:Nat):Int) + ((fo:Nat):Int) - ((lo:Nat):Int))=((fr:Nat):Int) - ((lo:Nat):Int) + ((fo:Nat):Int) - ((lo:Nat):Int):=nb' (by omega) (by omega)
 have x9:IntKind.i64.wrap (((fr:Nat):Int) - ((lo:Nat):Int) + ((hi:Nat):Int))=((fr:Nat):Int) - ((lo:Nat):Int) + ((hi:Nat):Int):=nb' (by omega) (by omega)
 have x10:IntKind.i64.wrap (((fr:Nat):Int) - ((lo:Nat):Int) + ((hi:Nat):Int) - ((lo:Nat):Int))=((fr:Nat):Int) - ((lo:Nat):Int) + ((hi:Nat):Int) - ((lo:Nat):Int):=nb' (by omega) (by omega)
 have x11:IntKind.i64.wrap (((fr:Nat):Int) - ((lo:Nat):Int) + ((hi:Nat):Int) - ((lo:Nat):Int) + ((hi:Nat):Int))=((fr:Nat):Int) - ((lo:Nat):Int) + ((hi:Nat):Int) - ((lo:Nat):Int) + ((hi:Nat):Int):=nb' (by omega) (by omega)
 have x12:IntKind.i64.wrap (((fr:Nat):Int) - ((lo:Nat):Int) + ((hi:Nat):Int) - ((lo:Nat):Int) + ((hi:Nat):Int) - ((fo:Nat):Int))=((fr:Nat):Int) - ((lo:Nat):Int) + ((hi:Nat):Int) - ((lo:Nat):Int) + ((hi:Nat):Int) - ((fo:Nat):Int):=nb' (by omega) (by omega)
 have x13:IntKind.i64.wrap (((fr:Nat):Int) - ((fo:Nat):Int))=((fr:Nat):Int) - ((fo:Nat):Int):=nb' (by omega) (by omega)
 have x14:IntKind.i64.wrap (((fo:Nat):Int) - ((fr:Nat):Int))=((fo:Nat):Int) - ((fr:Nat):Int):=nb' (by omega) (by omega)
 refine ⟨lo,hi,b1,b2,b3,b4,l2,?_,?_⟩
 ·unfold ndm'
  rw [ngv' ⟨by omega,by omega⟩,nln' ⟨by omega,by omega⟩,hcall,hcnt]
  rw [decide_eq_false (show ¬ ((fr:Int) < 0) by omega),decide_eq_false (show ¬ ((fl:Int)≤fr) by omega),decide_eq_false (show ¬ (sweep < 0) by omega),decide_eq_false (show ¬ (2 < sweep) by omega)]
  have tn1:Int.toNat (fr:Int)=fr:=by omega
  have tn2:Int.toNat (fo:Int)=fo:=by omega
  have p1:bv (IntKind.u32.wrap (1 * 2 ^ min fr (IntKind.bits .u32)))=BitVec.twoPow 32 fr:=by rw [nve',if_pos (by omega)]
  have p2:bv (IntKind.u32.wrap (1 * 2 ^ min fo (IntKind.bits .u32)))=BitVec.twoPow 32 fo:=by rw [nve',if_pos (by omega)]
  have z1:decide ((0:Int)≤(fr:Int))=true:=by simp
  have z2:decide ((0:Int)≤(fo:Int))=true:=by simp
  have lw:IntKind.i64.wrap (((hi + 1:Nat):Int) - 1)=(hi:Int):=by rw [nb' (by omega) (by omega)]; omega
  simp only [Option.bind_some,Bool.not_true,cond_false,cond_true,z1,z2,tn1,tn2,w_or,bv_vb,p1,p2,s4,t1,l1,lw]
  exact n1h' b1 b2 b3 b4 l2 hsw hdir
 ·unfold nd7'
  rw [decide_eq_false (show ¬ ((fl:Int) < 2) by omega),decide_eq_false (show ¬ ((32:Int) < fl) by omega),decide_eq_false (show ¬ ((fr:Int) < 0) by omega),decide_eq_false (show ¬ ((fl:Int)≤fr) by omega),decide_eq_false (show ¬ (sweep < 0) by omega),decide_eq_false (show ¬ (2 < sweep) by omega),refG ⟨by omega,by omega⟩,hcall]
  simp only [cond_false,Option.bind_some,Bool.not_true]
  have hloop:=nty' h2 hfl hc hu hd c fr sweep fo dir (bif decide ((fr:Int) < fo) then (fo:Int) else fr,bif decide ((fo:Int) < fr) then (fo:Int) else fr)
  rw [hl] at hloop
  simp only at hloop
  rw [hloop]
  rcases hsw with rfl | rfl | rfl
  ·unfold pathV
   simp only [Option.bind_some,beq_self_eq_true,cond_true,x13,x14]
  ·rcases hdir with rfl | rfl
   ·by_cases g:(fr:Int)≤fo
    ·unfold pathV
     simp only [Option.bind_some,beq_self_eq_true,cond_true,decide_eq_true g,show ((1:Int)==0)=false from rfl,cond_false,x0,x1,x2,x3,x4,x5,x13,x14]
    ·unfold pathV
     simp only [Option.bind_some,beq_self_eq_true,cond_true,decide_eq_false g,show ((1:Int)==0)=false from rfl,show ((1:Int)==2)=false from rfl,cond_false,x0,x1,x2,x3,x4,x5,x6,x7,x8,x9,x10,x11,x12,x13,x14]
   ·unfold pathV
    simp only [Option.bind_some,beq_self_eq_true,cond_true,show ((1:Int)==0)=false from rfl,show ((2:Int)==1)=false from rfl,cond_false,x0,x1,x2,x3,x4,x5,x6,x7,x8,x9,x10,x11,x12,x13,x14]
  ·rcases hdir with rfl | rfl
   ·unfold pathV
    simp only [Option.bind_some,beq_self_eq_true,cond_true,show ((2:Int)==0)=false from rfl,show ((2:Int)==1)=false from rfl,show ((1:Int)==2)=false from rfl,cond_false,x0,x1,x2,x3,x4,x5,x6,x7,x8,x9,x10,x11,x12,x13,x14]
   ·by_cases g:(fo:Int)≤fr
    ·unfold pathV
     simp only [Option.bind_some,beq_self_eq_true,cond_true,decide_eq_true g,show ((2:Int)==0)=false from rfl,show ((2:Int)==1)=false from rfl,cond_false,x0,x1,x2,x3,x4,x5,x6,x7,x8,x9,x10,x11,x12,x13,x14]
    ·unfold pathV
     simp only [Option.bind_some,beq_self_eq_true,cond_true,decide_eq_false g,show ((2:Int)==0)=false from rfl,show ((2:Int)==1)=false from rfl,cond_false,x0,x1,x2,x3,x4,x5,x6,x7,x8,x9,x10,x11,x12,x13,x14]
end Go.Ovl
namespace Go.Ovl
open Go Go.Ab
set_option maxRecDepth 100000
theorem n3s' {fl:Nat} (h2:2≤fl) (hfl:fl≤8) {car up down:Int} (hc:u32r car) (hu:u32r up) (hd:u32r down) (from_ sweep floor dir:Int) :
  ∃ n:Int,ndm' (fl:Int) from_ sweep car up down floor dir=some ((n,()),())∧nd7' (fl:Int) from_ sweep car up down floor dir=some ((n,()),())∧(from_ < 0→n=-1):=by
 by_cases h:0≤from_∧from_ < fl∧0≤sweep∧sweep≤2∧nfq' fl floor dir=true
 ·obtain ⟨g1,g2,g3,g4,g5⟩:=h
  have hcall:=g5
  unfold nfq' at g5
  simp only [Bool.or_eq_true,Bool.and_eq_true,decide_eq_true_eq,beq_iff_eq] at g5
  have e1:(from_.toNat:Int)=from_:=by omega
  have e2:(floor.toNat:Int)=floor:=by omega
  rw [← e2] at hcall
  obtain ⟨lo,hi,b1,b2,b3,b4,b5,q1,q2⟩:=nzp' h2 hfl hc hu hd (fr:=from_.toNat) (fo:=floor.toNat) (by omega) (by omega) ⟨g3,g4⟩ hcall
  rw [e1,e2] at q1 q2
  exact ⟨_,q1,q2,by omega⟩
 ·obtain ⟨q1,q2⟩:=nyg' h2 hfl car up down from_ sweep floor dir h
  exact ⟨-1,q1,q2,fun _=>rfl⟩
def sB (s:Nat):Nat→Nat→Nat
 | 0,_=>0
 | m + 1,i=>(s.testBit i).toNat + sB s m (i + 1)
theorem sB_le (s:Nat):∀ m i,sB s m i≤m
 | 0,_=>Nat.le_refl _
 | m + 1,i=>by
  have:=sB_le s m (i + 1)
  have h:(s.testBit i).toNat≤1:=by cases s.testBit i <;> decide
  show _ + _≤_
  omega
theorem n5d':((List.range 256).all fun s=>(List.range 9).all fun fl=>Nat.beq (sB s fl 0) (ones8 s)||(List.range 8).any fun i=>Nat.ble fl i&&s.testBit i)=true:=by kernel_rfl
theorem nr0' {s fl:Nat} (h:s < 256) (hfl:fl≤8) (hz:∀ i,fl≤i→s.testBit i=false):sB s fl 0=ones8 s:=by
 have:=List.all_eq_true.1 (List.all_eq_true.1 n5d' s (List.mem_range.2 h)) fl (List.mem_range.2 (by omega))
 rw [Bool.or_eq_true] at this
 rcases this with h | h
 ·exact Nat.eq_of_beq_eq_true h
 ·obtain ⟨i,_,hi⟩:=List.any_eq_true.1 h
  rw [Bool.and_eq_true] at hi
  rw [hz i (Nat.le_of_ble_eq_true hi.1)] at hi
  cases hi.2
theorem nu2' {fl:Nat} (h2:2≤fl) (hfl:fl≤8) {car up down:Int} (hc:u32r car) (hu:u32r up) (hd:u32r down) {a u d:Nat} (c:Cnt fl car up down a u d) {f:Nat} (hf:f < fl) {n:Nat} (hn:n < 100) :
  nhj' (((fl:Int),(),(n:Int),(f:Int),(0:Int),()),((car,up,down,()),()))=some (((fl:Int),(),(((n + (a.testBit f).toNat + (u.testBit f).toNat + (d.testBit f).toNat:Nat)):Int),(f:Int),()),((car,up,down,()),())):=by
 obtain ⟨k0,k1,k2⟩:=no2' h2 hfl hc hu hd c hf
 have w:∀ k:Nat,k < 200→IntKind.i64.wrap ((k:Int) + 1)=((k + 1:Nat):Int):=fun k hk=>by rw [nb' (by omega) (by omega)]; omega
 have st:∀ (p:Bool) (k:Nat),k < 200→(bif p then IntKind.i64.wrap ((k:Int) + 1) else (k:Int))=((k + p.toNat:Nat):Int):=fun p k hk=>by
  cases p
  ·rfl
  ·exact w k hk
 have r:∀ (k:Nat) (p:Bool) (j:Int),j < 3→∀ j',IntKind.i64.wrap (j + 1)=j'→k < 200→nd1' fl car up down f j=some ((p,()),())→nf6' fl k f j car up down=some (.inl (((fl:Int),(),((k + p.toNat:Nat):Int),(f:Int),j',()),((car,up,down,()),()))):=fun k p j hj j' hw hk h=>by
  unfold nf6'
  rw [decide_eq_true hj,h,hw,← st p k hk]
  cases p <;> rfl
 refine nx' (f:=4) ?_ (by omega)
 refine (ny' (r n _ 0 (by omega) 1 (by decide) (by omega) k0)).trans ?_
 have a1:(a.testBit f).toNat≤1:=by cases a.testBit f <;> decide
 have a2:(u.testBit f).toNat≤1:=by cases u.testBit f <;> decide
 refine (ny' (r _ _ 1 (by omega) 2 (by decide) (by omega) k1)).trans ?_
 refine (ny' (r _ _ 2 (by omega) 3 (by decide) (by omega) k2)).trans ?_
 refine nr' ?_
 show nf6' (fl:Int) _ (f:Int) 3 car up down=_
 unfold nf6'
 rfl
theorem nmn' {fl:Nat} (h2:2≤fl) (hfl:fl≤8) {car up down:Int} (hc:u32r car) (hu:u32r up) (hd:u32r down) {a u d:Nat} (c:Cnt fl car up down a u d) :
  ∀ (m i n:Nat),i + m=fl→n + 3 * m < 100→iter (fun x=>nej' x.1.1 x.1.2.2.1 x.1.2.2.2.1 x.2.1.1 x.2.1.2.1 x.2.1.2.2.1) (m + 1) (((fl:Int),(),(n:Int),(i:Int),()),((car,up,down,()),()))=some ((((n + sB a m i + sB u m i + sB d m i:Nat):Int),()),())
 | 0,i,n,hi,hn=>by
  refine nr' ?_
  show nej' (fl:Int) n i car up down=_
  unfold nej'
  have e:decide ((i:Int) < (fl:Int))=false:=by simp; omega
  rw [e]; rfl
 | m + 1,i,n,hi,hn=>by
  have e:decide ((i:Int) < (fl:Int))=true:=by simp; omega
  have w:IntKind.i64.wrap ((i:Int) + 1)=((i + 1:Nat):Int):=by rw [nb' (by omega) (by omega)]; omega
  have a1:(a.testBit i).toNat≤1:=by cases a.testBit i <;> decide
  have a2:(u.testBit i).toNat≤1:=by cases u.testBit i <;> decide
  have a3:(d.testBit i).toNat≤1:=by cases d.testBit i <;> decide
  refine (ny' (x':=(((fl:Int),(),((n + (a.testBit i).toNat + (u.testBit i).toNat + (d.testBit i).toNat:Nat):Int),((i + 1:Nat):Int),()),((car,up,down,()),()))) ?_).trans ?_
  ·show nej' (fl:Int) n i car up down=_
   unfold nej'
   rw [e,nu2' h2 hfl hc hu hd c (show i < fl by omega) (show n < 100 by omega)]
   simp only [cond_true,Option.bind_some,w]
  ·rw [nmn' h2 hfl hc hu hd c m (i + 1) _ (by omega) (by omega)]
   have:n + (a.testBit i).toNat + (u.testBit i).toNat + (d.testBit i).toNat + sB a m (i + 1) + sB u m (i + 1) + sB d m (i + 1)=n + sB a (m + 1) i + sB u (m + 1) i + sB d (m + 1) i:=by
    simp only [sB]; omega
   rw [this]
theorem n2z' {fl:Nat} (h2:2≤fl) (hfl:fl≤8) {car up down:Int} (hc:u32r car) (hu:u32r up) (hd:u32r down) :
  ∃ n:Nat,n≤24∧nft' (fl:Int) car up down=some (((n:Int),()),())∧nge' (fl:Int) car up down=some (((n:Int),()),()):=by
 obtain ⟨a,u,d,hcnt,c⟩:=nj3' hfl car up down
 have ea:=nr0' c.la hfl fun i hi=>(c.hi i hi).1
 have eu:=nr0' c.lu hfl fun i hi=>(c.hi i hi).2.1
 have ed:=nr0' c.ld hfl fun i hi=>(c.hi i hi).2.2
 have la:=sB_le a fl 0
 have lu:=sB_le u fl 0
 have ld:=sB_le d fl 0
 refine ⟨sB a fl 0 + sB u fl 0 + sB d fl 0,by omega,?_,?_⟩
 ·unfold nft' njx'
  rw [ngv' ⟨by omega,by omega⟩,hcnt]
  simp only [Option.bind_some,Bool.not_true,cond_false,nr3' c.la,nr3' c.lu,nr3' c.ld]
  rw [← ea,← eu,← ed]
  rw [nb' (n:=((sB u fl 0:Nat):Int) + ((sB d fl 0:Nat):Int)) (by omega) (by omega),nb' (by omega) (by omega)]
  have:((sB a fl 0:Nat):Int) + (((sB u fl 0:Nat):Int) + ((sB d fl 0:Nat):Int))=((sB a fl 0 + sB u fl 0 + sB d fl 0:Nat):Int):=by omega
  rw [this]
 ·unfold nge'
  rw [decide_eq_false (show ¬ ((fl:Int) < 2) by omega),decide_eq_false (show ¬ ((32:Int) < fl) by omega)]
  have hl:=nx' (nmn' h2 hfl hc hu hd c fl 0 0 (by omega) (by omega)) (by omega)
  have hl':nhp' (((fl:Int),(),(0:Int),(0:Int),()),((car,up,down,()),()))=_:=hl
  rw [hl']
  simp only [cond_false,Option.bind_some,Nat.zero_add]
end Go.Ovl
namespace Go.Ovl
open Go Go.Ab
set_option maxRecDepth 100000
def View.none:View:=View.mk false false false false 0 0 0 0 0 0 0 0
def Car.none:Car:=Car.mk 0 0 0 0 0 0 0 0 0
structure View.ok (v:View):Prop where
 c:u32r v.Stops_Car
 u:u32r v.Stops_Hall_Up
 d:u32r v.Stops_Hall_Down
noncomputable def estP (b:Bldg) (car:Int) (v:View) (floor dir:Int):Option ((Int×Unit)×Unit):=
 ncy' b.Floors b.Debounce b.Room b.Park b.Empty b.Full b.Over b.Cars car v.Ready v.Serving v.Legacy v.Lost v.Floor v.Dir v.Load v.Shows_Up v.Shows_Down v.Stops_Car v.Stops_Hall_Up v.Stops_Hall_Down floor dir
noncomputable def estR (b:Bldg) (car:Int) (v:View) (floor dir:Int):Option ((Int×Unit)×Unit):=
 nfh' b.Floors b.Debounce b.Room b.Park b.Empty b.Full b.Over b.Cars car v.Ready v.Serving v.Legacy v.Lost v.Floor v.Dir v.Load v.Shows_Up v.Shows_Down v.Stops_Car v.Stops_Hall_Up v.Stops_Hall_Down floor dir
noncomputable def estV (b:Bldg) (car:Int) (v:View) (floor dir:Int):Int:=match estR b car v floor dir with | some r=>r.1.1 | none=>0
theorem n32' {b:Bldg} (hb:b.small) {v:View} (hv:v.ok) (car floor dir:Int):∃ n:Int,estP b car v floor dir=some ((n,()),())∧estR b car v floor dir=some ((n,()),()):=by
 unfold estP estR ncy' nfh'
 rw [nb8',nfl']
 simp only [Option.bind_some]
 cases b.code != 0 with
 | true=>exact ⟨_,rfl,rfl⟩
 | false=>
  simp only [cond_false]
  by_cases g1:car < 0
  ·rw [decide_eq_true g1]; exact ⟨_,rfl,rfl⟩
  rw [decide_eq_false g1]
  simp only [cond_false]
  by_cases g2:(b.Cars.length:Int)≤car
  ·rw [decide_eq_true g2]; exact ⟨_,rfl,rfl⟩
  rw [decide_eq_false g2]
  simp only [cond_false]
  have ib:inB car b.Cars.length=true:=nd' (by omega) (by omega)
  have fl:(b.Floors.toNat:Int)=b.Floors:=by have:=hb.lo; omega
  have key:∀ sw:Int,∃ n:Int,ndm' b.Floors v.Floor sw v.Stops_Car v.Stops_Hall_Up v.Stops_Hall_Down floor dir=some ((n,()),())∧nd7' b.Floors v.Floor sw v.Stops_Car v.Stops_Hall_Up v.Stops_Hall_Down floor dir=some ((n,()),())∧(v.Floor < 0→n=-1):=fun sw=>by
   have:=n3s' (fl:=b.Floors.toNat) (by have:=hb.lo; omega) (by have:=hb.hi; omega) hv.c hv.u hv.d v.Floor sw floor dir
   rw [fl] at this; exact this
  obtain ⟨k,_,c1,c2⟩:∃ n:Nat,n≤24∧nft' b.Floors v.Stops_Car v.Stops_Hall_Up v.Stops_Hall_Down=some (((n:Int),()),())∧nge' b.Floors v.Stops_Car v.Stops_Hall_Up v.Stops_Hall_Down=some (((n:Int),()),()):=by
   have:=n2z' (fl:=b.Floors.toNat) (by have:=hb.lo; omega) (by have:=hb.hi; omega) hv.c hv.u hv.d
   rw [fl] at this; exact this
  have fin:∀ sw:Int,∃ n:Int,
    ((ndm' b.Floors v.Floor sw v.Stops_Car v.Stops_Hall_Up v.Stops_Hall_Down floor dir).bind fun y3=>bif decide (y3.1.1 < 0) then some ((1000000,()),()) else
     bif inB car b.Cars.length then
      let z0:Car:=b.Cars.getD car.toNat (Car.mk 0 0 0 0 0 0 0 0 0)
      (nft' b.Floors v.Stops_Car v.Stops_Hall_Up v.Stops_Hall_Down).bind fun y4=>
      let z1:Int:=IntKind.i64.wrap (IntKind.i64.wrap (y3.1.1 * z0.Step) + IntKind.i64.wrap (y4.1.1 * IntKind.i64.wrap (IntKind.i64.wrap (2 * z0.Travel) + z0.Dwell)))
      some (((bif decide (1000000 < z1) then 1000000 else z1),()),())
     else none)=some ((n,()),()) ∧
    (bif decide (v.Floor < 0) then some ((1000000,()),()) else (nd7' b.Floors v.Floor sw v.Stops_Car v.Stops_Hall_Up v.Stops_Hall_Down floor dir).bind fun y3=>bif decide (y3.1.1 < 0) then some ((1000000,()),()) else
     bif inB car b.Cars.length then
      let z0:Car:=b.Cars.getD car.toNat (Car.mk 0 0 0 0 0 0 0 0 0)
      (nge' b.Floors v.Stops_Car v.Stops_Hall_Up v.Stops_Hall_Down).bind fun y4=>
      let z1:Int:=IntKind.i64.wrap (IntKind.i64.wrap (y3.1.1 * z0.Step) + IntKind.i64.wrap (y4.1.1 * IntKind.i64.wrap (IntKind.i64.wrap (2 * z0.Travel) + z0.Dwell)))
      some (((bif decide (1000000 < z1) then 1000000 else z1),()),())
     else none)=some ((n,()),()):=fun sw=>by
   obtain ⟨n,q1,q2,q3⟩:=key sw
   rw [q1,q2,c1,c2,ib]
   simp only [Option.bind_some,cond_true]
   by_cases g:v.Floor < 0
   ·have:=q3 g
    subst this
    rw [decide_eq_true g]
    exact ⟨_,rfl,rfl⟩
   ·rw [decide_eq_false g]
    cases decide (n < 0) <;> exact ⟨_,rfl,rfl⟩
  cases v.Dir==3 with
  | true=>
   obtain ⟨n,h1,h2⟩:=fin 0
   exact ⟨n,h1,by
    cases hd:decide (v.Floor < 0) with
    | true=>rw [hd] at h2; exact h2
    | false=>rw [hd] at h2; exact h2⟩
  | false=>
   obtain ⟨n,h1,h2⟩:=fin v.Dir
   exact ⟨n,h1,by
    cases hd:decide (v.Floor < 0) with
    | true=>rw [hd] at h2; exact h2
    | false=>rw [hd] at h2; exact h2⟩
theorem nxt' {b:Bldg} (hb:b.small) {v:View} (hv:v.ok) (car floor dir:Int):estP b car v floor dir=some ((estV b car v floor dir,()),()):=by
 obtain ⟨n,h1,h⟩:=n32' hb hv car floor dir
 rw [show estV b car v floor dir=n by unfold estV; rw [h]]; exact h1
end Go.Ovl
namespace Go.Ovl
open Go Go.Ab
set_option maxRecDepth 100000
def fullV (v:View):Bool:=v.Load==3||v.Load==4
theorem nir' (v:View):nd2' v.Ready v.Serving v.Legacy v.Lost v.Floor v.Dir v.Load v.Shows_Up v.Shows_Down v.Stops_Car v.Stops_Hall_Up v.Stops_Hall_Down=some ((fullV v,()),()):=by
 unfold nd2' fullV
 cases v.Load==3 <;> rfl
def betB (a b:Int×Int):Bool:=decide (a.1 < b.1)||(a.1==b.1&&decide (a.2 < b.2))
theorem nli' (a b:Int×Int):ne2' a.1 a.2 b.1 b.2=some ((betB a b,()),()):=by
 unfold ne2' betB
 by_cases h:a.1=b.1
 ·by_cases h':a.2=b.2
  ·rw [h,h',beq_self_eq_true,beq_self_eq_true,decide_eq_false (by omega),decide_eq_false (by omega)]; rfl
  ·rw [h,beq_self_eq_true,beq_f h',decide_eq_false (by omega)]; rfl
 ·rw [beq_f h]
  cases decide (a.1 < b.1) <;> rfl
def ne' (vs:List View) (i:Int):View:=vs.getD i.toNat (View.mk false false false false 0 0 0 0 0 0 0 0)
def okViews (vs:List View):Prop:=∀ v ∈ vs,v.ok
theorem View.ok_none:View.ok (View.mk false false false false 0 0 0 0 0 0 0 0):=⟨⟨by decide,by decide⟩,⟨by decide,by decide⟩,⟨by decide,by decide⟩⟩
theorem okViews.at {vs:List View} (h:okViews vs) (i:Int):(ne' vs i).ok:=by
 unfold ne'
 rw [List.getD_eq_getElem?_getD]
 cases hq:vs[i.toNat]? with
 | none=>exact View.ok_none
 | some v=>exact h v (List.mem_of_getElem? hq)
noncomputable def rankV (b:Bldg) (vs:List View) (floor dir:Int) (car:Int):Int×Int:=((bif fullV (ne' vs car) then 1 else 0),estV b car (ne' vs car) floor dir)
theorem niu' {b:Bldg} (hb:b.small) {vs:List View} (hv:okViews vs) {car:Int} (hc:0≤car∧car < vs.length) (floor dir:Int) :
  nem' b.Floors b.Debounce b.Room b.Park b.Empty b.Full b.Over b.Cars vs car floor dir=some (((),()),(((rankV b vs floor dir car).1,(rankV b vs floor dir car).2,()),())):=by
 unfold nem'
 have e:ncy' b.Floors b.Debounce b.Room b.Park b.Empty b.Full b.Over b.Cars car (ne' vs car).Ready (ne' vs car).Serving (ne' vs car).Legacy (ne' vs car).Lost (ne' vs car).Floor (ne' vs car).Dir (ne' vs car).Load (ne' vs car).Shows_Up (ne' vs car).Shows_Down (ne' vs car).Stops_Car (ne' vs car).Stops_Hall_Up (ne' vs car).Stops_Hall_Down floor dir=_:=nxt' hb (hv.at car) car floor dir
 rw [nd' hc.1 hc.2]
 show (ncy' b.Floors b.Debounce b.Room b.Park b.Empty b.Full b.Over b.Cars car (ne' vs car).Ready (ne' vs car).Serving (ne' vs car).Legacy (ne' vs car).Lost (ne' vs car).Floor (ne' vs car).Dir (ne' vs car).Load (ne' vs car).Shows_Up (ne' vs car).Shows_Down (ne' vs car).Stops_Car (ne' vs car).Stops_Hall_Up (ne' vs car).Stops_Hall_Down floor dir).bind (fun y1=>(nd2' (ne' vs car).Ready (ne' vs car).Serving (ne' vs car).Legacy (ne' vs car).Lost (ne' vs car).Floor (ne' vs car).Dir (ne' vs car).Load (ne' vs car).Shows_Up (ne' vs car).Shows_Down (ne' vs car).Stops_Car (ne' vs car).Stops_Hall_Up (ne' vs car).Stops_Hall_Down).bind (fun y2=>bif y2.1.1 then some (((),()),(((1:Int),y1.1.1,()),())) else some (((),()),(((0:Int),y1.1.1,()),()))))=_
 rw [e,Option.bind_some,nir',Option.bind_some]
 unfold rankV
 cases fullV (ne' vs car) <;> rfl
noncomputable def ngz' (b:Bldg) (vs:List View) (floor dir except:Int) (i best:Int):Int:=
 bif !(ne' vs i).Ready||i==except then best else bif best==-1||betB (rankV b vs floor dir i) (rankV b vs floor dir best) then i else best
noncomputable def bestF (b:Bldg) (vs:List View) (floor dir except:Int):Nat→Nat→Int→Int
 | 0,_,best=>best
 | m + 1,i,best=>bestF b vs floor dir except m (i + 1) (ngz' b vs floor dir except i best)
noncomputable def nb0' (b:Bldg) (vs:List View) (floor dir except:Int):Int:=
 bif b.code != 0||(vs.length:Int) != (b.Cars.length:Int) then -1 else bestF b vs floor dir except vs.length 0 (-1)
def njj' (vs:List View) (best:Int):Prop:=best=-1∨(0≤best∧best < vs.length)
theorem no4' {b:Bldg} {vs:List View} {floor dir except:Int} {i:Nat} (hi:i < vs.length) {best:Int} (h:njj' vs best):njj' vs (ngz' b vs floor dir except i best):=by
 unfold ngz'
 cases (!(ne' vs i).Ready||(i:Int)==except) with
 | true=>exact h
 | false=>
  simp only [cond_false]
  cases (best==-1||betB (rankV b vs floor dir i) (rankV b vs floor dir best)) with
  | true=>exact .inr (by simp only [cond_true]; omega)
  | false=>exact h
theorem nji' {b:Bldg} (hb:b.small) {vs:List View} (hv:okViews vs) (hl:vs.length≤100) (floor dir except:Int) :
  ∀ (m i:Nat) (best l0 l1:Int),i + m=vs.length→njj' vs best→(best ≠ -1→(l0,l1)=rankV b vs floor dir best) →
   iter (fun x=>nc5' x.1.1 x.1.2.1 x.1.2.2.1 x.1.2.2.2.1 x.1.2.2.2.2.2.1 x.1.2.2.2.2.2.2.2.1 x.1.2.2.2.2.2.2.2.2.1 x.1.2.2.2.2.2.2.2.2.2.1 x.2.1.1 x.2.1.2.1 x.2.1.2.2.1 x.2.1.2.2.2.1 x.2.1.2.2.2.2.1 x.2.1.2.2.2.2.2.1 x.2.1.2.2.2.2.2.2.1 x.2.1.2.2.2.2.2.2.2.1 x.2.2.1.1 x.2.2.1.2.1) (m + 1) ((vs,floor,dir,except,(),best,(),vs,(vs.length:Int),(i:Int),()),(b.tup,(l0,l1,()),()))=some ((bestF b vs floor dir except m i best,()),())
 | 0,i,best,l0,l1,hi,hin,hr=>by
  refine nr' ?_
  show nc5' vs floor dir except best vs (vs.length:Int) (i:Int) b.Floors b.Debounce b.Room b.Park b.Empty b.Full b.Over b.Cars l0 l1=_
  unfold nc5'
  have e:decide ((i:Int) < (vs.length:Int))=false:=by simp; omega
  rw [e]; rfl
 | m + 1,i,best,l0,l1,hi,hin,hr=>by
  have hi':i < vs.length:=by omega
  have e:decide ((i:Int) < (vs.length:Int))=true:=by simp; omega
  have ib:inB (i:Int) vs.length=true:=nd' (by omega) (by omega)
  have w:IntKind.i64.wrap ((i:Int) + 1)=((i + 1:Nat):Int):=by rw [nb' (by omega) (by omega)]; omega
  have hs:∃ l0' l1',(ngz' b vs floor dir except i best ≠ -1→(l0',l1')=rankV b vs floor dir (ngz' b vs floor dir except i best))∧nc5' vs floor dir except best vs (vs.length:Int) (i:Int) b.Floors b.Debounce b.Room b.Park b.Empty b.Full b.Over b.Cars l0 l1=some (.inl ((vs,floor,dir,except,(),ngz' b vs floor dir except i best,(),vs,(vs.length:Int),((i + 1:Nat):Int),()),(b.tup,(l0',l1',()),()))):=by
   unfold nc5'
   have k1:=niu' hb hv (car:=(i:Int)) (by omega) floor dir
   rw [e,ib,w]
   simp only [cond_true]
   unfold ngz'
   rw [show vs.getD (Int.toNat (i:Int)) (View.mk false false false false 0 0 0 0 0 0 0 0)=ne' vs (i:Int) from rfl]
   cases (ne' vs (i:Int)).Ready with
   | false=>exact ⟨l0,l1,hr,rfl⟩
   | true=>
    simp only [Bool.not_true,cond_false,Bool.false_or]
    cases (i:Int)==except with
    | true=>exact ⟨l0,l1,hr,rfl⟩
    | false=>
     simp only [cond_false,k1,Option.bind_some]
     rcases hin with hbest | hbest
     ·subst hbest
      rw [show ((-1:Int)==-1)=true from rfl]
      simp only [cond_true,Option.bind_some,w,Bool.true_or]
      exact ⟨_,_,fun _=>rfl,rfl⟩
     ·have hr':=hr (by omega)
      have e1:l0=(rankV b vs floor dir best).1:=congrArg Prod.fst hr'
      have e2:l1=(rankV b vs floor dir best).2:=congrArg Prod.snd hr'
      subst e1 e2
      rw [beq_f (show ¬ best=-1 by omega)]
      simp only [cond_false,Option.bind_some,Bool.false_or,nli']
      cases betB (rankV b vs floor dir i) (rankV b vs floor dir best) with
      | true=>simp only [cond_true,w]; exact ⟨_,_,fun _=>rfl,rfl⟩
      | false=>simp only [cond_false,w]; exact ⟨_,_,fun _=>rfl,rfl⟩
  obtain ⟨l0',l1',h1,h2⟩:=hs
  exact (ny' h2).trans (nji' hb hv hl floor dir except m (i + 1) _ l0' l1' (by omega) (no4' hi' hin) h1)
theorem nht' {b:Bldg} (hb:b.small) {vs:List View} (hv:okViews vs) (hl:vs.length≤100) (floor dir except:Int) :
  ndv' b.Floors b.Debounce b.Room b.Park b.Empty b.Full b.Over b.Cars vs floor dir except=some ((nb0' b vs floor dir except,()),()):=by
 unfold ndv' nb0'
 rw [nb8',Option.bind_some]
 cases b.code != 0 with
 | true=>rfl
 | false=>
  simp only [cond_false,Bool.false_or]
  cases (vs.length:Int) != (b.Cars.length:Int) with
  | true=>rfl
  | false=>
   have h:=nx' (nji' hb hv hl floor dir except vs.length 0 (-1) 0 0 (by omega) (.inl rfl) (fun h=>absurd rfl h)) (by omega)
   have h':nfd' ((vs,floor,dir,except,(),(-1:Int),(),vs,(vs.length:Int),(0:Int),()),(b.tup,((0:Int),(0:Int),()),()))=_:=h
   simp only [cond_false]
   refine (congrArg (fun z=>Option.bind z _) h').trans ?_
   rfl
end Go.Ovl
namespace Go.Ovl
open Go Go.Ab
set_option maxRecDepth 100000
theorem nvf' {b:Bldg} {vs:List View} {floor dir except:Int}:∀ (m i:Nat) (best:Int),i + m=vs.length→njj' vs best→njj' vs (bestF b vs floor dir except m i best)
 | 0,_,_,_,h=>h
 | m + 1,i,best,hi,h=>nvf' m (i + 1) _ (by omega) (no4' (by omega) h)
theorem nj5' (b:Bldg) (vs:List View) (floor dir except:Int):njj' vs (nb0' b vs floor dir except):=by
 unfold nb0'
 cases (b.code != 0||(vs.length:Int) != (b.Cars.length:Int)) with
 | true=>exact .inl rfl
 | false=>exact nvf' vs.length 0 (-1) (by omega) (.inl rfl)
noncomputable def not' (b:Bldg) (vs:List View) (e:Entry) (x n:Int):Bool:=
 ((ne' vs e.Car).Legacy&&(x==0&&betB (rankV b vs e.Floor e.Dir n) (rankV b vs e.Floor e.Dir e.Car)))||(!(ne' vs e.Car).Legacy&&(fullV (ne' vs e.Car)&&!fullV (ne' vs n)))
noncomputable def neu' (b:Bldg) (vs:List View) (e:Entry) (x:Int):Int:=
 bif nb0' b vs e.Floor e.Dir e.Car==-1 then -1 else bif not' b vs e x (nb0' b vs e.Floor e.Dir e.Car) then nb0' b vs e.Floor e.Dir e.Car else -1
noncomputable def decV (b:Bldg) (vs:List View) (e:Entry) (x:Int):Entry:=
 bif e.Car==-2 then e
 else bif e.Car==-1 then ⟨e.Floor,e.Dir,nb0' b vs e.Floor e.Dir (-1),e.Moves,e.Moved⟩
 else bif (ne' vs e.Car).Lost then (bif decide ((b.Cars.length:Int) < e.Moves) then ⟨e.Floor,e.Dir,-2,e.Moves,e.Moved⟩ else ⟨e.Floor,e.Dir,nb0' b vs e.Floor e.Dir e.Car,e.Moves + 1,e.Moved⟩)
 else bif !e.Moved&&decide (e.Moves≤(b.Cars.length:Int)) then (bif neu' b vs e x != -1 then ⟨e.Floor,e.Dir,neu' b vs e x,e.Moves + 1,true⟩ else e)
 else e
def Entry.tup (e:Entry):Int×Int×Int×Int×Bool×Unit:=(e.Floor,e.Dir,e.Car,e.Moves,e.Moved,())
section
variable {b:Bldg} (hb:b.small) {vs:List View} (hv:okViews vs) (hl:vs.length≤100) {e:Entry}
include hb hv hl
theorem npz' (hc:0≤e.Car∧e.Car < vs.length) (x:Int):ndn' b.Floors b.Debounce b.Room b.Park b.Empty b.Full b.Over b.Cars vs e.Floor e.Dir e.Car e.Moves e.Moved x=some ((neu' b vs e x,()),()):=by
 unfold ndn' neu'
 have hn:=nj5' b vs e.Floor e.Dir e.Car
 rw [nht' hb hv hl]
 generalize nb0' b vs e.Floor e.Dir e.Car=n at hn
 simp only [Option.bind_some]
 rcases hn with rfl | hn
 ·rfl
 ·have k1:=niu' hb hv hn e.Floor e.Dir
  have k2:=niu' hb hv hc e.Floor e.Dir
  have f1:=nir' (ne' vs e.Car)
  have f2:=nir' (ne' vs n)
  rw [beq_f (show ¬ n=-1 by omega),nd' hc.1 hc.2]
  unfold not'
  unfold ne' at f1 f2 ⊢
  simp only [cond_true,cond_false]
  cases hleg:(vs.getD e.Car.toNat (View.mk false false false false 0 0 0 0 0 0 0 0)).Legacy with
  | true=>
   simp only [cond_true,Bool.true_and,Bool.not_true,Bool.false_and,Bool.or_false]
   cases x==0 with
   | true=>
    simp only [cond_true,Bool.true_and,k1,k2,Option.bind_some,nli']
    cases betB (rankV b vs e.Floor e.Dir n) (rankV b vs e.Floor e.Dir e.Car) <;> rfl
   | false=>rfl
  | false=>
   rw [hleg] at f1
   simp only [cond_false,Bool.false_and,Bool.not_false,Bool.true_and,Bool.false_or,Option.bind_some,cond_true,f1]
   cases fullV (vs.getD e.Car.toNat (View.mk false false false false 0 0 0 0 0 0 0 0)) with
   | false=>rfl
   | true=>
    simp only [cond_true,nd' hn.1 hn.2,Bool.true_and,f2,Option.bind_some]
    cases fullV (vs.getD n.toNat (View.mk false false false false 0 0 0 0 0 0 0 0)) <;> rfl
theorem nox' (hc:-2≤e.Car∧e.Car < vs.length) (hm:0≤e.Moves∧e.Moves≤255) (x:Int):ndb' b.Floors b.Debounce b.Room b.Park b.Empty b.Full b.Over b.Cars vs e.Floor e.Dir e.Car e.Moves e.Moved x=some (((),()),((decV b vs e x).tup,())):=by
 unfold ndb' decV
 have w:IntKind.i64.wrap (e.Moves + 1)=e.Moves + 1:=nb' (by omega) (by omega)
 by_cases g1:e.Car=-2
 ·rw [show (e.Car==-2)=true by rw [g1]; rfl]; rfl
 rw [beq_f g1]
 by_cases g2:e.Car=-1
 ·rw [show (e.Car==-1)=true by rw [g2]; rfl]
  simp only [cond_true,cond_false,nht' hb hv hl,Option.bind_some]
  rfl
 rw [beq_f g2]
 have hc':0≤e.Car∧e.Car < vs.length:=by omega
 have ho:=npz' hb hv hl hc' x
 unfold ne'
 simp only [cond_false,nd' hc'.1 hc'.2,cond_true]
 cases hlost:(vs.getD e.Car.toNat (View.mk false false false false 0 0 0 0 0 0 0 0)).Lost with
 | true=>
  simp only [cond_true,Option.bind_some]
  cases decide ((b.Cars.length:Int) < e.Moves) with
  | true=>rfl
  | false=>
   simp only [cond_false,nd' hc'.1 hc'.2,cond_true,hlost,nht' hb hv hl,Option.bind_some,w]
   rfl
 | false=>
  simp only [cond_false,Option.bind_some,nd' hc'.1 hc'.2,cond_true,hlost]
  cases hmv:e.Moved with
  | true=>
   simp only [Bool.not_true,cond_false,Option.bind_some,Bool.false_and]
   unfold Entry.tup; rw [hmv]
  | false=>
   rw [hmv] at ho
   simp only [Bool.not_false,cond_true,Option.bind_some,Bool.true_and]
   cases decide (e.Moves≤(b.Cars.length:Int)) with
   | false=>
    simp only [cond_false]
    unfold Entry.tup; rw [hmv]
   | true=>
    simp only [cond_true,ho,Option.bind_some,w]
    cases neu' b vs e x != -1 with
    | true=>rfl
    | false=>
     simp only [cond_false]
     unfold Entry.tup; rw [hmv]
end
end Go.Ovl
namespace Go.Ovl
open Go Go.Ab
set_option maxRecDepth 100000
def recsV (was now:Entry):List Record:=
 (bif was.Moves != now.Moves||!(was.Moved==now.Moved) then [⟨7,now.Floor,now.Dir,(bif now.Moved then 1 else 0),now.Moves⟩] else [])++(bif was.Car != now.Car then [⟨3,now.Floor,now.Dir,now.Car,0⟩] else [])
theorem ntn' (a b:Entry):(recsV a b).length≤2:=by
 unfold recsV
 cases (a.Moves != b.Moves||!(a.Moved==b.Moved)) <;> cases a.Car != b.Car <;> simp
theorem nou' (a c:Entry):nf1' a.Floor a.Dir a.Car a.Moves a.Moved c.Floor c.Dir c.Car c.Moves c.Moved=some ((recsV a c,()),()):=by
 unfold nf1' recsV
 have b1:∀ r:Record,Nat.ble (([]:List Record).length + [r].length) 2147483648=true:=fun _=>nbl' (by simp)
 have b2:∀ r s:Record,Nat.ble (([]++[s]:List Record).length + [r].length) 2147483648=true:=fun _ _=>nbl' (by simp)
 cases a.Moves != c.Moves <;> cases a.Moved==c.Moved <;> cases hm:c.Moved <;> cases hc:a.Car != c.Car <;>
  simp only [cond_true,cond_false,Option.bind_some,Bool.not_true,Bool.not_false,Bool.or_true,Bool.true_or,Bool.or_self,b1,b2,hc] <;> rfl
def carAt (b:Bldg) (i:Int):Car:=b.Cars.getD i.toNat (Car.mk 0 0 0 0 0 0 0 0 0)
noncomputable def nextV (b:Bldg) (vs:List View) (e n:Entry) (x:Int):Int:=
 bif n.Car != e.Car&&decide (0≤n.Car) then (bif decide (1000000 < IntKind.i64.wrap (estV b n.Car (ne' vs n.Car) e.Floor e.Dir + (carAt b n.Car).Slack)) then 1000000 else IntKind.i64.wrap (estV b n.Car (ne' vs n.Car) e.Floor e.Dir + (carAt b n.Car).Slack))
 else (bif decide (IntKind.i64.wrap (x - 1) < 0) then 0 else IntKind.i64.wrap (x - 1))
noncomputable def planR (b:Bldg) (vs:List View):List Entry→List Int→List Record
 | e :: t,x :: xs=>recsV e (decV b vs e x)++planR b vs t xs
 | _,_=>[]
noncomputable def planN (b:Bldg) (vs:List View):List Entry→List Int→List Int
 | e :: t,x :: xs=>nextV b vs e (decV b vs e x) x :: planN b vs t xs
 | _,_=>[]
theorem n1t' (b:Bldg) (vs:List View) (e:Entry) (x:Int):(decV b vs e x).Floor=e.Floor∧(decV b vs e x).Dir=e.Dir:=by
 unfold decV
 cases e.Car==-2 <;> cases e.Car==-1 <;> cases (ne' vs e.Car).Lost <;> cases decide ((b.Cars.length:Int) < e.Moves) <;> cases (!e.Moved&&decide (e.Moves≤(b.Cars.length:Int))) <;> cases neu' b vs e x != -1 <;> exact ⟨rfl,rfl⟩
theorem n0e' (b:Bldg) (vs:List View) (e:Entry) (x:Int):njj' vs (neu' b vs e x):=by
 unfold neu'
 cases nb0' b vs e.Floor e.Dir e.Car==-1 with
 | true=>exact .inl rfl
 | false=>
  cases not' b vs e x (nb0' b vs e.Floor e.Dir e.Car) with
  | true=>exact nj5' ..
  | false=>exact .inl rfl
theorem nxi' (b:Bldg) {vs:List View} {e:Entry} (h:-2≤e.Car∧e.Car < vs.length) (x:Int):-2≤(decV b vs e x).Car∧(decV b vs e x).Car < vs.length:=by
 have k:∀ n:Int,njj' vs n→-2≤n∧n < vs.length:=fun n h=>by
  rcases h with rfl | h
  ·omega
  ·omega
 unfold decV
 by_cases g1:e.Car=-2
 ·rw [show (e.Car==-2)=true by rw [g1]; rfl]; exact h
 rw [beq_f g1]
 by_cases g2:e.Car=-1
 ·rw [show (e.Car==-1)=true by rw [g2]; rfl]; exact k _ (nj5' ..)
 rw [beq_f g2]
 simp only [cond_false]
 cases (ne' vs e.Car).Lost with
 | true=>
  cases decide ((b.Cars.length:Int) < e.Moves) with
  | true=>exact ⟨by show (-2:Int)≤-2; omega,by show (-2:Int) < _; omega⟩
  | false=>exact k _ (nj5' ..)
 | false=>
  cases (!e.Moved&&decide (e.Moves≤(b.Cars.length:Int))) with
  | true=>
   cases neu' b vs e x != -1 with
   | true=>exact k _ (n0e' ..)
   | false=>exact h
  | false=>exact h
theorem ntd' {b:Bldg}:∀ {l:List Entry} {p:Option Entry},entsF b p l=true→∀ e ∈ l,entOK b e=true
 | [],_,_,_,he=>by cases he
 | a :: t,p,h,e,he=>by
  simp only [entsF,Bool.and_eq_true] at h
  rcases List.mem_cons.1 he with rfl | he
  ·exact h.1
  ·exact ntd' h.2.2 e he
theorem nkq' {α:Type} (N:List α) (a v:α) (t:List α):(N++a :: t).set N.length v=N++v :: t:=by
 induction N with
 | nil=>rfl
 | cons h N ih=>simp only [List.cons_append,List.length_cons,List.set_cons_succ,ih]
section
variable {b:Bldg} (hb:b.small) {vs:List View} (hv:okViews vs) (hl:vs.length≤100) (hlen:(vs.length:Int)=(b.Cars.length:Int)) {m:Img} (hm:∀ e ∈ m.Entries,entOK b e=true) (hm':m.Entries.length≤1000) {xs:List Int} (hx:xs.length=m.Entries.length)
include hb hv hl hlen hm hm' hx
theorem nk1':∀ (k i:Nat) (out:List Record) (N:List Int),i + k=m.Entries.length→N.length=i→out.length≤2 * i →
  iter (fun x=>ndt' x.1.1 x.1.2.1 x.1.2.2.2.2.1 x.1.2.2.2.2.2.1 x.1.2.2.2.2.2.2.1 x.1.2.2.2.2.2.2.2.1 x.1.2.2.2.2.2.2.2.2.1 x.2.1.1 x.2.1.2.1 x.2.1.2.2.1 x.2.1.2.2.2.1 x.2.1.2.2.2.2.1 x.2.1.2.2.2.2.2.1 x.2.1.2.2.2.2.2.2.1 x.2.1.2.2.2.2.2.2.2.1 x.2.2.1.1 x.2.2.1.2.1 x.2.2.1.2.2.1 x.2.2.1.2.2.2.1 x.2.2.1.2.2.2.2.1 x.2.2.1.2.2.2.2.2.1 x.2.2.1.2.2.2.2.2.2.1 x.2.2.1.2.2.2.2.2.2.2.1 x.2.2.1.2.2.2.2.2.2.2.2.1) (k + 1)
   ((xs,vs,(),(),out,N++List.replicate k 0,m.Entries,(m.Entries.length:Int),(i:Int),()),(b.tup,(b.Floors,b.Debounce,b.Room,b.Park,b.Empty,b.Full,b.Over,b.Cars,vs,()),()))=some ((out++planR b vs (m.Entries.drop i) (xs.drop i),N++planN b vs (m.Entries.drop i) (xs.drop i),()),())
 | 0,i,out,N,hi,hN,ho=>by
  refine nr' ?_
  show ndt' xs vs out (N++[]) m.Entries (m.Entries.length:Int) (i:Int) b.Floors b.Debounce b.Room b.Park b.Empty b.Full b.Over b.Cars b.Floors b.Debounce b.Room b.Park b.Empty b.Full b.Over b.Cars vs=_
  unfold ndt'
  have e:decide ((i:Int) < (m.Entries.length:Int))=false:=by simp; omega
  rw [e,show i=m.Entries.length by omega,List.drop_length]
  simp [planR,planN]
 | k + 1,i,out,N,hi,hN,ho=>by
  have hi':i < m.Entries.length:=by omega
  have hix:i < xs.length:=by omega
  have e:decide ((i:Int) < (m.Entries.length:Int))=true:=by simp; omega
  have ib:inB (i:Int) m.Entries.length=true:=nd' (by omega) (by omega)
  have ibx:inB (i:Int) xs.length=true:=nd' (by omega) (by omega)
  have ibn:inB (i:Int) (N++List.replicate (k + 1) (0:Int)).length=true:=nd' (by omega) (by simp; omega)
  have w:IntKind.i64.wrap ((i:Int) + 1)=((i + 1:Nat):Int):=by rw [nb' (by omega) (by omega)]; omega
  have hok:=ndg' noE hi'
  have hent:=hm _ hok
  simp only [entOK,Bool.and_eq_true,decide_eq_true_eq] at hent
  obtain ⟨_,c1,c2,c3,c4⟩:=hent
  have hd:=nox' hb hv hl (e:=m.Entries.getD i noE) (by omega) ⟨c3,c4⟩ (xs.getD i 0)
  have hr:=nou' (m.Entries.getD i noE) (decV b vs (m.Entries.getD i noE) (xs.getD i 0))
  have hin:=nxi' b (vs:=vs) (e:=m.Entries.getD i noE) (by omega) (xs.getD i 0)
  have hrl:=ntn' (m.Entries.getD i noE) (decV b vs (m.Entries.getD i noE) (xs.getD i 0))
  have hble:Nat.ble (out.length + (recsV (m.Entries.getD i noE) (decV b vs (m.Entries.getD i noE) (xs.getD i 0))).length) 2147483648=true:=nbl' (by omega)
  have hset:∀ v:Int,(N++List.replicate (k + 1) (0:Int)).set i v=N++v :: List.replicate k 0:=fun v=>by
   rw [← hN]; exact nkq' N 0 v (List.replicate k 0)
  have hset2:∀ v u:Int,(N++v :: List.replicate k (0:Int)).set i u=N++u :: List.replicate k 0:=fun v u=>by
   rw [← hN]; exact nkq' N v u (List.replicate k 0)
  have ibn2:∀ v:Int,inB (i:Int) (N++v :: List.replicate k (0:Int)).length=true:=fun v=>nd' (by omega) (by simp; omega)
  rw [nbn' noE hi',nbn' (0:Int) hix]
  refine (ny' (x':=((xs,vs,(),(),out++recsV (m.Entries.getD i noE) (decV b vs (m.Entries.getD i noE) (xs.getD i 0)),(N++[nextV b vs (m.Entries.getD i noE) (decV b vs (m.Entries.getD i noE) (xs.getD i 0)) (xs.getD i 0)])++List.replicate k 0,m.Entries,(m.Entries.length:Int),((i + 1:Nat):Int),()),(b.tup,(b.Floors,b.Debounce,b.Room,b.Park,b.Empty,b.Full,b.Over,b.Cars,vs,()),()))) ?_).trans ?_
  ·show ndt' xs vs out (N++List.replicate (k + 1) 0) m.Entries (m.Entries.length:Int) (i:Int) b.Floors b.Debounce b.Room b.Park b.Empty b.Full b.Over b.Cars b.Floors b.Debounce b.Room b.Park b.Empty b.Full b.Over b.Cars vs=_
   unfold ndt'
   rw [e,ib,ibx,show Entry.mk 0 0 0 0 false=noE from rfl]
   unfold Entry.tup at hd
   simp only [cond_true,Int.toNat_natCast,hd,Option.bind_some,hr,hble,ibn,hset]
   unfold nextV
   have hest:=nxt' hb (hv.at (decV b vs (m.Entries.getD i noE) (xs.getD i 0)).Car) (decV b vs (m.Entries.getD i noE) (xs.getD i 0)).Car (m.Entries.getD i noE).Floor (m.Entries.getD i noE).Dir
   unfold estP ne' at hest
   cases hne:((decV b vs (m.Entries.getD i noE) (xs.getD i 0)).Car != (m.Entries.getD i noE).Car) with
   | false=>
    simp only [cond_false,Option.bind_some,Bool.false_and,List.append_assoc,List.singleton_append,w]
    rfl
   | true=>
    simp only [cond_true,Option.bind_some,Bool.true_and]
    by_cases hge:0≤(decV b vs (m.Entries.getD i noE) (xs.getD i 0)).Car
    ·have ibc:inB (decV b vs (m.Entries.getD i noE) (xs.getD i 0)).Car vs.length=true:=nd' hge hin.2
     have ibc':inB (decV b vs (m.Entries.getD i noE) (xs.getD i 0)).Car b.Cars.length=true:=nd' hge (by omega)
     rw [decide_eq_true hge]
     simp only [cond_true,ibc,hest,Option.bind_some,ibc',ibn2,Int.toNat_natCast,hset2,List.append_assoc,List.singleton_append,w]
     rfl
    ·rw [decide_eq_false hge]
     simp only [cond_false,List.append_assoc,List.singleton_append,w]
     rfl
  ·rw [nk1' k (i + 1) _ (N++[_]) (by omega) (by simp; omega) (by rw [List.length_append]; omega)]
   simp only [planR,planN,List.append_assoc,List.singleton_append]
end
end Go.Ovl
namespace Go.Ovl
open Go Go.Ab
set_option maxRecDepth 100000
def expOK (xs:List Int):Bool:=xs.all (inR 0 1000000)
theorem nz2' (n:Int):ngm' n=some ((!inR 0 1000000 n,()),()):=by
 unfold ngm' inR
 by_cases g:n < 0
 ·rw [decide_eq_true g,decide_eq_false (show ¬ 0≤n by omega)]; rfl
 ·rw [decide_eq_false g,decide_eq_true (show 0≤n by omega)]
  by_cases g':1000000 < n
  ·rw [decide_eq_true g',decide_eq_false (show ¬ n≤1000000 by omega)]; rfl
  ·rw [decide_eq_false g',decide_eq_true (show n≤1000000 by omega)]; rfl
theorem nwn' {xs:List Int} (hl:xs.length≤maxLen):nba' xs=some ((!expOK xs,()),()):=by
 have hm:maxLen≤9223372036854775807:=by decide
 have key:∀ (k i:Nat),i + k=xs.length→∃ y,iter (fun x=>nu' x.1.1 x.1.2.2.1 x.1.2.2.2.1) (k + 1) ((xs,(),(xs.length:Int),(i:Int),()),())=some y∧(match y with | .inl _=>(xs.drop i).all (inR 0 1000000)=true | .inr z=>0≤z.1.1∧(xs.drop i).all (inR 0 1000000)=false):=by
  intro k
  induction k with
  | zero=>
   intro i hi
   refine ⟨.inl ((),()),nr' ?_,?_⟩
   ·show nu' xs (xs.length:Int) (i:Int)=_
    unfold nu'
    rw [show decide ((i:Int) < (xs.length:Int))=false by simp; omega]; rfl
   ·rw [show i=xs.length by omega,List.drop_length]; rfl
  | succ k ih=>
   intro i hi
   have hi':i < xs.length:=by omega
   have hs:nu' xs (xs.length:Int) (i:Int)=some (bif inR 0 1000000 (xs.getD i 0) then .inl ((xs,(),(xs.length:Int),((i + 1:Nat):Int),()),()) else .inr (.inr (((i:Int),()),()))):=by
    unfold nu'
    have w:IntKind.i64.wrap ((i:Int) + 1)=((i + 1:Nat):Int):=by rw [nb' (by omega) (by omega)]; omega
    rw [show decide ((i:Int) < (xs.length:Int))=true by simp; omega,nd' (by omega) (by omega),nz2',w]
    simp only [cond_true,Int.toNat_natCast,Option.bind_some]
    cases inR 0 1000000 (xs.getD i 0) <;> rfl
   rw [nbn' (0:Int) hi',List.all_cons]
   cases hq:inR 0 1000000 (xs.getD i 0) with
   | true=>
    rw [hq] at hs
    obtain ⟨y,h1,h2⟩:=ih (i + 1) (by omega)
    exact ⟨y,(ny' hs).trans h1,by rw [Bool.true_and]; exact h2⟩
   | false=>
    rw [hq] at hs
    exact ⟨_,nr' hs,by show (0:Int)≤(i:Int)∧_; exact ⟨by omega,rfl⟩⟩
 obtain ⟨y,h1,h2⟩:=key xs.length 0 (by omega)
 have h1':nbc' ((xs,(),(xs.length:Int),(0:Int),()),())=some y:=nx' h1 (by omega)
 rw [List.drop_zero] at h2
 unfold nba' nbt' expOK
 rw [h1']
 cases y with
 | inl z=>simp only at h2; rw [h2]; rfl
 | inr z=>
  simp only at h2
  rw [h2.2]
  simp only [Option.bind_some]
  rw [decide_eq_true h2.1]; rfl
noncomputable def planV (b:Bldg) (m:Img) (xs:List Int) (vs:List View):List Record×List Int×Int×Unit:=
 bif m.ok b&&((xs.length:Int)==(m.Entries.length:Int)&&((vs.length:Int)==(b.Cars.length:Int)&&expOK xs)) then (planR b vs m.Entries xs,planN b vs m.Entries xs,0,()) else ([],[],1,())
theorem Img.ok_all {b:Bldg} {m:Img} (h:m.ok b=true):b.code=0∧m.Phases.length=b.Cars.length∧m.Flags.length=b.Cars.length∧m.Leaving.length=b.Cars.length∧(∀ p ∈ m.Phases,0≤p∧p≤4)∧(∀ e ∈ m.Entries,entOK b e=true)∧entsF b Option.none m.Entries=true:=by
 unfold Img.ok at h
 simp only [Bool.and_eq_true,beq_iff_eq] at h
 obtain ⟨h0,h1,h2,h3,h4,h5⟩:=h
 exact ⟨h0,by omega,by omega,by omega,fun p hp=>n4'.1 (List.all_eq_true.1 h4 p hp),ntd' h5,h5⟩
section
variable {b:Bldg} (hb:b.small) {vs:List View} (hv:okViews vs) (hl:vs.length≤100) (m:Img) (hm:m.Entries.length≤1000) (hp:m.Phases.length≤maxLen) (xs:List Int) (hx:xs.length≤maxLen)
include hb hv hl hm hp hx
theorem nsh':nel' b.Floors b.Debounce b.Room b.Park b.Empty b.Full b.Over b.Cars m.Phases m.Flags m.Leaving m.Entries xs vs=some (planV b m xs vs,()):=by
 have hmx:1000≤maxLen:=by decide
 unfold nel' planV
 rw [nfs' hb m hp (by omega),nwn' hx]
 simp only [Option.bind_some,bne]
 cases hok:m.ok b with
 | false=>rfl
 | true=>
  cases hq:(xs.length:Int)==(m.Entries.length:Int) with
  | false=>rfl
  | true=>
   cases hr:(vs.length:Int)==(b.Cars.length:Int) with
   | false=>rfl
   | true=>
    cases expOK xs with
    | false=>rfl
    | true=>
     have hq':(xs.length:Int)=(m.Entries.length:Int):=by simpa using hq
     have hr':(vs.length:Int)=(b.Cars.length:Int):=by simpa using hr
     obtain ⟨_,_,_,_,_,hall,_⟩:=Img.ok_all hok
     have hlp:=nx' (nk1' hb hv hl hr' hall hm (xs:=xs) (by omega) m.Entries.length 0 [] [] (by omega) rfl (by simp)) (by omega)
     have hlp':ngp' ((xs,vs,(),(),([]:List Record),List.replicate m.Entries.length (0:Int),m.Entries,(m.Entries.length:Int),(0:Int),()),(b.tup,(b.Floors,b.Debounce,b.Room,b.Park,b.Empty,b.Full,b.Over,b.Cars,vs,()),()))=_:=hlp
     unfold Bldg.tup at hlp'
     simp only [Bool.not_true,cond_false,hq',decide_eq_true (show (0:Int)≤(m.Entries.length:Int) by omega),decide_eq_true (Int.le_refl (m.Entries.length:Int)),decide_eq_true (show (m.Entries.length:Int)≤2147483648 by omega),Bool.and_self,cond_true,Int.toNat_natCast,hlp',Option.bind_some,List.drop_zero,List.nil_append]
end
theorem nti' (b:Bldg) (vs:List View):∀ (l:List Entry) (xs:List Int),(planR b vs l xs).length≤2 * l.length
 | [],_=>by simp [planR]
 | _ :: _,[]=>by simp [planR]
 | e :: t,x :: xs=>by
  have h1:=nti' b vs t xs
  have h2:=ntn' e (decV b vs e x)
  simp only [planR,List.length_append,List.length_cons]
  omega
theorem nth' (b:Bldg) (vs:List View):∀ (l:List Entry) (xs:List Int),xs.length=l.length→(planN b vs l xs).length=l.length
 | [],_,_=>by simp [planN]
 | _ :: _,[],h=>by simp at h
 | e :: t,x :: xs,h=>by
  simp only [planN,List.length_cons,nth' b vs t xs (by simpa using h)]
theorem ntj' (b:Bldg) (m:Img) (xs:List Int) (vs:List View):(planV b m xs vs).1.length≤2 * m.Entries.length∧(planV b m xs vs).2.1.length≤m.Entries.length:=by
 unfold planV
 cases hq:(m.ok b&&((xs.length:Int)==(m.Entries.length:Int)&&((vs.length:Int)==(b.Cars.length:Int)&&expOK xs))) with
 | false=>exact ⟨by simp,by simp⟩
 | true=>
  simp only [Bool.and_eq_true,beq_iff_eq] at hq
  refine ⟨nti' b vs m.Entries xs,?_⟩
  show (planN b vs m.Entries xs).length≤_
  rw [nth' b vs m.Entries xs (by omega)]
  exact Nat.le_refl _
end Go.Ovl
namespace Go.Ovl
open Go Go.Ab
set_option maxRecDepth 100000
def noV:View:=View.mk false false false false 0 0 0 0 0 0 0 0
def noP:Calls:=Calls.mk 0 0
structure Lan where
 lit:List Calls
 gong:List Bool
 cl:Int×Int
def Lan.tup (l:Lan):List Calls×List Bool×Int×Int×Unit:=(l.lit,l.gong,l.cl.1,l.cl.2,())
def Lan.none:Lan:=⟨[],[],(0,0)⟩
def litC (b:Bldg) (vs:List View) (i:Nat) (s:Lan):Int×Int:=nb9' (nca' b (vs.getD i noV)) s.cl
def litS (b:Bldg) (vs:List View) (ps:List Calls) (i:Nat) (s:Lan):Lan:=⟨s.lit++[Calls.mk (litC b vs i s).1 (litC b vs i s).2],s.gong++[!isZ (nb9' (litC b vs i s) ((ps.getD i noP).Up,(ps.getD i noP).Down))],neb' s.cl (litC b vs i s)⟩
def nee' (b:Bldg) (vs:List View) (ps:List Calls):Lan:=foldN (litS b vs ps) vs.length 0 Lan.none
def nrf' (b:Bldg) (vs:List View) (ps:List Calls):Lan×Int:=bif (vs.length:Int)==(b.Cars.length:Int)&&((ps.length:Int)==(b.Cars.length:Int)) then (nee' b vs ps,0) else (Lan.none,1)
section
variable {b:Bldg} (hb:b.small) (hcode:b.code=0)
include hb hcode
theorem nns' (vs:List View) (ps:List Calls) (hl:vs.length≤1000) (hp:ps.length=vs.length):nfe' ((ps,(),(),(),vs,(vs.length:Int),(0:Int),()),(b.tup,Lan.none.tup,Lan.none.tup,()))=some (((),(),()),(Lan.none.tup,(nee' b vs ps).tup,()))∧(nee' b vs ps).lit.length=vs.length∧(nee' b vs ps).gong.length=vs.length:=by
 have key:=fun (step:_→_) (h1:∀ (i:Nat) (s:Lan),i < vs.length→(s.lit.length=i∧s.gong.length=i)→step ((ps,(),(),(),vs,(vs.length:Int),(i:Int),()),(b.tup,Lan.none.tup,s.tup,()))=some (.inl ((ps,(),(),(),vs,(vs.length:Int),((i + 1:Nat):Int),()),(b.tup,Lan.none.tup,(litS b vs ps i s).tup,())))) h2=>nj8' (step:=step) vs.length (fun i (s:Lan)=>((ps,(),(),(),vs,(vs.length:Int),(i:Int),()),(b.tup,Lan.none.tup,s.tup,()))) (litS b vs ps) (fun i s=>s.lit.length=i∧s.gong.length=i) (fun s=>(((),(),()),(Lan.none.tup,s.tup,()))) (fun i s hi hs=>⟨h1 i s hi hs,by
   constructor
   ·show (s.lit++[_]).length=_; rw [List.length_append,List.length_singleton,hs.1]
   ·show (s.gong++[_]).length=_; rw [List.length_append,List.length_singleton,hs.2]⟩) h2 vs.length 0 Lan.none (by omega) ⟨rfl,rfl⟩
 have h:=key (fun x=>nc6' x.1.1 x.1.2.2.2.2.1 x.1.2.2.2.2.2.1 x.1.2.2.2.2.2.2.1 x.2.1.1 x.2.1.2.1 x.2.1.2.2.1 x.2.1.2.2.2.1 x.2.1.2.2.2.2.1 x.2.1.2.2.2.2.2.1 x.2.1.2.2.2.2.2.2.1 x.2.1.2.2.2.2.2.2.2.1 x.2.2.1.1 x.2.2.1.2.1 x.2.2.1.2.2.1 x.2.2.1.2.2.2.1 x.2.2.2.1.1 x.2.2.2.1.2.1 x.2.2.2.1.2.2.1 x.2.2.2.1.2.2.2.1) (fun i s hi hs=>by
  show nc6' ps vs (vs.length:Int) (i:Int) b.Floors b.Debounce b.Room b.Park b.Empty b.Full b.Over b.Cars [] [] 0 0 s.lit s.gong s.cl.1 s.cl.2=_
  unfold nc6'
  rw [show View.mk false false false false 0 0 0 0 0 0 0 0=noV from rfl,show Calls.mk 0 0=noP from rfl]
  simp only [decide_eq_true (show (i:Int) < (vs.length:Int) by omega),nd' (show (0:Int)≤(i:Int) by omega) (show (i:Int) < (vs.length:Int) by omega),nd' (show (0:Int)≤(i:Int) by omega) (show (i:Int) < (ps.length:Int) by omega),cond_true,Int.toNat_natCast,nj2' hb hcode,Option.bind_some,wrap1 hi (show vs.length≤nby' by unfold nby'; omega)]
  have e1:=nis' (nca' b (vs.getD i noV)) s.cl
  have e2:=nis' (litC b vs i s) ((ps.getD i noP).Up,(ps.getD i noP).Down)
  have e3:=ng8' s.cl (litC b vs i s)
  unfold litC at e2 e3
  simp only at e2
  simp only [e1,Option.bind_some,e2,e3]
  rw [nbl' (show s.lit.length + [Calls.mk (nb9' (nca' b (vs.getD i noV)) s.cl).1 (nb9' (nca' b (vs.getD i noV)) s.cl).2].length≤2147483648 by show s.lit.length + 1≤_; omega)]
  rw [nbl' (show s.gong.length + [!((nb9' (nb9' (nca' b (vs.getD i noV)) s.cl) ((ps.getD i noP).Up,(ps.getD i noP).Down)).1==0&&((nb9' (nb9' (nca' b (vs.getD i noV)) s.cl) ((ps.getD i noP).Up,(ps.getD i noP).Down)).2==0&&true))].length≤2147483648 by show s.gong.length + 1≤_; omega)]
  rfl) (fun s _=>by
  show nc6' ps vs (vs.length:Int) (vs.length:Int) b.Floors b.Debounce b.Room b.Park b.Empty b.Full b.Over b.Cars [] [] 0 0 s.lit s.gong s.cl.1 s.cl.2=_
  unfold nc6'
  simp only [decide_eq_false (Int.lt_irrefl (vs.length:Int)),cond_false]
  rfl)
 exact ⟨nx' h.1 (by omega),h.2.1,h.2.2⟩
theorem npu' (vs:List View) (ps:List Calls) (hl:vs.length≤1000):ngt' b.Floors b.Debounce b.Room b.Park b.Empty b.Full b.Over b.Cars vs ps=some (((),(nrf' b vs ps).2,()),((nrf' b vs ps).1.tup,())):=by
 unfold ngt' nrf'
 rw [nb8',hcode]
 simp only [Option.bind_some,bne_self_eq_false,cond_false]
 by_cases h1:vs.length=b.Cars.length
 ·by_cases h2:ps.length=b.Cars.length
  ·have h:=(nns' hb hcode vs ps hl (by omega)).1
   simp only [Bldg.tup,Lan.tup,Lan.none] at h
   rw [h1] at h ⊢
   rw [h2]
   simp only [bne_self_eq_false,cond_false,beq_self_eq_true,Bool.and_self,cond_true,h]
   rfl
  ·rw [h1,bne_self_eq_false,bne_t (show ¬ (ps.length:Int)=(b.Cars.length:Int) by omega),beq_f (show ¬ (ps.length:Int)=(b.Cars.length:Int) by omega),Bool.and_false]
   rfl
 ·rw [bne_t (show ¬ (vs.length:Int)=(b.Cars.length:Int) by omega),beq_f (show ¬ (vs.length:Int)=(b.Cars.length:Int) by omega)]
  rfl
end
def servB (b:Bldg) (vs:List View) (F D:Int):Bool:=vs.any fun v=>bitC (nca' b v) F.toNat D
def servL (b:Bldg) (vs:List View) (l:List Entry):List Record:=l.flatMap fun e=>bif servB b vs e.Floor e.Dir then [Record.mk 2 e.Floor e.Dir 0 0] else []
theorem nv8' (b:Bldg) (vs:List View) {f:Nat} {d:Int}:∀ (k i:Nat) (s:Int×Int),i + k=vs.length→bitC (foldN (fun i s=>neb' s (nca' b (vs.getD i noV))) k i s) f d=(bitC s f d||(vs.drop i).any fun v=>bitC (nca' b v) f d)
 | 0,i,s,hi=>by rw [show i=vs.length by omega,List.drop_length]; simp [foldN]
 | k + 1,i,s,hi=>by
  show bitC (foldN (fun i s=>neb' s (nca' b (vs.getD i noV))) k (i + 1) (neb' s (nca' b (vs.getD i noV)))) f d=_
  rw [nv8' b vs k (i + 1) _ (by omega),nyb',nbn' noV (show i < vs.length by omega),List.any_cons,Bool.or_assoc]
theorem nn3' (b:Bldg) (vs:List View):∀ l:List Entry,(servL b vs l).length≤l.length
 | []=>Nat.le_refl _
 | e :: t=>by
  have h:=nn3' b vs t
  show ((bif servB b vs e.Floor e.Dir then [Record.mk 2 e.Floor e.Dir 0 0] else [])++servL b vs t).length≤_
  rw [List.length_append,List.length_cons]
  cases servB b vs e.Floor e.Dir <;> simp <;> omega
theorem n14' {b:Bldg} (hb:b.small) {e:Entry} (h:nv' b e.Floor e.Dir=true):callE e:=by
 have lo:=hb.lo
 have hi:=hb.hi
 unfold nv' callB at h
 simp only [Bool.and_eq_true,Bool.or_eq_true,beq_iff_eq,n4'] at h
 unfold callE
 omega
section
variable {b:Bldg} (hb:b.small) (hcode:b.code=0) {m:Img} (hm:ImgOK b m) (hl:m.Entries.length≤100000) (vs:List View) (hv:(vs.length:Int)=(b.Cars.length:Int))
include hb hcode hm hl hv
theorem npe':ngr' b.Floors b.Debounce b.Room b.Park b.Empty b.Full b.Over b.Cars m.Phases m.Flags m.Leaving m.Entries vs=some ((servL b vs m.Entries,()),()):=by
 have hcc:=njs' hcode
 have hmx:100000≤maxLen:=by decide
 have hlp:=hm.lp
 have h0:=nj8' (step:=fun x=>nc4' x.1.2.2.2.1 x.1.2.2.2.2.1 x.1.2.2.2.2.2.1 x.2.1.1 x.2.1.2.1 x.2.1.2.2.1 x.2.1.2.2.2.1 x.2.1.2.2.2.2.1 x.2.1.2.2.2.2.2.1 x.2.1.2.2.2.2.2.2.1 x.2.1.2.2.2.2.2.2.2.1 x.2.2.1.1 x.2.2.1.2.1 x.2.2.1.2.2.1 x.2.2.1.2.2.2.1 x.2.2.2.1.1 x.2.2.2.1.2.1) vs.length (fun i (s:Int×Int)=>(((),(),(),vs,(vs.length:Int),(i:Int),()),(b.tup,m.tup,(s.1,s.2,()),()))) (fun i s=>neb' s (nca' b (vs.getD i noV))) (fun _ _=>True) (fun s=>(((),(),()),(m.tup,(s.1,s.2,()),()))) (fun i s hi _=>⟨by
  show nc4' vs (vs.length:Int) (i:Int) b.Floors b.Debounce b.Room b.Park b.Empty b.Full b.Over b.Cars m.Phases m.Flags m.Leaving m.Entries s.1 s.2=_
  unfold nc4'
  rw [show View.mk false false false false 0 0 0 0 0 0 0 0=noV from rfl]
  have e3:=ng8' s (nca' b (vs.getD i noV))
  simp only [decide_eq_true (show (i:Int) < (vs.length:Int) by omega),nd' (show (0:Int)≤(i:Int) by omega) (show (i:Int) < (vs.length:Int) by omega),cond_true,Int.toNat_natCast,nj2' hb hcode,Option.bind_some,e3,wrap1 hi (show vs.length≤nby' by unfold nby'; omega)]
  rfl,trivial⟩) (fun s _=>by
  show nc4' vs (vs.length:Int) (vs.length:Int) b.Floors b.Debounce b.Room b.Park b.Empty b.Full b.Over b.Cars m.Phases m.Flags m.Leaving m.Entries s.1 s.2=_
  unfold nc4'
  simp only [decide_eq_false (Int.lt_irrefl (vs.length:Int)),cond_false]
  rfl) vs.length 0 (0,0) (by omega) trivial
 have h0':nfc' (((),(),(),vs,(vs.length:Int),(0:Int),()),(b.tup,m.tup,((0:Int),(0:Int),()),()))=_:=nx' h0.1 (by omega)
 have hbit:∀ (f:Nat) (d:Int),bitC (foldN (fun i s=>neb' s (nca' b (vs.getD i noV))) vs.length 0 (0,0)) f d=vs.any fun v=>bitC (nca' b v) f d:=fun f d=>by
  rw [nv8' b vs vs.length 0 (0,0) (by omega),nnn',Bool.false_or,List.drop_zero]
 generalize foldN (fun i s=>neb' s (nca' b (vs.getD i noV))) vs.length 0 (0,0)=u at h0' hbit
 have h1:=nj8' (step:=fun x=>nc2' x.1.2.1 x.1.2.2.1 x.1.2.2.2.1 x.1.2.2.2.2.1 x.2.1.1 x.2.1.2.1) m.Entries.length (fun i (out:List Record)=>(((),out,m.Entries,(m.Entries.length:Int),(i:Int),()),((u.1,u.2,()),()))) (fun i out=>out++(bif servB b vs (m.Entries.getD i noE).Floor (m.Entries.getD i noE).Dir then [Record.mk 2 (m.Entries.getD i noE).Floor (m.Entries.getD i noE).Dir 0 0] else [])) (fun i out=>out.length≤i) (fun out=>((out,()),())) (fun i out hi ho=>by
  have hc:=n14' hb (ne0'.1 (hm.en _ (ndg' noE hi))).1
  refine ⟨?_,?_⟩
  ·show nc2' out m.Entries (m.Entries.length:Int) (i:Int) u.1 u.2=_
   unfold nc2'
   rw [show Entry.mk 0 0 0 0 false=noE from rfl]
   simp only [decide_eq_true (show (i:Int) < (m.Entries.length:Int) by omega),nd' (show (0:Int)≤(i:Int) by omega) (show (i:Int) < (m.Entries.length:Int) by omega),cond_true,Int.toNat_natCast,nny' u hc.1 hc.2,Option.bind_some,wrap1 hi (show m.Entries.length≤nby' by unfold nby'; omega),hbit]
   rw [nbl' (show out.length + [Record.mk 2 (m.Entries.getD i noE).Floor (m.Entries.getD i noE).Dir 0 0].length≤2147483648 by show out.length + 1≤_; omega)]
   unfold servB
   cases vs.any fun v=>bitC (nca' b v) (m.Entries.getD i noE).Floor.toNat (m.Entries.getD i noE).Dir
   ·simp
   ·rfl
  ·rw [List.length_append]
   cases servB b vs (m.Entries.getD i noE).Floor (m.Entries.getD i noE).Dir <;> simp <;> omega) (fun out _=>by
  show nc2' out m.Entries (m.Entries.length:Int) (m.Entries.length:Int) u.1 u.2=_
  unfold nc2'
  simp only [decide_eq_false (Int.lt_irrefl (m.Entries.length:Int)),cond_false]) m.Entries.length 0 [] (by omega) (by simp)
 have h1':=nx' h1.1 (by omega)
 rw [nto',List.nil_append,nqd' (fun e=>bif servB b vs e.Floor e.Dir then [Record.mk 2 e.Floor e.Dir 0 0] else []) noE m.Entries 0 m.Entries.length (by omega),List.drop_zero] at h1'
 unfold ngr'
 rw [nfs' hb m (by omega) (by omega),Img.ok_iff.2 hm]
 simp only [Option.bind_some,Bool.not_true,cond_false]
 rw [show ((vs.length:Int) != (b.Cars.length:Int))=false by rw [hv,bne_self_eq_false]]
 simp only [Bldg.tup,Img.tup] at h0'
 simp only [cond_false,h0',Option.bind_some]
 rw [show nfa' (((),([]:List Record),m.Entries,(m.Entries.length:Int),(0:Int),()),((u.1,u.2,()),()))=_ from h1']
 rfl
end
end Go.Ovl
