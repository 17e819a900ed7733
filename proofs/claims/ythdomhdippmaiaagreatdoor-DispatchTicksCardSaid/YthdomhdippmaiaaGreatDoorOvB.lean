/- What a record does to an image (layer 10), by the reference. -/
import Derived.Test.YthdomhdippmaiaaGreatDoorOvA
namespace Go.Ovl
open Go Go.Ab
set_option maxRecDepth 100000
def isC (F D:Int) (e:Entry):Bool:=e.Floor==F&&e.Dir==D
def findF (F D:Int):List Entry→Nat→Int
 | [],_=>-1
 | e :: t,i=>bif isC F D e then (i:Int) else findF F D t (i + 1)
theorem nik' (F D:Int):∀ (l:List Entry) (i:Nat),(findF F D l i=-1∧∀ e ∈ l,isC F D e=false)∨∃ k:Nat,k < l.length∧findF F D l i=((i + k:Nat):Int)∧isC F D (l.getD k noE)=true
 | [],_=>.inl ⟨rfl,fun _ h=>by cases h⟩
 | e :: t,i=>by
  simp only [findF]
  cases h:isC F D e with
  | true=>exact .inr ⟨0,by simp,rfl,h⟩
  | false=>
   rcases nik' F D t (i + 1) with ⟨h1,h2⟩ | ⟨k,h1,h2,h3⟩
   ·refine .inl ⟨h1,fun x hx=>?_⟩
    rcases List.mem_cons.1 hx with rfl | hx
    ·exact h
    ·exact h2 x hx
   ·refine .inr ⟨k + 1,by simp; omega,?_,h3⟩
    rw [cond_false,h2]
    congr 1; omega
theorem noo' (m:Img) (hm:m.Entries.length≤2000) (F D:Int):nil' m.Phases m.Flags m.Leaving m.Entries F D=some ((findF F D m.Entries 0,()),()):=by
 have key:∀ (k i:Nat),i + k=m.Entries.length→iter (fun x=>ng0' x.1.1 x.1.2.1 x.1.2.2.2.1 x.2.1.1 x.2.1.2.1 x.2.1.2.2.1 x.2.1.2.2.2.1) (k + 1) ((F,D,(),(i:Int),()),(m.tup,()))=some (bif findF F D (m.Entries.drop i) i==-1 then .inl ((),()) else .inr ((findF F D (m.Entries.drop i) i,()),())):=by
  intro k
  induction k with
  | zero=>
   intro i hi
   refine ni' ?_
   show ng0' F D (i:Int) m.Phases m.Flags m.Leaving m.Entries=_
   unfold ng0'
   rw [show decide ((i:Int) < (m.Entries.length:Int))=false by simp; omega,show i=m.Entries.length by omega,List.drop_length]; rfl
  | succ k ih=>
   intro i hi
   have hi':i < m.Entries.length:=by omega
   have w:IntKind.i64.wrap ((i:Int) + 1)=((i + 1:Nat):Int):=by rw [nb' (by omega) (by omega)]; omega
   have hs:ng0' F D (i:Int) m.Phases m.Flags m.Leaving m.Entries=some (bif isC F D (m.Entries.getD i noE) then .inr (.inr (((i:Int),()),())) else .inl ((F,D,(),((i + 1:Nat):Int),()),(m.tup,()))):=by
    unfold ng0' isC
    rw [show decide ((i:Int) < (m.Entries.length:Int))=true by simp; omega,nc' (show (0:Int)≤(i:Int) by omega) (show (i:Int) < (m.Entries.length:Int) by omega),show Entry.mk 0 0 0 0 false=noE from rfl]
    simp only [cond_true,Int.toNat_natCast]
    cases (m.Entries.getD i noE).Floor==F with
    | false=>simp only [cond_false,Option.bind_some,w,Bool.false_and]; rfl
    | true=>
     simp only [cond_true,Option.bind_some,Bool.true_and]
     cases (m.Entries.getD i noE).Dir==D with
     | false=>simp only [cond_false,w]; rfl
     | true=>rfl
   rw [n3' noE hi']
   simp only [findF]
   cases hq:isC F D (m.Entries.getD i noE) with
   | true=>
    rw [hq] at hs
    rw [cond_true,beq_f (show ¬ (i:Int)=-1 by omega)]
    exact ni' hs
   | false=>
    rw [hq] at hs
    exact (ns' hs).trans (ih (i + 1) (by omega))
 have h:nkl' ((F,D,(),(0:Int),()),(m.tup,()))=_:=nf' (key m.Entries.length 0 (by omega)) (by omega)
 rw [List.drop_zero] at h
 unfold Img.tup at h
 unfold nil'
 rw [h]
 cases hq:findF F D m.Entries 0==-1 with
 | true=>
  have:findF F D m.Entries 0=-1:=by simpa using hq
  rw [this]; rfl
 | false=>rfl
def insL (e:Entry):Bool→List Entry→List Entry
 | d,[]=>bif d then [] else [e]
 | true,x :: t=>x :: insL e true t
 | false,x :: t=>bif lessE e x then e :: x :: insL e true t else x :: insL e false t
theorem ns2' (e:Entry):∀ (l:List Entry) (d:Bool),(insL e d l).length≤l.length + 1
 | [],true=>by simp [insL]
 | [],false=>by simp [insL]
 | x :: t,true=>by simp only [insL,List.length_cons]; have:=ns2' e t true; omega
 | x :: t,false=>by
  simp only [insL]
  cases lessE e x with
  | true=>
   simp only [cond_true,List.length_cons]
   have:∀ t:List Entry,insL e true t=t:=fun t=>by
    induction t with
    | nil=>rfl
    | cons a t ih=>simp only [insL,ih]
   rw [this]; omega
  | false=>simp only [cond_false,List.length_cons]; have:=ns2' e t false; omega
theorem nn9' (e:Entry):∀ t:List Entry,insL e true t=t
 | []=>rfl
 | a :: t=>by simp only [insL,nn9' e t]
def Entry.tup5 (e:Entry):Int×Int×Int×Int×Bool×Unit:=(e.Floor,e.Dir,e.Car,e.Moves,e.Moved,())
theorem nvv' (e:Entry) {l:List Entry} (hl:l.length≤2000):ni7' l e.Floor e.Dir e.Car e.Moves e.Moved=some ((insL e false l,()),()):=by
 have key:∀ (k i:Nat) (out:List Entry) (d:Bool),i + k=l.length→out.length≤i + d.toNat→∃ (o:List Entry) (d':Bool),iter (fun x=>nec' x.1.1 x.1.2.2.1 x.1.2.2.2.1 x.1.2.2.2.2.1 x.2.1.1 x.2.1.2.1 x.2.1.2.2.1 x.2.1.2.2.2.1 x.2.1.2.2.2.2.1) (k + 1) ((l,(),out,d,(i:Int),()),(e.tup5,()))=some (((),o,d',()),(e.tup5,()))∧o.length≤2001∧o++(bif d' then [] else [e])=out++insL e d (l.drop i):=by
  intro k
  induction k with
  | zero=>
   intro i out d hi ho
   refine ⟨out,d,ni' ?_,by have:=Bool.toNat_le d; omega,?_⟩
   ·show nec' l out d (i:Int) e.Floor e.Dir e.Car e.Moves e.Moved=_
    unfold nec'
    rw [show decide ((i:Int) < (l.length:Int))=false by simp; omega]; rfl
   ·rw [show i=l.length by omega,List.drop_length]; cases d <;> rfl
  | succ k ih=>
   intro i out d hi ho
   have hi':i < l.length:=by omega
   have hd1:=Bool.toNat_le d
   have w:IntKind.i64.wrap ((i:Int) + 1)=((i + 1:Nat):Int):=by rw [nb' (by omega) (by omega)]; omega
   have b1:∀ y:Entry,Nat.ble (out.length + [y].length) 2147483648=true:=fun _=>n2' (by simp; omega)
   have b2:∀ y z:Entry,Nat.ble ((out++[z]).length + [y].length) 2147483648=true:=fun _ _=>n2' (by simp; omega)
   have ib:inB (i:Int) l.length=true:=nc' (by omega) (by omega)
   have hle:=nsj' e (l.getD i noE)
   have hs:nec' l out d (i:Int) e.Floor e.Dir e.Car e.Moves e.Moved=some (.inl ((l,(),(bif !d&&lessE e (l.getD i noE) then out++[e] else out)++[l.getD i noE],d||lessE e (l.getD i noE),((i + 1:Nat):Int),()),(e.tup5,()))):=by
    unfold nec'
    rw [show decide ((i:Int) < (l.length:Int))=true by simp; omega,ib,show Entry.mk 0 0 0 0 false=noE from rfl]
    cases d with
    | true=>simp only [cond_true,cond_false,Bool.not_true,Option.bind_some,ib,Int.toNat_natCast,b1,w,Bool.false_and,Bool.true_or]; rfl
    | false=>
     simp only [cond_true,Bool.not_false,Int.toNat_natCast,hle,Option.bind_some,Bool.true_and,Bool.false_or]
     cases lessE e (l.getD i noE) with
     | true=>simp only [cond_true,b1,Option.bind_some,ib,Int.toNat_natCast,b2,w]; rfl
     | false=>simp only [cond_false,Option.bind_some,ib,cond_true,Int.toNat_natCast,b1,w]; rfl
   rw [n3' noE hi']
   cases d with
   | true=>
    obtain ⟨o,d',h1,h2,h3⟩:=ih (i + 1) (out++[l.getD i noE]) true (by omega) (by rw [List.length_append]; simp only [Bool.toNat_true,List.length_singleton] at ho ⊢; omega)
    refine ⟨o,d',(ns' hs).trans h1,h2,?_⟩
    rw [h3]; simp only [insL,List.append_assoc,List.singleton_append]
   | false=>
    simp only [Bool.toNat_false] at ho
    cases hq:lessE e (l.getD i noE) with
    | true=>
     rw [hq] at hs
     obtain ⟨o,d',h1,h2,h3⟩:=ih (i + 1) ((out++[e])++[l.getD i noE]) true (by omega) (by simp only [List.length_append,List.length_singleton,Bool.toNat_true]; omega)
     refine ⟨o,d',(ns' hs).trans h1,h2,?_⟩
     rw [h3]; simp only [insL,hq,cond_true,List.append_assoc,List.cons_append,List.nil_append]
    | false=>
     rw [hq] at hs
     obtain ⟨o,d',h1,h2,h3⟩:=ih (i + 1) (out++[l.getD i noE]) false (by omega) (by simp only [List.length_append,List.length_singleton,Bool.toNat_false]; omega)
     refine ⟨o,d',(ns' hs).trans h1,h2,?_⟩
     rw [h3]; simp only [insL,hq,cond_false,List.append_assoc,List.singleton_append]
 obtain ⟨o,d',h1,h2,h3⟩:=key l.length 0 [] false (by omega) (by simp)
 have h:nh2' ((l,(),([]:List Entry),false,(0:Int),()),(e.tup5,()))=_:=nf' h1 (by omega)
 rw [List.drop_zero,List.nil_append] at h3
 unfold Entry.tup5 at h
 unfold ni7'
 rw [h,← h3]
 have b1:Nat.ble (o.length + [e].length) 2147483648=true:=n2' (by simp; omega)
 cases d' with
 | true=>simp only [Option.bind_some,Bool.not_true,cond_false,cond_true,List.append_nil]
 | false=>simp only [Option.bind_some,Bool.not_false,cond_true,cond_false,b1]
def Img.put (m:Img) (l:List Entry):Img:=⟨m.Phases,m.Flags,m.Leaving,l⟩
def nux' (e:Entry) (c:Int):Entry:=⟨e.Floor,e.Dir,c,e.Moves,e.Moved⟩
def nnl' (e:Entry) (n c:Int):Entry:=⟨e.Floor,e.Dir,e.Car,n,c==1⟩
def nbh' (m:Img) (r:Record):Img:=
 bif r.Kind==4 then ⟨m.Phases.set r.Car.toNat r.Value,m.Flags,m.Leaving,m.Entries⟩
 else bif r.Kind==5 then ⟨m.Phases,m.Flags.set r.Car.toNat (r.Value==1),m.Leaving,m.Entries⟩
 else bif r.Kind==6 then ⟨m.Phases,m.Flags,m.Leaving.set r.Car.toNat (r.Value==1),m.Entries⟩
 else bif findF r.Floor r.Dir m.Entries 0==-1 then (bif r.Kind==1 then m.put (insL ⟨r.Floor,r.Dir,-1,0,false⟩ false m.Entries) else m)
 else bif r.Kind==2 then m.put (m.Entries.take (findF r.Floor r.Dir m.Entries 0).toNat++m.Entries.drop ((findF r.Floor r.Dir m.Entries 0).toNat + 1))
 else bif r.Kind==3 then m.put (m.Entries.set (findF r.Floor r.Dir m.Entries 0).toNat (nux' (m.Entries.getD (findF r.Floor r.Dir m.Entries 0).toNat noE) r.Car))
 else bif r.Kind==7 then m.put (m.Entries.set (findF r.Floor r.Dir m.Entries 0).toNat (nnl' (m.Entries.getD (findF r.Floor r.Dir m.Entries 0).toNat noE) r.Value r.Car))
 else m
def nj6' (b:Bldg) (m:Img) (r:Record):(Unit×Int×Unit)×((List Int×List Bool×List Bool×List Entry×Unit)×Unit):=
 bif m.ok b&&n0' b r then (((),0,()),((nbh' m r).tup,())) else (((),1,()),(Img.none.tup,()))
theorem nml' {b:Bldg} {r:Record} (h:n0' b r=true) (hk:r.Kind=4∨r.Kind=5∨r.Kind=6):0≤r.Car∧r.Car < (b.Cars.length:Int):=by
  unfold n0' carR at h
  have k:∀ q:Bool,(r.Car ≥ 0∧r.Car≤(b.Cars.length:Int) - 1)→0≤r.Car∧r.Car < (b.Cars.length:Int):=fun _ h=>by omega
  rcases hk with hk | hk | hk <;> rw [hk] at h <;>
    (simp only [Bool.and_eq_true] at h
     have h':=h.2
     simp only [show ((4:Int)==1)=false from rfl,show ((4:Int)==2)=false from rfl,show ((4:Int)==3)=false from rfl,show ((5:Int)==1)=false from rfl,show ((5:Int)==2)=false from rfl,show ((5:Int)==3)=false from rfl,show ((5:Int)==4)=false from rfl,show ((6:Int)==1)=false from rfl,show ((6:Int)==2)=false from rfl,show ((6:Int)==3)=false from rfl,show ((6:Int)==4)=false from rfl,show ((6:Int)==5)=false from rfl,beq_self_eq_true,cond_false,cond_true,Bool.and_eq_true] at h'
     have:=nba'.1 h'.1.1
     exact k true ⟨this.1,this.2⟩)
section
variable {b:Bldg} (hb:b.small) (m:Img) (hm:m.Entries.length≤1000) (r:Record)
include hb hm
theorem nq7' (hp:m.Phases.length≤maxLen) (hcl:b.Cars.length≤100):niw' b.Floors b.Debounce b.Room b.Park b.Empty b.Full b.Over b.Cars m.Phases m.Flags m.Leaving m.Entries r.Kind r.Floor r.Dir r.Car r.Value=some (nj6' b m r):=by
 have hmx:1000≤maxLen:=by decide
 unfold niw' nj6'
 rw [ngk' hb m hp (by omega)]
 simp only [Option.bind_some]
 cases hok:m.ok b with
 | false=>rfl
 | true=>
  rw [nyq' hb hcl r]
  simp only [Bool.not_true,cond_false,Option.bind_some,Bool.true_and]
  cases hv:n0' b r with
  | false=>rfl
  | true=>
   obtain ⟨_,l1,l2,l3,_⟩:b.code=0∧m.Phases.length=b.Cars.length∧m.Flags.length=b.Cars.length∧m.Leaving.length=b.Cars.length∧True:=by
    unfold Img.ok at hok
    simp only [Bool.and_eq_true,beq_iff_eq] at hok
    obtain ⟨h0,h1,h2,h3,h4,h5⟩:=hok
    exact ⟨h0,by omega,by omega,by omega,trivial⟩
   have b1:Nat.ble (([]:List Int).length + m.Phases.length) 2147483648=true:=n2' (by simp; omega)
   have b2:Nat.ble (([]:List Bool).length + m.Flags.length) 2147483648=true:=n2' (by simp; omega)
   have b3:Nat.ble (([]:List Bool).length + m.Leaving.length) 2147483648=true:=n2' (by simp; omega)
   have b4:Nat.ble (([]:List Entry).length + m.Entries.length) 2147483648=true:=n2' (by simp; omega)
   simp only [Bool.not_true,cond_false,cond_true,b1,b2,b3,b4,List.nil_append]
   rw [noo' m (by omega)]
   simp only [Option.bind_some]
   unfold nbh'
   by_cases k4:r.Kind=4
   ·have hc:=nml' hv (.inl k4)
    rw [k4]
    simp only [beq_self_eq_true,cond_true,nc' hc.1 (show r.Car < ((m.Phases.length:Nat):Int) by omega)]
    rfl
   rw [beq_f k4]
   by_cases k5:r.Kind=5
   ·have hc:=nml' hv (.inr (.inl k5))
    rw [k5]
    simp only [beq_self_eq_true,cond_true,cond_false,nc' hc.1 (show r.Car < ((m.Flags.length:Nat):Int) by omega)]
    rfl
   rw [beq_f k5]
   by_cases k6:r.Kind=6
   ·have hc:=nml' hv (.inr (.inr k6))
    rw [k6]
    simp only [beq_self_eq_true,cond_true,cond_false,nc' hc.1 (show r.Car < ((m.Leaving.length:Nat):Int) by omega)]
    rfl
   rw [beq_f k6]
   simp only [cond_false]
   have hent:=nvv' ⟨r.Floor,r.Dir,-1,0,false⟩ (l:=m.Entries) (by omega)
   simp only at hent
   rcases nik' r.Floor r.Dir m.Entries 0 with ⟨h1,_⟩ | ⟨k,h1,h2,_⟩
   ·rw [h1,show decide ((-1:Int) < 0)=true from rfl,show ((-1:Int)==-1)=true from rfl]
    simp only [cond_true]
    cases r.Kind==1 with
    | true=>simp only [cond_true,Option.bind_some,hent]; rfl
    | false=>simp only [cond_false,Option.bind_some]; rfl
   ·rw [Nat.zero_add] at h2
    have hk:Int.toNat (k:Int)=k:=by omega
    rw [h2,beq_f (show ¬ (k:Int)=-1 by omega),decide_eq_false (show ¬ (k:Int) < 0 by omega),show Entry.mk 0 0 0 0 false=noE from rfl]
    simp only [cond_false,hk]
    have e1:(bif r.Kind==1 then some (((),(),(),(k:Int),false,()),((m.Phases,m.Flags,m.Leaving,m.Entries,()),(r.Kind,r.Floor,r.Dir,r.Car,r.Value,()),(([]:List (Int)),([]:List (Bool)),([]:List (Bool)),([]:List (Entry)),()),())) else some (((),(),(),(k:Int),false,()),((m.Phases,m.Flags,m.Leaving,m.Entries,()),(r.Kind,r.Floor,r.Dir,r.Car,r.Value,()),(([]:List (Int)),([]:List (Bool)),([]:List (Bool)),([]:List (Entry)),()),())))=some (((),(),(),(k:Int),false,()),((m.Phases,m.Flags,m.Leaving,m.Entries,()),(r.Kind,r.Floor,r.Dir,r.Car,r.Value,()),(([]:List (Int)),([]:List (Bool)),([]:List (Bool)),([]:List (Entry)),()),())):=by cases r.Kind==1 <;> rfl
    rw [e1]
    simp only [Option.bind_some,cond_false,decide_eq_false (show ¬ (k:Int) < 0 by omega),hk]
    have ib:inB (k:Int) m.Entries.length=true:=nc' (by omega) (by omega)
    cases r.Kind==2 with
    | true=>
     have w:IntKind.i64.wrap ((k:Int) + 1)=((k + 1:Nat):Int):=by rw [nb' (by omega) (by omega)]; omega
     have b5:Nat.ble (([]:List Entry).length + (m.Entries.take k).length) 2147483648=true:=n2' (by simp; omega)
     have b6:Nat.ble ((m.Entries.take k).length + (m.Entries.drop (k + 1)).length) 2147483648=true:=n2' (by simp; omega)
     simp only [cond_true,decide_eq_true (show (0:Int)≤(k:Int) by omega),decide_eq_true (show (k:Int)≤(m.Entries.length:Int) by omega),Bool.and_self,b5,w,decide_eq_true (show (0:Int)≤((k + 1:Nat):Int) by omega),decide_eq_true (show ((k + 1:Nat):Int)≤(m.Entries.length:Int) by omega),Int.toNat_natCast,List.take_length,b6,List.drop_zero]
     rfl
    | false=>
     simp only [cond_false]
     cases r.Kind==3 with
     | true=>simp only [cond_true,ib]; rfl
     | false=>
      simp only [cond_false]
      cases r.Kind==7 with
      | true=>
       have ib2:∀ y:Entry,inB (k:Int) (m.Entries.set k y).length=true:=fun y=>nc' (by omega) (by rw [List.length_set]; omega)
       have hg:∀ y:Entry,(m.Entries.set k y).getD k noE=y:=fun y=>by
        simp [List.getD_eq_getElem?_getD,h1]
       simp only [cond_true,ib,ib2,hg,List.set_set]
       rfl
      | false=>rfl
end
end Go.Ovl
namespace Go.Ovl
open Go Go.Ab
set_option maxRecDepth 100000
theorem neu' {a c:Entry}:lessE a c=true↔a.Floor < c.Floor∨(a.Floor=c.Floor∧a.Dir < c.Dir):=by
 unfold lessE
 simp only [Bool.or_eq_true,Bool.and_eq_true,decide_eq_true_eq,beq_iff_eq]
theorem nli' {a c d:Entry} (h:lessE a c=true) (h':lessE c d=true):lessE a d=true:=by
 rw [neu'] at *
 omega
def nbx' (e:Entry):Int×Int:=(e.Floor,e.Dir)
def ltC (a c:Int×Int):Prop:=a.1 < c.1∨(a.1=c.1∧a.2 < c.2)
def nbc' (l:List Entry):Prop:=(l.map nbx').Pairwise ltC
theorem nda' {l:List Entry}:nbc' l↔l.Pairwise fun x y=>lessE x y=true:=by
 unfold nbc'
 rw [List.pairwise_map]
 exact ⟨fun h=>h.imp fun hh=>neu'.2 hh,fun h=>h.imp fun hh=>neu'.1 hh⟩
theorem nwn' {b:Bldg}:∀ {l:List Entry} {p:Option Entry},entsF b p l=true↔(∀ e ∈ l,entOK b e=true)∧nbc' l∧(∀ q,p=some q→∀ e ∈ l,lessE q e=true)
 | [],p=>by simp [entsF,nbc']
 | a :: t,p=>by
  simp only [entsF,Bool.and_eq_true]
  rw [nwn' (l:=t),nda',nda',List.pairwise_cons]
  constructor
  ·rintro ⟨h1,h2,h3,h4,h5⟩
   refine ⟨fun e he=>?_,⟨fun e he=>h5 a rfl e he,h4⟩,fun q hq e he=>?_⟩
   ·rcases List.mem_cons.1 he with rfl | he
    ·exact h1
    ·exact h3 e he
   ·subst hq
    simp only at h2
    rcases List.mem_cons.1 he with rfl | he
    ·exact h2
    ·exact nli' h2 (h5 a rfl e he)
  ·rintro ⟨h1,⟨h2,h3⟩,h4⟩
   refine ⟨h1 a (List.mem_cons_self ..),?_,fun e he=>h1 e (List.mem_cons_of_mem _ he),h3,fun q hq e he=>?_⟩
   ·cases p with
    | none=>rfl
    | some q=>exact h4 q rfl a (List.mem_cons_self ..)
   ·obtain rfl:=Option.some.inj hq
    exact h2 e he
theorem nt1' {b:Bldg} {l:List Entry}:entsF b none l=true↔(∀ e ∈ l,entOK b e=true)∧nbc' l:=by
 rw [nwn']
 exact ⟨fun h=>⟨h.1,h.2.1⟩,fun h=>⟨h.1,h.2,fun _ hq=>by cases hq⟩⟩
theorem n17' {l:List Entry} (h:nbc' l) (k:Nat):nbc' (l.take k++l.drop (k + 1)):=by
 rw [nda'] at *
 exact h.sublist (by rw [← List.eraseIdx_eq_take_drop_succ]; exact List.eraseIdx_sublist ..)
theorem nne' {l:List Entry} {k:Nat} {e:Entry} (hk:k < l.length) (he:nbx' e=nbx' (l.getD k noE)):(l.set k e).map nbx'=l.map nbx':=by
 rw [List.map_set,he]
 apply List.ext_getElem?
 intro i
 rw [List.getElem?_set]
 by_cases h:k=i
 ·subst h
  rw [if_pos rfl]
  simp [hk,List.getD_eq_getElem?_getD]
 ·rw [if_neg h]
theorem nty' {l:List Entry} (h:nbc' l) {k:Nat} {e:Entry} (hk:k < l.length) (he:nbx' e=nbx' (l.getD k noE)):nbc' (l.set k e):=by
 unfold nbc' at *
 rw [nne' hk he]; exact h
theorem nsz' {e x:Entry}:∀ {l:List Entry},x ∈ insL e false l→x=e∨x ∈ l
 | [],h=>by simp [insL] at h; exact .inl h
 | a :: t,h=>by
  simp only [insL] at h
  cases hq:lessE e a with
  | true=>
   rw [hq,cond_true,nn9'] at h
   rcases List.mem_cons.1 h with h | h
   ·exact .inl h
   ·exact .inr h
  | false=>
   rw [hq,cond_false] at h
   rcases List.mem_cons.1 h with h | h
   ·exact .inr (by rw [h]; exact List.mem_cons_self ..)
   ·rcases nsz' h with h | h
    ·exact .inl h
    ·exact .inr (List.mem_cons_of_mem _ h)
theorem nu0' {e:Entry}:∀ {l:List Entry},nbc' l→(∀ x ∈ l,isC e.Floor e.Dir x=false)→nbc' (insL e false l)
 | [],_,_=>by simp [insL,nbc']
 | a :: t,h,hn=>by
  rw [nda'] at *
  obtain ⟨h1,h2⟩:=List.pairwise_cons.1 h
  simp only [insL]
  cases hq:lessE e a with
  | true=>
   rw [cond_true,nn9']
   refine List.pairwise_cons.2 ⟨fun x hx=>?_,h⟩
   rcases List.mem_cons.1 hx with rfl | hx
   ·exact hq
   ·exact nli' hq (h1 x hx)
  | false=>
   rw [cond_false]
   refine List.pairwise_cons.2 ⟨fun x hx=>?_,nda'.1 (nu0' (nda'.2 h2) fun x hx=>hn x (List.mem_cons_of_mem _ hx))⟩
   rcases nsz' hx with rfl | hx
   ·rw [neu']
    have h3:¬ (x.Floor < a.Floor∨(x.Floor=a.Floor∧x.Dir < a.Dir)):=fun hh=>by rw [neu'.2 hh] at hq; cases hq
    have h4:=hn a (List.mem_cons_self ..)
    unfold isC at h4
    simp only [Bool.and_eq_false_iff,beq_eq_false_iff_ne] at h4
    omega
   ·exact h1 x hx
structure ImgOK (b:Bldg) (m:Img):Prop where
 code:b.code=0
 lp:m.Phases.length=b.Cars.length
 lf:m.Flags.length=b.Cars.length
 ll:m.Leaving.length=b.Cars.length
 ph:∀ p ∈ m.Phases,0≤p∧p≤4
 en:∀ e ∈ m.Entries,entOK b e=true
 so:nbc' m.Entries
theorem Img.ok_iff {b:Bldg} {m:Img}:m.ok b=true↔ImgOK b m:=by
 unfold Img.ok
 simp only [Bool.and_eq_true,beq_iff_eq]
 constructor
 ·rintro ⟨h0,h1,h2,h3,h4,h5⟩
  have h6:=nt1'.1 h5
  exact ⟨h0,by omega,by omega,by omega,fun p hp=>nba'.1 (List.all_eq_true.1 h4 p hp),h6.1,h6.2⟩
 ·rintro ⟨h0,h1,h2,h3,h4,h5,h6⟩
  exact ⟨h0,by omega,by omega,by omega,List.all_eq_true.2 fun p hp=>nba'.2 (h4 p hp),nt1'.2 ⟨h5,h6⟩⟩
theorem ncx' {b:Bldg} {e:Entry}:entOK b e=true↔nh' b e.Floor e.Dir=true∧(-2≤e.Car∧e.Car < (b.Cars.length:Int))∧0≤e.Moves∧e.Moves≤255:=by
 unfold entOK
 simp only [Bool.and_eq_true,decide_eq_true_eq]
 constructor
 ·rintro ⟨h1,h2,h3,h4,h5⟩; exact ⟨h1,⟨h2,h3⟩,h4,h5⟩
 ·rintro ⟨h1,⟨h2,h3⟩,h4,h5⟩; exact ⟨h1,h2,h3,h4,h5⟩
theorem njs' {α:Type} {l:List α} {k:Nat} {a x:α} (h:x ∈ l.set k a):x=a∨x ∈ l:=by
 rcases List.mem_or_eq_of_mem_set h with h | h
 ·exact .inr h
 ·exact .inl h
theorem nsi' {b:Bldg} {r:Record} (h:n0' b r=true):b.code=0 ∧
    ((r.Kind=1∧nh' b r.Floor r.Dir=true∧r.Car=0∧r.Value=0)∨(r.Kind=2∧nh' b r.Floor r.Dir=true∧r.Car=0∧r.Value=0) ∨
     (r.Kind=3∧nh' b r.Floor r.Dir=true∧(-2≤r.Car∧r.Car < (b.Cars.length:Int))∧r.Value=0) ∨
     (r.Kind=4∧(0≤r.Car∧r.Car < (b.Cars.length:Int))∧(0≤r.Value∧r.Value≤4)) ∨
     (r.Kind=5∧(0≤r.Car∧r.Car < (b.Cars.length:Int))∧(0≤r.Value∧r.Value≤1)) ∨
     (r.Kind=6∧(0≤r.Car∧r.Car < (b.Cars.length:Int))∧(0≤r.Value∧r.Value≤1)) ∨
     (r.Kind=7∧nh' b r.Floor r.Dir=true∧(0≤r.Car∧r.Car≤1)∧(0≤r.Value∧r.Value≤255))):=by
  unfold n0' carR at h
  simp only [Bool.and_eq_true,beq_iff_eq] at h
  obtain ⟨h0,h⟩:=h
  refine ⟨h0,?_⟩
  by_cases k1:r.Kind=1
  · rw [k1] at h; simp only [beq_self_eq_true,cond_true,Bool.and_eq_true,beq_iff_eq] at h; exact .inl ⟨k1,h.1,h.2⟩
  rw [beq_f k1,cond_false] at h
  by_cases k2:r.Kind=2
  · rw [k2] at h; simp only [beq_self_eq_true,cond_true,Bool.and_eq_true,beq_iff_eq] at h; exact .inr (.inl ⟨k2,h.1,h.2⟩)
  rw [beq_f k2,cond_false] at h
  by_cases k3:r.Kind=3
  · rw [k3] at h; simp only [beq_self_eq_true,cond_true,Bool.and_eq_true,beq_iff_eq,nba'] at h; exact .inr (.inr (.inl ⟨k3,h.1,by omega,h.2.2⟩))
  rw [beq_f k3,cond_false] at h
  by_cases k4:r.Kind=4
  · rw [k4] at h; simp only [beq_self_eq_true,cond_true,Bool.and_eq_true,beq_iff_eq,nba'] at h; exact .inr (.inr (.inr (.inl ⟨k4,by omega,h.2⟩)))
  rw [beq_f k4,cond_false] at h
  by_cases k5:r.Kind=5
  · rw [k5] at h; simp only [beq_self_eq_true,cond_true,Bool.and_eq_true,beq_iff_eq,nba'] at h; exact .inr (.inr (.inr (.inr (.inl ⟨k5,by omega,h.2⟩))))
  rw [beq_f k5,cond_false] at h
  by_cases k6:r.Kind=6
  · rw [k6] at h; simp only [beq_self_eq_true,cond_true,Bool.and_eq_true,beq_iff_eq,nba'] at h; exact .inr (.inr (.inr (.inr (.inr (.inl ⟨k6,by omega,h.2⟩)))))
  rw [beq_f k6,cond_false] at h
  by_cases k7:r.Kind=7
  · rw [k7] at h; simp only [beq_self_eq_true,cond_true,Bool.and_eq_true,nba'] at h; exact .inr (.inr (.inr (.inr (.inr (.inr ⟨k7,h.1,h.2.1,h.2.2⟩)))))
  rw [beq_f k7] at h; cases h
theorem nuo' {b:Bldg} {m:Img} (h:ImgOK b m) {l:List Entry} (h1:∀ e ∈ l,entOK b e=true) (h2:nbc' l):ImgOK b (m.put l):=⟨h.code,h.lp,h.lf,h.ll,h.ph,h1,h2⟩
theorem nrt' {F D:Int} {e:Entry}:isC F D e=true↔nbx' e=(F,D):=by
 unfold isC nbx'
 simp only [Bool.and_eq_true,beq_iff_eq,Prod.mk.injEq]
theorem nh9' {b:Bldg} {m:Img} (h:ImgOK b m) {r:Record} (hv:n0' b r=true):ImgOK b (nbh' m r)∧(nbh' m r).Entries.length≤m.Entries.length + 1:=by
 obtain ⟨_,hk⟩:=nsi' hv
 unfold nbh'
 by_cases k4:r.Kind=4
 ·rw [show (r.Kind==4)=true by rw [k4]; rfl]
  refine ⟨⟨h.code,by show (m.Phases.set _ _).length=_; rw [List.length_set]; exact h.lp,h.lf,h.ll,fun p hp=>?_,h.en,h.so⟩,Nat.le_succ _⟩
  rcases njs' hp with rfl | hp
  ·omega
  ·exact h.ph p hp
 rw [beq_f k4,cond_false]
 by_cases k5:r.Kind=5
 ·rw [show (r.Kind==5)=true by rw [k5]; rfl]
  exact ⟨⟨h.code,h.lp,by show (m.Flags.set _ _).length=_; rw [List.length_set]; exact h.lf,h.ll,h.ph,h.en,h.so⟩,Nat.le_succ _⟩
 rw [beq_f k5,cond_false]
 by_cases k6:r.Kind=6
 ·rw [show (r.Kind==6)=true by rw [k6]; rfl]
  exact ⟨⟨h.code,h.lp,h.lf,by show (m.Leaving.set _ _).length=_; rw [List.length_set]; exact h.ll,h.ph,h.en,h.so⟩,Nat.le_succ _⟩
 rw [beq_f k6,cond_false]
 rcases nik' r.Floor r.Dir m.Entries 0 with ⟨h1,h2⟩ | ⟨k,h1,h2,h3⟩
 ·rw [h1,show ((-1:Int)==-1)=true from rfl,cond_true]
  by_cases k1:r.Kind=1
  ·rw [show (r.Kind==1)=true by rw [k1]; rfl,cond_true]
   refine ⟨nuo' h (fun e he=>?_) (nu0' h.so h2),ns2' _ _ _⟩
   rcases nsz' he with rfl | he
   ·rw [ncx']
    have hc:nh' b r.Floor r.Dir=true:=by
     rcases hk with hk | hk | hk | hk | hk | hk | hk
     ·exact hk.2.1
     all_goals omega
    exact ⟨hc,⟨by show (-2:Int)≤-1; omega,by show (-1:Int) < _; omega⟩,by show (0:Int)≤0; omega,by show (0:Int)≤255; omega⟩
   ·exact h.en e he
  ·rw [beq_f k1,cond_false]; exact ⟨h,Nat.le_succ _⟩
 ·rw [Nat.zero_add] at h2
  rw [h2,beq_f (show ¬ (k:Int)=-1 by omega),cond_false,Int.toNat_natCast]
  have hmem:=ncq' noE h1
  have hent:=ncx'.1 (h.en _ hmem)
  cases r.Kind==2 with
  | true=>
   refine ⟨nuo' h (fun e he=>?_) (n17' h.so k),?_⟩
   ·rcases List.mem_append.1 he with he | he
    ·exact h.en e (List.mem_of_mem_take he)
    ·exact h.en e (List.mem_of_mem_drop he)
   ·show (m.Entries.take k++m.Entries.drop (k + 1)).length≤_
    rw [List.length_append,List.length_take,List.length_drop]; omega
  | false=>
   rw [cond_false]
   by_cases k3:r.Kind=3
   ·rw [show (r.Kind==3)=true by rw [k3]; rfl,cond_true]
    refine ⟨nuo' h (fun e he=>?_) (nty' h.so h1 rfl),by show (m.Entries.set _ _).length≤_; rw [List.length_set]; omega⟩
    rcases njs' he with rfl | he
    ·rw [ncx']
     refine ⟨hent.1,?_,hent.2.2⟩
     show -2≤r.Car∧r.Car < _
     rcases hk with hk | hk | hk | hk | hk | hk | hk
     all_goals first
      | exact hk.2.2.1
      | omega
    ·exact h.en e he
   ·rw [beq_f k3,cond_false]
    by_cases k7:r.Kind=7
    ·rw [show (r.Kind==7)=true by rw [k7]; rfl,cond_true]
     refine ⟨nuo' h (fun e he=>?_) (nty' h.so h1 rfl),by show (m.Entries.set _ _).length≤_; rw [List.length_set]; omega⟩
     rcases njs' he with rfl | he
     ·rw [ncx']
      refine ⟨hent.1,hent.2.1,?_⟩
      show 0≤r.Value∧r.Value≤255
      rcases hk with hk | hk | hk | hk | hk | hk | hk
      all_goals first
       | exact hk.2.2.2
       | omega
     ·exact h.en e he
    ·rw [beq_f k7,cond_false]; exact ⟨h,Nat.le_succ _⟩
end Go.Ovl
namespace Go.Ovl
open Go Go.Ab
set_option maxRecDepth 100000
theorem nyy' {b:Bldg} (hb:b.small) (hcode:b.code=0) (hc:1≤b.Cars.length∧b.Cars.length≤100) {l:List Int} (hl:∀ e ∈ l,u8r e) {out:List Record} {most:Int} (ho:out.length≤100) (hm:(out.length:Int) < most) (hi:2 * out.length + 1 < l.length) :
    ∃ r,n0' b r=true∧ndo' l most out b.Floors (b.Cars.length:Int) ((2 * out.length:Nat):Int)=some (.inl ((l,most,out++[r],b.Floors,(b.Cars.length:Int),((2 * (out++[r]).length:Nat):Int),()),())):=by
  have lo:=hb.lo
  have hi8:=hb.hi
  have w1:IntKind.i64.wrap (((2 * out.length:Nat):Int) + 1)=((2 * out.length + 1:Nat):Int):=by rw [nb' (by omega) (by omega)]; omega
  have w2:IntKind.i64.wrap (((2 * out.length:Nat):Int) + 2)=((2 * out.length + 2:Nat):Int):=by rw [nb' (by omega) (by omega)]; omega
  have hn:=ntf' (P:=u8r) hl (d:=(0:Int)) (show 2 * out.length < l.length by omega)
  have hv:=ntf' (P:=u8r) hl (d:=(0:Int)) hi
  generalize hnn:l.getD (2 * out.length) 0=n at hn
  generalize hvv:l.getD (2 * out.length + 1) 0=v at hv
  obtain ⟨n0,n1⟩:=hn
  obtain ⟨v0,v1⟩:=hv
  have wn:IntKind.i64.wrap n=n:=nb' (by omega) (by omega)
  have wv:IntKind.i64.wrap v=v:=nb' (by omega) (by omega)
  have tm:∀ (x y:Int),0≤x→Int.tmod x y=x % y:=fun x y h=>Int.tmod_eq_emod_of_nonneg h
  have td:∀ (x y:Int),0≤x→Int.tdiv x y=x / y:=fun x y h=>Int.tdiv_eq_ediv_of_nonneg h
  have wd7:IntKind.i64.wrap (n / 7)=n / 7:=nb' (by omega) (by omega)
  have wd14:IntKind.i64.wrap (n / 14)=n / 14:=nb' (by omega) (by omega)
  have wd2:IntKind.i64.wrap (v / 2)=v / 2:=nb' (by omega) (by omega)
  have wf:IntKind.i64.wrap (b.Floors - 1)=b.Floors - 1:=nb' (by omega) (by omega)
  have wc:IntKind.i64.wrap ((b.Cars.length:Int) + 2)=(b.Cars.length:Int) + 2:=nb' (by omega) (by omega)
  have wz4:IntKind.i64.wrap (1 + v % 2)=1 + v % 2:=nb' (by omega) (by omega)
  have mc:0≤n / 7 % (b.Cars.length:Int)∧n / 7 % (b.Cars.length:Int) < (b.Cars.length:Int):=⟨Int.emod_nonneg _ (by omega),Int.emod_lt_of_pos _ (by omega)⟩
  have mc2:0≤n / 7 % ((b.Cars.length:Int) + 2)∧n / 7 % ((b.Cars.length:Int) + 2) < (b.Cars.length:Int) + 2:=⟨Int.emod_nonneg _ (by omega),Int.emod_lt_of_pos _ (by omega)⟩
  have mf:0≤v / 2 % (b.Floors - 1)∧v / 2 % (b.Floors - 1) < b.Floors - 1:=⟨Int.emod_nonneg _ (by omega),Int.emod_lt_of_pos _ (by omega)⟩
  have wz6:IntKind.i64.wrap (v / 2 % (b.Floors - 1) + 1)=v / 2 % (b.Floors - 1) + 1:=nb' (by omega) (by omega)
  have wca:IntKind.i64.wrap (n / 7 % ((b.Cars.length:Int) + 2) - 2)=n / 7 % ((b.Cars.length:Int) + 2) - 2:=nb' (by omega) (by omega)
  have ble:∀ r:Record,Nat.ble (out.length + [r].length) 2147483648=true:=fun _=>n2' (by simp; omega)
  have len:∀ r:Record,((2 * (out++[r]).length:Nat):Int)=((2 * out.length + 2:Nat):Int):=fun _=>by rw [List.length_append,List.length_singleton]; omega
  unfold ndo'
  have i1:inB ((2 * out.length:Nat):Int) l.length=true:=nc' (by omega) (by omega)
  have i2:inB ((2 * out.length + 1:Nat):Int) l.length=true:=nc' (by omega) (by omega)
  have d1:decide (((2 * out.length + 1:Nat):Int) < (l.length:Int))=true:=decide_eq_true (by omega)
  simp only [w1,d1,decide_eq_true hm,i1,i2,Int.toNat_natCast,hnn,hvv,wn,wv,cond_true,tm _ _ n0,tm _ _ v0,td _ _ n0,td _ _ v0,wd7,wd2,wf,wz4,bne_t (show ¬ (b.Cars.length:Int)=0 by omega),bne_t (show ¬ b.Floors - 1=0 by omega),tm _ _ (show 0≤n / 7 by omega),tm _ _ (show 0≤v / 2 by omega),wz6]
  have h7:n % 7=0∨n % 7=1∨n % 7=2∨n % 7=3∨n % 7=4∨n % 7=5∨n % 7=6:=by omega
  have hcall:∀ (F D:Int),(D=1∧0≤F∧F≤b.Floors - 2)∨(D=2∧1≤F∧F≤b.Floors - 1)→nh' b F D=true:=fun F D h=>by
    unfold nh' callB
    rw [hcode]
    rcases h with ⟨rfl,h1,h2⟩ | ⟨rfl,h1,h2⟩
    · rw [nba'.2 ⟨h1,h2⟩]; rfl
    · rw [nba'.2 ⟨h1,h2⟩,Bool.or_comm]; rfl
  have val:∀ r:Record,(r.Kind=1∧nh' b r.Floor r.Dir=true∧r.Car=0∧r.Value=0)∨(r.Kind=2∧nh' b r.Floor r.Dir=true∧r.Car=0∧r.Value=0) ∨
     (r.Kind=3∧nh' b r.Floor r.Dir=true∧(-2≤r.Car∧r.Car < (b.Cars.length:Int))∧r.Value=0) ∨
     (r.Kind=4∧(0≤r.Car∧r.Car < (b.Cars.length:Int))∧(0≤r.Value∧r.Value≤4)∧r.Floor=0∧r.Dir=0) ∨
     (r.Kind=5∧(0≤r.Car∧r.Car < (b.Cars.length:Int))∧(0≤r.Value∧r.Value≤1)∧r.Floor=0∧r.Dir=0) ∨
     (r.Kind=6∧(0≤r.Car∧r.Car < (b.Cars.length:Int))∧(0≤r.Value∧r.Value≤1)∧r.Floor=0∧r.Dir=0) ∨
     (r.Kind=7∧nh' b r.Floor r.Dir=true∧(0≤r.Car∧r.Car≤1)∧(0≤r.Value∧r.Value≤255))→n0' b r=true:=fun r h=>by
    unfold n0' carR
    rw [hcode]
    rcases h with ⟨k,h1,h2,h3⟩ | ⟨k,h1,h2,h3⟩ | ⟨k,h1,h2,h3⟩ | ⟨k,h1,h2,h3,h4⟩ | ⟨k,h1,h2,h3,h4⟩ | ⟨k,h1,h2,h3,h4⟩ | ⟨k,h1,h2,h3⟩
    · rw [k,h1,h2,h3]; rfl
    · rw [k,h1,h2,h3]; rfl
    · rw [k,h1,h3,nba'.2 ⟨h2.1,show r.Car≤(b.Cars.length:Int) - 1 by omega⟩]; rfl
    · rw [k,h3,h4,nba'.2 ⟨h1.1,show r.Car≤(b.Cars.length:Int) - 1 by omega⟩,nba'.2 h2]; rfl
    · rw [k,h3,h4,nba'.2 ⟨h1.1,show r.Car≤(b.Cars.length:Int) - 1 by omega⟩,nba'.2 h2]; rfl
    · rw [k,h3,h4,nba'.2 ⟨h1.1,show r.Car≤(b.Cars.length:Int) - 1 by omega⟩,nba'.2 h2]; rfl
    · rw [k,h1,nba'.2 h2,nba'.2 h3]; rfl
  have fin:∀ r,n0' b r=true→∃ r',n0' b r'=true∧(some (.inl ((l,most,out++[r],b.Floors,(b.Cars.length:Int),((2 * out.length + 2:Nat):Int),()),())):Option (Sum ((List Int×Int×List Record×Int×Int×Int×Unit)×Unit) ((List Record×Unit)×Unit)))=some (.inl ((l,most,out++[r'],b.Floors,(b.Cars.length:Int),((2 * (out++[r']).length:Nat):Int),()),())):=fun r h=>⟨r,h,by rw [len]⟩
  rcases h7 with q | q | q | q | q | q | q
  all_goals rw [q]
  · rw [show IntKind.i64.wrap (1 + 0)=1 from rfl]
    simp only [show ((1:Int)==4)=false from rfl,show ((1:Int)==5)=false from rfl,show ((1:Int)==6)=false from rfl,cond_false]
    cases hd:1 + v % 2==2 with
    | true=>
      have hd' : v % 2 = 1 := by have : 1 + v % 2 = 2 := by simpa using hd
                                 omega
      simp only [cond_true,cond_false,Option.bind_some,show ((1:Int)==3)=false from rfl,show ((1:Int)==7)=false from rfl,ble,w2]
      exact fin _ (val _ (.inl ⟨rfl,hcall _ _ (.inr ⟨by show 1 + v % 2=2; omega,by show (1:Int)≤v / 2 % (b.Floors - 1) + 1; omega,by show v / 2 % (b.Floors - 1) + 1≤b.Floors - 1; omega⟩),rfl,rfl⟩))
    | false=>
      have hd' : v % 2 = 0 := by have : ¬ 1 + v % 2 = 2 := by simpa using hd
                                 omega
      simp only [cond_true,cond_false,Option.bind_some,show ((1:Int)==3)=false from rfl,show ((1:Int)==7)=false from rfl,ble,w2]
      exact fin _ (val _ (.inl ⟨rfl,hcall _ _ (.inl ⟨by show 1 + v % 2=1; omega,mf.1,by show v / 2 % (b.Floors - 1)≤b.Floors - 2; omega⟩),rfl,rfl⟩))
  · rw [show IntKind.i64.wrap (1 + 1)=2 from rfl]
    simp only [show ((2:Int)==4)=false from rfl,show ((2:Int)==5)=false from rfl,show ((2:Int)==6)=false from rfl,cond_false]
    cases hd:1 + v % 2==2 with
    | true=>
      have hd' : v % 2 = 1 := by have : 1 + v % 2 = 2 := by simpa using hd
                                 omega
      simp only [cond_true,cond_false,Option.bind_some,show ((2:Int)==3)=false from rfl,show ((2:Int)==7)=false from rfl,ble,w2]
      exact fin _ (val _ (.inr (.inl ⟨rfl,hcall _ _ (.inr ⟨by show 1 + v % 2=2; omega,by show (1:Int)≤v / 2 % (b.Floors - 1) + 1; omega,by show v / 2 % (b.Floors - 1) + 1≤b.Floors - 1; omega⟩),rfl,rfl⟩)))
    | false=>
      have hd' : v % 2 = 0 := by have : ¬ 1 + v % 2 = 2 := by simpa using hd
                                 omega
      simp only [cond_true,cond_false,Option.bind_some,show ((2:Int)==3)=false from rfl,show ((2:Int)==7)=false from rfl,ble,w2]
      exact fin _ (val _ (.inr (.inl ⟨rfl,hcall _ _ (.inl ⟨by show 1 + v % 2=1; omega,mf.1,by show v / 2 % (b.Floors - 1)≤b.Floors - 2; omega⟩),rfl,rfl⟩)))
  · rw [show IntKind.i64.wrap (1 + 2)=3 from rfl]
    simp only [show ((3:Int)==4)=false from rfl,show ((3:Int)==5)=false from rfl,show ((3:Int)==6)=false from rfl,cond_false]
    cases hd:1 + v % 2==2 with
    | true=>
      have hd' : v % 2 = 1 := by have : 1 + v % 2 = 2 := by simpa using hd
                                 omega
      simp only [cond_true,cond_false,Option.bind_some,beq_self_eq_true,wc,td _ _ n0,wd7,tm _ _ (show 0≤n / 7 by omega),bne_t (show ¬ (b.Cars.length:Int) + 2=0 by omega),wca,show ((3:Int)==7)=false from rfl,ble,w2]
      exact fin _ (val _ (.inr (.inr (.inl ⟨rfl,hcall _ _ (.inr ⟨by show 1 + v % 2=2; omega,by show (1:Int)≤v / 2 % (b.Floors - 1) + 1; omega,by show v / 2 % (b.Floors - 1) + 1≤b.Floors - 1; omega⟩),⟨by show -2≤n / 7 % ((b.Cars.length:Int) + 2) - 2; omega,by show n / 7 % ((b.Cars.length:Int) + 2) - 2 < (b.Cars.length:Int); omega⟩,rfl⟩))))
    | false=>
      have hd' : v % 2 = 0 := by have : ¬ 1 + v % 2 = 2 := by simpa using hd
                                 omega
      simp only [cond_true,cond_false,Option.bind_some,beq_self_eq_true,wc,td _ _ n0,wd7,tm _ _ (show 0≤n / 7 by omega),bne_t (show ¬ (b.Cars.length:Int) + 2=0 by omega),wca,show ((3:Int)==7)=false from rfl,ble,w2]
      exact fin _ (val _ (.inr (.inr (.inl ⟨rfl,hcall _ _ (.inl ⟨by show 1 + v % 2=1; omega,mf.1,by show v / 2 % (b.Floors - 1)≤b.Floors - 2; omega⟩),⟨by show -2≤n / 7 % ((b.Cars.length:Int) + 2) - 2; omega,by show n / 7 % ((b.Cars.length:Int) + 2) - 2 < (b.Cars.length:Int); omega⟩,rfl⟩))))
  · rw [show IntKind.i64.wrap (1 + 3)=4 from rfl]
    simp only [beq_self_eq_true,cond_true,cond_false,Option.bind_some,show ((4:Int)==3)=false from rfl,show ((4:Int)==7)=false from rfl,ble,w2]
    exact fin _ (val _ (.inr (.inr (.inr (.inl ⟨rfl,mc,⟨by show 0≤v % 5; omega,by show v % 5≤4; omega⟩,rfl,rfl⟩)))))
  · rw [show IntKind.i64.wrap (1 + 4)=5 from rfl]
    simp only [beq_self_eq_true,cond_true,cond_false,Option.bind_some,show ((5:Int)==4)=false from rfl,show ((5:Int)==3)=false from rfl,show ((5:Int)==7)=false from rfl,ble,w2]
    exact fin _ (val _ (.inr (.inr (.inr (.inr (.inl ⟨rfl,mc,⟨by show 0≤v % 2; omega,by show v % 2≤1; omega⟩,rfl,rfl⟩))))))
  · rw [show IntKind.i64.wrap (1 + 5)=6 from rfl]
    simp only [beq_self_eq_true,cond_true,cond_false,Option.bind_some,show ((6:Int)==4)=false from rfl,show ((6:Int)==5)=false from rfl,show ((6:Int)==3)=false from rfl,show ((6:Int)==7)=false from rfl,ble,w2]
    exact fin _ (val _ (.inr (.inr (.inr (.inr (.inr (.inl ⟨rfl,mc,⟨by show 0≤v % 2; omega,by show v % 2≤1; omega⟩,rfl,rfl⟩)))))))
  · rw [show IntKind.i64.wrap (1 + 6)=7 from rfl]
    simp only [show ((7:Int)==4)=false from rfl,show ((7:Int)==5)=false from rfl,show ((7:Int)==6)=false from rfl,cond_false]
    cases hd:1 + v % 2==2 with
    | true=>
      have hd' : v % 2 = 1 := by have : 1 + v % 2 = 2 := by simpa using hd
                                 omega
      simp only [cond_true,cond_false,Option.bind_some,beq_self_eq_true,td _ _ n0,wd7,wd14,tm _ _ (show 0≤n / 7 by omega),show ((7:Int)==3)=false from rfl,ble,w2]
      exact fin _ (val _ (.inr (.inr (.inr (.inr (.inr (.inr ⟨rfl,hcall _ _ (.inr ⟨by show 1 + v % 2=2; omega,by show (1:Int)≤v / 2 % (b.Floors - 1) + 1; omega,by show v / 2 % (b.Floors - 1) + 1≤b.Floors - 1; omega⟩),⟨by show 0≤n / 7 % 2; omega,by show n / 7 % 2≤1; omega⟩,⟨by show 0≤n / 14; omega,by show n / 14≤255; omega⟩⟩)))))))
    | false=>
      have hd' : v % 2 = 0 := by have : ¬ 1 + v % 2 = 2 := by simpa using hd
                                 omega
      simp only [cond_true,cond_false,Option.bind_some,beq_self_eq_true,td _ _ n0,wd7,wd14,tm _ _ (show 0≤n / 7 by omega),show ((7:Int)==3)=false from rfl,ble,w2]
      exact fin _ (val _ (.inr (.inr (.inr (.inr (.inr (.inr ⟨rfl,hcall _ _ (.inl ⟨by show 1 + v % 2=1; omega,mf.1,by show v / 2 % (b.Floors - 1)≤b.Floors - 2; omega⟩),⟨by show 0≤n / 7 % 2; omega,by show n / 7 % 2≤1; omega⟩,⟨by show 0≤n / 14; omega,by show n / 14≤255; omega⟩⟩)))))))
theorem n2e' {b:Bldg} (hb:b.small) (hcode:b.code=0) (hc:1≤b.Cars.length∧b.Cars.length≤100) {l:List Int} (hl:∀ e ∈ l,u8r e) {most:Int} (hm:0≤most∧most≤100) :
  ∃ rs:List Record,njd' b.Floors b.Debounce b.Room b.Park b.Empty b.Full b.Over b.Cars l most=some ((rs,()),())∧(rs.length:Int)≤most∧∀ r ∈ rs,n0' b r=true:=by
 have key:∃ y:(List Record×Unit)×Unit,nhx' ((l,most,([]:List Record),b.Floors,(b.Cars.length:Int),(0:Int),()),())=some y∧∃ rs:List Record,(rs.length:Int)≤most∧(∀ r ∈ rs,n0' b r=true)∧y=((rs,()),()):=by
  refine npa' (fun x=>∃ out:List Record,(out.length:Int)≤most∧(∀ r ∈ out,n0' b r=true)∧x=((l,most,out,b.Floors,(b.Cars.length:Int),((2 * out.length:Nat):Int),()),())) (fun y=>∃ rs:List Record,(rs.length:Int)≤most∧(∀ r ∈ rs,n0' b r=true)∧y=((rs,()),())) (fun x=>1000 - x.1.2.2.2.2.2.1.toNat) ?_ ⟨[],hm.1,(fun _ h=>by cases h),rfl⟩ (by show 1000 - 0 < _; omega)
  rintro _ ⟨out,h1,h2,rfl⟩
  have w1:IntKind.i64.wrap (((2 * out.length:Nat):Int) + 1)=((2 * out.length + 1:Nat):Int):=by rw [nb' (by omega) (by omega)]; omega
  show (∃ x',ndo' l most out b.Floors (b.Cars.length:Int) ((2 * out.length:Nat):Int)=_∧_)∨∃ y,ndo' l most out b.Floors (b.Cars.length:Int) ((2 * out.length:Nat):Int)=_∧_
  by_cases g1:2 * out.length + 1 < l.length
  ·by_cases g2:(out.length:Int) < most
   ·obtain ⟨r,h3,h4⟩:=nyy' hb hcode hc hl (by omega) g2 g1
    refine .inl ⟨_,h4,⟨out++[r],by rw [List.length_append,List.length_singleton]; omega,fun x hx=>?_,rfl⟩,?_⟩
    ·rcases List.mem_append.1 hx with h | h
     ·exact h2 x h
     ·rw [List.mem_singleton.1 h]; exact h3
    ·show 1000 - Int.toNat ((2 * (out++[r]).length:Nat):Int) < 1000 - Int.toNat ((2 * out.length:Nat):Int)
     rw [List.length_append,List.length_singleton]; omega
   ·refine .inr ⟨((out,()),()),?_,out,h1,h2,rfl⟩
    unfold ndo'
    rw [w1,decide_eq_true (show ((2 * out.length + 1:Nat):Int) < (l.length:Int) by omega),decide_eq_false g2]; rfl
  ·refine .inr ⟨((out,()),()),?_,out,h1,h2,rfl⟩
   unfold ndo'
   rw [w1,decide_eq_false (show ¬ ((2 * out.length + 1:Nat):Int) < (l.length:Int) by omega)]; rfl
 obtain ⟨_,h1,rs,h2,h3,rfl⟩:=key
 refine ⟨rs,?_,h2,h3⟩
 unfold njd'
 rw [h1]; rfl
def initV (b:Bldg):Img:=⟨List.replicate b.Cars.length 0,List.replicate b.Cars.length false,List.replicate b.Cars.length false,[]⟩
theorem nv6' {b:Bldg} (hcode:b.code=0) (hc:b.Cars.length≤100):nfa' b.Floors b.Debounce b.Room b.Park b.Empty b.Full b.Over b.Cars=some (((),()),((initV b).tup,())):=by
 unfold nfa'
 rw [nd1',hcode]
 simp only [Option.bind_some,bne_self_eq_false,cond_false,decide_eq_true (show (0:Int)≤(b.Cars.length:Int) by omega),decide_eq_true (Int.le_refl (b.Cars.length:Int)),decide_eq_true (show (b.Cars.length:Int)≤2147483648 by omega),Bool.and_self,cond_true,Int.toNat_natCast]
 rfl
theorem nyr' {b:Bldg} (hcode:b.code=0):ImgOK b (initV b):=
 ⟨hcode,List.length_replicate,List.length_replicate,List.length_replicate,(fun p hp=>by rw [List.eq_of_mem_replicate hp]; omega),(fun _ h=>by cases h),by simp [initV,nbc']⟩
def nbn' (m:Img):List Record→Img
 | []=>m
 | r :: t=>nbn' (nbh' m r) t
theorem nri' {b:Bldg}:∀ {rs:List Record} {m:Img},ImgOK b m→(∀ r ∈ rs,n0' b r=true)→ImgOK b (nbn' m rs)∧(nbn' m rs).Entries.length≤m.Entries.length + rs.length
 | [],_,h,_=>⟨h,Nat.le_refl _⟩
 | r :: t,m,h,hv=>by
  obtain ⟨h1,h2⟩:=nh9' h (hv r (List.mem_cons_self ..))
  obtain ⟨h3,h4⟩:=nri' (rs:=t) h1 fun x hx=>hv x (List.mem_cons_of_mem _ hx)
  exact ⟨h3,by show (nbn' (nbh' m r) t).Entries.length≤_; rw [List.length_cons]; omega⟩
theorem n4f' {b:Bldg} {m:Img} {r:Record} (h:ImgOK b m) (hv:n0' b r=true):nj6' b m r=(((),0,()),((nbh' m r).tup,())):=by
 unfold nj6'
 rw [Img.ok_iff.2 h,hv]; rfl
theorem ntp' {b:Bldg} (hb:b.small) (hc:b.Cars.length≤100) (m0:Img) {rs:List Record} (hr:∀ r ∈ rs,n0' b r=true) (hl:rs.length≤100) :
  ∀ (k i:Nat) (m:Img),i + k=rs.length→ImgOK b m→m.Entries.length≤100 + i →
   iter (fun x=>nfd' x.1.2.2.2.1 x.1.2.2.2.2.1 x.2.1.1 x.2.1.2.1 x.2.1.2.2.1 x.2.1.2.2.2.1 x.2.1.2.2.2.2.1 x.2.1.2.2.2.2.2.1 x.2.1.2.2.2.2.2.2.1 x.2.1.2.2.2.2.2.2.2.1 x.2.2.1.1 x.2.2.1.2.1 x.2.2.1.2.2.1 x.2.2.1.2.2.2.1 x.2.2.2.1.1 x.2.2.2.1.2.1 x.2.2.2.1.2.2.1 x.2.2.2.1.2.2.2.1) (k + 1) (((),(),(),rs,(i:Int),()),(b.tup,m0.tup,m.tup,()))=some (((),(),()),(m0.tup,(nbn' m (rs.drop i)).tup,()))
 | 0,i,m,hi,_,_=>by
  refine ni' ?_
  show nfd' rs (i:Int) b.Floors b.Debounce b.Room b.Park b.Empty b.Full b.Over b.Cars m0.Phases m0.Flags m0.Leaving m0.Entries m.Phases m.Flags m.Leaving m.Entries=_
  unfold nfd'
  rw [show decide ((i:Int) < (rs.length:Int))=false by simp; omega,show i=rs.length by omega,List.drop_length]; rfl
 | k + 1,i,m,hi,hm,hml=>by
  have hi':i < rs.length:=by omega
  have hv:=hr _ (ncq' (Record.mk 0 0 0 0 0) hi')
  have w:IntKind.i64.wrap ((i:Int) + 1)=((i + 1:Nat):Int):=by rw [nb' (by omega) (by omega)]; omega
  obtain ⟨g1,g2⟩:=nh9' hm hv
  have hmx:100≤maxLen:=by decide
  have ha:=nq7' hb m (by omega) (rs.getD i (Record.mk 0 0 0 0 0)) (by rw [hm.lp]; omega) hc
  rw [n4f' hm hv] at ha
  rw [n3' (Record.mk 0 0 0 0 0) hi']
  refine (ns' (x':=(((),(),(),rs,((i + 1:Nat):Int),()),(b.tup,m0.tup,(nbh' m (rs.getD i (Record.mk 0 0 0 0 0))).tup,()))) ?_).trans (ntp' hb hc m0 hr hl k (i + 1) _ (by omega) g1 (by omega))
  show nfd' rs (i:Int) b.Floors b.Debounce b.Room b.Park b.Empty b.Full b.Over b.Cars m0.Phases m0.Flags m0.Leaving m0.Entries m.Phases m.Flags m.Leaving m.Entries=_
  unfold nfd'
  rw [show decide ((i:Int) < (rs.length:Int))=true by simp; omega,nc' (show (0:Int)≤(i:Int) by omega) (show (i:Int) < (rs.length:Int) by omega),Int.toNat_natCast,w]
  simp only [cond_true,ha,Option.bind_some]
  rfl
theorem nvs' {b:Bldg} (hb:b.small) (hcode:b.code=0) (hc:1≤b.Cars.length∧b.Cars.length≤100) {l:List Int} (hl:∀ e ∈ l,u8r e) :
  ∃ m:Img,nhq' b.Floors b.Debounce b.Room b.Park b.Empty b.Full b.Over b.Cars l=some (((),()),(m.tup,()))∧ImgOK b m∧m.Entries.length≤60:=by
 obtain ⟨rs,h1,h2,h3⟩:=n2e' hb hcode hc hl (most:=60) (by omega)
 have hlp:=nf' (ntp' hb hc.2 Img.none h3 (by omega) rs.length 0 (initV b) (by omega) (nyr' hcode) (by simp [initV])) (by omega)
 rw [List.drop_zero] at hlp
 obtain ⟨g1,g2⟩:=nri' (nyr' hcode) h3
 refine ⟨nbn' (initV b) rs,?_,g1,by have:(initV b).Entries.length=0:=rfl; omega⟩
 unfold nhq'
 rw [nv6' hcode hc.2,h1]
 have hlp':ni5' (((),(),(),rs,(0:Int),()),(b.tup,Img.none.tup,(initV b).tup,()))=_:=hlp
 unfold Bldg.tup Img.tup Img.none at hlp'
 simp only [Option.bind_some,Img.tup,hlp']
end Go.Ovl
namespace Go.Ovl
open Go Go.Ab
set_option maxRecDepth 100000
theorem ntj' (n lo hi:Int):ncj' n lo hi=some ((inR lo hi n,()),()):=by
 unfold ncj' inR
 cases decide (lo≤n) <;> rfl
theorem ntu' {b:Bldg} (hb:b.small) (hc:b.Cars.length≤100) (r:Record):nin' b.Floors b.Debounce b.Room b.Park b.Empty b.Full b.Over b.Cars r.Kind r.Floor r.Dir r.Car r.Value=some ((n0' b r,()),()):=by
  have w:IntKind.i64.wrap ((b.Cars.length:Int) - 1)=(b.Cars.length:Int) - 1:=nb' (by omega) (by omega)
  unfold nin' n0' carR
  rw [ncr',nlv' hb]
  simp only [Option.bind_some,bne,ntj',w]
  cases b.code==0 with
  | false=>rfl
  | true=>
    simp only [Bool.not_true,cond_false,Bool.true_and]
    cases inR 0 ((b.Cars.length:Int) - 1) r.Car <;> cases r.Floor==0 <;> cases r.Dir==0 <;>
      (simp only [Option.bind_some,cond_true,cond_false,Bool.and_self,Bool.and_true,Bool.and_false,Bool.false_and,Bool.true_and,w]
       by_cases k1:r.Kind=1
       · simp only [k1,beq_self_eq_true,cond_true]
         cases nh' b r.Floor r.Dir <;> cases r.Car==0 <;> rfl
       by_cases k2:r.Kind=2
       · simp only [k2,beq_self_eq_true,cond_true,cond_false,show ((2:Int)==1)=false from rfl]
         cases nh' b r.Floor r.Dir <;> cases r.Car==0 <;> rfl
       by_cases k3:r.Kind=3
       · simp only [k3,beq_self_eq_true,cond_true,cond_false,show ((3:Int)==1)=false from rfl,show ((3:Int)==2)=false from rfl]
         cases nh' b r.Floor r.Dir <;> cases inR (-2) ((b.Cars.length:Int) - 1) r.Car <;> rfl
       by_cases k4:r.Kind=4
       · simp only [k4,beq_self_eq_true,cond_true,cond_false,show ((4:Int)==1)=false from rfl,show ((4:Int)==2)=false from rfl,show ((4:Int)==3)=false from rfl,show ((4:Int)==7)=false from rfl]
       by_cases k5:r.Kind=5
       · simp only [k5,beq_self_eq_true,cond_true,cond_false,show ((5:Int)==1)=false from rfl,show ((5:Int)==2)=false from rfl,show ((5:Int)==3)=false from rfl,show ((5:Int)==7)=false from rfl,show ((5:Int)==4)=false from rfl]
       by_cases k6:r.Kind=6
       · simp only [k6,beq_self_eq_true,cond_true,cond_false,show ((6:Int)==1)=false from rfl,show ((6:Int)==2)=false from rfl,show ((6:Int)==3)=false from rfl,show ((6:Int)==7)=false from rfl,show ((6:Int)==4)=false from rfl,show ((6:Int)==5)=false from rfl]
       by_cases k7:r.Kind=7
       · simp only [k7,beq_self_eq_true,cond_true,cond_false,show ((7:Int)==1)=false from rfl,show ((7:Int)==2)=false from rfl,show ((7:Int)==3)=false from rfl,show ((7:Int)==4)=false from rfl,show ((7:Int)==5)=false from rfl,show ((7:Int)==6)=false from rfl]
         cases nh' b r.Floor r.Dir <;> cases inR 0 1 r.Car <;> rfl
       simp only [beq_f k1,beq_f k2,beq_f k3,beq_f k4,beq_f k5,beq_f k6,beq_f k7,cond_false])
theorem nzy' (m:Img) (h1:m.Phases.length≤100000) (h2:m.Flags.length≤100000) (h3:m.Leaving.length≤100000) (h4:m.Entries.length≤100000):nlg' m.Phases m.Flags m.Leaving m.Entries=some (((),()),(m.tup,())):=by
 have k:∀ {α:Type} (l:List α),l.length≤100000→cloF l=some ((l,()),()):=fun l h=>by
  unfold cloF
  rw [n2' (show l.length≤2147483648 by omega)]; rfl
 unfold nlg' ncf' nbt' nbq'
 rw [k _ h1,k _ h2,k _ h3,k _ h4]
 rfl
def posF (c:Entry):List Entry→Nat
 | []=>0
 | e :: t=>bif lessE e c then posF c t + 1 else 0
theorem nm3' (c:Entry):∀ l:List Entry,posF c l≤l.length
 | []=>Nat.le_refl _
 | e :: t=>by
  have:=nm3' c t
  simp only [posF,List.length_cons]
  cases lessE e c <;> simp <;> omega
theorem nvd' (c:Entry):∀ (l:List Entry) (k:Nat),k < posF c l→lessE (l.getD k noE) c=true
 | [],k,h=>by simp [posF] at h
 | e :: t,k,h=>by
  simp only [posF] at h
  cases he:lessE e c with
  | false=>rw [he] at h; simp at h
  | true=>
   rw [he] at h
   cases k with
   | zero=>exact he
   | succ k=>exact nvd' c t k (by simp at h; omega)
theorem nvc' {c:Entry}:∀ {l:List Entry},nbc' l→∀ k,posF c l≤k→k < l.length→lessE (l.getD k noE) c=false
 | [],_,k,_,h=>by simp at h
 | e :: t,hs,k,h1,h2=>by
  obtain ⟨a1,a2⟩:=List.pairwise_cons.1 (nda'.1 hs)
  simp only [posF] at h1
  cases he:lessE e c with
  | true=>
   rw [he,cond_true] at h1
   cases k with
   | zero=>omega
   | succ k=>exact nvc' (nda'.2 a2) k (by omega) (by simp at h2; omega)
  | false=>
   cases k with
   | zero=>exact he
   | succ k=>
    cases hq:lessE ((e :: t).getD (k + 1) noE) c with
    | false=>rfl
    | true=>
     have hm:t.getD k noE ∈ t:=ncq' noE (by simp at h2; omega)
     have:=nli' (a1 _ hm) hq
     rw [he] at this; cases this
theorem ns4' {a c:Entry} (h:isC c.Floor c.Dir a=true):lessE a c=false∧lessE c a=false:=by
 unfold isC at h
 simp only [Bool.and_eq_true,beq_iff_eq] at h
 constructor
 all_goals
  apply Bool.eq_false_iff.2
  intro hh
  rw [neu'] at hh
  omega
theorem nzq' {a c:Entry} (h:isC c.Floor c.Dir a=false) (h':lessE a c=false):lessE c a=true:=by
 rw [neu']
 have h1:¬ (a.Floor < c.Floor∨(a.Floor=c.Floor∧a.Dir < c.Dir)):=fun hh=>by rw [neu'.2 hh] at h'; cases h'
 unfold isC at h
 simp only [Bool.and_eq_false_iff,beq_eq_false_iff_ne] at h
 omega
theorem n3t' {a c:Entry} (h:lessE a c=true):lessE c a=false:=by
 apply Bool.eq_false_iff.2
 intro hh
 rw [neu'] at *
 omega
theorem nt2' {F D:Int}:∀ {l:List Entry} {i:Nat},(∀ x ∈ l,isC F D x=false)→findF F D l i=-1
 | [],_,_=>rfl
 | e :: t,i,h=>by
  simp only [findF]
  rw [h e (List.mem_cons_self ..),cond_false]
  exact nt2' fun x hx=>h x (List.mem_cons_of_mem _ hx)
def hasF (c:Entry) (l:List Entry):Bool:=Nat.blt (posF c l) l.length&&isC c.Floor c.Dir (l.getD (posF c l) noE)
theorem nju' {c:Entry}:∀ {l:List Entry} (i:Nat),nbc' l→findF c.Floor c.Dir l i=bif hasF c l then ((i + posF c l:Nat):Int) else -1
 | [],_,_=>rfl
 | e :: t,i,hs=>by
  obtain ⟨a1,a2⟩:=List.pairwise_cons.1 (nda'.1 hs)
  have hpos:posF c (e :: t)=bif lessE e c then posF c t + 1 else 0:=rfl
  unfold hasF
  simp only [findF]
  rw [hpos]
  cases he:isC c.Floor c.Dir e with
  | true=>
   rw [(ns4' he).1]
   simp [he,show Nat.blt 0 (t.length + 1)=true from rfl]
  | false=>
   cases hl:lessE e c with
   | true=>
    rw [cond_false,cond_true,nju' (i + 1) (nda'.2 a2)]
    unfold hasF
    rw [show ((e :: t).getD (posF c t + 1) noE)=t.getD (posF c t) noE from rfl,List.length_cons,show Nat.blt (posF c t + 1) (t.length + 1)=Nat.blt (posF c t) t.length from rfl]
    rw [show i + 1 + posF c t=i + (posF c t + 1) by omega]
   | false=>
    rw [cond_false,cond_false,show ((e :: t).getD 0 noE)=e from rfl,he,Bool.and_false,cond_false]
    refine nt2' fun x hx=>?_
    cases hq:isC c.Floor c.Dir x with
    | false=>rfl
    | true=>
     have h1:=nli' (nzq' he hl) (a1 x hx)
     rw [(ns4' hq).2] at h1; cases h1
theorem npw' {c:Entry}:∀ {l:List Entry},(∀ x ∈ l,isC c.Floor c.Dir x=false)→insL c false l=l.take (posF c l)++[c]++l.drop (posF c l)
 | [],_=>rfl
 | e :: t,h=>by
  simp only [insL,posF]
  cases hl:lessE e c with
  | true=>
   rw [n3t' hl,cond_false,npw' fun x hx=>h x (List.mem_cons_of_mem _ hx)]
   simp
  | false=>
   rw [nzq' (h e (List.mem_cons_self ..)) hl,cond_true,nn9']
   simp
theorem nwe' {c:Entry} {l:List Entry} (hs:nbc' l) (h:hasF c l=false):∀ x ∈ l,isC c.Floor c.Dir x=false:=by
 have h1:=nju' (c:=c) 0 hs
 rw [h,cond_false] at h1
 rcases nik' c.Floor c.Dir l 0 with ⟨_,h2⟩ | ⟨k,_,h2,_⟩
 ·exact h2
 ·rw [h1] at h2; omega
end Go.Ovl
