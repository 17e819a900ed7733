/- The decision about an entry (layer 22): the program and the reference say the same. -/
import Derived.Test.YthdomhdippmaiaaGreatDoorOvD
import Derived.Test.YthdomhdippmaiaaGreatDoorOvA
import Derived.Test.YthdomhdippmaiaaGreatDoorOvC
namespace Go.Ovl
open Go Go.Ab
set_option maxRecDepth 100000
theorem nyh' {b:Bldg} {vs:List View} {floor dir except:Int}:∀ (m i:Nat) (best:Int),i + m=vs.length→nkc' vs best→nkc' vs (bestF b vs floor dir except m i best)
 | 0,_,_,_,h=>h
 | m + 1,i,best,hi,h=>nyh' m (i + 1) _ (by omega) (no0' (by omega) h)
theorem nkt' (b:Bldg) (vs:List View) (floor dir except:Int):nkc' vs (ncc' b vs floor dir except):=by
 unfold ncc'
 cases (b.code != 0||(vs.length:Int) != (b.Cars.length:Int)) with
 | true=>exact .inl rfl
 | false=>exact nyh' vs.length 0 (-1) (by omega) (.inl rfl)
noncomputable def npb' (b:Bldg) (vs:List View) (e:Entry) (x n:Int):Bool:=
 ((nd' vs e.Car).Legacy&&(x==0&&betB (rankV b vs e.Floor e.Dir n) (rankV b vs e.Floor e.Dir e.Car)))||(!(nd' vs e.Car).Legacy&&(fullV (nd' vs e.Car)&&!fullV (nd' vs n)))
noncomputable def ne5' (b:Bldg) (vs:List View) (e:Entry) (x:Int):Int:=
 bif ncc' b vs e.Floor e.Dir e.Car==-1 then -1 else bif npb' b vs e x (ncc' b vs e.Floor e.Dir e.Car) then ncc' b vs e.Floor e.Dir e.Car else -1
noncomputable def decV (b:Bldg) (vs:List View) (e:Entry) (x:Int):Entry:=
 bif e.Car==-2 then e
 else bif e.Car==-1 then ⟨e.Floor,e.Dir,ncc' b vs e.Floor e.Dir (-1),e.Moves,e.Moved⟩
 else bif (nd' vs e.Car).Lost then (bif decide ((b.Cars.length:Int) < e.Moves) then ⟨e.Floor,e.Dir,-2,e.Moves,e.Moved⟩ else ⟨e.Floor,e.Dir,ncc' b vs e.Floor e.Dir e.Car,e.Moves + 1,e.Moved⟩)
 else bif !e.Moved&&decide (e.Moves≤(b.Cars.length:Int)) then (bif ne5' b vs e x != -1 then ⟨e.Floor,e.Dir,ne5' b vs e x,e.Moves + 1,true⟩ else e)
 else e
def Entry.tup (e:Entry):Int×Int×Int×Int×Bool×Unit:=(e.Floor,e.Dir,e.Car,e.Moves,e.Moved,())
section
variable {b:Bldg} (hb:b.small) {vs:List View} (hv:okViews vs) (hl:vs.length≤100) {e:Entry}
include hb hv hl
theorem nsx' (hc:0≤e.Car∧e.Car < vs.length) (x:Int):nd9' b.Floors b.Debounce b.Room b.Park b.Empty b.Full b.Over b.Cars vs e.Floor e.Dir e.Car e.Moves e.Moved x=some ((ne5' b vs e x,()),()):=by
 unfold nd9' ne5'
 have hn:=nkt' b vs e.Floor e.Dir e.Car
 rw [njm' hb hv hl]
 generalize ncc' b vs e.Floor e.Dir e.Car=n at hn
 simp only [Option.bind_some]
 rcases hn with rfl | hn
 ·rfl
 ·have k1:=nk7' hb hv hn e.Floor e.Dir
  have k2:=nk7' hb hv hc e.Floor e.Dir
  have f1:=nlf' (nd' vs e.Car)
  have f2:=nlf' (nd' vs n)
  rw [beq_f (show ¬ n=-1 by omega),nc' hc.1 hc.2]
  unfold npb'
  unfold nd' at f1 f2 ⊢
  simp only [cond_true,cond_false]
  cases hleg:(vs.getD e.Car.toNat (View.mk false false false false 0 0 0 0 0 0 0 0)).Legacy with
  | true=>
   simp only [cond_true,Bool.true_and,Bool.not_true,Bool.false_and,Bool.or_false]
   cases x==0 with
   | true=>
    simp only [cond_true,Bool.true_and,k1,k2,Option.bind_some,nno']
    cases betB (rankV b vs e.Floor e.Dir n) (rankV b vs e.Floor e.Dir e.Car) <;> rfl
   | false=>rfl
  | false=>
   rw [hleg] at f1
   simp only [cond_false,Bool.false_and,Bool.not_false,Bool.true_and,Bool.false_or,Option.bind_some,cond_true,f1]
   cases fullV (vs.getD e.Car.toNat (View.mk false false false false 0 0 0 0 0 0 0 0)) with
   | false=>rfl
   | true=>
    simp only [cond_true,nc' hn.1 hn.2,Bool.true_and,f2,Option.bind_some]
    cases fullV (vs.getD n.toNat (View.mk false false false false 0 0 0 0 0 0 0 0)) <;> rfl
theorem nr8' (hc:-2≤e.Car∧e.Car < vs.length) (hm:0≤e.Moves∧e.Moves≤255) (x:Int):ndx' b.Floors b.Debounce b.Room b.Park b.Empty b.Full b.Over b.Cars vs e.Floor e.Dir e.Car e.Moves e.Moved x=some (((),()),((decV b vs e x).tup,())):=by
 unfold ndx' decV
 have w:IntKind.i64.wrap (e.Moves + 1)=e.Moves + 1:=nb' (by omega) (by omega)
 by_cases g1:e.Car=-2
 ·rw [show (e.Car==-2)=true by rw [g1]; rfl]; rfl
 rw [beq_f g1]
 by_cases g2:e.Car=-1
 ·rw [show (e.Car==-1)=true by rw [g2]; rfl]
  simp only [cond_true,cond_false,njm' hb hv hl,Option.bind_some]
  rfl
 rw [beq_f g2]
 have hc':0≤e.Car∧e.Car < vs.length:=by omega
 have ho:=nsx' hb hv hl hc' x
 unfold nd'
 simp only [cond_false,nc' hc'.1 hc'.2,cond_true]
 cases hlost:(vs.getD e.Car.toNat (View.mk false false false false 0 0 0 0 0 0 0 0)).Lost with
 | true=>
  simp only [cond_true,Option.bind_some]
  cases decide ((b.Cars.length:Int) < e.Moves) with
  | true=>rfl
  | false=>
   simp only [cond_false,nc' hc'.1 hc'.2,cond_true,hlost,njm' hb hv hl,Option.bind_some,w]
   rfl
 | false=>
  simp only [cond_false,Option.bind_some,nc' hc'.1 hc'.2,cond_true,hlost]
  cases hmv:e.Moved with
  | true=>
   simp only [Bool.not_true,cond_false,Option.bind_some,Bool.false_and]
   unfold Entry.tup; rw [hmv]
  | false=>
   rw [hmv] at ho
   simp only [Bool.not_false,cond_true,Option.bind_some,Bool.true_and]
   cases decide (e.Moves≤(b.Cars.length:Int)) with
   | false=>
    simp only [cond_false]
    unfold Entry.tup; rw [hmv]
   | true=>
    simp only [cond_true,ho,Option.bind_some,w]
    cases ne5' b vs e x != -1 with
    | true=>rfl
    | false=>
     simp only [cond_false]
     unfold Entry.tup; rw [hmv]
theorem nvz' (hcl:b.Cars.length≤100) (hc:-2≤e.Car∧e.Car < vs.length) (hm:0≤e.Moves∧e.Moves≤255) (x:Int):nja' b.Floors b.Debounce b.Room b.Park b.Empty b.Full b.Over b.Cars e.Floor e.Dir e.Car e.Moves e.Moved x vs=some (((),()),((decV b vs e x).tup,())):=by
 unfold nja' decV
 have w:IntKind.i64.wrap (e.Moves + 1)=e.Moves + 1:=nb' (by omega) (by omega)
 have wc:IntKind.i64.wrap ((b.Cars.length:Int) + 1)=(b.Cars.length:Int) + 1:=nb' (by omega) (by omega)
 have d1:decide ((b.Cars.length:Int) + 1≤e.Moves)=decide ((b.Cars.length:Int) < e.Moves):=decide_eq_decide.2 (by omega)
 have d2:decide ((b.Cars.length:Int) < e.Moves)=!decide (e.Moves≤(b.Cars.length:Int)):=nq6' _ _
 by_cases g1:e.Car=-2
 ·rw [show (e.Car==-2)=true by rw [g1]; rfl]; rfl
 rw [beq_f g1]
 by_cases g2:e.Car=-1
 ·rw [show (e.Car==-1)=true by rw [g2]; rfl]
  simp only [cond_true,cond_false,nmh' hb hv hl,Option.bind_some]
  rfl
 rw [beq_f g2]
 have hc':0≤e.Car∧e.Car < vs.length:=by omega
 unfold nd'
 simp only [cond_false,nc' hc'.1 hc'.2,cond_true,wc,d1]
 cases hlost:(vs.getD e.Car.toNat (View.mk false false false false 0 0 0 0 0 0 0 0)).Lost with
 | true=>
  simp only [cond_true,Option.bind_some]
  cases decide ((b.Cars.length:Int) < e.Moves) with
  | true=>rfl
  | false=>
   simp only [cond_false,nc' hc'.1 hc'.2,cond_true,hlost,nmh' hb hv hl,Option.bind_some,w]
   rfl
 | false=>
  simp only [cond_false,Option.bind_some,nc' hc'.1 hc'.2,cond_true,hlost]
  cases hmv:e.Moved with
  | true=>
   simp only [Bool.not_true,cond_true,cond_false,Bool.false_and]
   unfold Entry.tup; rw [hmv]
  | false=>
   simp only [Bool.not_false,cond_false,Bool.true_and,d1,d2]
   cases decide (e.Moves≤(b.Cars.length:Int)) with
   | false=>
    simp only [Bool.not_false,cond_true,cond_false]
    unfold Entry.tup; rw [hmv]
   | true=>
    simp only [Bool.not_true,cond_true,cond_false,nmh' hb hv hl,Option.bind_some]
    unfold ne5'
    have hn:=nkt' b vs e.Floor e.Dir e.Car
    generalize ncc' b vs e.Floor e.Dir e.Car=n at hn
    rcases hn with rfl | hn
    ·show _=some (((),()),(Entry.tup e,()))
     unfold Entry.tup; rw [hmv]; rfl
    ·have k1:=nlq' hb hv hn e.Floor e.Dir
     have k2:=nlq' hb hv hc' e.Floor e.Dir
     have f1:=non' (nd' vs e.Car)
     have f2:=non' (nd' vs n)
     rw [decide_eq_false (show ¬ n < 0 by omega),beq_f (show ¬ n=-1 by omega)]
     unfold npb'
     unfold nd' at f1 f2 ⊢
     rw [hlost] at f1
     simp only [cond_false]
     have fin:∀ p:Bool,(some (((),()),((bif p then (⟨e.Floor,e.Dir,n,e.Moves + 1,true⟩:Entry) else e).tup,())):Option ((Unit×Unit)×((Int×Int×Int×Int×Bool×Unit)×Unit)))=some (((),()),((bif (bif p then n else -1) != -1 then (⟨e.Floor,e.Dir,(bif p then n else -1),e.Moves + 1,true⟩:Entry) else e).tup,())):=fun p=>by
      cases p with
      | true=>simp only [cond_true]; rw [bne_t (show ¬ n=-1 by omega)]; rfl
      | false=>rfl
     refine Eq.trans ?_ (fin _)
     cases hleg:(vs.getD e.Car.toNat (View.mk false false false false 0 0 0 0 0 0 0 0)).Legacy with
     | true=>
      simp only [cond_true,Bool.true_and,Bool.not_true,Bool.false_and,Bool.or_false]
      cases x==0 with
      | true=>
       simp only [cond_true,Bool.true_and,k1,k2,Option.bind_some,nqa']
       cases betB (rankV b vs e.Floor e.Dir n) (rankV b vs e.Floor e.Dir e.Car) with
       | true=>simp only [cond_true,Option.bind_some,w]; rfl
       | false=>
        simp only [cond_false,Option.bind_some,Bool.not_true]
        unfold Entry.tup; rw [hmv]
      | false=>
       simp only [cond_false,Option.bind_some,Bool.not_true,Bool.false_and]
       unfold Entry.tup; rw [hmv]
     | false=>
      rw [hleg] at f1
      simp only [cond_false,Bool.false_and,Bool.not_false,Bool.true_and,Bool.false_or,Option.bind_some,cond_true,f1]
      cases fullV (vs.getD e.Car.toNat (View.mk false false false false 0 0 0 0 0 0 0 0)) with
      | false=>
       simp only [cond_false,Option.bind_some,Bool.false_and]
       unfold Entry.tup; rw [hmv]
      | true=>
       simp only [cond_true,nc' hn.1 hn.2,Bool.true_and,f2,Option.bind_some]
       cases fullV (vs.getD n.toNat (View.mk false false false false 0 0 0 0 0 0 0 0)) with
       | true=>
        simp only [Bool.not_true,cond_false]
        unfold Entry.tup; rw [hmv]
       | false=>simp only [Bool.not_false,cond_true,w]; rfl
end
end Go.Ovl
namespace Go.Ovl
open Go Go.Ab
set_option maxRecDepth 100000
theorem n07' (x y:Int):(x != y)=(y != x):=by
 by_cases h:x=y
 ·rw [h]
 ·rw [bne_t h,bne_t (fun h'=>h h'.symm)]
def recsV (was now:Entry):List Record:=
 (bif was.Moves != now.Moves||!(was.Moved==now.Moved) then [⟨7,now.Floor,now.Dir,(bif now.Moved then 1 else 0),now.Moves⟩] else [])++(bif was.Car != now.Car then [⟨3,now.Floor,now.Dir,now.Car,0⟩] else [])
theorem nrn' (a b:Entry):(recsV a b).length≤2:=by
 unfold recsV
 cases (a.Moves != b.Moves||!(a.Moved==b.Moved)) <;> cases a.Car != b.Car <;> simp
theorem nr6' (a c:Entry):ng8' a.Floor a.Dir a.Car a.Moves a.Moved c.Floor c.Dir c.Car c.Moves c.Moved=some ((recsV a c,()),()):=by
 unfold ng8' recsV
 have b1:∀ r:Record,Nat.ble (([]:List Record).length + [r].length) 2147483648=true:=fun _=>n2' (by simp)
 have b2:∀ r s:Record,Nat.ble (([]++[s]:List Record).length + [r].length) 2147483648=true:=fun _ _=>n2' (by simp)
 cases a.Moves != c.Moves <;> cases a.Moved==c.Moved <;> cases hm:c.Moved <;> cases hc:a.Car != c.Car <;>
  simp only [cond_true,cond_false,Option.bind_some,Bool.not_true,Bool.not_false,Bool.or_true,Bool.true_or,Bool.or_self,b1,b2,hc] <;> rfl
def carAt (b:Bldg) (i:Int):Car:=b.Cars.getD i.toNat (Car.mk 0 0 0 0 0 0 0 0 0)
noncomputable def nextV (b:Bldg) (vs:List View) (e n:Entry) (x:Int):Int:=
 bif n.Car != e.Car&&decide (0≤n.Car) then (bif decide (1000000 < IntKind.i64.wrap (estV b n.Car (nd' vs n.Car) e.Floor e.Dir + (carAt b n.Car).Slack)) then 1000000 else IntKind.i64.wrap (estV b n.Car (nd' vs n.Car) e.Floor e.Dir + (carAt b n.Car).Slack))
 else (bif decide (IntKind.i64.wrap (x - 1) < 0) then 0 else IntKind.i64.wrap (x - 1))
noncomputable def planR (b:Bldg) (vs:List View):List Entry→List Int→List Record
 | e :: t,x :: xs=>recsV e (decV b vs e x)++planR b vs t xs
 | _,_=>[]
noncomputable def planN (b:Bldg) (vs:List View):List Entry→List Int→List Int
 | e :: t,x :: xs=>nextV b vs e (decV b vs e x) x :: planN b vs t xs
 | _,_=>[]
theorem nwf' (b:Bldg) (vs:List View) (e:Entry) (x:Int):(decV b vs e x).Floor=e.Floor∧(decV b vs e x).Dir=e.Dir:=by
 unfold decV
 cases e.Car==-2 <;> cases e.Car==-1 <;> cases (nd' vs e.Car).Lost <;> cases decide ((b.Cars.length:Int) < e.Moves) <;> cases (!e.Moved&&decide (e.Moves≤(b.Cars.length:Int))) <;> cases ne5' b vs e x != -1 <;> exact ⟨rfl,rfl⟩
theorem n50' (b:Bldg) (vs:List View) (e:Entry) (x:Int):nkc' vs (ne5' b vs e x):=by
 unfold ne5'
 cases ncc' b vs e.Floor e.Dir e.Car==-1 with
 | true=>exact .inl rfl
 | false=>
  cases npb' b vs e x (ncc' b vs e.Floor e.Dir e.Car) with
  | true=>exact nkt' ..
  | false=>exact .inl rfl
theorem nv0' (b:Bldg) {vs:List View} {e:Entry} (h:-2≤e.Car∧e.Car < vs.length) (x:Int):-2≤(decV b vs e x).Car∧(decV b vs e x).Car < vs.length:=by
 have k:∀ n:Int,nkc' vs n→-2≤n∧n < vs.length:=fun n h=>by
  rcases h with rfl | h
  ·omega
  ·omega
 unfold decV
 by_cases g1:e.Car=-2
 ·rw [show (e.Car==-2)=true by rw [g1]; rfl]; exact h
 rw [beq_f g1]
 by_cases g2:e.Car=-1
 ·rw [show (e.Car==-1)=true by rw [g2]; rfl]; exact k _ (nkt' ..)
 rw [beq_f g2]
 simp only [cond_false]
 cases (nd' vs e.Car).Lost with
 | true=>
  cases decide ((b.Cars.length:Int) < e.Moves) with
  | true=>exact ⟨by show (-2:Int)≤-2; omega,by show (-2:Int) < _; omega⟩
  | false=>exact k _ (nkt' ..)
 | false=>
  cases (!e.Moved&&decide (e.Moves≤(b.Cars.length:Int))) with
  | true=>
   cases ne5' b vs e x != -1 with
   | true=>exact k _ (n50' ..)
   | false=>exact h
  | false=>exact h
theorem nxa' {b:Bldg}:∀ {l:List Entry} {p:Option Entry},entsF b p l=true→∀ e ∈ l,entOK b e=true
 | [],_,_,_,he=>by cases he
 | a :: t,p,h,e,he=>by
  simp only [entsF,Bool.and_eq_true] at h
  rcases List.mem_cons.1 he with rfl | he
  ·exact h.1
  ·exact nxa' h.2.2 e he
theorem nm7' {α:Type} (N:List α) (a v:α) (t:List α):(N++a :: t).set N.length v=N++v :: t:=by
 induction N with
 | nil=>rfl
 | cons h N ih=>simp only [List.cons_append,List.length_cons,List.set_cons_succ,ih]
section
variable {b:Bldg} (hb:b.small) {vs:List View} (hv:okViews vs) (hl:vs.length≤100) (hlen:(vs.length:Int)=(b.Cars.length:Int)) {m:Img} (hm:∀ e ∈ m.Entries,entOK b e=true) (hm':m.Entries.length≤1000) {xs:List Int} (hx:xs.length=m.Entries.length)
include hb hv hl hlen hm hm' hx
theorem nnq':∀ (k i:Nat) (out:List Record) (N:List Int),i + k=m.Entries.length→N.length=i→out.length≤2 * i →
  iter (fun x=>nek' x.1.1 x.1.2.1 x.1.2.2.2.2.1 x.1.2.2.2.2.2.1 x.1.2.2.2.2.2.2.1 x.1.2.2.2.2.2.2.2.1 x.1.2.2.2.2.2.2.2.2.1 x.2.1.1 x.2.1.2.1 x.2.1.2.2.1 x.2.1.2.2.2.1 x.2.1.2.2.2.2.1 x.2.1.2.2.2.2.2.1 x.2.1.2.2.2.2.2.2.1 x.2.1.2.2.2.2.2.2.2.1 x.2.2.1.1 x.2.2.1.2.1 x.2.2.1.2.2.1 x.2.2.1.2.2.2.1 x.2.2.1.2.2.2.2.1 x.2.2.1.2.2.2.2.2.1 x.2.2.1.2.2.2.2.2.2.1 x.2.2.1.2.2.2.2.2.2.2.1 x.2.2.1.2.2.2.2.2.2.2.2.1) (k + 1)
   ((xs,vs,(),(),out,N++List.replicate k 0,m.Entries,(m.Entries.length:Int),(i:Int),()),(b.tup,(b.Floors,b.Debounce,b.Room,b.Park,b.Empty,b.Full,b.Over,b.Cars,vs,()),()))=some ((out++planR b vs (m.Entries.drop i) (xs.drop i),N++planN b vs (m.Entries.drop i) (xs.drop i),()),())
 | 0,i,out,N,hi,hN,ho=>by
  refine ni' ?_
  show nek' xs vs out (N++[]) m.Entries (m.Entries.length:Int) (i:Int) b.Floors b.Debounce b.Room b.Park b.Empty b.Full b.Over b.Cars b.Floors b.Debounce b.Room b.Park b.Empty b.Full b.Over b.Cars vs=_
  unfold nek'
  have e:decide ((i:Int) < (m.Entries.length:Int))=false:=by simp; omega
  rw [e,show i=m.Entries.length by omega,List.drop_length]
  simp [planR,planN]
 | k + 1,i,out,N,hi,hN,ho=>by
  have hi':i < m.Entries.length:=by omega
  have hix:i < xs.length:=by omega
  have e:decide ((i:Int) < (m.Entries.length:Int))=true:=by simp; omega
  have ib:inB (i:Int) m.Entries.length=true:=nc' (by omega) (by omega)
  have ibx:inB (i:Int) xs.length=true:=nc' (by omega) (by omega)
  have ibn:inB (i:Int) (N++List.replicate (k + 1) (0:Int)).length=true:=nc' (by omega) (by simp; omega)
  have w:IntKind.i64.wrap ((i:Int) + 1)=((i + 1:Nat):Int):=by rw [nb' (by omega) (by omega)]; omega
  have hok:=ncq' noE hi'
  have hent:=hm _ hok
  simp only [entOK,Bool.and_eq_true,decide_eq_true_eq] at hent
  obtain ⟨_,c1,c2,c3,c4⟩:=hent
  have hd:=nr8' hb hv hl (e:=m.Entries.getD i noE) (by omega) ⟨c3,c4⟩ (xs.getD i 0)
  have hr:=nr6' (m.Entries.getD i noE) (decV b vs (m.Entries.getD i noE) (xs.getD i 0))
  have hin:=nv0' b (vs:=vs) (e:=m.Entries.getD i noE) (by omega) (xs.getD i 0)
  have hrl:=nrn' (m.Entries.getD i noE) (decV b vs (m.Entries.getD i noE) (xs.getD i 0))
  have hble:Nat.ble (out.length + (recsV (m.Entries.getD i noE) (decV b vs (m.Entries.getD i noE) (xs.getD i 0))).length) 2147483648=true:=n2' (by omega)
  have hset:∀ v:Int,(N++List.replicate (k + 1) (0:Int)).set i v=N++v :: List.replicate k 0:=fun v=>by
   rw [← hN]; exact nm7' N 0 v (List.replicate k 0)
  have hset2:∀ v u:Int,(N++v :: List.replicate k (0:Int)).set i u=N++u :: List.replicate k 0:=fun v u=>by
   rw [← hN]; exact nm7' N v u (List.replicate k 0)
  have ibn2:∀ v:Int,inB (i:Int) (N++v :: List.replicate k (0:Int)).length=true:=fun v=>nc' (by omega) (by simp; omega)
  rw [n3' noE hi',n3' (0:Int) hix]
  refine (ns' (x':=((xs,vs,(),(),out++recsV (m.Entries.getD i noE) (decV b vs (m.Entries.getD i noE) (xs.getD i 0)),(N++[nextV b vs (m.Entries.getD i noE) (decV b vs (m.Entries.getD i noE) (xs.getD i 0)) (xs.getD i 0)])++List.replicate k 0,m.Entries,(m.Entries.length:Int),((i + 1:Nat):Int),()),(b.tup,(b.Floors,b.Debounce,b.Room,b.Park,b.Empty,b.Full,b.Over,b.Cars,vs,()),()))) ?_).trans ?_
  ·show nek' xs vs out (N++List.replicate (k + 1) 0) m.Entries (m.Entries.length:Int) (i:Int) b.Floors b.Debounce b.Room b.Park b.Empty b.Full b.Over b.Cars b.Floors b.Debounce b.Room b.Park b.Empty b.Full b.Over b.Cars vs=_
   unfold nek'
   rw [e,ib,ibx,show Entry.mk 0 0 0 0 false=noE from rfl]
   unfold Entry.tup at hd
   simp only [cond_true,Int.toNat_natCast,hd,Option.bind_some,hr,hble,ibn,hset]
   unfold nextV
   have hest:=n0z' hb (hv.at (decV b vs (m.Entries.getD i noE) (xs.getD i 0)).Car) (decV b vs (m.Entries.getD i noE) (xs.getD i 0)).Car (m.Entries.getD i noE).Floor (m.Entries.getD i noE).Dir
   unfold estP nd' at hest
   cases hne:((decV b vs (m.Entries.getD i noE) (xs.getD i 0)).Car != (m.Entries.getD i noE).Car) with
   | false=>
    simp only [cond_false,Option.bind_some,Bool.false_and,List.append_assoc,List.singleton_append,w]
    rfl
   | true=>
    simp only [cond_true,Option.bind_some,Bool.true_and]
    by_cases hge:0≤(decV b vs (m.Entries.getD i noE) (xs.getD i 0)).Car
    ·have ibc:inB (decV b vs (m.Entries.getD i noE) (xs.getD i 0)).Car vs.length=true:=nc' hge hin.2
     have ibc':inB (decV b vs (m.Entries.getD i noE) (xs.getD i 0)).Car b.Cars.length=true:=nc' hge (by omega)
     rw [decide_eq_true hge]
     simp only [cond_true,ibc,hest,Option.bind_some,ibc',ibn2,Int.toNat_natCast,hset2,List.append_assoc,List.singleton_append,w]
     rfl
    ·rw [decide_eq_false hge]
     simp only [cond_false,List.append_assoc,List.singleton_append,w]
     rfl
  ·rw [nnq' k (i + 1) _ (N++[_]) (by omega) (by simp; omega) (by rw [List.length_append]; omega)]
   simp only [planR,planN,List.append_assoc,List.singleton_append]
theorem nqb':∀ (k i:Nat) (out:List Record) (N:List Int),i + k=m.Entries.length→N.length=i→out.length≤2 * i →
  iter (fun x=>ngj' x.1.1 x.1.2.1 x.1.2.2.2.2.1 x.1.2.2.2.2.2.1 x.1.2.2.2.2.2.2.1 x.2.1.1 x.2.1.2.1 x.2.1.2.2.1 x.2.1.2.2.2.1 x.2.1.2.2.2.2.1 x.2.1.2.2.2.2.2.1 x.2.1.2.2.2.2.2.2.1 x.2.1.2.2.2.2.2.2.2.1 x.2.2.1.1 x.2.2.1.2.1 x.2.2.1.2.2.1 x.2.2.1.2.2.2.1) (k + 1)
   ((xs,vs,(),(),out,N,(i:Int),()),(b.tup,m.tup,()))=some ((out++planR b vs (m.Entries.drop i) (xs.drop i),N++planN b vs (m.Entries.drop i) (xs.drop i),()),())
 | 0,i,out,N,hi,hN,ho=>by
  refine ni' ?_
  show ngj' xs vs out N (i:Int) b.Floors b.Debounce b.Room b.Park b.Empty b.Full b.Over b.Cars m.Phases m.Flags m.Leaving m.Entries=_
  unfold ngj'
  have e:decide ((i:Int) < (m.Entries.length:Int))=false:=by simp; omega
  rw [e,show i=m.Entries.length by omega,List.drop_length]
  simp [planR,planN]
 | k + 1,i,out,N,hi,hN,ho=>by
  have hi':i < m.Entries.length:=by omega
  have hix:i < xs.length:=by omega
  have e:decide ((i:Int) < (m.Entries.length:Int))=true:=by simp; omega
  have ib:inB (i:Int) m.Entries.length=true:=nc' (by omega) (by omega)
  have ibx:inB (i:Int) xs.length=true:=nc' (by omega) (by omega)
  have w:IntKind.i64.wrap ((i:Int) + 1)=((i + 1:Nat):Int):=by rw [nb' (by omega) (by omega)]; omega
  have hok:=ncq' noE hi'
  have hent:=hm _ hok
  simp only [entOK,Bool.and_eq_true,decide_eq_true_eq] at hent
  obtain ⟨_,c1,c2,c3,c4⟩:=hent
  rw [n3' noE hi',n3' (0:Int) hix]
  simp only [planR,planN]
  obtain ⟨x,hxx⟩:∃ x,x=xs.getD i 0:=⟨_,rfl⟩
  obtain ⟨a,ha⟩:∃ a,a=m.Entries.getD i noE:=⟨_,rfl⟩
  rw [← hxx,← ha]
  rw [← ha] at c1 c2 c3 c4
  have hd:=nvz' hb hv hl (e:=a) (by omega) (by omega) ⟨c3,c4⟩ x
  have hin:=nv0' b (vs:=vs) (e:=a) (by omega) x
  have hcall:=nwf' b vs a x
  obtain ⟨n,hn⟩:∃ n,n=decV b vs a x:=⟨_,rfl⟩
  rw [← hn] at hd hin hcall ⊢
  have hrl:=nrn' a n
  refine (ns' (x':=((xs,vs,(),(),out++recsV a n,N++[nextV b vs a n x],((i + 1:Nat):Int),()),(b.tup,m.tup,()))) ?_).trans ?_
  ·show ngj' xs vs out N (i:Int) b.Floors b.Debounce b.Room b.Park b.Empty b.Full b.Over b.Cars m.Phases m.Flags m.Leaving m.Entries=_
   unfold ngj'
   rw [e,ib,ibx,show Entry.mk 0 0 0 0 false=noE from rfl]
   unfold Entry.tup at hd
   have s1:(n.Moves != a.Moves)=(a.Moves != n.Moves):=n07' _ _
   have s2:(n.Moved==a.Moved)=(a.Moved==n.Moved):=by cases n.Moved <;> cases a.Moved <;> rfl
   have s3:(n.Car != a.Car)=(a.Car != n.Car):=n07' _ _
   have b1:∀ r:Record,Nat.ble (out.length + [r].length) 2147483648=true:=fun _=>n2' (by simp; omega)
   have b2:∀ r s:Record,Nat.ble ((out++[s]).length + [r].length) 2147483648=true:=fun _ _=>n2' (by simp; omega)
   have b3:∀ y:Int,Nat.ble (N.length + [y].length) 2147483648=true:=fun _=>n2' (by simp; omega)
   have w3:∀ y:Int,(bif decide (0 < y) then y else 0)=(bif decide (y < 0) then 0 else y):=fun y=>by
    by_cases g:0 < y
    ·rw [decide_eq_true g,decide_eq_false (show ¬ y < 0 by omega)]; rfl
    ·rw [decide_eq_false g]; by_cases g':y < 0
     ·rw [decide_eq_true g']; rfl
     ·rw [decide_eq_false g']; simp only [cond_false]; omega
   have hest:=n09' hb (hv.at n.Car) n.Car a.Floor a.Dir
   unfold estR nd' at hest
   have fl:((vs,xs,out).1:List View)=vs:=rfl
   rw [Int.toNat_natCast,← ha,← hxx]
   simp only [cond_true,hd,Option.bind_some,s1,s2]
   unfold nextV
   rw [s3]
   unfold recsV carAt nd'
   rw [hcall.1,hcall.2]
   by_cases hge:0≤n.Car
   ·have ibc:inB n.Car vs.length=true:=nc' hge hin.2
    have ibc':inB n.Car b.Cars.length=true:=nc' hge (by omega)
    rw [decide_eq_true hge]
    cases hne:a.Car != n.Car <;> cases hmv:a.Moves != n.Moves <;> cases hmd:a.Moved==n.Moved <;> cases hnm:n.Moved <;>
     (simp only [cond_true,cond_false,Option.bind_some,hne,s3,hge,decide_true,Bool.not_true,Bool.not_false,Bool.or_self,Bool.or_true,Bool.or_false,Bool.and_self,Bool.false_and,b1,b2,b3,ibc,ibc',ibx,hest,w,w3,List.append_assoc,List.nil_append,List.append_nil,Int.toNat_natCast,← hxx]; rfl)
   ·rw [decide_eq_false hge]
    cases hne:a.Car != n.Car <;> cases hmv:a.Moves != n.Moves <;> cases hmd:a.Moved==n.Moved <;> cases hnm:n.Moved <;>
     (simp only [cond_true,cond_false,Option.bind_some,hne,s3,hge,decide_false,Bool.not_true,Bool.not_false,Bool.or_self,Bool.or_true,Bool.or_false,Bool.and_false,b1,b2,b3,ibx,w,w3,List.append_assoc,List.nil_append,List.append_nil,Int.toNat_natCast,← hxx]; rfl)
  ·rw [nqb' k (i + 1) _ (N++[_]) (by omega) (by simp; omega) (by rw [List.length_append]; omega)]
   simp only [List.append_assoc,List.singleton_append]
end
end Go.Ovl
namespace Go.Ovl
open Go Go.Ab
set_option maxRecDepth 100000
def expOK (xs:List Int):Bool:=xs.all (inR 0 1000000)
theorem n4l' (n:Int):nhv' n=some ((!inR 0 1000000 n,()),()):=by
 unfold nhv' inR
 by_cases g:n < 0
 ·rw [decide_eq_true g,decide_eq_false (show ¬ 0≤n by omega)]; rfl
 ·rw [decide_eq_false g,decide_eq_true (show 0≤n by omega)]
  by_cases g':1000000 < n
  ·rw [decide_eq_true g',decide_eq_false (show ¬ n≤1000000 by omega)]; rfl
  ·rw [decide_eq_false g',decide_eq_true (show n≤1000000 by omega)]; rfl
theorem n0q' {xs:List Int} (hl:xs.length≤maxLen):nbm' xs=some ((!expOK xs,()),()):=by
 have hm:maxLen≤9223372036854775807:=by decide
 have key:∀ (k i:Nat),i + k=xs.length→∃ y,iter (fun x=>nz' x.1.1 x.1.2.2.1 x.1.2.2.2.1) (k + 1) ((xs,(),(xs.length:Int),(i:Int),()),())=some y∧(match y with | .inl _=>(xs.drop i).all (inR 0 1000000)=true | .inr z=>0≤z.1.1∧(xs.drop i).all (inR 0 1000000)=false):=by
  intro k
  induction k with
  | zero=>
   intro i hi
   refine ⟨.inl ((),()),ni' ?_,?_⟩
   ·show nz' xs (xs.length:Int) (i:Int)=_
    unfold nz'
    rw [show decide ((i:Int) < (xs.length:Int))=false by simp; omega]; rfl
   ·rw [show i=xs.length by omega,List.drop_length]; rfl
  | succ k ih=>
   intro i hi
   have hi':i < xs.length:=by omega
   have hs:nz' xs (xs.length:Int) (i:Int)=some (bif inR 0 1000000 (xs.getD i 0) then .inl ((xs,(),(xs.length:Int),((i + 1:Nat):Int),()),()) else .inr (.inr (((i:Int),()),()))):=by
    unfold nz'
    have w:IntKind.i64.wrap ((i:Int) + 1)=((i + 1:Nat):Int):=by rw [nb' (by omega) (by omega)]; omega
    rw [show decide ((i:Int) < (xs.length:Int))=true by simp; omega,nc' (by omega) (by omega),n4l',w]
    simp only [cond_true,Int.toNat_natCast,Option.bind_some]
    cases inR 0 1000000 (xs.getD i 0) <;> rfl
   rw [n3' (0:Int) hi',List.all_cons]
   cases hq:inR 0 1000000 (xs.getD i 0) with
   | true=>
    rw [hq] at hs
    obtain ⟨y,h1,h2⟩:=ih (i + 1) (by omega)
    exact ⟨y,(ns' hs).trans h1,by rw [Bool.true_and]; exact h2⟩
   | false=>
    rw [hq] at hs
    exact ⟨_,ni' hs,by show (0:Int)≤(i:Int)∧_; exact ⟨by omega,rfl⟩⟩
 obtain ⟨y,h1,h2⟩:=key xs.length 0 (by omega)
 have h1':nbo' ((xs,(),(xs.length:Int),(0:Int),()),())=some y:=nf' h1 (by omega)
 rw [List.drop_zero] at h2
 unfold nbm' ncg' expOK
 rw [h1']
 cases y with
 | inl z=>simp only at h2; rw [h2]; rfl
 | inr z=>
  simp only at h2
  rw [h2.2]
  simp only [Option.bind_some]
  rw [decide_eq_true h2.1]; rfl
theorem nsm' (m:Img) {xs:List Int} (hl:xs.length≤maxLen):ngm' m.Phases m.Flags m.Leaving m.Entries xs=some ((expOK xs&&(xs.length:Int)==(m.Entries.length:Int),()),()):=by
 have hm:maxLen≤9223372036854775807:=by decide
 have key:∀ (k i:Nat),i + k=xs.length→iter (fun x=>nd5' x.1.1 x.1.2.2.1 x.2.1.1 x.2.1.2.1 x.2.1.2.2.1 x.2.1.2.2.2.1) (k + 1) ((xs,(),(i:Int),()),(m.tup,()))=some (if (xs.drop i).all (inR 0 1000000) then .inl ((xs,(),()),(m.tup,())) else .inr ((false,()),())):=by
  intro k
  induction k with
  | zero=>
   intro i hi
   refine ni' ?_
   show nd5' xs (i:Int) m.Phases m.Flags m.Leaving m.Entries=_
   unfold nd5'
   rw [show decide ((i:Int) < (xs.length:Int))=false by simp; omega,show i=xs.length by omega,List.drop_length]; rfl
  | succ k ih=>
   intro i hi
   have hi':i < xs.length:=by omega
   have hs:nd5' xs (i:Int) m.Phases m.Flags m.Leaving m.Entries=some (bif inR 0 1000000 (xs.getD i 0) then .inl ((xs,(),((i + 1:Nat):Int),()),(m.tup,())) else .inr (.inr ((false,()),()))):=by
    unfold nd5'
    have w:IntKind.i64.wrap ((i:Int) + 1)=((i + 1:Nat):Int):=by rw [nb' (by omega) (by omega)]; omega
    rw [show decide ((i:Int) < (xs.length:Int))=true by simp; omega,nc' (by omega) (by omega),w]
    simp only [cond_true,Int.toNat_natCast]
    unfold inR
    by_cases g:xs.getD i 0 < 0
    ·rw [decide_eq_true g,decide_eq_false (show ¬ 0≤xs.getD i 0 by omega)]; rfl
    ·rw [decide_eq_false g,decide_eq_true (show 0≤xs.getD i 0 by omega)]
     by_cases g':1000000 < xs.getD i 0
     ·rw [decide_eq_true g',decide_eq_false (show ¬ xs.getD i 0≤1000000 by omega)]; rfl
     ·rw [decide_eq_false g',decide_eq_true (show xs.getD i 0≤1000000 by omega)]; rfl
   rw [n3' (0:Int) hi',List.all_cons]
   cases hq:inR 0 1000000 (xs.getD i 0) with
   | true=>rw [hq] at hs; exact (ns' hs).trans (ih (i + 1) (by omega))
   | false=>rw [hq] at hs; exact ni' hs
 have h1:ng7' ((xs,(),(0:Int),()),(m.tup,()))=_:=nf' (key xs.length 0 (by omega)) (by omega)
 rw [List.drop_zero] at h1
 unfold Img.tup at h1
 unfold ngm'
 rw [h1]
 unfold expOK
 cases xs.all (inR 0 1000000) <;> rfl
noncomputable def planV (b:Bldg) (m:Img) (xs:List Int) (vs:List View):List Record×List Int×Int×Unit:=
 bif m.ok b&&((xs.length:Int)==(m.Entries.length:Int)&&((vs.length:Int)==(b.Cars.length:Int)&&expOK xs)) then (planR b vs m.Entries xs,planN b vs m.Entries xs,0,()) else ([],[],1,())
theorem Img.ok_all {b:Bldg} {m:Img} (h:m.ok b=true):b.code=0∧m.Phases.length=b.Cars.length∧m.Flags.length=b.Cars.length∧m.Leaving.length=b.Cars.length∧(∀ p ∈ m.Phases,0≤p∧p≤4)∧(∀ e ∈ m.Entries,entOK b e=true)∧entsF b Option.none m.Entries=true:=by
 unfold Img.ok at h
 simp only [Bool.and_eq_true,beq_iff_eq] at h
 obtain ⟨h0,h1,h2,h3,h4,h5⟩:=h
 exact ⟨h0,by omega,by omega,by omega,fun p hp=>nba'.1 (List.all_eq_true.1 h4 p hp),nxa' h5,h5⟩
section
variable {b:Bldg} (hb:b.small) {vs:List View} (hv:okViews vs) (hl:vs.length≤100) (m:Img) (hm:m.Entries.length≤1000) (hp:m.Phases.length≤maxLen) (xs:List Int) (hx:xs.length≤maxLen)
include hb hv hl hm hp hx
theorem nvu':nfe' b.Floors b.Debounce b.Room b.Park b.Empty b.Full b.Over b.Cars m.Phases m.Flags m.Leaving m.Entries xs vs=some (planV b m xs vs,()):=by
 have hmx:1000≤maxLen:=by decide
 unfold nfe' planV
 rw [nd3' hb m hp (by omega),n0q' hx]
 simp only [Option.bind_some,bne]
 cases hok:m.ok b with
 | false=>rfl
 | true=>
  cases hq:(xs.length:Int)==(m.Entries.length:Int) with
  | false=>rfl
  | true=>
   cases hr:(vs.length:Int)==(b.Cars.length:Int) with
   | false=>rfl
   | true=>
    cases expOK xs with
    | false=>rfl
    | true=>
     have hq':(xs.length:Int)=(m.Entries.length:Int):=by simpa using hq
     have hr':(vs.length:Int)=(b.Cars.length:Int):=by simpa using hr
     obtain ⟨_,_,_,_,_,hall,_⟩:=Img.ok_all hok
     have hlp:=nf' (nnq' hb hv hl hr' hall hm (xs:=xs) (by omega) m.Entries.length 0 [] [] (by omega) rfl (by simp)) (by omega)
     have hlp':nhs' ((xs,vs,(),(),([]:List Record),List.replicate m.Entries.length (0:Int),m.Entries,(m.Entries.length:Int),(0:Int),()),(b.tup,(b.Floors,b.Debounce,b.Room,b.Park,b.Empty,b.Full,b.Over,b.Cars,vs,()),()))=_:=hlp
     unfold Bldg.tup at hlp'
     simp only [Bool.not_true,cond_false,hq',decide_eq_true (show (0:Int)≤(m.Entries.length:Int) by omega),decide_eq_true (Int.le_refl (m.Entries.length:Int)),decide_eq_true (show (m.Entries.length:Int)≤2147483648 by omega),Bool.and_self,cond_true,Int.toNat_natCast,hlp',Option.bind_some,List.drop_zero,List.nil_append]
theorem n0p':nkx' b.Floors b.Debounce b.Room b.Park b.Empty b.Full b.Over b.Cars m.Phases m.Flags m.Leaving m.Entries xs vs=some (planV b m xs vs,()):=by
 have hmx:1000≤maxLen:=by decide
 unfold nkx' planV
 rw [ngk' hb m hp (by omega),nsm' m hx]
 simp only [Option.bind_some,bne]
 cases hok:m.ok b with
 | false=>rfl
 | true=>
  cases hq:(xs.length:Int)==(m.Entries.length:Int) with
  | false=>cases expOK xs <;> rfl
  | true=>
   cases he:expOK xs with
   | false=>cases (vs.length:Int)==(b.Cars.length:Int) <;> rfl
   | true=>
    cases hr:(vs.length:Int)==(b.Cars.length:Int) with
    | false=>rfl
    | true=>
     have hq':(xs.length:Int)=(m.Entries.length:Int):=by simpa using hq
     have hr':(vs.length:Int)=(b.Cars.length:Int):=by simpa using hr
     obtain ⟨_,_,_,_,_,hall,_⟩:=Img.ok_all hok
     have hlp:=nf' (nqb' hb hv hl hr' hall hm (xs:=xs) (by omega) m.Entries.length 0 [] [] (by omega) rfl (by simp)) (by omega)
     have hlp':nke' ((xs,vs,(),(),([]:List Record),([]:List Int),(0:Int),()),(b.tup,m.tup,()))=_:=hlp
     unfold Bldg.tup Img.tup at hlp'
     simp only [Bool.and_self,Bool.not_true,cond_false,cond_true,hlp',Option.bind_some,List.drop_zero,List.nil_append]
end
theorem nro' (b:Bldg) (vs:List View):∀ (l:List Entry) (xs:List Int),(planR b vs l xs).length≤2 * l.length
 | [],_=>by simp [planR]
 | _ :: _,[]=>by simp [planR]
 | e :: t,x :: xs=>by
  have h1:=nro' b vs t xs
  have h2:=nrn' e (decV b vs e x)
  simp only [planR,List.length_append,List.length_cons]
  omega
theorem nqw' (b:Bldg) (vs:List View):∀ (l:List Entry) (xs:List Int),xs.length=l.length→(planN b vs l xs).length=l.length
 | [],_,_=>by simp [planN]
 | _ :: _,[],h=>by simp at h
 | e :: t,x :: xs,h=>by
  simp only [planN,List.length_cons,nqw' b vs t xs (by simpa using h)]
theorem nw0' (b:Bldg) (m:Img) (xs:List Int) (vs:List View):(planV b m xs vs).1.length≤2 * m.Entries.length∧(planV b m xs vs).2.1.length≤m.Entries.length:=by
 unfold planV
 cases hq:(m.ok b&&((xs.length:Int)==(m.Entries.length:Int)&&((vs.length:Int)==(b.Cars.length:Int)&&expOK xs))) with
 | false=>exact ⟨by simp,by simp⟩
 | true=>
  simp only [Bool.and_eq_true,beq_iff_eq] at hq
  refine ⟨nro' b vs m.Entries xs,?_⟩
  show (planN b vs m.Entries xs).length≤_
  rw [nqw' b vs m.Entries xs (by omega)]
  exact Nat.le_refl _
end Go.Ovl
namespace Go.Ovl
open Go Go.Ab
set_option maxRecDepth 100000
def noV:View:=View.mk false false false false 0 0 0 0 0 0 0 0
def noP:Calls:=Calls.mk 0 0
structure Lan where
 lit:List Calls
 gong:List Bool
 cl:Int×Int
def Lan.tup (l:Lan):List Calls×List Bool×Int×Int×Unit:=(l.lit,l.gong,l.cl.1,l.cl.2,())
def Lan.none:Lan:=⟨[],[],(0,0)⟩
def litC (b:Bldg) (vs:List View) (i:Nat) (s:Lan):Int×Int:=nbf' (nbd' b (vs.getD i noV)) s.cl
def litS (b:Bldg) (vs:List View) (ps:List Calls) (i:Nat) (s:Lan):Lan:=⟨s.lit++[Calls.mk (litC b vs i s).1 (litC b vs i s).2],s.gong++[!isZ (nbf' (litC b vs i s) ((ps.getD i noP).Up,(ps.getD i noP).Down))],ncl' s.cl (litC b vs i s)⟩
def ncd' (b:Bldg) (vs:List View) (ps:List Calls):Lan:=foldN (litS b vs ps) vs.length 0 Lan.none
def nh5' (b:Bldg) (vs:List View) (ps:List Calls):Lan×Int:=bif (vs.length:Int)==(b.Cars.length:Int)&&((ps.length:Int)==(b.Cars.length:Int)) then (ncd' b vs ps,0) else (Lan.none,1)
section
variable {b:Bldg} (hb:b.small) (hcode:b.code=0)
include hb hcode
theorem nlx' (vs:List View) (ps:List Calls) (hl:vs.length≤1000) (hp:ps.length=vs.length):nf5' ((ps,(),(),(),vs,(vs.length:Int),(0:Int),()),(b.tup,Lan.none.tup,Lan.none.tup,()))=some (((),(),()),(Lan.none.tup,(ncd' b vs ps).tup,()))∧(ncd' b vs ps).lit.length=vs.length∧(ncd' b vs ps).gong.length=vs.length:=by
 have key:=fun (step:_→_) (h1:∀ (i:Nat) (s:Lan),i < vs.length→(s.lit.length=i∧s.gong.length=i)→step ((ps,(),(),(),vs,(vs.length:Int),(i:Int),()),(b.tup,Lan.none.tup,s.tup,()))=some (.inl ((ps,(),(),(),vs,(vs.length:Int),((i + 1:Nat):Int),()),(b.tup,Lan.none.tup,(litS b vs ps i s).tup,())))) h2=>nfw' (step:=step) vs.length (fun i (s:Lan)=>((ps,(),(),(),vs,(vs.length:Int),(i:Int),()),(b.tup,Lan.none.tup,s.tup,()))) (litS b vs ps) (fun i s=>s.lit.length=i∧s.gong.length=i) (fun s=>(((),(),()),(Lan.none.tup,s.tup,()))) (fun i s hi hs=>⟨h1 i s hi hs,by
   constructor
   ·show (s.lit++[_]).length=_; rw [List.length_append,List.length_singleton,hs.1]
   ·show (s.gong++[_]).length=_; rw [List.length_append,List.length_singleton,hs.2]⟩) h2 vs.length 0 Lan.none (by omega) ⟨rfl,rfl⟩
 have h:=key (fun x=>nds' x.1.1 x.1.2.2.2.2.1 x.1.2.2.2.2.2.1 x.1.2.2.2.2.2.2.1 x.2.1.1 x.2.1.2.1 x.2.1.2.2.1 x.2.1.2.2.2.1 x.2.1.2.2.2.2.1 x.2.1.2.2.2.2.2.1 x.2.1.2.2.2.2.2.2.1 x.2.1.2.2.2.2.2.2.2.1 x.2.2.1.1 x.2.2.1.2.1 x.2.2.1.2.2.1 x.2.2.1.2.2.2.1 x.2.2.2.1.1 x.2.2.2.1.2.1 x.2.2.2.1.2.2.1 x.2.2.2.1.2.2.2.1) (fun i s hi hs=>by
  show nds' ps vs (vs.length:Int) (i:Int) b.Floors b.Debounce b.Room b.Park b.Empty b.Full b.Over b.Cars [] [] 0 0 s.lit s.gong s.cl.1 s.cl.2=_
  unfold nds'
  rw [show View.mk false false false false 0 0 0 0 0 0 0 0=noV from rfl,show Calls.mk 0 0=noP from rfl]
  simp only [decide_eq_true (show (i:Int) < (vs.length:Int) by omega),nc' (show (0:Int)≤(i:Int) by omega) (show (i:Int) < (vs.length:Int) by omega),nc' (show (0:Int)≤(i:Int) by omega) (show (i:Int) < (ps.length:Int) by omega),cond_true,Int.toNat_natCast,nmk' hb hcode,Option.bind_some,wrap1 hi (show vs.length≤nr' by unfold nr'; omega)]
  have e1:=nld' (nbd' b (vs.getD i noV)) s.cl
  have e2:=nld' (litC b vs i s) ((ps.getD i noP).Up,(ps.getD i noP).Down)
  have e3:=nij' s.cl (litC b vs i s)
  unfold litC at e2 e3
  simp only at e2
  simp only [e1,Option.bind_some,e2,e3]
  rw [n2' (show s.lit.length + [Calls.mk (nbf' (nbd' b (vs.getD i noV)) s.cl).1 (nbf' (nbd' b (vs.getD i noV)) s.cl).2].length≤2147483648 by show s.lit.length + 1≤_; omega)]
  rw [n2' (show s.gong.length + [!((nbf' (nbf' (nbd' b (vs.getD i noV)) s.cl) ((ps.getD i noP).Up,(ps.getD i noP).Down)).1==0&&((nbf' (nbf' (nbd' b (vs.getD i noV)) s.cl) ((ps.getD i noP).Up,(ps.getD i noP).Down)).2==0&&true))].length≤2147483648 by show s.gong.length + 1≤_; omega)]
  rfl) (fun s _=>by
  show nds' ps vs (vs.length:Int) (vs.length:Int) b.Floors b.Debounce b.Room b.Park b.Empty b.Full b.Over b.Cars [] [] 0 0 s.lit s.gong s.cl.1 s.cl.2=_
  unfold nds'
  simp only [decide_eq_false (Int.lt_irrefl (vs.length:Int)),cond_false]
  rfl)
 exact ⟨nf' h.1 (by omega),h.2.1,h.2.2⟩
theorem njk' (vs:List View) (ps:List Calls) (hl:vs.length≤1000):nef' b.Floors b.Debounce b.Room b.Park b.Empty b.Full b.Over b.Cars vs ps=some (((),(nh5' b vs ps).2,()),((nh5' b vs ps).1.tup,())):=by
 unfold nef' nh5'
 rw [ncr',hcode]
 simp only [Option.bind_some,bne_self_eq_false,cond_false]
 by_cases h1:vs.length=b.Cars.length
 ·by_cases h2:ps.length=b.Cars.length
  ·have h:=(nlx' hb hcode vs ps hl (by omega)).1
   simp only [Bldg.tup,Lan.tup,Lan.none] at h
   rw [h1] at h ⊢
   rw [h2]
   simp only [bne_self_eq_false,cond_false,beq_self_eq_true,Bool.and_self,cond_true,h]
   rfl
  ·rw [h1,bne_self_eq_false,bne_t (show ¬ (ps.length:Int)=(b.Cars.length:Int) by omega),beq_f (show ¬ (ps.length:Int)=(b.Cars.length:Int) by omega),Bool.and_false]
   rfl
 ·rw [bne_t (show ¬ (vs.length:Int)=(b.Cars.length:Int) by omega),beq_f (show ¬ (vs.length:Int)=(b.Cars.length:Int) by omega)]
  rfl
theorem nyk' (vs:List View) (ps:List Calls) (hl:vs.length≤1000):nlo' b.Floors b.Debounce b.Room b.Park b.Empty b.Full b.Over b.Cars vs ps=some (((),(nh5' b vs ps).2,()),((nh5' b vs ps).1.tup,())):=by
 unfold nlo' nh5'
 rw [nd1',hcode]
 simp only [Option.bind_some,bne_self_eq_false,cond_false]
 by_cases h1:vs.length=b.Cars.length
 ·by_cases h2:ps.length=b.Cars.length
  ·have h:=nfw' (step:=fun x=>ne9' x.1.1 x.1.2.1 x.1.2.2.2.2.2.1 x.2.1.1 x.2.1.2.1 x.2.1.2.2.1 x.2.1.2.2.2.1 x.2.1.2.2.2.2.1 x.2.1.2.2.2.2.2.1 x.2.1.2.2.2.2.2.2.1 x.2.1.2.2.2.2.2.2.2.1 x.2.2.1.1 x.2.2.1.2.1 x.2.2.1.2.2.1 x.2.2.1.2.2.2.1 x.2.2.2.1.1 x.2.2.2.1.2.1 x.2.2.2.1.2.2.1 x.2.2.2.1.2.2.2.1) vs.length (fun i (s:Lan)=>((vs,ps,(),(),(),(i:Int),()),(b.tup,Lan.none.tup,s.tup,()))) (litS b vs ps) (fun i s=>s.lit.length=i∧s.gong.length=i) (fun s=>(((),(),()),(Lan.none.tup,s.tup,()))) (fun i s hi hs=>⟨by
    show ne9' vs ps (i:Int) b.Floors b.Debounce b.Room b.Park b.Empty b.Full b.Over b.Cars [] [] 0 0 s.lit s.gong s.cl.1 s.cl.2=_
    unfold ne9'
    rw [show View.mk false false false false 0 0 0 0 0 0 0 0=noV from rfl,show Calls.mk 0 0=noP from rfl]
    simp only [decide_eq_true (show (i:Int) < (vs.length:Int) by omega),nc' (show (0:Int)≤(i:Int) by omega) (show (i:Int) < (vs.length:Int) by omega),nc' (show (0:Int)≤(i:Int) by omega) (show (i:Int) < (ps.length:Int) by omega),cond_true,Int.toNat_natCast,np6' hb hcode,Option.bind_some,wrap1 hi (show vs.length≤nr' by unfold nr'; omega)]
    have e1:=nqm' (nbd' b (vs.getD i noV)) s.cl
    have e2:=nqm' (litC b vs i s) ((ps.getD i noP).Up,(ps.getD i noP).Down)
    have e3:=nrg' s.cl (litC b vs i s)
    unfold litC at e2 e3
    simp only at e2
    simp only [e1,Option.bind_some,e2,e3]
    rw [n2' (show s.lit.length + [Calls.mk (nbf' (nbd' b (vs.getD i noV)) s.cl).1 (nbf' (nbd' b (vs.getD i noV)) s.cl).2].length≤2147483648 by show s.lit.length + 1≤_; omega)]
    rw [n2' (show s.gong.length + [!((nbf' (nbf' (nbd' b (vs.getD i noV)) s.cl) ((ps.getD i noP).Up,(ps.getD i noP).Down)).1==0&&((nbf' (nbf' (nbd' b (vs.getD i noV)) s.cl) ((ps.getD i noP).Up,(ps.getD i noP).Down)).2==0&&true))].length≤2147483648 by show s.gong.length + 1≤_; omega)]
    rfl,by
    constructor
    ·show (s.lit++[_]).length=_; rw [List.length_append,List.length_singleton,hs.1]
    ·show (s.gong++[_]).length=_; rw [List.length_append,List.length_singleton,hs.2]⟩) (fun s _=>by
    show ne9' vs ps (vs.length:Int) b.Floors b.Debounce b.Room b.Park b.Empty b.Full b.Over b.Cars [] [] 0 0 s.lit s.gong s.cl.1 s.cl.2=_
    unfold ne9'
    simp only [decide_eq_false (Int.lt_irrefl (vs.length:Int)),cond_false]
    rfl) vs.length 0 Lan.none (by omega) ⟨rfl,rfl⟩
   have h:njj' ((vs,ps,(),(),(),(0:Int),()),(b.tup,Lan.none.tup,Lan.none.tup,()))=some (((),(),()),(Lan.none.tup,(ncd' b vs ps).tup,())):=nf' h.1 (by omega)
   simp only [Bldg.tup,Lan.tup,Lan.none] at h
   rw [h1,h2]
   simp only [bne_self_eq_false,cond_false,beq_self_eq_true,Bool.and_self,cond_true,h]
   rfl
  ·rw [h1,bne_self_eq_false,bne_t (show ¬ (ps.length:Int)=(b.Cars.length:Int) by omega),beq_f (show ¬ (ps.length:Int)=(b.Cars.length:Int) by omega),Bool.and_false]
   rfl
 ·rw [bne_t (show ¬ (vs.length:Int)=(b.Cars.length:Int) by omega),beq_f (show ¬ (vs.length:Int)=(b.Cars.length:Int) by omega)]
  rfl
end
def servB (b:Bldg) (vs:List View) (F D:Int):Bool:=vs.any fun v=>bitC (nbd' b v) F.toNat D
def servL (b:Bldg) (vs:List View) (l:List Entry):List Record:=l.flatMap fun e=>bif servB b vs e.Floor e.Dir then [Record.mk 2 e.Floor e.Dir 0 0] else []
theorem nzg' (b:Bldg) (vs:List View) {f:Nat} {d:Int}:∀ (k i:Nat) (s:Int×Int),i + k=vs.length→bitC (foldN (fun i s=>ncl' s (nbd' b (vs.getD i noV))) k i s) f d=(bitC s f d||(vs.drop i).any fun v=>bitC (nbd' b v) f d)
 | 0,i,s,hi=>by rw [show i=vs.length by omega,List.drop_length]; simp [foldN]
 | k + 1,i,s,hi=>by
  show bitC (foldN (fun i s=>ncl' s (nbd' b (vs.getD i noV))) k (i + 1) (ncl' s (nbd' b (vs.getD i noV)))) f d=_
  rw [nzg' b vs k (i + 1) _ (by omega),nfq',n3' noV (show i < vs.length by omega),List.any_cons,Bool.or_assoc]
theorem noh' (b:Bldg) (vs:List View):∀ l:List Entry,(servL b vs l).length≤l.length
 | []=>Nat.le_refl _
 | e :: t=>by
  have h:=noh' b vs t
  show ((bif servB b vs e.Floor e.Dir then [Record.mk 2 e.Floor e.Dir 0 0] else [])++servL b vs t).length≤_
  rw [List.length_append,List.length_cons]
  cases servB b vs e.Floor e.Dir <;> simp <;> omega
theorem nny' {b:Bldg} (hb:b.small) {e:Entry} (h:nh' b e.Floor e.Dir=true):callE e:=by
 have lo:=hb.lo
 have hi:=hb.hi
 unfold nh' callB at h
 simp only [Bool.and_eq_true,Bool.or_eq_true,beq_iff_eq,nba'] at h
 unfold callE
 omega
section
variable {b:Bldg} (hb:b.small) (hcode:b.code=0) {m:Img} (hm:ImgOK b m) (hl:m.Entries.length≤100000) (vs:List View) (hv:(vs.length:Int)=(b.Cars.length:Int))
include hb hcode hm hl hv
theorem nss':nhw' b.Floors b.Debounce b.Room b.Park b.Empty b.Full b.Over b.Cars m.Phases m.Flags m.Leaving m.Entries vs=some ((servL b vs m.Entries,()),()):=by
 have hcc:=net' hcode
 have hmx:100000≤maxLen:=by decide
 have hlp:=hm.lp
 have h0:=nfw' (step:=fun x=>ndp' x.1.2.2.2.1 x.1.2.2.2.2.1 x.1.2.2.2.2.2.1 x.2.1.1 x.2.1.2.1 x.2.1.2.2.1 x.2.1.2.2.2.1 x.2.1.2.2.2.2.1 x.2.1.2.2.2.2.2.1 x.2.1.2.2.2.2.2.2.1 x.2.1.2.2.2.2.2.2.2.1 x.2.2.1.1 x.2.2.1.2.1 x.2.2.1.2.2.1 x.2.2.1.2.2.2.1 x.2.2.2.1.1 x.2.2.2.1.2.1) vs.length (fun i (s:Int×Int)=>(((),(),(),vs,(vs.length:Int),(i:Int),()),(b.tup,m.tup,(s.1,s.2,()),()))) (fun i s=>ncl' s (nbd' b (vs.getD i noV))) (fun _ _=>True) (fun s=>(((),(),()),(m.tup,(s.1,s.2,()),()))) (fun i s hi _=>⟨by
  show ndp' vs (vs.length:Int) (i:Int) b.Floors b.Debounce b.Room b.Park b.Empty b.Full b.Over b.Cars m.Phases m.Flags m.Leaving m.Entries s.1 s.2=_
  unfold ndp'
  rw [show View.mk false false false false 0 0 0 0 0 0 0 0=noV from rfl]
  have e3:=nij' s (nbd' b (vs.getD i noV))
  simp only [decide_eq_true (show (i:Int) < (vs.length:Int) by omega),nc' (show (0:Int)≤(i:Int) by omega) (show (i:Int) < (vs.length:Int) by omega),cond_true,Int.toNat_natCast,nmk' hb hcode,Option.bind_some,e3,wrap1 hi (show vs.length≤nr' by unfold nr'; omega)]
  rfl,trivial⟩) (fun s _=>by
  show ndp' vs (vs.length:Int) (vs.length:Int) b.Floors b.Debounce b.Room b.Park b.Empty b.Full b.Over b.Cars m.Phases m.Flags m.Leaving m.Entries s.1 s.2=_
  unfold ndp'
  simp only [decide_eq_false (Int.lt_irrefl (vs.length:Int)),cond_false]
  rfl) vs.length 0 (0,0) (by omega) trivial
 have h0':nf3' (((),(),(),vs,(vs.length:Int),(0:Int),()),(b.tup,m.tup,((0:Int),(0:Int),()),()))=_:=nf' h0.1 (by omega)
 have hbit:∀ (f:Nat) (d:Int),bitC (foldN (fun i s=>ncl' s (nbd' b (vs.getD i noV))) vs.length 0 (0,0)) f d=vs.any fun v=>bitC (nbd' b v) f d:=fun f d=>by
  rw [nzg' b vs vs.length 0 (0,0) (by omega),nes',Bool.false_or,List.drop_zero]
 generalize foldN (fun i s=>ncl' s (nbd' b (vs.getD i noV))) vs.length 0 (0,0)=u at h0' hbit
 have h1:=nfw' (step:=fun x=>ndt' x.1.2.1 x.1.2.2.1 x.1.2.2.2.1 x.1.2.2.2.2.1 x.2.1.1 x.2.1.2.1) m.Entries.length (fun i (out:List Record)=>(((),out,m.Entries,(m.Entries.length:Int),(i:Int),()),((u.1,u.2,()),()))) (fun i out=>out++(bif servB b vs (m.Entries.getD i noE).Floor (m.Entries.getD i noE).Dir then [Record.mk 2 (m.Entries.getD i noE).Floor (m.Entries.getD i noE).Dir 0 0] else [])) (fun i out=>out.length≤i) (fun out=>((out,()),())) (fun i out hi ho=>by
  have hc:=nny' hb (ncx'.1 (hm.en _ (ncq' noE hi))).1
  refine ⟨?_,?_⟩
  ·show ndt' out m.Entries (m.Entries.length:Int) (i:Int) u.1 u.2=_
   unfold ndt'
   rw [show Entry.mk 0 0 0 0 false=noE from rfl]
   simp only [decide_eq_true (show (i:Int) < (m.Entries.length:Int) by omega),nc' (show (0:Int)≤(i:Int) by omega) (show (i:Int) < (m.Entries.length:Int) by omega),cond_true,Int.toNat_natCast,nre' u hc.1 hc.2,Option.bind_some,wrap1 hi (show m.Entries.length≤nr' by unfold nr'; omega),hbit]
   rw [n2' (show out.length + [Record.mk 2 (m.Entries.getD i noE).Floor (m.Entries.getD i noE).Dir 0 0].length≤2147483648 by show out.length + 1≤_; omega)]
   unfold servB
   cases vs.any fun v=>bitC (nbd' b v) (m.Entries.getD i noE).Floor.toNat (m.Entries.getD i noE).Dir
   ·simp
   ·rfl
  ·rw [List.length_append]
   cases servB b vs (m.Entries.getD i noE).Floor (m.Entries.getD i noE).Dir <;> simp <;> omega) (fun out _=>by
  show ndt' out m.Entries (m.Entries.length:Int) (m.Entries.length:Int) u.1 u.2=_
  unfold ndt'
  simp only [decide_eq_false (Int.lt_irrefl (m.Entries.length:Int)),cond_false]) m.Entries.length 0 [] (by omega) (by simp)
 have h1':=nf' h1.1 (by omega)
 rw [noj',List.nil_append,npr' (fun e=>bif servB b vs e.Floor e.Dir then [Record.mk 2 e.Floor e.Dir 0 0] else []) noE m.Entries 0 m.Entries.length (by omega),List.drop_zero] at h1'
 unfold nhw'
 rw [nd3' hb m (by omega) (by omega),Img.ok_iff.2 hm]
 simp only [Option.bind_some,Bool.not_true,cond_false]
 rw [show ((vs.length:Int) != (b.Cars.length:Int))=false by rw [hv,bne_self_eq_false]]
 simp only [Bldg.tup,Img.tup] at h0'
 simp only [cond_false,h0',Option.bind_some]
 rw [show nf6' (((),([]:List Record),m.Entries,(m.Entries.length:Int),(0:Int),()),((u.1,u.2,()),()))=_ from h1']
 rfl
omit hm hl in
theorem ntr' {e:Entry} (he:callE e) (i:Int) {out:List Record} (ho:out.length≤100000):nje' ((vs,(),(),out,i,(),(0:Int),()),(b.tup,m.tup,(e.Floor,e.Dir,e.Car,e.Moves,e.Moved,()),()))=some ((vs,(),(),out++(bif servB b vs e.Floor e.Dir then [Record.mk 2 e.Floor e.Dir 0 0] else []),i,()),(b.tup,m.tup,())):=by
 have hcc:=net' hcode
 have key:∀ (k j:Nat),j + k=vs.length→iter (fun x=>nff' x.1.1 x.1.2.2.2.1 x.1.2.2.2.2.1 x.1.2.2.2.2.2.2.1 x.2.1.1 x.2.1.2.1 x.2.1.2.2.1 x.2.1.2.2.2.1 x.2.1.2.2.2.2.1 x.2.1.2.2.2.2.2.1 x.2.1.2.2.2.2.2.2.1 x.2.1.2.2.2.2.2.2.2.1 x.2.2.1.1 x.2.2.1.2.1 x.2.2.1.2.2.1 x.2.2.1.2.2.2.1 x.2.2.2.1.1 x.2.2.2.1.2.1 x.2.2.2.1.2.2.1 x.2.2.2.1.2.2.2.1 x.2.2.2.1.2.2.2.2.1) (k + 1) ((vs,(),(),out,i,(),(j:Int),()),(b.tup,m.tup,(e.Floor,e.Dir,e.Car,e.Moves,e.Moved,()),()))=some ((vs,(),(),out++(bif (vs.drop j).any (fun v=>bitC (nbd' b v) e.Floor.toNat e.Dir) then [Record.mk 2 e.Floor e.Dir 0 0] else []),i,()),(b.tup,m.tup,())):=by
  intro k
  induction k with
  | zero=>
   intro j hj
   obtain rfl:j=vs.length:=by omega
   refine ni' ?_
   show nff' vs out i (vs.length:Int) b.Floors b.Debounce b.Room b.Park b.Empty b.Full b.Over b.Cars m.Phases m.Flags m.Leaving m.Entries e.Floor e.Dir e.Car e.Moves e.Moved=_
   unfold nff'
   rw [decide_eq_false (Int.lt_irrefl (vs.length:Int)),List.drop_length]
   simp only [List.any_nil,cond_false,List.append_nil]
   rfl
  | succ k ih=>
   intro j hj
   have hj':j < vs.length:=by omega
   have hs:nff' vs out i (j:Int) b.Floors b.Debounce b.Room b.Park b.Empty b.Full b.Over b.Cars m.Phases m.Flags m.Leaving m.Entries e.Floor e.Dir e.Car e.Moves e.Moved=some (bif bitC (nbd' b (vs.getD j noV)) e.Floor.toNat e.Dir then .inr ((vs,(),(),out++[Record.mk 2 e.Floor e.Dir 0 0],i,()),(b.tup,m.tup,())) else .inl ((vs,(),(),out,i,(),((j + 1:Nat):Int),()),(b.tup,m.tup,(e.Floor,e.Dir,e.Car,e.Moves,e.Moved,()),()))):=by
    unfold nff'
    rw [show View.mk false false false false 0 0 0 0 0 0 0 0=noV from rfl]
    simp only [decide_eq_true (show (j:Int) < (vs.length:Int) by omega),nc' (show (0:Int)≤(j:Int) by omega) (show (j:Int) < (vs.length:Int) by omega),cond_true,Int.toNat_natCast,np6' hb hcode,Option.bind_some,n2p' (n2i' b (vs.getD j noV)) he.1 he.2,wrap1 hj' (show vs.length≤nr' by unfold nr'; omega)]
    rw [n2' (show out.length + [Record.mk 2 e.Floor e.Dir 0 0].length≤2147483648 by show out.length + 1≤_; omega)]
    cases bitC (nbd' b (vs.getD j noV)) e.Floor.toNat e.Dir <;> rfl
   rw [n3' noV hj',List.any_cons]
   cases hq:bitC (nbd' b (vs.getD j noV)) e.Floor.toNat e.Dir with
   | true=>rw [hq] at hs; exact ni' hs
   | false=>rw [hq] at hs; rw [Bool.false_or]; exact (ns' hs).trans (ih (j + 1) (by omega))
 have h:=key vs.length 0 (by omega)
 rw [List.drop_zero] at h
 exact nf' h (by omega)
theorem nyb':nlh' b.Floors b.Debounce b.Room b.Park b.Empty b.Full b.Over b.Cars m.Phases m.Flags m.Leaving m.Entries vs=some ((servL b vs m.Entries,()),()):=by
 have hcc:=net' hcode
 have hmx:100000≤maxLen:=by decide
 have hlp:=hm.lp
 have h1:=nfw' (step:=fun x=>nfc' x.1.1 x.1.2.2.2.1 x.1.2.2.2.2.1 x.2.1.1 x.2.1.2.1 x.2.1.2.2.1 x.2.1.2.2.2.1 x.2.1.2.2.2.2.1 x.2.1.2.2.2.2.2.1 x.2.1.2.2.2.2.2.2.1 x.2.1.2.2.2.2.2.2.2.1 x.2.2.1.1 x.2.2.1.2.1 x.2.2.1.2.2.1 x.2.2.1.2.2.2.1) m.Entries.length (fun i (out:List Record)=>((vs,(),(),out,(i:Int),()),(b.tup,m.tup,()))) (fun i out=>out++(bif servB b vs (m.Entries.getD i noE).Floor (m.Entries.getD i noE).Dir then [Record.mk 2 (m.Entries.getD i noE).Floor (m.Entries.getD i noE).Dir 0 0] else [])) (fun i out=>out.length≤i) (fun out=>((out,()),())) (fun i out hi ho=>by
  have hc:=nny' hb (ncx'.1 (hm.en _ (ncq' noE hi))).1
  refine ⟨?_,?_⟩
  ·show nfc' vs out (i:Int) b.Floors b.Debounce b.Room b.Park b.Empty b.Full b.Over b.Cars m.Phases m.Flags m.Leaving m.Entries=_
   unfold nfc'
   rw [show Entry.mk 0 0 0 0 false=noE from rfl]
   have hin:=ntr' hb hcode (m:=m) vs hv hc (i:Int) (out:=out) (by omega)
   simp only [Bldg.tup,Img.tup] at hin
   simp only [decide_eq_true (show (i:Int) < (m.Entries.length:Int) by omega),nc' (show (0:Int)≤(i:Int) by omega) (show (i:Int) < (m.Entries.length:Int) by omega),cond_true,Int.toNat_natCast,hin,Option.bind_some,wrap1 hi (show m.Entries.length≤nr' by unfold nr'; omega)]
   rfl
  ·rw [List.length_append]
   cases servB b vs (m.Entries.getD i noE).Floor (m.Entries.getD i noE).Dir <;> simp <;> omega) (fun out _=>by
  show nfc' vs out (m.Entries.length:Int) b.Floors b.Debounce b.Room b.Park b.Empty b.Full b.Over b.Cars m.Phases m.Flags m.Leaving m.Entries=_
  unfold nfc'
  simp only [decide_eq_false (Int.lt_irrefl (m.Entries.length:Int)),cond_false]) m.Entries.length 0 [] (by omega) (by simp)
 have h1':=nf' h1.1 (by omega)
 rw [noj',List.nil_append,npr' (fun e=>bif servB b vs e.Floor e.Dir then [Record.mk 2 e.Floor e.Dir 0 0] else []) noE m.Entries 0 m.Entries.length (by omega),List.drop_zero] at h1'
 unfold nlh'
 rw [ngk' hb m (by omega) (by omega),Img.ok_iff.2 hm]
 simp only [Option.bind_some,Bool.not_true,cond_false]
 rw [show ((vs.length:Int) != (b.Cars.length:Int))=false by rw [hv,bne_self_eq_false]]
 simp only [cond_false]
 simp only [Bldg.tup,Img.tup] at h1'
 rw [show njf' ((vs,(),(),([]:List Record),(0:Int),()),((b.Floors,b.Debounce,b.Room,b.Park,b.Empty,b.Full,b.Over,b.Cars,()),(m.Phases,m.Flags,m.Leaving,m.Entries,()),()))=_ from h1']
 rfl
end
end Go.Ovl
