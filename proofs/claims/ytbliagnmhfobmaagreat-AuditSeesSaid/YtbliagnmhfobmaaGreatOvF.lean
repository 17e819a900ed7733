/- The belief and the indicator by the reference (layers 5, 6, 19, 20): they answer. -/
import Derived.Test.YtbliagnmhfobmaaGreatOvE
import Derived.Test.YtbliagnmhfobmaaGreatOvD
import Derived.Test.YtbliagnmhfobmaaGreatDefs3
import Derived.Test.YtbliagnmhfobmaaGreatOvA
namespace Go.Ovl
open Go Go.Ab
set_option maxRecDepth 100000
theorem n2f' (n:Int):Sat (nmt' n) fun _=>True:=by
 unfold nmt';exact Sat.go
instance r05_ok_ti (n:Int):SatT (nmt' n):=⟨n2f' ..⟩
theorem n5z' {fl:Int} (hf:fl≤100) (bits:Int):Sat (nna' fl bits) fun _=>True:=by
 unfold nna';refine Sat.bindS (n2f' _) fun _ _=>Sat.bif (fun _=>Sat.ret trivial) fun _=>?_
 refine Sat.bindS (Q:=fun _=>True) ?_ (fun y _=>?_)
 ·refine Sat.loop (fun (k:Nat) x=>x.1.1=fl∧(0:Int)≤x.1.2.2.1∧(200:Int)≤x.1.2.2.1 + (k:Int)) (fun k x hx=>?_) 200 ⟨rfl,Int.le_refl 0,show (200:Int)≤0 + ((200:Nat):Int) by omega⟩ (by decide)
  unfold nts';obtain ⟨h0,h1,h2⟩:=hx;refine Sat.bif (fun g=>?_) (fun _=>Sat.ret trivial)
  have g:=of_decide_eq_true g;refine Sat.bifT (nje' _) (Sat.bif (fun _=>Sat.ret trivial) (fun _=>Sat.ret ⟨k - 1,by omega,h0,?_,?_⟩))
  ·show 0≤IntKind.i64.wrap (x.1.2.2.1 + 1)
   rw [nc' (by omega) (by omega)]; omega
  ·show 200≤IntKind.i64.wrap (x.1.2.2.1 + 1) + _
   rw [nc' (by omega) (by omega)]; omega
 ·cases y <;> exact Sat.ret trivial
theorem n3i' {fl:Int} (hf:fl≤100) (a:Int) (b c d e:Bool):Sat (nk5' fl a b c d e) fun _=>True:=by
 unfold nk5';refine Sat.bindS (n5z' hf _) fun _ _=>?_
 exact Sat.go
theorem nwg' (a b c d:Int):Sat (nhr' a b c d) fun _=>True:=by
 unfold nhr';exact Sat.go
instance r05_IsObs_ti (a b c d:Int):SatT (nhr' a b c d):=⟨nwg' ..⟩
theorem nrk' (a b c d:Int):Sat (nhz' a b c d) fun _=>True:=by
 unfold nhz';exact Sat.go
instance r05_Shows_ti (a b c d:Int):SatT (nhz' a b c d):=⟨nrk' ..⟩
theorem n7s' (c:Int×Int):(listC c).length≤64:=by
 have h:∀ k i:Nat,((List.range' i k).flatMap (ncf' c)).length≤2 * k:=by
  intro k
  induction k with
  | zero=>intro i; exact Nat.le_refl _
  | succ k ih=>
   intro i;rw [List.range'_succ,List.flatMap_cons,List.length_append]
   have:=ih (i + 1)
   have:=nsy' c i
   omega
 exact h 32 0
section
variable {b:Bldg} (hb:b.small) (hcode:b.code=0) {car:Nat} (hcar:car < b.A0.length)
theorem n5t' (b:Bldg) (x:Nat):Sat (nny' b.D0 b.E0 b.I0 b.Q0 b.J0 b.K0 b.P0 b.A0 x) fun _=>True:=by
 unfold nny';rw [ny'];exact Sat.go
structure Bldg.loads (b:Bldg):Prop where
 full:Sat (arF .sub .f64 b.K0 4589168020290535424) fun _=>True
 over:Sat (arF .sub .f64 b.P0 4589168020290535424) fun _=>True
theorem n8i' (hl:b.loads) (s:Int) (x:Nat):Sat (no4' b.D0 b.E0 b.I0 b.Q0 b.J0 b.K0 b.P0 b.A0 s x) fun _=>True:=by
 unfold no4';refine Sat.bindS (n5t' b x) fun _ _=>Sat.bif (fun _=>Sat.ret trivial) fun _=>?_
 refine Sat.bindS (Q:=fun y=>y.2.1=b.tup) (Sat.bif (fun _=>Sat.bif (fun _=>Sat.bindS hl.full fun _ _=>Sat.ret rfl) fun _=>Sat.ret rfl) fun _=>Sat.ret rfl) fun y3 h3=>?_
 obtain ⟨ya,yb,yc⟩:=y3;simp only at h3;subst h3;refine Sat.bif (fun _=>Sat.ret trivial) fun _=>?_
 refine Sat.bindS (Q:=fun _=>True) (Sat.bif (fun _=>Sat.bif (fun _=>Sat.bindS hl.over fun _ _=>Sat.ret trivial) fun _=>Sat.ret trivial) fun _=>Sat.ret trivial) fun _ _=>?_
 exact Sat.bif (fun _=>Sat.ret trivial) fun _=>Sat.ret trivial
include hcar in
theorem nyt' (x:Belief) (hx:x.M0.length≤1000) (s0 s1:Int):Sat (nlt' b.D0 b.E0 b.I0 b.Q0 b.J0 b.K0 b.P0 b.A0 (car:Int) x.C0 x.G0 x.Z2 x.M0 x.R2 x.Y2 s0 s1) fun y=>y.2.1.2.2.2.1.length≤1000:=by
 unfold nlt';refine Sat.bindS (Q:=fun y=>y.1.2.2.1.length≤x.M0.length) ?_ fun y hy=>?_
 ·refine Sat.loop (fun (k:Nat) z=>∃ (l:List Duty) (late:Bool) (i:Nat),z=(((car:Int),(),(),(),(),l,late,(i:Int),()),(b.tup,(x.C0,x.G0,x.Z2,x.M0,x.R2,x.Y2,()),(s0,s1,()),((0:Int),(0:Int),(0:Int),([]:List Duty),(0:Int),false,()),()))∧l.length≤i∧i + k=x.M0.length) (fun k z hz=>?_) x.M0.length ⟨[],false,0,rfl,Nat.le_refl 0,Nat.zero_add _⟩ (by omega)
  obtain ⟨l,late,i,rfl,hl,hk⟩:=hz;unfold nud';refine Sat.bif (fun g=>?_) fun _=>Sat.ret (show l.length≤_ by omega)
  have g:(i:Int) < (x.M0.length:Int):=of_decide_eq_true g;refine Sat.bifT (na' (show (0:Int)≤(i:Int) by omega) (show (i:Int) < (x.M0.length:Int) from g)) ?_
  refine Sat.bindS (Q:=fun y=>y.1.1=(car:Int)∧y.1.2.2.2.2.2.1=l∧y.1.2.2.2.2.2.2.2.1=(i:Int)∧y.2.1=b.tup∧y.2.2.1=(x.C0,x.G0,x.Z2,x.M0,x.R2,x.Y2,())∧y.2.2.2.1=(s0,s1,())∧y.2.2.2.2.1=((0:Int),(0:Int),(0:Int),([]:List Duty),(0:Int),false,())) ?_ fun y hy=>?_
  ·refine Sat.bif (fun _=>Sat.ret ⟨rfl,rfl,rfl,rfl,rfl,rfl,rfl⟩) fun _=>?_
   exact Sat.bifT (na' (show (0:Int)≤(car:Int) by omega) (show (car:Int) < (b.A0.length:Int) by omega)) (Sat.ret ⟨rfl,rfl,rfl,rfl,rfl,rfl,rfl⟩)
  ·obtain ⟨⟨y1,_,_,_,_,yl,yt,yi,_⟩,yb,ys,yc,y8,yd⟩:=y
   obtain ⟨e1,e2,e3,e4,e5,e6,e7⟩:=hy;simp only at e1 e2 e3 e4 e5 e6 e7;subst e1 e2 e3 e4 e5 e6 e7;have w:=wrapN (n:=i) (by omega)
   refine Sat.bindS (nuu' _ _ _ _) fun _ _=>Sat.bif (fun _=>?_) fun _=>?_
   ·refine Sat.bifT (nh' (show yl.length + 1≤_ by omega)) (Sat.ret ⟨k - 1,by omega,yl++[Duty.mk yd.1.1 yd.1.2.1 yd.1.2.2.1],yt,i + 1,?_,?_,by omega⟩)
    ·rw [← w]
    ·rw [List.length_append]; show yl.length + 1≤_; omega
   ·refine Sat.ret ⟨k - 1,by omega,yl,yt,i + 1,?_,by omega,by omega⟩
    rw [← w]
 ·exact Sat.bif (fun _=>Sat.ret (show ([]:List Duty).length≤1000 by decide)) fun _=>Sat.ret (show y.1.2.2.1.length≤1000 by omega)
include hb hcode hcar
theorem n1v' (x:Belief) (hx:x.M0.length≤1000) (a c d:Int):Sat (nka' b.D0 b.E0 b.I0 b.Q0 b.J0 b.K0 b.P0 b.A0 (car:Int) x.C0 x.G0 x.Z2 x.M0 x.R2 x.Y2 a c d) fun y=>y.2.1.2.2.2.1.length≤1000:=by
 have hz:([]:List Duty).length≤1000:=by decide
 unfold nka';rw [nc8' hb hcode hcar x (by omega)]
 refine Sat.bindR (Sat.bif (fun _=>Sat.ret hz) fun _=>?_)
 refine Sat.bindS (nwg' _ _ _ _) fun _ _=>Sat.bif (fun _=>Sat.ret hz) fun _=>?_
 refine Sat.bindS (nrk' _ _ _ _) fun _ _=>?_
 refine Sat.bindS (nyt' hcar x hx _ _) fun y4 h4=>?_
 refine Sat.bindS (Q:=fun y=>y.2.1.2.2.2.1.length≤1000) (Sat.bif (fun _=>Sat.ret h4) fun _=>Sat.ret h4) fun y5 h5=>?_
 refine Sat.bindS (Q:=fun y=>y.2.1.2.2.2.1.length≤1000) (Sat.bif (fun _=>Sat.bif (fun _=>Sat.ret h5) fun _=>Sat.ret h5) fun _=>Sat.ret h5) fun y6 h6=>?_
 exact Sat.bif (fun _=>Sat.ret h6) fun _=>Sat.ret h6
theorem n4v' (x:Belief) (hx:x.M0.length≤1000):Sat (nnj' b.D0 b.E0 b.I0 b.Q0 b.J0 b.K0 b.P0 b.A0 (car:Int) x.C0 x.G0 x.Z2 x.M0 x.R2 x.Y2) fun y=>y.2.1.2.2.2.1.length≤1000:=by
 have hz:([]:List Duty).length≤1000:=by decide
 unfold nnj';rw [nc8' hb hcode hcar x (by omega)]
 refine Sat.bindR (Sat.bif (fun _=>Sat.ret hz) fun _=>?_)
 exact Sat.bindS (nyt' hcar x hx _ _) fun y4 h4=>Sat.ret h4
theorem n3s' (x:Belief) (hx:x.M0.length≤1000):Sat (nid' b.D0 b.E0 b.I0 b.Q0 b.J0 b.K0 b.P0 b.A0 (car:Int) x.C0 x.G0 x.Z2 x.M0 x.R2 x.Y2) fun y=>y.2.1.2.2.2.1.length≤1000:=by
 have hz:([]:List Duty).length≤1000:=by decide
 unfold nid';rw [nc8' hb hcode hcar x (by omega)]
 exact Sat.bindR (Sat.bif (fun _=>Sat.ret hz) fun _=>Sat.ret hz)
theorem n5c' (x:Belief) (hx:x.M0.length≤1000):Sat (nnt' b.D0 b.E0 b.I0 b.Q0 b.J0 b.K0 b.P0 b.A0 (car:Int) x.C0 x.G0 x.Z2 x.M0 x.R2 x.Y2) fun _=>True:=by
 have ib:inB (car:Int) b.A0.length=true:=na' (by omega) (by omega)
 unfold nnt';rw [nc8' hb hcode hcar x (by omega)]
 exact Sat.go
theorem n4p' (x:Belief) (hx:x.M0.length≤1000) (c0 c1:Int):Sat (nl2' b.D0 b.E0 b.I0 b.Q0 b.J0 b.K0 b.P0 b.A0 (car:Int) x.C0 x.G0 x.Z2 x.M0 x.R2 x.Y2 c0 c1) fun y=>y.2.1.2.2.2.1.length≤1000:=by
 have hz:([]:List Duty).length≤1000:=by decide
 unfold nl2';rw [nc8' hb hcode hcar x (by omega)]
 refine Sat.bindR (Sat.bif (fun _=>Sat.ret hz) fun _=>?_)
 refine Sat.bindE (nne' hb hcode) ?_;refine Sat.bindE (nrt' (n4q' b)) ?_;have hlc:=n7s' (hallC b);generalize listC (hallC b)=all at hlc;refine Sat.bindS (Q:=fun y=>y.1.2.2.1.length≤1000) ?_ fun y hy=>Sat.bif (fun _=>Sat.ret hy) fun _=>Sat.ret hy
 refine Sat.loop (fun (k:Nat) z=>∃ (l:List Duty) (i:Nat),z=(((),(),(),all,l,(i:Int),()),((x.C0,x.G0,x.Z2,x.M0,x.R2,x.Y2,()),(c0,c1,()),((0:Int),(0:Int),(0:Int),([]:List Duty),(0:Int),false,()),()))∧l.length≤i∧i + k=all.length) (fun k z hz=>?_) all.length ⟨[],0,rfl,Nat.le_refl 0,Nat.zero_add _⟩ (by omega)
 obtain ⟨l,i,rfl,hl,hk⟩:=hz;unfold nr2';refine Sat.bif (fun g=>?_) fun _=>Sat.ret (show l.length≤_ by omega)
 have g:(i:Int) < (all.length:Int):=of_decide_eq_true g;have ib:inB (i:Int) all.length=true:=na' (show (0:Int)≤(i:Int) by omega) g
 refine Sat.bifT ib (Sat.bifT ib ?_);refine Sat.bindS (Q:=fun y=>y.1.2.2.2.1=all∧y.1.2.2.2.2.1=l∧y.1.2.2.2.2.2.1=(i:Int)∧y.2.1=(x.C0,x.G0,x.Z2,x.M0,x.R2,x.Y2,())∧y.2.2.1=(c0,c1,())∧y.2.2.2.1=((0:Int),(0:Int),(0:Int),([]:List Duty),(0:Int),false,())) ?_ fun y1 h1=>?_
 ·refine Sat.loop (fun (k:Nat) z=>∃ (f d age:Int) (j:Nat),z=(((),(),(),all,l,(i:Int),f,d,age,(j:Int),()),((x.C0,x.G0,x.Z2,x.M0,x.R2,x.Y2,()),(c0,c1,()),((0:Int),(0:Int),(0:Int),([]:List Duty),(0:Int),false,()),()))∧j + k=x.M0.length) (fun k z hz=>?_) x.M0.length ⟨_,_,_,0,rfl,Nat.zero_add _⟩ (by omega)
  obtain ⟨f,d,age,j,rfl,hj⟩:=hz;unfold nsd';refine Sat.bif (fun g=>?_) fun _=>Sat.ret ⟨rfl,rfl,rfl,rfl,rfl,rfl⟩
  have g:(j:Int) < (x.M0.length:Int):=of_decide_eq_true g;have ib:inB (j:Int) x.M0.length=true:=na' (show (0:Int)≤(j:Int) by omega) g
  have w:=wrapN (n:=j) (by omega)
  refine Sat.bindS (Q:=fun y=>∃ q:Bool,y=(((),(),(),all,l,(i:Int),f,d,age,(j:Int),q,()),((x.C0,x.G0,x.Z2,x.M0,x.R2,x.Y2,()),(c0,c1,()),((0:Int),(0:Int),(0:Int),([]:List Duty),(0:Int),false,()),()))) ?_ fun y hy=>?_
  ·exact Sat.bifT ib (Sat.bif (fun _=>Sat.bifT ib (Sat.ret ⟨_,rfl⟩)) fun _=>Sat.ret ⟨_,rfl⟩)
  ·obtain ⟨q,rfl⟩:=hy
   refine Sat.bif (fun _=>Sat.bifT ib (Sat.ret ⟨k - 1,by omega,f,d,(x.M0.getD j (Duty.mk 0 0 0)).H5,j + 1,?_,by omega⟩)) fun _=>Sat.ret ⟨k - 1,by omega,f,d,age,j + 1,?_,by omega⟩
   ·rw [← w]; rfl
   ·rw [← w]
 ·obtain ⟨⟨_,_,_,ya,yl,yi,yf,yd,yage,_⟩,ys,yc,y8,_⟩:=y1
  obtain ⟨e1,e2,e3,e4,e5,e6⟩:=h1;simp only at e1 e2 e3 e4 e5 e6;subst e1 e2 e3 e4 e5 e6;have w:=wrapN (n:=i) (by omega)
  refine Sat.bindS (Q:=fun y=>∃ age:Int,y=(((),(),(),ya,yl,(i:Int),yf,yd,age,()),((x.C0,x.G0,x.Z2,x.M0,x.R2,x.Y2,()),(c0,c1,()),((0:Int),(0:Int),(0:Int),([]:List Duty),(0:Int),false,()),()))) ?_ fun y hy=>?_
  ·refine Sat.bindS (Q:=fun y=>∃ q:Bool,y=(((),(),(),ya,yl,(i:Int),yf,yd,yage,q,()),((x.C0,x.G0,x.Z2,x.M0,x.R2,x.Y2,()),(c0,c1,()),((0:Int),(0:Int),(0:Int),([]:List Duty),(0:Int),false,()),()))) ?_ fun y hy=>?_
   ·exact Sat.bif (fun _=>Sat.bindS (nuu' _ _ _ _) fun _ _=>Sat.ret ⟨_,rfl⟩) fun _=>Sat.ret ⟨_,rfl⟩
   ·obtain ⟨q,rfl⟩:=hy
    exact Sat.bif (fun _=>Sat.ret ⟨_,rfl⟩) fun _=>Sat.ret ⟨_,rfl⟩
  ·obtain ⟨age,rfl⟩:=hy
   refine Sat.bif (fun _=>?_) fun _=>Sat.ret ⟨k - 1,by omega,yl,i + 1,?_,by omega,by omega⟩
   ·refine Sat.bifT (nh' (show yl.length + 1≤_ by omega)) (Sat.ret ⟨k - 1,by omega,yl++[Duty.mk yf yd age],i + 1,?_,?_,by omega⟩)
    ·rw [← w]
    ·rw [List.length_append]; show yl.length + 1≤_; omega
   ·rw [← w]
theorem n5b' (p:Int) (x:Belief) (hx:x.M0.length≤1000):Sat (nnz' b.D0 b.E0 b.I0 b.Q0 b.J0 b.K0 b.P0 b.A0 (car:Int) p x.C0 x.G0 x.Z2 x.M0 x.R2 x.Y2) fun _=>True:=by
 unfold nnz';rw [nc8' hb hcode hcar x (by omega)]
 refine Sat.bindS (Q:=fun y=>∃ q:Bool,y=(((car:Int),(),(),(),q,()),(b.tup,(x.C0,x.G0,x.Z2,x.M0,x.R2,x.Y2,()),((0:Int),(0:Int),false,()),()))) ?_ fun y hy=>?_
 ·exact Sat.bif (fun _=>Sat.bif (fun _=>Sat.ret ⟨_,rfl⟩) fun _=>Sat.bindR (Sat.ret ⟨_,rfl⟩)) fun _=>Sat.bindR (Sat.ret ⟨_,rfl⟩)
 obtain ⟨q,rfl⟩:=hy;refine Sat.bif (fun _=>Sat.ret trivial) fun _=>Sat.bindS (Q:=fun _=>True) ?_ fun _ _=>Sat.ret trivial
 refine Sat.loop (fun (k:Nat) z=>∃ (u v:Int) (w:Bool) (i:Nat),z=(((car:Int),(),(),(),(),(i:Int),()),(b.tup,(x.C0,x.G0,x.Z2,x.M0,x.R2,x.Y2,()),((0:Int),(0:Int),false,()),(u,v,w,()),()))∧i + k=x.M0.length) (fun k z hz=>?_) x.M0.length ⟨_,_,_,0,rfl,Nat.zero_add _⟩ (by omega)
 obtain ⟨u,v,cw,i,rfl,hk⟩:=hz;unfold ntk';refine Sat.bif (fun g=>?_) fun _=>Sat.ret trivial
 have g:(i:Int) < (x.M0.length:Int):=of_decide_eq_true g;have ib:inB (i:Int) x.M0.length=true:=na' (show (0:Int)≤(i:Int) by omega) g
 have ic:inB (car:Int) b.A0.length=true:=na' (by omega) (by omega)
 have w:=wrapN (n:=i) (by omega)
 refine Sat.bifT ib (Sat.bifT ic (Sat.bif (fun _=>Sat.bifT ib (Sat.bifT ib ?_)) fun _=>Sat.ret ⟨k - 1,by omega,u,v,cw,i + 1,?_,by omega⟩))
 ·refine Sat.bindE (niv' _ _) (Sat.bindE (nev' (u,v) _) (Sat.ret ⟨k - 1,by omega,(n1' (u,v) (oneC (x.M0.getD i (Duty.mk 0 0 0)).C0 (x.M0.getD i (Duty.mk 0 0 0)).G0)).1,(n1' (u,v) (oneC (x.M0.getD i (Duty.mk 0 0 0)).C0 (x.M0.getD i (Duty.mk 0 0 0)).G0)).2,cw,i + 1,?_,by omega⟩))
  rw [← w]; rfl
 ·rw [← w]
end
def chkTz (s:Nat):Option ((Int×Unit)×Unit)→Bool
 | some ((k,_),_)=>Nat.beq s 0||(decide (0≤k)&&(decide (k < 8)&&(s.testBit k.toNat&&(List.range 8).all fun i=>Nat.ble k.toNat i||!s.testBit i)))
 | none=>false
def nbhy' (s:Nat):Option ((Int×Unit)×Unit)→Bool
 | some ((k,_),_)=>Nat.beq s 0||(decide (1≤k)&&(decide (k≤8)&&(s.testBit (k.toNat - 1)&&(List.range 8).all fun i=>Nat.blt i k.toNat||!s.testBit i)))
 | none=>false
def ones8 (s:Nat):Nat:=(List.range 8).foldl (fun n i=>n + (s.testBit i).toNat) 0
def nbhr' (s:Nat):Option ((Int×Unit)×Unit)→Bool
 | some ((k,_),_)=>k==(ones8 s:Int)
 | none=>false
def allM (fl:Nat):Int:=IntKind.u32.wrap (IntKind.u32.wrap (1 * 2 ^ min fl (IntKind.bits .u32)) - 1)
theorem nbde':((List.range 9).all fun fl=>(List.range 32).all fun i=>(bitF (allM fl) i==decide (i < fl))&&((bitF (Int.fdiv (allM fl) (2 ^ min (Int.toNat 1) (IntKind.bits .u32))) i==decide (i + 1 < fl))&&(bitF (IntKind.u32.wrap (stk (allM fl) 1 (BitVec.toNat (BitVec.ofInt (IntKind.bits .u32) (allM fl) &&& ~~~ BitVec.ofInt (IntKind.bits .u32) 1)))) i==(decide (0 < i)&&decide (i < fl)))))=true:=by kernel_rfl
theorem nbhl' {fl:Nat} (h:fl≤8) {i:Nat} (hi:i < 32):bitF (allM fl) i=decide (i < fl)∧bitF (Int.fdiv (allM fl) (2 ^ min (Int.toNat 1) (IntKind.bits .u32))) i=decide (i + 1 < fl) ∧
  bitF (IntKind.u32.wrap (stk (allM fl) 1 (BitVec.toNat (BitVec.ofInt (IntKind.bits .u32) (allM fl) &&& ~~~ BitVec.ofInt (IntKind.bits .u32) 1)))) i=(decide (0 < i)&&decide (i < fl)):=by
 have:=List.all_eq_true.1 (List.all_eq_true.1 nbde' fl (List.mem_range.2 (by omega))) i (List.mem_range.2 hi)
 simpa only [Bool.and_eq_true,beq_iff_eq] using this
def u32r (n:Int):Prop:=0≤n∧n < 4294967296
theorem nben' {b:BitVec 32} {fl:Nat} (hfl:fl≤8) (h:∀ i,i < 32→b.getLsbD i=true→i < fl):b.toNat < 256:=by
 have:b.toNat < 2 ^ 8:=by
  refine Nat.lt_pow_two_of_testBit _ fun i hi=>?_
  by_cases h32:i < 32
  ·cases hb:b.toNat.testBit i with
   | false=>rfl
   | true=>have:=h i h32 (by rw [BitVec.getLsbD]; exact hb); omega
  ·rw [← BitVec.getLsbD]; exact BitVec.getLsbD_of_ge _ _ (by omega)
 simpa using this
structure Cnt (fl:Nat) (car up down:Int) (a u d:Nat):Prop where
 la:a < 256
 lu:u < 256
 ld:d < 256
 ab:∀ i,i < fl→a.testBit i=bitF car i
 ub:∀ i,i < fl→u.testBit i=(decide (i + 1 < fl)&&bitF up i)
 db:∀ i,i < fl→d.testBit i=(decide (0 < i)&&bitF down i)
 hi:∀ i,fl≤i→a.testBit i=false∧u.testBit i=false∧d.testBit i=false
theorem nu4' {f:Int} (h:u32r f) {i:Nat} (hi:i < 32) :
  (IntKind.u32.wrap (stk (Int.fdiv f (2 ^ min i (IntKind.bits .u32))) 1 (BitVec.toNat (BitVec.ofInt (IntKind.bits .u32) (Int.fdiv f (2 ^ min i (IntKind.bits .u32))) &&& BitVec.ofInt (IntKind.bits .u32) 1)))==1)=bitF f i:=by
 rw [noi']; exact nww' h hi
theorem nwd' {fl:Nat} (h2:2≤fl) (hfl:fl≤8) {car up down:Int} (hc:u32r car) (hu:u32r up) (hd:u32r down) {a u d:Nat} (c:Cnt fl car up down a u d) {f:Nat} (hf:f < fl) :
  nda' fl car up down f 0=some ((a.testBit f,()),())∧nda' fl car up down f 1=some ((u.testBit f,()),())∧nda' fl car up down f 2=some ((d.testBit f,()),()):=by
 have w:IntKind.u64.wrap (f:Int)=(f:Int):=ncd' (by omega) (by omega)
 have e0:decide ((0:Int)≤(f:Int))=true:=by simp
 have tn:Int.toNat (f:Int)=f:=by omega
 have w1:IntKind.i64.wrap ((fl:Int) - 1)=(fl:Int) - 1:=nc' (by omega) (by omega)
 refine ⟨?_,?_,?_⟩
 ·unfold nda'
  rw [show ((0:Int)==1)=false from rfl,show ((0:Int)==2)=false from rfl]
  simp only [cond_false,w,e0,tn,cond_true,nu4' hc (show f < 32 by omega),c.ab f hf]
 ·unfold nda'
  rw [show ((1:Int)==1)=true from rfl]
  simp only [cond_true,w,w1,e0,tn,nu4' hu (show f < 32 by omega),c.ub f hf]
  by_cases h:f + 1 < fl
  ·rw [show decide ((f:Int) < (fl:Int) - 1)=true from decide_eq_true (by omega),show decide (f + 1 < fl)=true from decide_eq_true h]
   simp
  ·rw [show decide ((f:Int) < (fl:Int) - 1)=false from decide_eq_false (by omega),show decide (f + 1 < fl)=false from decide_eq_false h]
   simp
 ·unfold nda'
  rw [show ((2:Int)==1)=false from rfl,show ((2:Int)==2)=true from rfl]
  simp only [cond_true,cond_false,w,e0,tn,nu4' hd (show f < 32 by omega),c.db f hf]
  by_cases h:0 < f
  ·rw [show decide ((0:Int) < (f:Int))=true from decide_eq_true (by omega),show decide (0 < f)=true from decide_eq_true h]
   simp
  ·rw [show decide ((0:Int) < (f:Int))=false from decide_eq_false (by omega),show decide (0 < f)=false from decide_eq_false h]
   simp
def nfq' (p:Bool) (i:Int) (x:Int×Int):Int×Int:=bif p then (bif decide (x.1 < i) then i else x.1,bif decide (i < x.2) then i else x.2) else x
def hlF (p:Nat→Bool):Nat→Nat→Int×Int→Int×Int
 | 0,_,x=>x
 | m + 1,i,x=>hlF p m (i + 1) (nfq' (p i) i x)
theorem n5l' (p:Bool) (i:Int) (x:Int×Int):((nfq' p i x).1=x.1∨(p=true∧(nfq' p i x).1=i))∧((nfq' p i x).2=x.2∨(p=true∧(nfq' p i x).2=i))∧x.1≤(nfq' p i x).1∧(nfq' p i x).2≤x.2∧(p=true→i≤(nfq' p i x).1∧(nfq' p i x).2≤i):=by
 unfold nfq';cases p with
 | false=>simp
 | true=>
  simp only [cond_true];by_cases h1:x.1 < i <;> by_cases h2:i < x.2 <;> simp [h1,h2] <;> omega
theorem n3b' (p:Nat→Bool):∀ (m i:Nat) (x:Int×Int),
  ((hlF p m i x).1=x.1∨∃ j,i≤j∧j < i + m∧p j=true∧(hlF p m i x).1=(j:Int))∧((hlF p m i x).2=x.2∨∃ j,i≤j∧j < i + m∧p j=true∧(hlF p m i x).2=(j:Int)) ∧
  x.1≤(hlF p m i x).1∧(hlF p m i x).2≤x.2∧∀ j,i≤j→j < i + m→p j=true→(j:Int)≤(hlF p m i x).1∧(hlF p m i x).2≤(j:Int)
 | 0,i,x=>⟨.inl rfl,.inl rfl,Int.le_refl _,Int.le_refl _,fun j h1 h2=>by omega⟩
 | m + 1,i,x=>by
  obtain ⟨s1,s2,s3,s4,s5⟩:=n5l' (p i) i x;obtain ⟨t1,t2,t3,t4,t5⟩:=n3b' p m (i + 1) (nfq' (p i) i x);show ((hlF p m (i + 1) (nfq' (p i) i x)).1=x.1∨_)∧_;refine ⟨?_,?_,Int.le_trans s3 t3,Int.le_trans t4 s4,fun j h1 h2 h3=>?_⟩
  ·rcases t1 with t1 | ⟨j,j1,j2,j3,j4⟩
   ·rcases s1 with s1 | ⟨s1,s1'⟩
    ·exact .inl (t1.trans s1)
    ·exact .inr ⟨i,Nat.le_refl _,by omega,s1,t1.trans s1'⟩
   ·exact .inr ⟨j,by omega,by omega,j3,j4⟩
  ·rcases t2 with t1 | ⟨j,j1,j2,j3,j4⟩
   ·rcases s2 with s1 | ⟨s1,s1'⟩
    ·exact .inl (t1.trans s1)
    ·exact .inr ⟨i,Nat.le_refl _,by omega,s1,t1.trans s1'⟩
   ·exact .inr ⟨j,by omega,by omega,j3,j4⟩
  ·by_cases e:j=i
   ·subst e
    have:=s5 h3
    exact ⟨Int.le_trans this.1 t3,Int.le_trans t4 this.2⟩
   ·exact t5 j (by omega) (by omega) h3
theorem nbfw' {fl:Nat} (h2:2≤fl) (hfl:fl≤8) {car up down:Int} (hc:u32r car) (hu:u32r up) (hd:u32r down) {a u d:Nat} (c:Cnt fl car up down a u d) (from_ sweep floor dir:Int) (x:Int×Int) :
  nmj' (((fl:Int),from_,sweep,floor,dir,(),x.1,x.2,(0:Int),()),((car,up,down,()),()))=some ((from_,sweep,floor,dir,(hlF (fun i=>a.testBit i||(u.testBit i||d.testBit i)) fl 0 x).1,(hlF (fun i=>a.testBit i||(u.testBit i||d.testBit i)) fl 0 x).2,()),()):=by
 have key:∀ (m i:Nat) (x:Int×Int),i + m=fl→iter (fun x=>letI a:=x.1.2.2.2; neu' x.1.1 x.1.2.1 x.1.2.2.1 a.1 a.2.1 a.2.2.2.1 a.2.2.2.2.1 a.2.2.2.2.2.1 x.2.1.1 x.2.1.2.1 x.2.1.2.2.1) (m + 1) (((fl:Int),from_,sweep,floor,dir,(),x.1,x.2,(i:Int),()),((car,up,down,()),()))=some ((from_,sweep,floor,dir,(hlF (fun i=>a.testBit i||(u.testBit i||d.testBit i)) m i x).1,(hlF (fun i=>a.testBit i||(u.testBit i||d.testBit i)) m i x).2,()),()):=by
  intro m
  induction m with
  | zero=>
   intro i x hi';refine no' ?_;show neu' (fl:Int) from_ sweep floor dir x.1 x.2 (i:Int) car up down=_;unfold neu';have e:decide ((i:Int) < (fl:Int))=false:=by simp; omega
   rw [e]; rfl
  | succ m ih=>
   intro i x hi';obtain ⟨k0,k1,k2⟩:=nwd' h2 hfl hc hu hd c (show i < fl by omega)
   have e:decide ((i:Int) < (fl:Int))=true:=by simp; omega
   have w:IntKind.i64.wrap ((i:Int) + 1)=((i + 1:Nat):Int):=by rw [nc' (by omega) (by omega)]; omega
   refine (nv' (x':=(((fl:Int),from_,sweep,floor,dir,(),(nfq' (a.testBit i||(u.testBit i||d.testBit i)) i x).1,(nfq' (a.testBit i||(u.testBit i||d.testBit i)) i x).2,((i + 1:Nat):Int),()),((car,up,down,()),()))) ?_).trans (ih (i + 1) _ (by omega))
   show neu' (fl:Int) from_ sweep floor dir x.1 x.2 (i:Int) car up down=_;unfold neu';simp only [e,cond_true,k0,k1,k2,Option.bind_some];cases a.testBit i with
   | true=>simp only [cond_true,Option.bind_some,w,Bool.true_or]; rfl
   | false=>
    cases u.testBit i with
    | true=>simp only [cond_true,cond_false,Option.bind_some,w,Bool.true_or,Bool.false_or]; rfl
    | false=>
     cases d.testBit i with
     | true=>simp only [cond_true,cond_false,Option.bind_some,w,Bool.false_or]; rfl
     | false=>simp only [cond_false,Option.bind_some,w,Bool.false_or]; rfl
 exact ng' (key fl 0 x (by omega)) (by omega)
theorem nbhw' {fl:Nat} {p:Nat→Bool} {S:Nat} {from_ floor:Nat} (_hfr:from_ < fl) (_hfo:floor < fl) (hS:∀ i,S.testBit i=(decide (i < fl)&&p i||(decide (i=from_)||decide (i=floor))))
  {hi lo:Nat} (h1:S.testBit hi=true) (h2:∀ i,hi < i→S.testBit i=false) (l1:S.testBit lo=true) (l2:∀ i,i < lo→S.testBit i=false) :
  hlF p fl 0 (bif decide ((from_:Int) < floor) then (floor:Int) else from_,bif decide ((floor:Int) < from_) then (floor:Int) else from_)=((hi:Int),(lo:Int)):=by
 obtain ⟨s1,s2,s3,s4,s5⟩:=n3b' p fl 0 (bif decide ((from_:Int) < floor) then (floor:Int) else from_,bif decide ((floor:Int) < from_) then (floor:Int) else from_);generalize hlF p fl 0 (bif decide ((from_:Int) < floor) then (floor:Int) else from_,bif decide ((floor:Int) < from_) then (floor:Int) else from_)=r at *
 have bmax:(bif decide ((from_:Int) < floor) then (floor:Int) else from_)=((max from_ floor:Nat):Int):=by
  by_cases h:(from_:Int) < floor
  ·rw [decide_eq_true h]; simp only [cond_true]; omega
  ·rw [decide_eq_false h]; simp only [cond_false]; omega
 have bmin:(bif decide ((floor:Int) < from_) then (floor:Int) else from_)=((min from_ floor:Nat):Int):=by
  by_cases h:(floor:Int) < from_
  ·rw [decide_eq_true h]; simp only [cond_true]; omega
  ·rw [decide_eq_false h]; simp only [cond_false]; omega
 simp only [bmax,bmin] at s1 s2 s3 s4;have mem:∀ i,i < fl→p i=true→S.testBit i=true:=fun i h hp=>by rw [hS,decide_eq_true h,hp]; rfl
 have mfr:S.testBit from_=true:=by rw [hS]; simp
 have mfo:S.testBit floor=true:=by rw [hS]; simp
 have up:∀ i,S.testBit i=true→i≤hi:=fun i h=>by
  rcases Nat.lt_or_ge hi i with h' | h'
  ·rw [h2 i h'] at h; cases h
  ·exact h'
 have dn:∀ i,S.testBit i=true→lo≤i:=fun i h=>by
  rcases Nat.lt_or_ge i lo with h' | h'
  ·rw [l2 i h'] at h; cases h
  ·exact h'
 have inS:∀ i,S.testBit i=true→(i < fl∧p i=true)∨i=from_∨i=floor:=fun i h=>by
  rw [hS] at h;simp only [Bool.or_eq_true,Bool.and_eq_true,decide_eq_true_eq] at h;exact h
 have u1:=up _ mfr;have u2:=up _ mfo;have d1:=dn _ mfr;have d2:=dn _ mfo
 have r1:r.1≤(hi:Int):=by
  rcases s1 with s1 | ⟨j,_,j2,j3,j4⟩
  ·omega
  ·have:=up j (mem j (by omega) j3); omega
 have r2:(lo:Int)≤r.2:=by
  rcases s2 with s1 | ⟨j,_,j2,j3,j4⟩
  ·omega
  ·have:=dn j (mem j (by omega) j3); omega
 clear s1 s2
 have q1:(hi:Int)≤r.1:=by
  rcases inS hi h1 with ⟨g1,g2⟩ | g | g
  ·exact (s5 hi (Nat.zero_le _) (by omega) g2).1
  ·omega
  ·omega
 have q2:r.2≤(lo:Int):=by
  rcases inS lo l1 with ⟨g1,g2⟩ | g | g
  ·exact (s5 lo (Nat.zero_le _) (by omega) g2).2
  ·omega
  ·omega
 exact Prod.ext (Int.le_antisymm r1 q1) (Int.le_antisymm q2 r2)
def distF (f at_:Int):Int:=bif decide (f - at_ < at_ - f) then at_ - f else f - at_
def wayF:List Int→Int→Int→Int
 | [],n,_=>n
 | f :: t,n,at_=>wayF t (n + distF f at_) f
def n6n' (fl floor dir:Int):Bool:=(dir==1&&(decide (0≤floor)&&decide (floor < fl - 1)))||(dir==2&&(decide (0 < floor)&&decide (floor < fl)))
theorem refG {fl:Int} (h:0≤fl∧fl < 100) (from_ sweep floor dir car up down:Int):(bif (dir==(1:Int)) then bif (decide ((0:Int)≤floor)) then bif (decide (floor < (Go.IntKind.wrap Go.IntKind.i64 (fl - (1:Int))))) then some ((fl,from_,sweep,floor,dir,(),false,()),((car,up,down,()),())) else bif (dir==(2:Int)) then bif (decide ((0:Int) < floor)) then some ((fl,from_,sweep,floor,dir,(),(!(decide (floor < fl))),()),((car,up,down,()),())) else some ((fl,from_,sweep,floor,dir,(),true,()),((car,up,down,()),())) else some ((fl,from_,sweep,floor,dir,(),true,()),((car,up,down,()),())) else bif (dir==(2:Int)) then bif (decide ((0:Int) < floor)) then some ((fl,from_,sweep,floor,dir,(),(!(decide (floor < fl))),()),((car,up,down,()),())) else some ((fl,from_,sweep,floor,dir,(),true,()),((car,up,down,()),())) else some ((fl,from_,sweep,floor,dir,(),true,()),((car,up,down,()),())) else bif (dir==(2:Int)) then bif (decide ((0:Int) < floor)) then some ((fl,from_,sweep,floor,dir,(),(!(decide (floor < fl))),()),((car,up,down,()),())) else some ((fl,from_,sweep,floor,dir,(),true,()),((car,up,down,()),())) else some ((fl,from_,sweep,floor,dir,(),true,()),((car,up,down,()),())))=some ((fl,from_,sweep,floor,dir,(),!n6n' fl floor dir,()),((car,up,down,()),())):=by
 have w:IntKind.i64.wrap (fl - 1)=fl - 1:=nc' (by omega) (by omega)
 unfold n6n';rw [w];cases dir==1 <;> cases decide (0≤floor) <;> cases decide (floor < fl - 1) <;> cases dir==2 <;> cases decide (0 < floor) <;> cases decide (floor < fl) <;> rfl
def pathV (sw di fr fo lo hi:Int):Int:=
 bif sw==0 then (bif decide (fr - fo < fo - fr) then fo - fr else fr - fo)
 else bif sw==1 then (bif di==1 then (bif decide (fr≤fo) then fo - fr else hi - fr + hi - lo + fo - lo) else hi - fr + hi - fo)
 else (bif di==2 then (bif decide (fo≤fr) then fr - fo else fr - lo + hi - lo + hi - fo) else fr - lo + fo - lo)
theorem nbhu' {fl:Nat} (hfl:fl≤8) {car up down:Int} {a u d:Nat} (c:Cnt fl car up down a u d) {fr fo:Nat} (hr:fr < fl) (ho:fo < fl) :
  ∃ S:Nat,S < 256∧S ≠ 0∧(∀ i,S.testBit i=(decide (i < fl)&&(a.testBit i||(u.testBit i||d.testBit i))||(decide (i=fr)||decide (i=fo)))) ∧
   vb ((((bv a ||| bv u) ||| bv d) ||| BitVec.twoPow 32 fr) ||| BitVec.twoPow 32 fo)=(S:Int):=by
 have hb:∀ (x:Nat),x < 256→∀ i,(bv (x:Int)).getLsbD i=x.testBit i:=fun x hx i=>by
  show bitF (x:Int) i=_;rw [nbcl' ⟨by omega,by omega⟩]; simp
 have hS:∀ i,((((bv a ||| bv u) ||| bv d) ||| BitVec.twoPow 32 fr) ||| BitVec.twoPow 32 fo).getLsbD i=(decide (i < fl)&&(a.testBit i||(u.testBit i||d.testBit i))||(decide (i=fr)||decide (i=fo))):=by
  intro i;simp only [BitVec.getLsbD_or,hb a c.la,hb u c.lu,hb d c.ld,BitVec.getLsbD_twoPow];have e1:(decide (fr < 32)&&decide (fr=i))=decide (i=fr):=by rw [decide_eq_true (show fr < 32 by omega),Bool.true_and]; exact decide_eq_decide.2 eq_comm
  have e2:(decide (fo < 32)&&decide (fo=i))=decide (i=fo):=by rw [decide_eq_true (show fo < 32 by omega),Bool.true_and]; exact decide_eq_decide.2 eq_comm
  rw [e1,e2];by_cases hi:i < fl
  ·rw [decide_eq_true hi,Bool.true_and]
   cases a.testBit i <;> cases u.testBit i <;> cases d.testBit i <;> cases decide (i=fr) <;> cases decide (i=fo) <;> rfl
  ·obtain ⟨q1,q2,q3⟩:=c.hi i (by omega)
   rw [q1,q2,q3,decide_eq_false hi]; rfl
 refine ⟨((((bv a ||| bv u) ||| bv d) ||| BitVec.twoPow 32 fr) ||| BitVec.twoPow 32 fo).toNat,nben' hfl fun i _ h=>?_,fun h0=>?_,hS,rfl⟩
 ·rw [hS] at h
  simp only [Bool.or_eq_true,Bool.and_eq_true,decide_eq_true_eq] at h;rcases h with ⟨h,_⟩ | rfl | rfl
  ·exact h
  ·exact hr
  ·exact ho
 ·have:=hS fr
  rw [BitVec.getLsbD,h0] at this;simp at this
theorem nbhq' {f g:Int} (h:g≤f):distF f g=f - g:=by
 unfold distF;rw [decide_eq_false (by omega)]; rfl
theorem nbhn' {f g:Int} (h:f≤g):distF f g=g - f:=by
 unfold distF;by_cases e:f - g < g - f
 ·rw [decide_eq_true e]; rfl
 ·rw [decide_eq_false e]; simp only [cond_false]; omega
def sBt (s:Nat):Nat→Nat→Nat
 | 0,_=>0
 | m + 1,i=>(s.testBit i).toNat + sBt s m (i + 1)
theorem sB_le (s:Nat):∀ m i,sBt s m i≤m
 | 0,_=>Nat.le_refl _
 | m + 1,i=>by
  have:=sB_le s m (i + 1)
  have h:(s.testBit i).toNat≤1:=by cases s.testBit i <;> decide
  show _ + _≤_;omega
theorem nbg2':((List.range 256).all fun s=>(List.range 9).all fun fl=>Nat.beq (sBt s fl 0) (ones8 s)||(List.range 8).any fun i=>Nat.ble fl i&&s.testBit i)=true:=by kernel_rfl
theorem nbhp' {s fl:Nat} (h:s < 256) (hfl:fl≤8) (hz:∀ i,fl≤i→s.testBit i=false):sBt s fl 0=ones8 s:=by
 have:=List.all_eq_true.1 (List.all_eq_true.1 nbg2' s (List.mem_range.2 h)) fl (List.mem_range.2 (by omega))
 rw [Bool.or_eq_true] at this;rcases this with h | h
 ·exact Nat.eq_of_beq_eq_true h
 ·obtain ⟨i,_,hi⟩:=List.any_eq_true.1 h
  rw [Bool.and_eq_true] at hi;rw [hz i (Nat.le_of_ble_eq_true hi.1)] at hi;cases hi.2
theorem n2t' {fl:Nat} (h2:2≤fl) (hfl:fl≤8) {car up down:Int} (hc:u32r car) (hu:u32r up) (hd:u32r down) {a u d:Nat} (c:Cnt fl car up down a u d) {f:Nat} (hf:f < fl) {n:Nat} (hn:n < 100) :
  njx' (((fl:Int),(),(n:Int),(f:Int),(0:Int),()),((car,up,down,()),()))=some (((fl:Int),(),(((n + (a.testBit f).toNat + (u.testBit f).toNat + (d.testBit f).toNat:Nat)):Int),(f:Int),()),((car,up,down,()),())):=by
 obtain ⟨k0,k1,k2⟩:=nwd' h2 hfl hc hu hd c hf;have w:∀ k:Nat,k < 200→IntKind.i64.wrap ((k:Int) + 1)=((k + 1:Nat):Int):=fun k hk=>by rw [nc' (by omega) (by omega)]; omega
 have st:∀ (p:Bool) (k:Nat),k < 200→(bif p then IntKind.i64.wrap ((k:Int) + 1) else (k:Int))=((k + p.toNat:Nat):Int):=fun p k hk=>by
  cases p
  ·rfl
  ·exact w k hk
 have r:∀ (k:Nat) (p:Bool) (j:Int),j < 3→∀ j',IntKind.i64.wrap (j + 1)=j'→k < 200→nda' fl car up down f j=some ((p,()),())→ne2' fl k f j car up down=some (.inl (((fl:Int),(),((k + p.toNat:Nat):Int),(f:Int),j',()),((car,up,down,()),()))):=fun k p j hj j' hw hk h=>by
  unfold ne2';rw [decide_eq_true hj,h,hw,← st p k hk];cases p <;> rfl
 refine ng' (f:=4) ?_ (by omega)
 refine (nv' (r n _ 0 (by omega) 1 (by decide) (by omega) k0)).trans ?_
 have a1:(a.testBit f).toNat≤1:=by cases a.testBit f <;> decide
 have a2:(u.testBit f).toNat≤1:=by cases u.testBit f <;> decide
 refine (nv' (r _ _ 1 (by omega) 2 (by decide) (by omega) k1)).trans ?_
 refine (nv' (r _ _ 2 (by omega) 3 (by decide) (by omega) k2)).trans ?_
 refine no' ?_;show ne2' (fl:Int) _ (f:Int) 3 car up down=_;unfold ne2';rfl
theorem nzv' {fl:Nat} (h2:2≤fl) (hfl:fl≤8) {car up down:Int} (hc:u32r car) (hu:u32r up) (hd:u32r down) {a u d:Nat} (c:Cnt fl car up down a u d) :
  ∀ (m i n:Nat),i + m=fl→n + 3 * m < 100→iter (fun x=>nd7' x.1.1 x.1.2.2.1 x.1.2.2.2.1 x.2.1.1 x.2.1.2.1 x.2.1.2.2.1) (m + 1) (((fl:Int),(),(n:Int),(i:Int),()),((car,up,down,()),()))=some ((((n + sBt a m i + sBt u m i + sBt d m i:Nat):Int),()),())
 | 0,i,n,hi,hn=>by
  refine no' ?_;show nd7' (fl:Int) n i car up down=_;unfold nd7';have e:decide ((i:Int) < (fl:Int))=false:=by simp; omega
  rw [e]; rfl
 | m + 1,i,n,hi,hn=>by
  have e:decide ((i:Int) < (fl:Int))=true:=by simp; omega
  have w:IntKind.i64.wrap ((i:Int) + 1)=((i + 1:Nat):Int):=by rw [nc' (by omega) (by omega)]; omega
  have a1:(a.testBit i).toNat≤1:=by cases a.testBit i <;> decide
  have a2:(u.testBit i).toNat≤1:=by cases u.testBit i <;> decide
  have a3:(d.testBit i).toNat≤1:=by cases d.testBit i <;> decide
  refine (nv' (x':=(((fl:Int),(),((n + (a.testBit i).toNat + (u.testBit i).toNat + (d.testBit i).toNat:Nat):Int),((i + 1:Nat):Int),()),((car,up,down,()),()))) ?_).trans ?_
  ·show nd7' (fl:Int) n i car up down=_
   unfold nd7';rw [e,n2t' h2 hfl hc hu hd c (show i < fl by omega) (show n < 100 by omega)]
   simp only [cond_true,Option.bind_some,w]
  ·rw [nzv' h2 hfl hc hu hd c m (i + 1) _ (by omega) (by omega)]
   have:n + (a.testBit i).toNat + (u.testBit i).toNat + (d.testBit i).toNat + sBt a m (i + 1) + sBt u m (i + 1) + sBt d m (i + 1)=n + sBt a (m + 1) i + sBt u (m + 1) i + sBt d (m + 1) i:=by
    simp only [sBt]; omega
   rw [this]
theorem nqa' (a b c d e f:Int):Sat (nda' a b c d e f) fun _=>True:=by
 unfold nda';exact Sat.go
instance r21_is_ti (a b c d e f:Int):SatT (nda' a b c d e f):=⟨nqa' ..⟩
theorem n8w' {fl:Int} (hf:fl≤100) (a b c d e f g:Int):Sat (nph' fl a b c d e f g) fun _=>True:=by
 unfold nph';refine Sat.bif (fun _=>Sat.ret trivial) fun _=>Sat.bif (fun _=>Sat.ret trivial) fun _=>Sat.bif (fun _=>Sat.ret trivial) fun _=>Sat.bif (fun _=>Sat.ret trivial) fun _=>Sat.bif (fun _=>Sat.ret trivial) fun _=>Sat.bif (fun _=>Sat.ret trivial) fun _=>?_
 refine Sat.bindS (Q:=fun y=>y.1.1=fl) ?_ fun y1 h1=>Sat.bif (fun _=>Sat.ret trivial) fun _=>?_
 ·refine Sat.bif (fun _=>Sat.bif (fun _=>Sat.bif (fun _=>Sat.ret rfl) fun _=>?_) fun _=>?_) fun _=>?_
  ·exact Sat.bif (fun _=>Sat.bif (fun _=>Sat.ret rfl) fun _=>Sat.ret rfl) fun _=>Sat.ret rfl
  ·exact Sat.bif (fun _=>Sat.bif (fun _=>Sat.ret rfl) fun _=>Sat.ret rfl) fun _=>Sat.ret rfl
  ·exact Sat.bif (fun _=>Sat.bif (fun _=>Sat.ret rfl) fun _=>Sat.ret rfl) fun _=>Sat.ret rfl
 refine Sat.bindS (Q:=fun _=>True) ?_ fun y2 _=>?_
 ·refine Sat.loop (fun (k:Nat) x=>x.1.1=fl∧(0:Int)≤x.1.2.2.2.2.2.2.2.2.1∧(200:Int)≤x.1.2.2.2.2.2.2.2.2.1 + (k:Int)) (fun k x hx=>?_) 200 ⟨h1,Int.le_refl 0,show (200:Int)≤0 + ((200:Nat):Int) by omega⟩ (by decide)
  unfold neu';obtain ⟨h0,h1,h2⟩:=hx;refine Sat.bif (fun g=>?_) (fun _=>Sat.ret trivial)
  have g:=of_decide_eq_true g;refine Sat.bindS (Q:=fun y=>y.1.1=fl∧y.1.2.2.2.2.2.2.2.2.1=x.1.2.2.2.2.2.2.2.2.1) ?_ fun y hy=>?_
  ·refine Sat.bindS (nqa' _ _ _ _ _ _) fun _ _=>Sat.bif (fun _=>Sat.ret ⟨h0,rfl⟩) fun _=>?_
   refine Sat.bindS (nqa' _ _ _ _ _ _) fun _ _=>Sat.bif (fun _=>Sat.ret ⟨h0,rfl⟩) fun _=>?_
   exact Sat.bindS (nqa' _ _ _ _ _ _) fun _ _=>Sat.ret ⟨h0,rfl⟩
  ·obtain ⟨e0,e1⟩:=hy
   have w:IntKind.i64.wrap (y.1.2.2.2.2.2.2.2.2.1 + 1)=x.1.2.2.2.2.2.2.2.2.1 + 1:=by rw [e1,nc' (by omega) (by omega)]
   exact Sat.bif (fun _=>Sat.ret ⟨k - 1,by omega,e0,by show 0≤IntKind.i64.wrap (y.1.2.2.2.2.2.2.2.2.1 + 1); omega,by show 200≤IntKind.i64.wrap (y.1.2.2.2.2.2.2.2.2.1 + 1) + _; omega⟩) fun _=>Sat.ret ⟨k - 1,by omega,e0,by show 0≤IntKind.i64.wrap (y.1.2.2.2.2.2.2.2.2.1 + 1); omega,by show 200≤IntKind.i64.wrap (y.1.2.2.2.2.2.2.2.2.1 + 1) + _; omega⟩
 ·exact Sat.go
theorem n5w' {fl:Int} (hf:fl≤100) (a b c:Int):Sat (nnk' fl a b c) fun _=>True:=by
 unfold nnk';refine Sat.bif (fun _=>Sat.ret trivial) fun _=>Sat.bif (fun _=>Sat.ret trivial) fun _=>?_
 refine Sat.bindS (Q:=fun _=>True) ?_ fun _ _=>Sat.ret trivial
 refine Sat.loop (fun (k:Nat) x=>x.1.1=fl∧(0:Int)≤x.1.2.2.2.1∧(200:Int)≤x.1.2.2.2.1 + (k:Int)) (fun k x hx=>?_) 200 ⟨rfl,Int.le_refl 0,show (200:Int)≤0 + ((200:Nat):Int) by omega⟩ (by decide)
 unfold nd7';obtain ⟨h0,h1,h2⟩:=hx;refine Sat.bif (fun g=>?_) (fun _=>Sat.ret trivial)
 have g:=of_decide_eq_true g;refine Sat.bindS (Q:=fun y=>y.1.1=fl∧y.1.2.2.2.1=x.1.2.2.2.1) ?_ fun y hy=>?_
 ·refine Sat.loop (fun (k:Nat) z=>z.1.1=fl∧z.1.2.2.2.1=x.1.2.2.2.1∧(0:Int)≤z.1.2.2.2.2.1∧(3:Int)≤z.1.2.2.2.2.1 + (k:Int)) (fun k z hz=>?_) 3 ⟨h0,rfl,Int.le_refl 0,show (3:Int)≤0 + ((3:Nat):Int) by omega⟩ (by decide)
  unfold ne2';obtain ⟨z0,z1,z2,z3⟩:=hz;refine Sat.bif (fun g=>?_) (fun _=>Sat.ret ⟨z0,z1⟩)
  have g:=of_decide_eq_true g;have w:IntKind.i64.wrap (z.1.2.2.2.2.1 + 1)=z.1.2.2.2.2.1 + 1:=nc' (by omega) (by omega)
  refine Sat.bindS (nqa' _ _ _ _ _ _) fun _ _=>?_
  exact Sat.bif (fun _=>Sat.ret ⟨k - 1,by omega,z0,z1,by show 0≤IntKind.i64.wrap (z.1.2.2.2.2.1 + 1); omega,by show 3≤IntKind.i64.wrap (z.1.2.2.2.2.1 + 1) + _; omega⟩) fun _=>Sat.ret ⟨k - 1,by omega,z0,z1,by show 0≤IntKind.i64.wrap (z.1.2.2.2.2.1 + 1); omega,by show 3≤IntKind.i64.wrap (z.1.2.2.2.2.1 + 1) + _; omega⟩
 ·obtain ⟨e0,e1⟩:=hy
  have w:IntKind.i64.wrap (y.1.2.2.2.1 + 1)=x.1.2.2.2.1 + 1:=by rw [e1,nc' (by omega) (by omega)]
  exact Sat.ret ⟨k - 1,by omega,e0,by show 0≤IntKind.i64.wrap (y.1.2.2.2.1 + 1); omega,by show 200≤IntKind.i64.wrap (y.1.2.2.2.1 + 1) + _; omega⟩
theorem nzk' {b:Bldg} (hb:b.small) (car:Int) (v:View) (floor dir:Int):Sat (ndf' b.D0 b.E0 b.I0 b.Q0 b.J0 b.K0 b.P0 b.A0 car v.J2 v.E3 v.F3 v.J3 v.C0 v.G0 v.H3 v.A3 v.T2 v.X2 v.I2 v.Z1 floor dir) fun _=>True:=by
 have hz:=hb.hi;unfold ndf';rw [ny'];refine Sat.bindR (Sat.bif (fun _=>Sat.ret trivial) fun _=>Sat.bif (fun _=>Sat.ret trivial) fun g1=>Sat.bif (fun _=>Sat.ret trivial) fun g2=>?_)
 have ib:inB car b.A0.length=true:=na' (by have:=of_decide_eq_false g1; omega) (by have:=of_decide_eq_false g2; omega)
 refine Sat.bif (fun _=>Sat.ret trivial) fun _=>?_
 refine Sat.bindS (Q:=fun y=>y.1.1=car∧y.2.1=b.tup) (Sat.bif (fun _=>Sat.ret ⟨rfl,rfl⟩) fun _=>Sat.ret ⟨rfl,rfl⟩) fun y2 h2=>?_
 obtain ⟨⟨yc,ya⟩,yb,yv⟩:=y2;obtain ⟨e1,e2⟩:=h2;simp only at e1 e2;subst e1 e2;refine Sat.bindS (n8w' (fl:=b.D0) (by omega) _ _ _ _ _ _ _) fun _ _=>Sat.bif (fun _=>Sat.ret trivial) fun _=>?_
 refine Sat.bifT ib ?_;exact Sat.bindS (n5w' (fl:=b.D0) (by omega) _ _ _) fun _ _=>Sat.ret trivial
def View.none:View:=View.mk false false false false 0 0 0 0 0 0 0 0
def Car.none:Car:=Car.mk 0 0 0 0 0 0 0 0 0
structure View.ok (v:View):Prop where
 c:u32r v.X2
 u:u32r v.I2
 d:u32r v.Z1
noncomputable def estR (b:Bldg) (car:Int) (v:View) (floor dir:Int):Option ((Int×Unit)×Unit):=
 ndf' b.D0 b.E0 b.I0 b.Q0 b.J0 b.K0 b.P0 b.A0 car v.J2 v.E3 v.F3 v.J3 v.C0 v.G0 v.H3 v.A3 v.T2 v.X2 v.I2 v.Z1 floor dir
noncomputable def estV (b:Bldg) (car:Int) (v:View) (floor dir:Int):Int:=match estR b car v floor dir with | some r=>r.1.1 | none=>0
theorem n6w' {b:Bldg} (hb:b.small) {v:View} (_hv:v.ok) (car floor dir:Int):estR b car v floor dir=some ((estV b car v floor dir,()),()):=by
 obtain ⟨r,h,_⟩:=nzk' hb car v floor dir;have h':estR b car v floor dir=some r:=h;rw [show estV b car v floor dir=r.1.1 by unfold estV; rw [h']]; exact h'
def fullW (v:View):Bool:=v.H3==3||v.H3==4
theorem nrl' (v:View):niw' v.J2 v.E3 v.F3 v.J3 v.C0 v.G0 v.H3 v.A3 v.T2 v.X2 v.I2 v.Z1=some ((fullW v,()),()):=by
 unfold niw' fullW;cases v.H3==3 <;> rfl
def betB (a b:Int×Int):Bool:=decide (a.1 < b.1)||(a.1==b.1&&decide (a.2 < b.2))
theorem ntj' (a b:Int×Int):nie' a.1 a.2 b.1 b.2=some ((betB a b,()),()):=by
 unfold nie' betB;cases decide (a.1 < b.1) <;> cases a.1==b.1 <;> rfl
def nl' (vs:List View) (i:Int):View:=vs.getD i.toNat (View.mk false false false false 0 0 0 0 0 0 0 0)
def okViews (vs:List View):Prop:=∀ v ∈ vs,v.ok
theorem View.ok_none:View.ok (View.mk false false false false 0 0 0 0 0 0 0 0):=⟨⟨by decide,by decide⟩,⟨by decide,by decide⟩,⟨by decide,by decide⟩⟩
theorem okViews.at {vs:List View} (h:okViews vs) (i:Int):(nl' vs i).ok:=by
 unfold nl';rw [List.getD_eq_getElem?_getD];cases hq:vs[i.toNat]? with
 | none=>exact View.ok_none
 | some v=>exact h v (List.mem_of_getElem? hq)
noncomputable def rankV (b:Bldg) (vs:List View) (floor dir:Int) (car:Int):Int×Int:=((bif fullW (nl' vs car) then 1 else 0),estV b car (nl' vs car) floor dir)
theorem nnh' {b:Bldg} (hb:b.small) {vs:List View} (hv:okViews vs) {car:Int} (hc:0≤car∧car < vs.length) (floor dir:Int) :
  nmd' b.D0 b.E0 b.I0 b.Q0 b.J0 b.K0 b.P0 b.A0 vs car floor dir=some (((),()),(((rankV b vs floor dir car).1,(rankV b vs floor dir car).2,()),())):=by
 unfold nmd';have e:ndf' b.D0 b.E0 b.I0 b.Q0 b.J0 b.K0 b.P0 b.A0 car (nl' vs car).J2 (nl' vs car).E3 (nl' vs car).F3 (nl' vs car).J3 (nl' vs car).C0 (nl' vs car).G0 (nl' vs car).H3 (nl' vs car).A3 (nl' vs car).T2 (nl' vs car).X2 (nl' vs car).I2 (nl' vs car).Z1 floor dir=_:=n6w' hb (hv.at car) car floor dir;have ef:=nrl' (nl' vs car);unfold nl' at ef e;simp only [na' hc.1 hc.2,cond_true,ef,Option.bind_some];unfold rankV;unfold nl';cases fullW (vs.getD car.toNat (View.mk false false false false 0 0 0 0 0 0 0 0)) <;> (simp only [cond_true,cond_false,Option.bind_some,na' hc.1 hc.2,e])
noncomputable def nmn' (b:Bldg) (vs:List View) (floor dir except:Int) (i best:Int):Int:=
 bif !(nl' vs i).J2||i==except then best else bif best==-1||betB (rankV b vs floor dir i) (rankV b vs floor dir best) then i else best
noncomputable def bestF (b:Bldg) (vs:List View) (floor dir except:Int):Nat→Nat→Int→Int
 | 0,_,best=>best
 | m + 1,i,best=>bestF b vs floor dir except m (i + 1) (nmn' b vs floor dir except i best)
noncomputable def nbm' (b:Bldg) (vs:List View) (floor dir except:Int):Int:=
 bif b.code != 0||(vs.length:Int) != (b.A0.length:Int) then -1 else bestF b vs floor dir except vs.length 0 (-1)
def nob' (vs:List View) (best:Int):Prop:=best=-1∨(0≤best∧best < vs.length)
theorem nv4' {b:Bldg} {vs:List View} {floor dir except:Int} {i:Nat} (hi:i < vs.length) {best:Int} (h:nob' vs best):nob' vs (nmn' b vs floor dir except i best):=by
 unfold nmn';cases (!(nl' vs i).J2||(i:Int)==except) with
 | true=>exact h
 | false=>
  simp only [cond_false];cases (best==-1||betB (rankV b vs floor dir i) (rankV b vs floor dir best)) with
  | true=>exact .inr (by simp only [cond_true]; omega)
  | false=>exact h
theorem nre' {b:Bldg} (hb:b.small) {vs:List View} (hv:okViews vs) (hl:vs.length≤100) (floor dir except:Int) :
  ∀ (m i:Nat) (best:Int),i + m=vs.length→nob' vs best →
   iter (fun x=>letI a:=x.2.1.2.2; letI b:=x.1.2.2; letI c:=a.2.2; nen' x.1.1 x.1.2.1 b.1 b.2.1 b.2.2.2.1 b.2.2.2.2.1 x.2.1.1 x.2.1.2.1 a.1 a.2.1 c.1 c.2.1 c.2.2.1 c.2.2.2.1) (m + 1) ((vs,floor,dir,except,(),best,(i:Int),()),(b.tup,()))=some ((bestF b vs floor dir except m i best,()),())
 | 0,i,best,hi,hin=>by
  refine no' ?_;show nen' vs floor dir except best (i:Int) b.D0 b.E0 b.I0 b.Q0 b.J0 b.K0 b.P0 b.A0=_;unfold nen';have e:decide ((i:Int) < (vs.length:Int))=false:=by simp; omega
  rw [e]; rfl
 | m + 1,i,best,hi,hin=>by
  have hi':i < vs.length:=by omega
  have e:decide ((i:Int) < (vs.length:Int))=true:=by simp; omega
  have ib:inB (i:Int) vs.length=true:=na' (by omega) (by omega)
  have w:IntKind.i64.wrap ((i:Int) + 1)=((i + 1:Nat):Int):=by rw [nc' (by omega) (by omega)]; omega
  refine (nv' (x':=((vs,floor,dir,except,(),nmn' b vs floor dir except i best,((i + 1:Nat):Int),()),(b.tup,()))) ?_).trans (nre' hb hv hl floor dir except m (i + 1) _ (by omega) (nv4' hi' hin))
  show nen' vs floor dir except best (i:Int) b.D0 b.E0 b.I0 b.Q0 b.J0 b.K0 b.P0 b.A0=_;unfold nen';have k1:=nnh' hb hv (car:=(i:Int)) (by omega) floor dir
  rw [e,ib,w];simp only [cond_true];unfold nmn';rw [show vs.getD (Int.toNat (i:Int)) (View.mk false false false false 0 0 0 0 0 0 0 0)=nl' vs (i:Int) from rfl]
  cases (nl' vs (i:Int)).J2 with
  | false=>rfl
  | true=>
   simp only [Bool.not_true,cond_false,Bool.false_or];cases (i:Int)==except with
   | true=>rfl
   | false=>
    simp only [cond_false];rcases hin with hbest | hbest
    ·subst hbest
     rw [show decide ((-1:Int) < 0)=true from rfl,show ((-1:Int)==-1)=true from rfl]
     simp only [cond_true,Option.bind_some,w,Bool.true_or];rfl
    ·have k2:=nnh' hb hv hbest floor dir
     rw [decide_eq_false (show ¬ best < 0 by omega),beq_f (show ¬ best=-1 by omega),k1,k2]
     simp only [cond_false,Option.bind_some,Bool.false_or,ntj'];cases betB (rankV b vs floor dir i) (rankV b vs floor dir best) <;> (simp only [cond_true,cond_false,w]; rfl)
theorem noy' {b:Bldg} (hb:b.small) {vs:List View} (hv:okViews vs) (hl:vs.length≤100) (floor dir except:Int) :
  nim' b.D0 b.E0 b.I0 b.Q0 b.J0 b.K0 b.P0 b.A0 vs floor dir except=some ((nbm' b vs floor dir except,()),()):=by
 unfold nim' nbm';rw [ny',Option.bind_some];cases b.code != 0 with
 | true=>rfl
 | false=>
  simp only [cond_false,Bool.false_or];cases (vs.length:Int) != (b.A0.length:Int) with
  | true=>rfl
  | false=>
   have h:=ng' (nre' hb hv hl floor dir except vs.length 0 (-1) (by omega) (.inl rfl)) (by omega)
   have h':ni0' ((vs,floor,dir,except,(),(-1:Int),(0:Int),()),(b.tup,()))=_:=h;simp only [cond_false];refine (congrArg (fun z=>Option.bind z _) h').trans ?_
   rfl
theorem n4h' {b:Bldg} {vs:List View} {floor dir except:Int}:∀ (m i:Nat) (best:Int),i + m=vs.length→nob' vs best→nob' vs (bestF b vs floor dir except m i best)
 | 0,_,_,_,h=>h
 | m + 1,i,best,hi,h=>n4h' m (i + 1) _ (by omega) (nv4' (by omega) h)
theorem npb' (b:Bldg) (vs:List View) (floor dir except:Int):nob' vs (nbm' b vs floor dir except):=by
 unfold nbm';cases (b.code != 0||(vs.length:Int) != (b.A0.length:Int)) with
 | true=>exact .inl rfl
 | false=>exact n4h' vs.length 0 (-1) (by omega) (.inl rfl)
noncomputable def nvd' (b:Bldg) (vs:List View) (e:Entry) (x n:Int):Bool:=
 ((nl' vs e.O0).F3&&(x==0&&betB (rankV b vs e.C0 e.G0 n) (rankV b vs e.C0 e.G0 e.O0)))||(!(nl' vs e.O0).F3&&(fullW (nl' vs e.O0)&&!fullW (nl' vs n)))
noncomputable def nhe' (b:Bldg) (vs:List View) (e:Entry) (x:Int):Int:=
 bif nbm' b vs e.C0 e.G0 e.O0==-1 then -1 else bif nvd' b vs e x (nbm' b vs e.C0 e.G0 e.O0) then nbm' b vs e.C0 e.G0 e.O0 else -1
noncomputable def decV (b:Bldg) (vs:List View) (e:Entry) (x:Int):Entry:=
 bif e.O0==-2 then e
 else bif e.O0==-1 then ⟨e.C0,e.G0,nbm' b vs e.C0 e.G0 (-1),e.V0,e.Q1⟩
 else bif (nl' vs e.O0).J3 then (bif decide ((b.A0.length:Int) < e.V0) then ⟨e.C0,e.G0,-2,e.V0,e.Q1⟩ else ⟨e.C0,e.G0,nbm' b vs e.C0 e.G0 e.O0,e.V0 + 1,e.Q1⟩)
 else bif !e.Q1&&decide (e.V0≤(b.A0.length:Int)) then (bif nhe' b vs e x != -1 then ⟨e.C0,e.G0,nhe' b vs e x,e.V0 + 1,true⟩ else e)
 else e
def Entry.tup (e:Entry):Int×Int×Int×Int×Bool×Unit:=(e.C0,e.G0,e.O0,e.V0,e.Q1,())
section
variable {b:Bldg} (hb:b.small) {vs:List View} (hv:okViews vs) (hl:vs.length≤100) {e:Entry}
include hb hv hl
theorem nzh' (hcl:b.A0.length≤100) (hc:-2≤e.O0∧e.O0 < vs.length) (hm:0≤e.V0∧e.V0≤255) (x:Int):nkh' b.D0 b.E0 b.I0 b.Q0 b.J0 b.K0 b.P0 b.A0 e.C0 e.G0 e.O0 e.V0 e.Q1 x vs=some (((),()),((decV b vs e x).tup,())):=by
 unfold nkh' decV;have w:IntKind.i64.wrap (e.V0 + 1)=e.V0 + 1:=nc' (by omega) (by omega)
 have wc:IntKind.i64.wrap ((b.A0.length:Int) + 1)=(b.A0.length:Int) + 1:=nc' (by omega) (by omega)
 have d1:decide ((b.A0.length:Int) + 1≤e.V0)=decide ((b.A0.length:Int) < e.V0):=decide_eq_decide.2 (by omega)
 have d2:decide ((b.A0.length:Int) < e.V0)=!decide (e.V0≤(b.A0.length:Int)):=nut' _ _;by_cases g1:e.O0=-2
 ·rw [show (e.O0==-2)=true by rw [g1]; rfl]; rfl
 rw [beq_f g1];by_cases g2:e.O0=-1
 ·rw [show (e.O0==-1)=true by rw [g2]; rfl]
  simp only [cond_true,cond_false,noy' hb hv hl,Option.bind_some];rfl
 rw [beq_f g2];have hc':0≤e.O0∧e.O0 < vs.length:=by omega
 unfold nl';simp only [cond_false,na' hc'.1 hc'.2,cond_true,wc,d1];cases hlost:(vs.getD e.O0.toNat (View.mk false false false false 0 0 0 0 0 0 0 0)).J3 with
 | true=>
  simp only [cond_true,Option.bind_some];cases decide ((b.A0.length:Int) < e.V0) with
  | true=>rfl
  | false=>
   simp only [cond_false,na' hc'.1 hc'.2,cond_true,hlost,noy' hb hv hl,Option.bind_some,w];rfl
 | false=>
  simp only [cond_false,Option.bind_some,na' hc'.1 hc'.2,cond_true,hlost];cases hmv:e.Q1 with
  | true=>
   simp only [Bool.not_true,cond_true,cond_false,Bool.false_and];unfold Entry.tup; rw [hmv]
  | false=>
   simp only [Bool.not_false,cond_false,Bool.true_and,d1,d2];cases decide (e.V0≤(b.A0.length:Int)) with
   | false=>
    simp only [Bool.not_false,cond_true,cond_false];unfold Entry.tup; rw [hmv]
   | true=>
    simp only [Bool.not_true,cond_true,cond_false,noy' hb hv hl,Option.bind_some];unfold nhe';have hn:=npb' b vs e.C0 e.G0 e.O0;generalize nbm' b vs e.C0 e.G0 e.O0=n at hn;rcases hn with rfl | hn
    ·show _=some (((),()),(Entry.tup e,()))
     unfold Entry.tup; rw [hmv]; rfl
    ·have k1:=nnh' hb hv hn e.C0 e.G0
     have k2:=nnh' hb hv hc' e.C0 e.G0;have f1:=nrl' (nl' vs e.O0);have f2:=nrl' (nl' vs n);rw [decide_eq_false (show ¬ n < 0 by omega),beq_f (show ¬ n=-1 by omega)]
     unfold nvd';unfold nl' at f1 f2 ⊢;rw [hlost] at f1;simp only [cond_false]
     have fin:∀ p:Bool,(some (((),()),((bif p then (⟨e.C0,e.G0,n,e.V0 + 1,true⟩:Entry) else e).tup,())):Option ((Unit×Unit)×((Int×Int×Int×Int×Bool×Unit)×Unit)))=some (((),()),((bif (bif p then n else -1) != -1 then (⟨e.C0,e.G0,(bif p then n else -1),e.V0 + 1,true⟩:Entry) else e).tup,())):=fun p=>by
      cases p with
      | true=>simp only [cond_true]; rw [bne_t (show ¬ n=-1 by omega)]; rfl
      | false=>rfl
     refine Eq.trans ?_ (fin _);cases hleg:(vs.getD e.O0.toNat (View.mk false false false false 0 0 0 0 0 0 0 0)).F3 with
     | true=>
      simp only [cond_true,Bool.true_and,Bool.not_true,Bool.false_and,Bool.or_false];cases x==0 with
      | true=>
       simp only [cond_true,Bool.true_and,k1,k2,Option.bind_some,ntj'];cases betB (rankV b vs e.C0 e.G0 n) (rankV b vs e.C0 e.G0 e.O0) with
       | true=>simp only [cond_true,Option.bind_some,w]; rfl
       | false=>
        simp only [cond_false,Option.bind_some,Bool.not_true];unfold Entry.tup; rw [hmv]
      | false=>
       simp only [cond_false,Option.bind_some,Bool.not_true,Bool.false_and];unfold Entry.tup; rw [hmv]
     | false=>
      rw [hleg] at f1;simp only [cond_false,Bool.false_and,Bool.not_false,Bool.true_and,Bool.false_or,Option.bind_some,cond_true,f1];cases fullW (vs.getD e.O0.toNat (View.mk false false false false 0 0 0 0 0 0 0 0)) with
      | false=>
       simp only [cond_false,Option.bind_some,Bool.false_and];unfold Entry.tup; rw [hmv]
      | true=>
       simp only [cond_true,na' hn.1 hn.2,Bool.true_and,f2,Option.bind_some];cases fullW (vs.getD n.toNat (View.mk false false false false 0 0 0 0 0 0 0 0)) with
       | true=>
        simp only [Bool.not_true,cond_false];unfold Entry.tup; rw [hmv]
       | false=>simp only [Bool.not_false,cond_true,w]; rfl
end
end Go.Ovl
