/- What each function of the program comes to: part 2. -/
import Derived.Test.YthdomhdippmaiaaGreatDoorDefs1
namespace Go.Ovl
open Go Go.Ab
set_option maxRecDepth 100000
noncomputable def nv1' (out:List (Entry)) (f d p0 p1:Int):Option (Sum (T'40×T'19) (T'56×T'19)):=
 bif (decide (d≤(2:Int))) then
 (noc' p0 p1 f d).bind fun y1=>
 bif y1.1.1 then
 let z0:List (Entry):=[(Entry.mk f d (-1:Int) (0:Int) false)]
 bif (Nat.ble ((List.length out) + (List.length z0)) 2147483648) then
 some (Sum.inl (((),(out++z0),f,(IntKind.i64.wrap (d + (1:Int))),()),((p0,p1,()),())))
 else
 none
 else
 some (Sum.inl (((),out,f,(IntKind.i64.wrap (d + (1:Int))),()),((p0,p1,()),())))
 else
 some (Sum.inr (((),out,f,()),((p0,p1,()),())))
noncomputable def nky':(T'40×T'19)→Option (T'56×T'19):=iter (fun x=>nv1' x.1.2.1 x.1.2.2.1 x.1.2.2.2.1 x.2.1.1 x.2.1.2.1) fuel
noncomputable def nt9' (out:List (Entry)) (f p0 p1:Int):Option (Sum (T'56×T'19) ((List (Entry)×Unit)×Unit)):=
 bif (decide (f < (32:Int))) then
 (nky' (((),out,f,(1:Int),()),((p0,p1,()),()))).bind fun y1=>
 some (Sum.inl (((),y1.1.2.1,(IntKind.i64.wrap (y1.1.2.2.1 + (1:Int))),()),(y1.2.1,())))
 else
 some (Sum.inr ((out,()),()))
noncomputable def nk2':(T'56×T'19)→Option ((List (Entry)×Unit)×Unit):=iter (fun x=>nt9' x.1.2.1 x.1.2.2.1 x.2.1.1 x.2.1.2.1) fuel
noncomputable def nyl' (p0 p1:Int):Option ((List (Entry)×Unit)×Unit):=
 (nk2' (((),([]:List (Entry)),(0:Int),()),((p0,p1,()),()))).bind fun y1=>
 some ((y1.1.1,()),())
noncomputable def nl6' (p0 p1 p2 p3:Int):Option ((Unit×Unit)×T'19):=
 some (((),()),(((IntKind.u32.wrap (stk p0 p2 (BitVec.toNat ((BitVec.ofInt (IntKind.bits IntKind.u32) p0) &&& (~~~ (BitVec.ofInt (IntKind.bits IntKind.u32) p2)))))),(IntKind.u32.wrap (stk p1 p3 (BitVec.toNat ((BitVec.ofInt (IntKind.bits IntKind.u32) p1) &&& (~~~ (BitVec.ofInt (IntKind.bits IntKind.u32) p3)))))),()),()))
noncomputable def nl2' (p0 p1 p2 p3:Int):Option ((Unit×Unit)×T'19):=
 some (((),()),(((IntKind.u32.wrap (stk p0 p2 (BitVec.toNat ((BitVec.ofInt (IntKind.bits IntKind.u32) p0) ||| (BitVec.ofInt (IntKind.bits IntKind.u32) p2))))),(IntKind.u32.wrap (stk p1 p3 (BitVec.toNat ((BitVec.ofInt (IntKind.bits IntKind.u32) p1) ||| (BitVec.ofInt (IntKind.bits IntKind.u32) p3))))),()),()))
noncomputable def nyz' (l:List (Entry)) (i p0 p1 p2 p3:Int):Option (Sum (T'57×T'39) ((Unit×Unit×Unit)×T'39)):=
 bif (decide (i < ((List.length l:Nat):Int))) then
 bif (inB i (List.length l)) then
 bif (inB i (List.length l)) then
 (nhy' (List.getD l (Int.toNat i) (Entry.mk (0:Int) (0:Int) (0:Int) (0:Int) false)).Floor (List.getD l (Int.toNat i) (Entry.mk (0:Int) (0:Int) (0:Int) (0:Int) false)).Dir).bind fun y1=>
 (nl2' p2 p3 y1.2.1.1 y1.2.1.2.1).bind fun y2=>
 some (Sum.inl ((l,(),(),(IntKind.i64.wrap (i + (1:Int))),()),((p0,p1,()),y2.2.1,())))
 else
 none
 else
 none
 else
 some (Sum.inr (((),(),()),((p0,p1,()),(p2,p3,()),())))
noncomputable def nmr':(T'57×T'39)→Option ((Unit×Unit×Unit)×T'39):=iter (fun x=>nyz' x.1.1 x.1.2.2.2.1 x.2.1.1 x.2.1.2.1 x.2.2.1.1 x.2.2.1.2.1) fuel
noncomputable def n15' (l:List (Entry)):Option ((Unit×Unit)×T'19):=
 (nmr' ((l,(),(),(0:Int),()),(((0:Int),(0:Int),()),((0:Int),(0:Int),()),()))).bind fun y1=>
 some (((),()),(y1.2.2.1,()))
noncomputable def nuv' (a b:List (Record)) (i:Int):Option (Sum (T'58×Unit) ((Unit×Unit) ⊕ ((Bool×Unit)×Unit))):=
 bif (decide (i < ((List.length a:Nat):Int))) then
 bif (inB i (List.length a)) then
 let z0:Record:=(List.getD a (Int.toNat i) (Record.mk (0:Int) (0:Int) (0:Int) (0:Int) (0:Int)))
 bif (inB i (List.length b)) then
 let z1:Record:=(List.getD b (Int.toNat i) (Record.mk (0:Int) (0:Int) (0:Int) (0:Int) (0:Int)))
 bif (!((z0.Kind==z1.Kind)&&((z0.Floor==z1.Floor)&&((z0.Dir==z1.Dir)&&((z0.Car==z1.Car)&&((z0.Value==z1.Value)&&true)))))) then
 some (Sum.inr (Sum.inr ((false,()),())))
 else
 some (Sum.inl ((a,b,(IntKind.i64.wrap (i + (1:Int))),()),()))
 else
 none
 else
 none
 else
 some (Sum.inr (Sum.inl ((),())))
noncomputable def nlj':(T'58×Unit)→Option ((Unit×Unit) ⊕ ((Bool×Unit)×Unit)):=iter (fun x=>nuv' x.1.1 x.1.2.1 x.1.2.2.1) fuel
noncomputable def nx1' (a b:List (Record)):Option ((Bool×Unit)×Unit):=
 bif (((List.length a:Nat):Int) != ((List.length b:Nat):Int)) then
 some ((false,()),())
 else
 (nlj' ((a,b,(0:Int),()),())).bind fun y1=>
 (match y1 with
 | .inl y2=>
 some ((true,()),())
 | .inr y2=>
 some ((y2.1.1,()),()))
noncomputable def nub' (i:Int) (p0:List (Int)) (p1 p2:List (Bool)) (p3:List (Entry)) (p4:List (Int)) (p5 p6:List (Bool)) (p7:List (Entry)):Option (Sum (T'8×(T'5×T'5×Unit)) ((Unit×Unit) ⊕ ((Bool×Unit)×Unit))):=
 bif (decide (i < ((List.length p3:Nat):Int))) then
 bif (inB i (List.length p3)) then
 let z0:Entry:=(List.getD p3 (Int.toNat i) (Entry.mk (0:Int) (0:Int) (0:Int) (0:Int) false))
 bif (inB i (List.length p7)) then
 let z1:Entry:=(List.getD p7 (Int.toNat i) (Entry.mk (0:Int) (0:Int) (0:Int) (0:Int) false))
 bif (!((z0.Floor==z1.Floor)&&((z0.Dir==z1.Dir)&&((z0.Car==z1.Car)&&((z0.Moves==z1.Moves)&&((z0.Moved==z1.Moved)&&true)))))) then
 some (Sum.inr (Sum.inr ((false,()),())))
 else
 some (Sum.inl (((),(),(IntKind.i64.wrap (i + (1:Int))),()),((p0,p1,p2,p3,()),(p4,p5,p6,p7,()),())))
 else
 none
 else
 none
 else
 some (Sum.inr (Sum.inl ((),())))
noncomputable def nlk':(T'8×(T'5×T'5×Unit))→Option ((Unit×Unit) ⊕ ((Bool×Unit)×Unit)):=iter (fun x=>nub' x.1.2.2.1 x.2.1.1 x.2.1.2.1 x.2.1.2.2.1 x.2.1.2.2.2.1 x.2.2.1.1 x.2.2.1.2.1 x.2.2.1.2.2.1 x.2.2.1.2.2.2.1) fuel
noncomputable def nuw' (i:Int) (p0:List (Int)) (p1 p2:List (Bool)) (p3:List (Entry)) (p4:List (Int)) (p5 p6:List (Bool)) (p7:List (Entry)):Option (Sum (T'8×(T'5×T'5×Unit)) (((Unit×Unit×Unit)×(T'5×T'5×Unit)) ⊕ ((Bool×Unit)×Unit))):=
 bif (decide (i < ((List.length p2:Nat):Int))) then
 bif (inB i (List.length p2)) then
 bif (inB i (List.length p6)) then
 bif (!((List.getD p2 (Int.toNat i) false)==(List.getD p6 (Int.toNat i) false))) then
 some (Sum.inr (Sum.inr ((false,()),())))
 else
 some (Sum.inl (((),(),(IntKind.i64.wrap (i + (1:Int))),()),((p0,p1,p2,p3,()),(p4,p5,p6,p7,()),())))
 else
 none
 else
 none
 else
 some (Sum.inr (Sum.inl (((),(),()),((p0,p1,p2,p3,()),(p4,p5,p6,p7,()),()))))
noncomputable def nk9':(T'8×(T'5×T'5×Unit))→Option (((Unit×Unit×Unit)×(T'5×T'5×Unit)) ⊕ ((Bool×Unit)×Unit)):=iter (fun x=>nuw' x.1.2.2.1 x.2.1.1 x.2.1.2.1 x.2.1.2.2.1 x.2.1.2.2.2.1 x.2.2.1.1 x.2.2.1.2.1 x.2.2.1.2.2.1 x.2.2.1.2.2.2.1) fuel
noncomputable def nu6' (i:Int) (p0:List (Int)) (p1 p2:List (Bool)) (p3:List (Entry)) (p4:List (Int)) (p5 p6:List (Bool)) (p7:List (Entry)):Option (Sum (T'8×(T'5×T'5×Unit)) (((Unit×Unit×Unit)×(T'5×T'5×Unit)) ⊕ ((Bool×Unit)×Unit))):=
 bif (decide (i < ((List.length p1:Nat):Int))) then
 bif (inB i (List.length p1)) then
 bif (inB i (List.length p5)) then
 bif (!((List.getD p1 (Int.toNat i) false)==(List.getD p5 (Int.toNat i) false))) then
 some (Sum.inr (Sum.inr ((false,()),())))
 else
 some (Sum.inl (((),(),(IntKind.i64.wrap (i + (1:Int))),()),((p0,p1,p2,p3,()),(p4,p5,p6,p7,()),())))
 else
 none
 else
 none
 else
 some (Sum.inr (Sum.inl (((),(),()),((p0,p1,p2,p3,()),(p4,p5,p6,p7,()),()))))
noncomputable def nlh':(T'8×(T'5×T'5×Unit))→Option (((Unit×Unit×Unit)×(T'5×T'5×Unit)) ⊕ ((Bool×Unit)×Unit)):=iter (fun x=>nu6' x.1.2.2.1 x.2.1.1 x.2.1.2.1 x.2.1.2.2.1 x.2.1.2.2.2.1 x.2.2.1.1 x.2.2.1.2.1 x.2.2.1.2.2.1 x.2.2.1.2.2.2.1) fuel
noncomputable def nvg' (i:Int) (p0:List (Int)) (p1 p2:List (Bool)) (p3:List (Entry)) (p4:List (Int)) (p5 p6:List (Bool)) (p7:List (Entry)):Option (Sum (T'8×(T'5×T'5×Unit)) (((Unit×Unit×Unit)×(T'5×T'5×Unit)) ⊕ ((Bool×Unit)×Unit))):=
 bif (decide (i < ((List.length p0:Nat):Int))) then
 bif (inB i (List.length p0)) then
 bif (inB i (List.length p4)) then
 bif ((List.getD p0 (Int.toNat i) (0:Int)) != (List.getD p4 (Int.toNat i) (0:Int))) then
 some (Sum.inr (Sum.inr ((false,()),())))
 else
 some (Sum.inl (((),(),(IntKind.i64.wrap (i + (1:Int))),()),((p0,p1,p2,p3,()),(p4,p5,p6,p7,()),())))
 else
 none
 else
 none
 else
 some (Sum.inr (Sum.inl (((),(),()),((p0,p1,p2,p3,()),(p4,p5,p6,p7,()),()))))
noncomputable def nku':(T'8×(T'5×T'5×Unit))→Option (((Unit×Unit×Unit)×(T'5×T'5×Unit)) ⊕ ((Bool×Unit)×Unit)):=iter (fun x=>nvg' x.1.2.2.1 x.2.1.1 x.2.1.2.1 x.2.1.2.2.1 x.2.1.2.2.2.1 x.2.2.1.1 x.2.2.1.2.1 x.2.2.1.2.2.1 x.2.2.1.2.2.2.1) fuel
noncomputable def nx5' (p0:List (Int)) (p1 p2:List (Bool)) (p3:List (Entry)) (p4:List (Int)) (p5 p6:List (Bool)) (p7:List (Entry)):Option ((Bool×Unit)×Unit):=
 bif (((List.length p0:Nat):Int) != ((List.length p4:Nat):Int)) then
 some ((false,()),())
 else
 bif (((List.length p1:Nat):Int) != ((List.length p5:Nat):Int)) then
 some ((false,()),())
 else
 bif (((List.length p2:Nat):Int) != ((List.length p6:Nat):Int)) then
 some ((false,()),())
 else
 bif (((List.length p3:Nat):Int) != ((List.length p7:Nat):Int)) then
 some ((false,()),())
 else
 (nku' (((),(),(0:Int),()),((p0,p1,p2,p3,()),(p4,p5,p6,p7,()),()))).bind fun y1=>
 (match y1 with
 | .inl y2=>
 (nlh' (((),(),(0:Int),()),(y2.2.1,y2.2.2.1,()))).bind fun y3=>
 (match y3 with
 | .inl y4=>
 (nk9' (((),(),(0:Int),()),(y4.2.1,y4.2.2.1,()))).bind fun y5=>
 (match y5 with
 | .inl y6=>
 (nlk' (((),(),(0:Int),()),(y6.2.1,y6.2.2.1,()))).bind fun y7=>
 (match y7 with
 | .inl y8=>
 some ((true,()),())
 | .inr y8=>
 some ((y8.1.1,()),()))
 | .inr y6=>
 some ((y6.1.1,()),()))
 | .inr y4=>
 some ((y4.1.1,()),()))
 | .inr y2=>
 some ((y2.1.1,()),()))
noncomputable def nd1' (p0 p1 p2 p3 f p4:Int):Option ((Bool×Unit)×Unit):=
 bif (p4==(1:Int)) then
 Option.bind (bif (decide (f < (IntKind.i64.wrap (p0 - (1:Int))))) then
 let z0:Int:=(IntKind.u64.wrap f)
 bif (decide ((0:Int)≤z0)) then
 let z1:Int:=(Int.fdiv p2 ((2:Int) ^ (Min.min (Int.toNat z0) (IntKind.bits IntKind.u32))))
 some ((((IntKind.u32.wrap (stk z1 (1:Int) (BitVec.toNat ((BitVec.ofInt (IntKind.bits IntKind.u32) z1) &&& (BitVec.ofInt (IntKind.bits IntKind.u32) (1:Int))))))==(1:Int)),()),())
 else
 none
 else
 some ((false,()),())) fun y1=>
 some ((y1.1.1,()),())
 else
 bif (p4==(2:Int)) then
 Option.bind (bif (decide ((0:Int) < f)) then
 let z2:Int:=(IntKind.u64.wrap f)
 bif (decide ((0:Int)≤z2)) then
 let z3:Int:=(Int.fdiv p3 ((2:Int) ^ (Min.min (Int.toNat z2) (IntKind.bits IntKind.u32))))
 some ((((IntKind.u32.wrap (stk z3 (1:Int) (BitVec.toNat ((BitVec.ofInt (IntKind.bits IntKind.u32) z3) &&& (BitVec.ofInt (IntKind.bits IntKind.u32) (1:Int))))))==(1:Int)),()),())
 else
 none
 else
 some ((false,()),())) fun y2=>
 some ((y2.1.1,()),())
 else
 let z4:Int:=(IntKind.u64.wrap f)
 bif (decide ((0:Int)≤z4)) then
 let z5:Int:=(Int.fdiv p1 ((2:Int) ^ (Min.min (Int.toNat z4) (IntKind.bits IntKind.u32))))
 some ((((IntKind.u32.wrap (stk z5 (1:Int) (BitVec.toNat ((BitVec.ofInt (IntKind.bits IntKind.u32) z5) &&& (BitVec.ofInt (IntKind.bits IntKind.u32) (1:Int))))))==(1:Int)),()),())
 else
 none
noncomputable def nf6' (p0 n f k p1 p2 p3:Int):Option (Sum (T'60×T'41) (T'59×T'41)):=
 bif (decide (k < (3:Int))) then
 (nd1' p0 p1 p2 p3 f k).bind fun y1=>
 bif y1.1.1 then
 some (Sum.inl ((p0,(),(IntKind.i64.wrap (n + (1:Int))),f,(IntKind.i64.wrap (k + (1:Int))),()),((p1,p2,p3,()),())))
 else
 some (Sum.inl ((p0,(),n,f,(IntKind.i64.wrap (k + (1:Int))),()),((p1,p2,p3,()),())))
 else
 some (Sum.inr ((p0,(),n,f,()),((p1,p2,p3,()),())))
noncomputable def nhj':(T'60×T'41)→Option (T'59×T'41):=iter (fun x=>nf6' x.1.1 x.1.2.2.1 x.1.2.2.2.1 x.1.2.2.2.2.1 x.2.1.1 x.2.1.2.1 x.2.1.2.2.1) fuel
noncomputable def nej' (p0 n f p1 p2 p3:Int):Option (Sum (T'59×T'41) ((Int×Unit)×Unit)):=
 bif (decide (f < p0)) then
 (nhj' ((p0,(),n,f,(0:Int),()),((p1,p2,p3,()),()))).bind fun y1=>
 some (Sum.inl ((y1.1.1,(),y1.1.2.2.1,(IntKind.i64.wrap (y1.1.2.2.2.1 + (1:Int))),()),(y1.2.1,())))
 else
 some (Sum.inr ((n,()),()))
noncomputable def nhp':(T'59×T'41)→Option ((Int×Unit)×Unit):=iter (fun x=>nej' x.1.1 x.1.2.2.1 x.1.2.2.2.1 x.2.1.1 x.2.1.2.1 x.2.1.2.2.1) fuel
noncomputable def nge' (p0 p1 p2 p3:Int):Option ((Int×Unit)×Unit):=
 bif (decide (p0 < (2:Int))) then
 some (((0:Int),()),())
 else
 bif (decide ((32:Int) < p0)) then
 some (((0:Int),()),())
 else
 (nhp' ((p0,(),(0:Int),(0:Int),()),((p1,p2,p3,()),()))).bind fun y1=>
 some ((y1.1.1,()),())
noncomputable def nfi' (p0 p1 p2 p3 dir hi lo f p4 p5 p6:Int):Option (Sum (T'61×T'41) (T'62×Unit)):=
 bif (decide (f < p0)) then
 Option.bind ((nd1' p0 p4 p5 p6 f (0:Int)).bind fun y1=>
 bif y1.1.1 then
 some ((p0,p1,p2,p3,dir,(),hi,lo,f,true,()),((p4,p5,p6,()),()))
 else
 (nd1' p0 p4 p5 p6 f (1:Int)).bind fun y2=>
 bif y2.1.1 then
 some ((p0,p1,p2,p3,dir,(),hi,lo,f,true,()),((p4,p5,p6,()),()))
 else
 (nd1' p0 p4 p5 p6 f (2:Int)).bind fun y3=>
 some ((p0,p1,p2,p3,dir,(),hi,lo,f,y3.1.1,()),((p4,p5,p6,()),()))) fun y4=>
 bif y4.1.2.2.2.2.2.2.2.2.2.1 then
 some (Sum.inl ((y4.1.1,y4.1.2.1,y4.1.2.2.1,y4.1.2.2.2.1,y4.1.2.2.2.2.1,(),(bif (decide (y4.1.2.2.2.2.2.2.1 < y4.1.2.2.2.2.2.2.2.2.1)) then y4.1.2.2.2.2.2.2.2.2.1 else y4.1.2.2.2.2.2.2.1),(bif (decide (y4.1.2.2.2.2.2.2.2.2.1 < y4.1.2.2.2.2.2.2.2.1)) then y4.1.2.2.2.2.2.2.2.2.1 else y4.1.2.2.2.2.2.2.2.1),(IntKind.i64.wrap (y4.1.2.2.2.2.2.2.2.2.1 + (1:Int))),()),(y4.2.1,())))
 else
 some (Sum.inl ((y4.1.1,y4.1.2.1,y4.1.2.2.1,y4.1.2.2.2.1,y4.1.2.2.2.2.1,(),y4.1.2.2.2.2.2.2.1,y4.1.2.2.2.2.2.2.2.1,(IntKind.i64.wrap (y4.1.2.2.2.2.2.2.2.2.1 + (1:Int))),()),(y4.2.1,())))
 else
 some (Sum.inr ((p1,p2,p3,dir,hi,lo,()),()))
noncomputable def nh9':(T'61×T'41)→Option (T'62×Unit):=iter (fun x=>nfi' x.1.1 x.1.2.1 x.1.2.2.1 x.1.2.2.2.1 x.1.2.2.2.2.1 x.1.2.2.2.2.2.2.1 x.1.2.2.2.2.2.2.2.1 x.1.2.2.2.2.2.2.2.2.1 x.2.1.1 x.2.1.2.1 x.2.1.2.2.1) fuel
noncomputable def nd7' (p0 p1 p2 p3 p4 p5 p6 dir:Int):Option ((Int×Unit)×Unit):=
 bif (decide (p0 < (2:Int))) then
 some (((-1:Int),()),())
 else
 bif (decide ((32:Int) < p0)) then
 some (((-1:Int),()),())
 else
 bif (decide (p1 < (0:Int))) then
 some (((-1:Int),()),())
 else
 bif (decide (p0≤p1)) then
 some (((-1:Int),()),())
 else
 bif (decide (p2 < (0:Int))) then
 some (((-1:Int),()),())
 else
 bif (decide ((2:Int) < p2)) then
 some (((-1:Int),()),())
 else
 Option.bind (bif (dir==(1:Int)) then
 bif (decide ((0:Int)≤p6)) then
 bif (decide (p6 < (IntKind.i64.wrap (p0 - (1:Int))))) then
 some ((p0,p1,p2,p6,dir,(),false,()),((p3,p4,p5,()),()))
 else
 bif (dir==(2:Int)) then
 bif (decide ((0:Int) < p6)) then
 some ((p0,p1,p2,p6,dir,(),(!(decide (p6 < p0))),()),((p3,p4,p5,()),()))
 else
 some ((p0,p1,p2,p6,dir,(),true,()),((p3,p4,p5,()),()))
 else
 some ((p0,p1,p2,p6,dir,(),true,()),((p3,p4,p5,()),()))
 else
 bif (dir==(2:Int)) then
 bif (decide ((0:Int) < p6)) then
 some ((p0,p1,p2,p6,dir,(),(!(decide (p6 < p0))),()),((p3,p4,p5,()),()))
 else
 some ((p0,p1,p2,p6,dir,(),true,()),((p3,p4,p5,()),()))
 else
 some ((p0,p1,p2,p6,dir,(),true,()),((p3,p4,p5,()),()))
 else
 bif (dir==(2:Int)) then
 bif (decide ((0:Int) < p6)) then
 some ((p0,p1,p2,p6,dir,(),(!(decide (p6 < p0))),()),((p3,p4,p5,()),()))
 else
 some ((p0,p1,p2,p6,dir,(),true,()),((p3,p4,p5,()),()))
 else
 some ((p0,p1,p2,p6,dir,(),true,()),((p3,p4,p5,()),()))) fun y1=>
 bif y1.1.2.2.2.2.2.2.1 then
 some (((-1:Int),()),())
 else
 (nh9' ((y1.1.1,y1.1.2.1,y1.1.2.2.1,y1.1.2.2.2.1,y1.1.2.2.2.2.1,(),(bif (decide (y1.1.2.1 < y1.1.2.2.2.1)) then y1.1.2.2.2.1 else y1.1.2.1),(bif (decide (y1.1.2.2.2.1 < y1.1.2.1)) then y1.1.2.2.2.1 else y1.1.2.1),(0:Int),()),(y1.2.1,()))).bind fun y2=>
 bif (y2.1.2.1==(0:Int)) then
 let z0:Int:=(IntKind.i64.wrap (y2.1.1 - y2.1.2.2.1))
 let z1:Int:=(IntKind.i64.wrap (y2.1.2.2.1 - y2.1.1))
 some (((bif (decide (z0 < z1)) then z1 else z0),()),())
 else
 Option.bind (bif (y2.1.2.1==(1:Int)) then
 bif (y2.1.2.2.2.1==(1:Int)) then
 some ((y2.1.1,y2.1.2.1,y2.1.2.2.1,y2.1.2.2.2.1,y2.1.2.2.2.2.1,y2.1.2.2.2.2.2.1,(decide (y2.1.1≤y2.1.2.2.1)),()),())
 else
 some ((y2.1.1,y2.1.2.1,y2.1.2.2.1,y2.1.2.2.2.1,y2.1.2.2.2.2.1,y2.1.2.2.2.2.2.1,false,()),())
 else
 some ((y2.1.1,y2.1.2.1,y2.1.2.2.1,y2.1.2.2.2.1,y2.1.2.2.2.2.1,y2.1.2.2.2.2.2.1,false,()),())) fun y3=>
 bif y3.1.2.2.2.2.2.2.1 then
 some (((IntKind.i64.wrap (y3.1.2.2.1 - y3.1.1)),()),())
 else
 Option.bind (bif (y3.1.2.1==(1:Int)) then
 some ((y3.1.1,y3.1.2.1,y3.1.2.2.1,y3.1.2.2.2.1,y3.1.2.2.2.2.1,y3.1.2.2.2.2.2.1,(y3.1.2.2.2.1==(2:Int)),()),())
 else
 some ((y3.1.1,y3.1.2.1,y3.1.2.2.1,y3.1.2.2.2.1,y3.1.2.2.2.2.1,y3.1.2.2.2.2.2.1,false,()),())) fun y4=>
 bif y4.1.2.2.2.2.2.2.1 then
 some (((IntKind.i64.wrap ((IntKind.i64.wrap ((IntKind.i64.wrap (y4.1.2.2.2.2.1 - y4.1.1)) + y4.1.2.2.2.2.1)) - y4.1.2.2.1)),()),())
 else
 bif (y4.1.2.1==(1:Int)) then
 some (((IntKind.i64.wrap ((IntKind.i64.wrap ((IntKind.i64.wrap ((IntKind.i64.wrap ((IntKind.i64.wrap (y4.1.2.2.2.2.1 - y4.1.1)) + y4.1.2.2.2.2.1)) - y4.1.2.2.2.2.2.1)) + y4.1.2.2.1)) - y4.1.2.2.2.2.2.1)),()),())
 else
 Option.bind (bif (y4.1.2.2.2.1==(2:Int)) then
 some ((y4.1.1,y4.1.2.2.1,y4.1.2.2.2.1,y4.1.2.2.2.2.1,y4.1.2.2.2.2.2.1,(decide (y4.1.2.2.1≤y4.1.1)),()),())
 else
 some ((y4.1.1,y4.1.2.2.1,y4.1.2.2.2.1,y4.1.2.2.2.2.1,y4.1.2.2.2.2.2.1,false,()),())) fun y5=>
 bif y5.1.2.2.2.2.2.1 then
 some (((IntKind.i64.wrap (y5.1.1 - y5.1.2.1)),()),())
 else
 bif (y5.1.2.2.1==(1:Int)) then
 some (((IntKind.i64.wrap ((IntKind.i64.wrap ((IntKind.i64.wrap (y5.1.1 - y5.1.2.2.2.2.1)) + y5.1.2.1)) - y5.1.2.2.2.2.1)),()),())
 else
 some (((IntKind.i64.wrap ((IntKind.i64.wrap ((IntKind.i64.wrap ((IntKind.i64.wrap ((IntKind.i64.wrap (y5.1.1 - y5.1.2.2.2.2.1)) + y5.1.2.2.2.1)) - y5.1.2.2.2.2.1)) + y5.1.2.2.2.1)) - y5.1.2.1)),()),())
noncomputable def nfh' (p0 p1 p2 p3:Int) (p4 p5 p6:Nat) (p7:List (Car)) (car:Int) (p8 p9 p10 p11:Bool) (p12 p13 p14 p15 p16 p17 p18 p19 p20 dir:Int):Option ((Int×Unit)×Unit):=
 (ncu' p0 p1 p2 p3 p4 p5 p6 p7).bind fun y1=>
 bif (y1.1.1 != (0:Int)) then
 some (((1000000:Int),()),())
 else
 bif (decide (car < (0:Int))) then
 some (((1000000:Int),()),())
 else
 bif (decide (((List.length p7:Nat):Int)≤car)) then
 some (((1000000:Int),()),())
 else
 bif (decide (p12 < (0:Int))) then
 some (((1000000:Int),()),())
 else
 Option.bind (bif (p13==(3:Int)) then
 some ((car,p20,dir,(),(),(0:Int),()),((p0,p1,p2,p3,p4,p5,p6,p7,()),(p8,p9,p10,p11,p12,p13,p14,p15,p16,p17,p18,p19,()),()))
 else
 some ((car,p20,dir,(),(),p13,()),((p0,p1,p2,p3,p4,p5,p6,p7,()),(p8,p9,p10,p11,p12,p13,p14,p15,p16,p17,p18,p19,()),()))) fun y2=>
 (nd7' y2.2.1.1 y2.2.2.1.2.2.2.2.1 y2.1.2.2.2.2.2.1 y2.2.2.1.2.2.2.2.2.2.2.2.2.1 y2.2.2.1.2.2.2.2.2.2.2.2.2.2.1 y2.2.2.1.2.2.2.2.2.2.2.2.2.2.2.1 y2.1.2.1 y2.1.2.2.1).bind fun y3=>
 bif (decide (y3.1.1 < (0:Int))) then
 some (((1000000:Int),()),())
 else
 bif (inB y2.1.1 (List.length y2.2.1.2.2.2.2.2.2.2.1)) then
 let z0:Car:=(List.getD y2.2.1.2.2.2.2.2.2.2.1 (Int.toNat y2.1.1) (Car.mk (0:Int) (0:Int) (0:Int) (0:Int) (0:Int) (0:Int) (0:Int) (0:Int) (0:Int)))
 (nge' y2.2.1.1 y2.2.2.1.2.2.2.2.2.2.2.2.2.1 y2.2.2.1.2.2.2.2.2.2.2.2.2.2.1 y2.2.2.1.2.2.2.2.2.2.2.2.2.2.2.1).bind fun y4=>
 let z1:Int:=(IntKind.i64.wrap ((IntKind.i64.wrap (y3.1.1 * z0.Step)) + (IntKind.i64.wrap (y4.1.1 * (IntKind.i64.wrap ((IntKind.i64.wrap ((2:Int) * z0.Travel)) + z0.Dwell))))))
 some (((bif (decide ((1000000:Int) < z1)) then (1000000:Int) else z1),()),())
 else
 none
noncomputable def nkz' (p0 p1 p2 p3:Int):Option ((Bool×Unit)×Unit):=
 Option.bind (bif (decide (p0 < p2)) then
 some ((true,()),())
 else
 bif (p0==p2) then
 some (((decide (p1 < p3)),()),())
 else
 some ((false,()),())) fun y1=>
 some ((y1.1.1,()),())
noncomputable def nkb' (p0 p1 p2 p3:Bool) (p4 p5 p6 p7 p8 p9 p10 p11:Int):Option ((Bool×Unit)×Unit):=
 Option.bind (bif (p6==(3:Int)) then
 some ((true,()),())
 else
 some (((p6==(4:Int)),()),())) fun y1=>
 some ((y1.1.1,()),())
noncomputable def nh7' (p0 p1 p2 p3:Int) (p4 p5 p6:Nat) (p7:List (Car)) (p8:List (View)) (car p9 dir:Int):Option ((Unit×Unit)×T'19):=
 Option.bind (bif (inB car (List.length p8)) then
 let z0:View:=(List.getD p8 (Int.toNat car) (View.mk false false false false (0:Int) (0:Int) (0:Int) (0:Int) (0:Int) (0:Int) (0:Int) (0:Int)))
 (nkb' z0.Ready z0.Serving z0.Legacy z0.Lost z0.Floor z0.Dir z0.Load z0.Shows_Up z0.Shows_Down z0.Stops_Car z0.Stops_Hall_Up z0.Stops_Hall_Down).bind fun y1=>
 bif y1.1.1 then
 some ((p8,car,p9,dir,(),(),(1:Int),()),((p0,p1,p2,p3,p4,p5,p6,p7,()),((0:Int),(0:Int),()),()))
 else
 some ((p8,car,p9,dir,(),(),(0:Int),()),((p0,p1,p2,p3,p4,p5,p6,p7,()),((0:Int),(0:Int),()),()))
 else
 none) fun y2=>
 bif (inB y2.1.2.1 (List.length y2.1.1)) then
 let z1:View:=(List.getD y2.1.1 (Int.toNat y2.1.2.1) (View.mk false false false false (0:Int) (0:Int) (0:Int) (0:Int) (0:Int) (0:Int) (0:Int) (0:Int)))
 (nfh' y2.2.1.1 y2.2.1.2.1 y2.2.1.2.2.1 y2.2.1.2.2.2.1 y2.2.1.2.2.2.2.1 y2.2.1.2.2.2.2.2.1 y2.2.1.2.2.2.2.2.2.1 y2.2.1.2.2.2.2.2.2.2.1 y2.1.2.1 z1.Ready z1.Serving z1.Legacy z1.Lost z1.Floor z1.Dir z1.Load z1.Shows_Up z1.Shows_Down z1.Stops_Car z1.Stops_Hall_Up z1.Stops_Hall_Down y2.1.2.2.1 y2.1.2.2.2.1).bind fun y3=>
 some (((),()),((y2.1.2.2.2.2.2.2.1,y3.1.1,()),()))
 else
 none
noncomputable def nsf' (p0:List (View)) (p1 dir p2 p3 i p4 p5 p6 p7:Int) (p8 p9 p10:Nat) (p11:List (Car)):Option (Sum (T'63×(T'0×Unit)) ((Int×Unit)×Unit)):=
 bif (decide (i < ((List.length p0:Nat):Int))) then
 bif (inB i (List.length p0)) then
 bif (!(List.getD p0 (Int.toNat i) (View.mk false false false false (0:Int) (0:Int) (0:Int) (0:Int) (0:Int) (0:Int) (0:Int) (0:Int))).Ready) then
 some (Sum.inl ((p0,p1,dir,p2,(),p3,(IntKind.i64.wrap (i + (1:Int))),()),((p4,p5,p6,p7,p8,p9,p10,p11,()),())))
 else
 bif (i==p2) then
 some (Sum.inl ((p0,p1,dir,p2,(),p3,(IntKind.i64.wrap (i + (1:Int))),()),((p4,p5,p6,p7,p8,p9,p10,p11,()),())))
 else
 Option.bind (bif (decide (p3 < (0:Int))) then
 some ((p0,p1,dir,p2,(),p3,i,true,()),((p4,p5,p6,p7,p8,p9,p10,p11,()),()))
 else
 (nh7' p4 p5 p6 p7 p8 p9 p10 p11 p0 i p1 dir).bind fun y1=>
 (nh7' p4 p5 p6 p7 p8 p9 p10 p11 p0 p3 p1 dir).bind fun y2=>
 (nkz' y1.2.1.1 y1.2.1.2.1 y2.2.1.1 y2.2.1.2.1).bind fun y3=>
 some ((p0,p1,dir,p2,(),p3,i,y3.1.1,()),((p4,p5,p6,p7,p8,p9,p10,p11,()),()))) fun y4=>
 bif y4.1.2.2.2.2.2.2.2.1 then
 some (Sum.inl ((y4.1.1,y4.1.2.1,y4.1.2.2.1,y4.1.2.2.2.1,(),y4.1.2.2.2.2.2.2.1,(IntKind.i64.wrap (y4.1.2.2.2.2.2.2.1 + (1:Int))),()),(y4.2.1,())))
 else
 some (Sum.inl ((y4.1.1,y4.1.2.1,y4.1.2.2.1,y4.1.2.2.2.1,(),y4.1.2.2.2.2.2.1,(IntKind.i64.wrap (y4.1.2.2.2.2.2.2.1 + (1:Int))),()),(y4.2.1,())))
 else
 none
 else
 some (Sum.inr ((p3,()),()))
noncomputable def niy':(T'63×(T'0×Unit))→Option ((Int×Unit)×Unit):=iter (fun x=>nsf' x.1.1 x.1.2.1 x.1.2.2.1 x.1.2.2.2.1 x.1.2.2.2.2.2.1 x.1.2.2.2.2.2.2.1 x.2.1.1 x.2.1.2.1 x.2.1.2.2.1 x.2.1.2.2.2.1 x.2.1.2.2.2.2.1 x.2.1.2.2.2.2.2.1 x.2.1.2.2.2.2.2.2.1 x.2.1.2.2.2.2.2.2.2.1) fuel
noncomputable def nig' (p0 p1 p2 p3:Int) (p4 p5 p6:Nat) (p7:List (Car)) (p8:List (View)) (p9 dir p10:Int):Option ((Int×Unit)×Unit):=
 (ncu' p0 p1 p2 p3 p4 p5 p6 p7).bind fun y1=>
 bif (y1.1.1 != (0:Int)) then
 some (((-1:Int),()),())
 else
 bif (((List.length p8:Nat):Int) != ((List.length p7:Nat):Int)) then
 some (((-1:Int),()),())
 else
 (niy' ((p8,p9,dir,p10,(),(-1:Int),(0:Int),()),((p0,p1,p2,p3,p4,p5,p6,p7,()),()))).bind fun y2=>
 some ((y2.1.1,()),())
noncomputable def np0' (p0:List (Int)) (i:Int) (p1:List (Int)) (p2 p3:List (Bool)) (p4:List (Entry)):Option (Sum (T'64×(T'5×Unit)) ((T'65×(T'5×Unit)) ⊕ ((Bool×Unit)×Unit))):=
 bif (decide (i < ((List.length p0:Nat):Int))) then
 bif (inB i (List.length p0)) then
 bif (decide ((List.getD p0 (Int.toNat i) (0:Int)) < (0:Int))) then
 some (Sum.inr (Sum.inr ((false,()),())))
 else
 bif (inB i (List.length p0)) then
 bif (decide ((1000000:Int) < (List.getD p0 (Int.toNat i) (0:Int)))) then
 some (Sum.inr (Sum.inr ((false,()),())))
 else
 some (Sum.inl ((p0,(),(IntKind.i64.wrap (i + (1:Int))),()),((p1,p2,p3,p4,()),())))
 else
 none
 else
 none
 else
 some (Sum.inr (Sum.inl ((p0,(),()),((p1,p2,p3,p4,()),()))))
noncomputable def nhs':(T'64×(T'5×Unit))→Option ((T'65×(T'5×Unit)) ⊕ ((Bool×Unit)×Unit)):=iter (fun x=>np0' x.1.1 x.1.2.2.1 x.2.1.1 x.2.1.2.1 x.2.1.2.2.1 x.2.1.2.2.2.1) fuel
noncomputable def nmo' (p0:List (Int)) (p1 p2:List (Bool)) (p3:List (Entry)) (p4:List (Int)):Option ((Bool×Unit)×Unit):=
 (nhs' ((p4,(),(0:Int),()),((p0,p1,p2,p3,()),()))).bind fun y1=>
 (match y1 with
 | .inl y2=>
 some (((((List.length y2.1.1:Nat):Int)==((List.length y2.2.1.2.2.2.1:Nat):Int)),()),())
 | .inr y2=>
 some ((y2.1.1,()),()))
noncomputable def nni' (p0 p1 p2 p3:Int) (p4 p5 p6:Nat) (p7:List (Car)) (p8 p9 p10 p11:Int) (p12:Bool) (p13:Int) (p14:List (View)):Option ((Unit×Unit)×(T'11×Unit)):=
 let z0:Int:=(IntKind.i64.wrap (((List.length p7:Nat):Int) + (1:Int)))
 bif (p10==(-2:Int)) then
 some (((),()),((p8,p9,p10,p11,p12,()),()))
 else
 bif (p10==(-1:Int)) then
 (nig' p0 p1 p2 p3 p4 p5 p6 p7 p14 p8 p9 (-1:Int)).bind fun y1=>
 some (((),()),((p8,p9,y1.1.1,p11,p12,()),()))
 else
 Option.bind (bif (inB p10 (List.length p14)) then
 bif (List.getD p14 (Int.toNat p10) (View.mk false false false false (0:Int) (0:Int) (0:Int) (0:Int) (0:Int) (0:Int) (0:Int) (0:Int))).Lost then
 some ((p13,p14,(),(),(),z0,(decide (z0≤p11)),()),((p0,p1,p2,p3,p4,p5,p6,p7,()),(p8,p9,p10,p11,p12,()),((0:Int),(0:Int),(0:Int),(0:Int),false,()),()))
 else
 some ((p13,p14,(),(),(),z0,false,()),((p0,p1,p2,p3,p4,p5,p6,p7,()),(p8,p9,p10,p11,p12,()),((0:Int),(0:Int),(0:Int),(0:Int),false,()),()))
 else
 none) fun y2=>
 bif y2.1.2.2.2.2.2.2.1 then
 some (((),()),((y2.2.2.1.1,y2.2.2.1.2.1,(-2:Int),y2.2.2.1.2.2.2.1,y2.2.2.1.2.2.2.2.1,()),()))
 else
 bif (inB y2.2.2.1.2.2.1 (List.length y2.1.2.1)) then
 bif (List.getD y2.1.2.1 (Int.toNat y2.2.2.1.2.2.1) (View.mk false false false false (0:Int) (0:Int) (0:Int) (0:Int) (0:Int) (0:Int) (0:Int) (0:Int))).Lost then
 (nig' y2.2.1.1 y2.2.1.2.1 y2.2.1.2.2.1 y2.2.1.2.2.2.1 y2.2.1.2.2.2.2.1 y2.2.1.2.2.2.2.2.1 y2.2.1.2.2.2.2.2.2.1 y2.2.1.2.2.2.2.2.2.2.1 y2.1.2.1 y2.2.2.1.1 y2.2.2.1.2.1 y2.2.2.1.2.2.1).bind fun y3=>
 some (((),()),((y2.2.2.1.1,y2.2.2.1.2.1,y3.1.1,(IntKind.i64.wrap (y2.2.2.1.2.2.2.1 + (1:Int))),y2.2.2.1.2.2.2.2.1,()),()))
 else
 bif y2.2.2.1.2.2.2.2.1 then
 some (((),()),(y2.2.2.1,()))
 else
 bif (decide (y2.1.2.2.2.2.2.1≤y2.2.2.1.2.2.2.1)) then
 some (((),()),(y2.2.2.1,()))
 else
 bif (inB y2.2.2.1.2.2.1 (List.length y2.1.2.1)) then
 let z1:View:=(List.getD y2.1.2.1 (Int.toNat y2.2.2.1.2.2.1) (View.mk false false false false (0:Int) (0:Int) (0:Int) (0:Int) (0:Int) (0:Int) (0:Int) (0:Int)))
 (nig' y2.2.1.1 y2.2.1.2.1 y2.2.1.2.2.1 y2.2.1.2.2.2.1 y2.2.1.2.2.2.2.1 y2.2.1.2.2.2.2.2.1 y2.2.1.2.2.2.2.2.2.1 y2.2.1.2.2.2.2.2.2.2.1 y2.1.2.1 y2.2.2.1.1 y2.2.2.1.2.1 y2.2.2.1.2.2.1).bind fun y4=>
 bif (decide (y4.1.1 < (0:Int))) then
 some (((),()),(y2.2.2.1,()))
 else
 Option.bind (bif z1.Legacy then
 bif (y2.1.1==(0:Int)) then
 (nh7' y2.2.1.1 y2.2.1.2.1 y2.2.1.2.2.1 y2.2.1.2.2.2.1 y2.2.1.2.2.2.2.1 y2.2.1.2.2.2.2.2.1 y2.2.1.2.2.2.2.2.2.1 y2.2.1.2.2.2.2.2.2.2.1 y2.1.2.1 y4.1.1 y2.2.2.1.1 y2.2.2.1.2.1).bind fun y5=>
 (nh7' y2.2.1.1 y2.2.1.2.1 y2.2.1.2.2.1 y2.2.1.2.2.2.1 y2.2.1.2.2.2.2.1 y2.2.1.2.2.2.2.2.1 y2.2.1.2.2.2.2.2.2.1 y2.2.1.2.2.2.2.2.2.2.1 y2.1.2.1 y2.2.2.1.2.2.1 y2.2.2.1.1 y2.2.2.1.2.1).bind fun y6=>
 (nkz' y5.2.1.1 y5.2.1.2.1 y6.2.1.1 y6.2.1.2.1).bind fun y7=>
 some ((y2.1.2.1,(),(),(),y4.1.1,y7.1.1,()),(y2.2.2.1,y2.2.2.2.1,(z1.Ready,z1.Serving,z1.Legacy,z1.Lost,z1.Floor,z1.Dir,z1.Load,z1.Shows_Up,z1.Shows_Down,z1.Stops_Car,z1.Stops_Hall_Up,z1.Stops_Hall_Down,()),()))
 else
 some ((y2.1.2.1,(),(),(),y4.1.1,false,()),(y2.2.2.1,y2.2.2.2.1,(z1.Ready,z1.Serving,z1.Legacy,z1.Lost,z1.Floor,z1.Dir,z1.Load,z1.Shows_Up,z1.Shows_Down,z1.Stops_Car,z1.Stops_Hall_Up,z1.Stops_Hall_Down,()),()))
 else
 some ((y2.1.2.1,(),(),(),y4.1.1,false,()),(y2.2.2.1,y2.2.2.2.1,(z1.Ready,z1.Serving,z1.Legacy,z1.Lost,z1.Floor,z1.Dir,z1.Load,z1.Shows_Up,z1.Shows_Down,z1.Stops_Car,z1.Stops_Hall_Up,z1.Stops_Hall_Down,()),()))) fun y8=>
 Option.bind (bif y8.1.2.2.2.2.2.1 then
 some (((),(),y8.1.2.2.2.2.1,true,()),(y8.2.1,y8.2.2.1,()))
 else
 bif (!y8.2.2.2.1.2.2.1) then
 (nkb' y8.2.2.2.1.1 y8.2.2.2.1.2.1 y8.2.2.2.1.2.2.1 y8.2.2.2.1.2.2.2.1 y8.2.2.2.1.2.2.2.2.1 y8.2.2.2.1.2.2.2.2.2.1 y8.2.2.2.1.2.2.2.2.2.2.1 y8.2.2.2.1.2.2.2.2.2.2.2.1 y8.2.2.2.1.2.2.2.2.2.2.2.2.1 y8.2.2.2.1.2.2.2.2.2.2.2.2.2.1 y8.2.2.2.1.2.2.2.2.2.2.2.2.2.2.1 y8.2.2.2.1.2.2.2.2.2.2.2.2.2.2.2.1).bind fun y9=>
 bif y9.1.1 then
 bif (inB y8.1.2.2.2.2.1 (List.length y8.1.1)) then
 let z2:View:=(List.getD y8.1.1 (Int.toNat y8.1.2.2.2.2.1) (View.mk false false false false (0:Int) (0:Int) (0:Int) (0:Int) (0:Int) (0:Int) (0:Int) (0:Int)))
 (nkb' z2.Ready z2.Serving z2.Legacy z2.Lost z2.Floor z2.Dir z2.Load z2.Shows_Up z2.Shows_Down z2.Stops_Car z2.Stops_Hall_Up z2.Stops_Hall_Down).bind fun y10=>
 some (((),(),y8.1.2.2.2.2.1,(!y10.1.1),()),(y8.2.1,y8.2.2.1,()))
 else
 none
 else
 some (((),(),y8.1.2.2.2.2.1,false,()),(y8.2.1,y8.2.2.1,()))
 else
 some (((),(),y8.1.2.2.2.2.1,false,()),(y8.2.1,y8.2.2.1,()))) fun y11=>
 bif y11.1.2.2.2.1 then
 some (((),()),((y11.2.1.1,y11.2.1.2.1,y11.1.2.2.1,(IntKind.i64.wrap (y11.2.1.2.2.2.1 + (1:Int))),true,()),()))
 else
 some (((),()),(y11.2.1,()))
 else
 none
 else
 none
noncomputable def nvh' (p0:List (Int)) (p1:List (View)) (out:List (Record)) (p2:List (Int)) (i p3 p4 p5 p6:Int) (p7 p8 p9:Nat) (p10:List (Car)) (p11:List (Int)) (p12 p13:List (Bool)) (p14:List (Entry)):Option (Sum (T'66×(T'0×T'5×Unit)) (T'47×Unit)):=
 bif (decide (i < ((List.length p14:Nat):Int))) then
 bif (inB i (List.length p14)) then
 let z0:Entry:=(List.getD p14 (Int.toNat i) (Entry.mk (0:Int) (0:Int) (0:Int) (0:Int) false))
 bif (inB i (List.length p0)) then
 (nni' p3 p4 p5 p6 p7 p8 p9 p10 z0.Floor z0.Dir z0.Car z0.Moves z0.Moved (List.getD p0 (Int.toNat i) (0:Int)) p1).bind fun y1=>
 Option.bind (Option.bind (bif (y1.2.1.2.2.2.1 != z0.Moves) then
 some ((p0,p1,(),(),out,p2,i,(),(),true,()),((p3,p4,p5,p6,p7,p8,p9,p10,()),(p11,p12,p13,p14,()),(z0.Floor,z0.Dir,z0.Car,z0.Moves,z0.Moved,()),y1.2.1,()))
 else
 some ((p0,p1,(),(),out,p2,i,(),(),(!(y1.2.1.2.2.2.2.1==z0.Moved)),()),((p3,p4,p5,p6,p7,p8,p9,p10,()),(p11,p12,p13,p14,()),(z0.Floor,z0.Dir,z0.Car,z0.Moves,z0.Moved,()),y1.2.1,()))) fun y2=>
 bif y2.1.2.2.2.2.2.2.2.2.2.1 then
 bif y2.2.2.2.2.1.2.2.2.2.1 then
 let z1:List (Record):=[(Record.mk (7:Int) y2.2.2.2.1.1 y2.2.2.2.1.2.1 (1:Int) y2.2.2.2.2.1.2.2.2.1)]
 bif (Nat.ble ((List.length y2.1.2.2.2.2.1) + (List.length z1)) 2147483648) then
 some ((y2.1.1,y2.1.2.1,(),(),(y2.1.2.2.2.2.1++z1),y2.1.2.2.2.2.2.1,y2.1.2.2.2.2.2.2.1,(),(),()),(y2.2.1,y2.2.2.1,y2.2.2.2.1,y2.2.2.2.2.1,()))
 else
 none
 else
 let z2:List (Record):=[(Record.mk (7:Int) y2.2.2.2.1.1 y2.2.2.2.1.2.1 (0:Int) y2.2.2.2.2.1.2.2.2.1)]
 bif (Nat.ble ((List.length y2.1.2.2.2.2.1) + (List.length z2)) 2147483648) then
 some ((y2.1.1,y2.1.2.1,(),(),(y2.1.2.2.2.2.1++z2),y2.1.2.2.2.2.2.1,y2.1.2.2.2.2.2.2.1,(),(),()),(y2.2.1,y2.2.2.1,y2.2.2.2.1,y2.2.2.2.2.1,()))
 else
 none
 else
 some ((y2.1.1,y2.1.2.1,(),(),y2.1.2.2.2.2.1,y2.1.2.2.2.2.2.1,y2.1.2.2.2.2.2.2.1,(),(),()),(y2.2.1,y2.2.2.1,y2.2.2.2.1,y2.2.2.2.2.1,()))) fun y3=>
 Option.bind (bif (y3.2.2.2.2.1.2.2.1 != y3.2.2.2.1.2.2.1) then
 let z3:List (Record):=[(Record.mk (3:Int) y3.2.2.2.1.1 y3.2.2.2.1.2.1 y3.2.2.2.2.1.2.2.1 (0:Int))]
 bif (Nat.ble ((List.length y3.1.2.2.2.2.1) + (List.length z3)) 2147483648) then
 some ((y3.1.1,y3.1.2.1,(),(),(y3.1.2.2.2.2.1++z3),y3.1.2.2.2.2.2.1,y3.1.2.2.2.2.2.2.1,(),(),()),(y3.2.1,y3.2.2.1,y3.2.2.2.1,y3.2.2.2.2.1,()))
 else
 none
 else
 some ((y3.1.1,y3.1.2.1,(),(),y3.1.2.2.2.2.1,y3.1.2.2.2.2.2.1,y3.1.2.2.2.2.2.2.1,(),(),()),(y3.2.1,y3.2.2.1,y3.2.2.2.1,y3.2.2.2.2.1,()))) fun y4=>
 Option.bind (bif (y4.2.2.2.2.1.2.2.1 != y4.2.2.2.1.2.2.1) then
 some ((y4.1.1,y4.1.2.1,(),(),y4.1.2.2.2.2.1,y4.1.2.2.2.2.2.1,y4.1.2.2.2.2.2.2.1,(),(),(decide ((0:Int)≤y4.2.2.2.2.1.2.2.1)),()),(y4.2.1,y4.2.2.1,y4.2.2.2.1,y4.2.2.2.2.1,()))
 else
 some ((y4.1.1,y4.1.2.1,(),(),y4.1.2.2.2.2.1,y4.1.2.2.2.2.2.1,y4.1.2.2.2.2.2.2.1,(),(),false,()),(y4.2.1,y4.2.2.1,y4.2.2.2.1,y4.2.2.2.2.1,()))) fun y5=>
 bif y5.1.2.2.2.2.2.2.2.2.2.1 then
 bif (inB y5.2.2.2.2.1.2.2.1 (List.length y5.1.2.1)) then
 let z4:View:=(List.getD y5.1.2.1 (Int.toNat y5.2.2.2.2.1.2.2.1) (View.mk false false false false (0:Int) (0:Int) (0:Int) (0:Int) (0:Int) (0:Int) (0:Int) (0:Int)))
 (nfh' y5.2.1.1 y5.2.1.2.1 y5.2.1.2.2.1 y5.2.1.2.2.2.1 y5.2.1.2.2.2.2.1 y5.2.1.2.2.2.2.2.1 y5.2.1.2.2.2.2.2.2.1 y5.2.1.2.2.2.2.2.2.2.1 y5.2.2.2.2.1.2.2.1 z4.Ready z4.Serving z4.Legacy z4.Lost z4.Floor z4.Dir z4.Load z4.Shows_Up z4.Shows_Down z4.Stops_Car z4.Stops_Hall_Up z4.Stops_Hall_Down y5.2.2.2.1.1 y5.2.2.2.1.2.1).bind fun y6=>
 bif (inB y5.2.2.2.2.1.2.2.1 (List.length y5.2.1.2.2.2.2.2.2.2.1)) then
 let z5:Int:=(IntKind.i64.wrap (y6.1.1 + (List.getD y5.2.1.2.2.2.2.2.2.2.1 (Int.toNat y5.2.2.2.2.1.2.2.1) (Car.mk (0:Int) (0:Int) (0:Int) (0:Int) (0:Int) (0:Int) (0:Int) (0:Int) (0:Int))).Slack))
 let z6:List (Int):=[(bif (decide ((1000000:Int) < z5)) then (1000000:Int) else z5)]
 bif (Nat.ble ((List.length y5.1.2.2.2.2.2.1) + (List.length z6)) 2147483648) then
 some (Sum.inl ((y5.1.1,y5.1.2.1,(),(),y5.1.2.2.2.2.1,(y5.1.2.2.2.2.2.1++z6),(IntKind.i64.wrap (y5.1.2.2.2.2.2.2.1 + (1:Int))),()),(y5.2.1,y5.2.2.1,())))
 else
 none
 else
 none
 else
 none
 else
 bif (inB y5.1.2.2.2.2.2.2.1 (List.length y5.1.1)) then
 let z7:Int:=(IntKind.i64.wrap ((List.getD y5.1.1 (Int.toNat y5.1.2.2.2.2.2.2.1) (0:Int)) - (1:Int)))
 let z8:List (Int):=[(bif (decide ((0:Int) < z7)) then z7 else (0:Int))]
 bif (Nat.ble ((List.length y5.1.2.2.2.2.2.1) + (List.length z8)) 2147483648) then
 some (Sum.inl ((y5.1.1,y5.1.2.1,(),(),y5.1.2.2.2.2.1,(y5.1.2.2.2.2.2.1++z8),(IntKind.i64.wrap (y5.1.2.2.2.2.2.2.1 + (1:Int))),()),(y5.2.1,y5.2.2.1,())))
 else
 none
 else
 none
 else
 none
 else
 none
 else
 some (Sum.inr ((out,p2,()),()))
noncomputable def nkx':(T'66×(T'0×T'5×Unit))→Option (T'47×Unit):=iter (fun x=>nvh' x.1.1 x.1.2.1 x.1.2.2.2.2.1 x.1.2.2.2.2.2.1 x.1.2.2.2.2.2.2.1 x.2.1.1 x.2.1.2.1 x.2.1.2.2.1 x.2.1.2.2.2.1 x.2.1.2.2.2.2.1 x.2.1.2.2.2.2.2.1 x.2.1.2.2.2.2.2.2.1 x.2.1.2.2.2.2.2.2.2.1 x.2.2.1.1 x.2.2.1.2.1 x.2.2.1.2.2.1 x.2.2.1.2.2.2.1) fuel
noncomputable def nyd' (p0 p1 p2 p3:Int) (p4 p5 p6:Nat) (p7:List (Car)) (p8:List (Int)) (p9 p10:List (Bool)) (p11:List (Entry)) (p12:List (Int)) (p13:List (View)):Option (T'44×Unit):=
 (net' p0 p1 p2 p3 p4 p5 p6 p7 p8 p9 p10 p11).bind fun y1=>
 bif (!y1.1.1) then
 some ((([]:List (Record)),([]:List (Int)),(1:Int),()),())
 else
 (nmo' p8 p9 p10 p11 p12).bind fun y2=>
 bif (!y2.1.1) then
 some ((([]:List (Record)),([]:List (Int)),(1:Int),()),())
 else
 bif (((List.length p13:Nat):Int) != ((List.length p7:Nat):Int)) then
 some ((([]:List (Record)),([]:List (Int)),(1:Int),()),())
 else
 (nkx' ((p12,p13,(),(),([]:List (Record)),([]:List (Int)),(0:Int),()),((p0,p1,p2,p3,p4,p5,p6,p7,()),(p8,p9,p10,p11,()),()))).bind fun y3=>
 some ((y3.1.1,y3.1.2.1,(0:Int),()),())
noncomputable def nps' (a b:List (Int)) (i:Int):Option (Sum (T'14×Unit) ((Unit×Unit) ⊕ ((Bool×Unit)×Unit))):=
 bif (decide (i < ((List.length a:Nat):Int))) then
 bif (inB i (List.length a)) then
 bif (inB i (List.length b)) then
 bif ((List.getD a (Int.toNat i) (0:Int)) != (List.getD b (Int.toNat i) (0:Int))) then
 some (Sum.inr (Sum.inr ((false,()),())))
 else
 some (Sum.inl ((a,b,(IntKind.i64.wrap (i + (1:Int))),()),()))
 else
 none
 else
 none
 else
 some (Sum.inr (Sum.inl ((),())))
noncomputable def nhu':(T'14×Unit)→Option ((Unit×Unit) ⊕ ((Bool×Unit)×Unit)):=iter (fun x=>nps' x.1.1 x.1.2.1 x.1.2.2.1) fuel
noncomputable def nsd' (a b:List (Int)):Option ((Bool×Unit)×Unit):=
 bif (((List.length a:Nat):Int) != ((List.length b:Nat):Int)) then
 some ((false,()),())
 else
 (nhu' ((a,b,(0:Int),()),())).bind fun y1=>
 (match y1 with
 | .inl y2=>
 some ((true,()),())
 | .inr y2=>
 some ((y2.1.1,()),()))
noncomputable def nkv' (p0 p1 p2 p3:Int) (p4 p5 p6:Nat) (p7:List (Car)) (p8 p9 p10 p11:Bool) (p12 p13 p14 p15 p16 p17 p18 p19:Int):Option ((Unit×Unit)×T'19):=
 bif (!p9) then
 some (((),()),(((0:Int),(0:Int),()),()))
 else
 (nqc' p0 p1 p2 p3 p4 p5 p6 p7).bind fun y1=>
 (nq2' p15 p16 y1.2.1.1 y1.2.1.2.1).bind fun y2=>
 some (((),()),(y2.2.1,()))
noncomputable def nt2' (p0:List (View)) (p1:List (Calls)) (i p2 p3 p4 p5:Int) (p6 p7 p8:Nat) (p9:List (Car)) (p10:List (Calls)) (p11:List (Bool)) (p12 p13:Int) (p14:List (Calls)) (p15:List (Bool)) (p16 p17:Int):Option (Sum (T'67×T'24) ((Unit×Unit×Unit)×(T'22×T'22×Unit))):=
 bif (decide (i < ((List.length p0:Nat):Int))) then
 bif (inB i (List.length p0)) then
 let z0:View:=(List.getD p0 (Int.toNat i) (View.mk false false false false (0:Int) (0:Int) (0:Int) (0:Int) (0:Int) (0:Int) (0:Int) (0:Int)))
 (nkv' p2 p3 p4 p5 p6 p7 p8 p9 z0.Ready z0.Serving z0.Legacy z0.Lost z0.Floor z0.Dir z0.Load z0.Shows_Up z0.Shows_Down z0.Stops_Car z0.Stops_Hall_Up z0.Stops_Hall_Down).bind fun y1=>
 (nl6' y1.2.1.1 y1.2.1.2.1 p16 p17).bind fun y2=>
 let z1:List (Calls):=[(Calls.mk y2.2.1.1 y2.2.1.2.1)]
 bif (Nat.ble ((List.length p14) + (List.length z1)) 2147483648) then
 bif (inB i (List.length p1)) then
 let z2:Calls:=(List.getD p1 (Int.toNat i) (Calls.mk (0:Int) (0:Int)))
 (nl6' y2.2.1.1 y2.2.1.2.1 z2.Up z2.Down).bind fun y3=>
 let z3:List (Bool):=[(!((y3.2.1.1==(0:Int))&&((y3.2.1.2.1==(0:Int))&&true)))]
 bif (Nat.ble ((List.length p15) + (List.length z3)) 2147483648) then
 (nl2' p16 p17 y2.2.1.1 y2.2.1.2.1).bind fun y4=>
 some (Sum.inl ((p0,p1,(),(),(),(IntKind.i64.wrap (i + (1:Int))),()),((p2,p3,p4,p5,p6,p7,p8,p9,()),(p10,p11,p12,p13,()),((p14++z1),(p15++z3),y4.2.1.1,y4.2.1.2.1,()),())))
 else
 none
 else
 none
 else
 none
 else
 none
 else
 some (Sum.inr (((),(),()),((p10,p11,p12,p13,()),(p14,p15,p16,p17,()),())))
noncomputable def nju':(T'67×T'24)→Option ((Unit×Unit×Unit)×(T'22×T'22×Unit)):=iter (fun x=>nt2' x.1.1 x.1.2.1 x.1.2.2.2.2.2.1 x.2.1.1 x.2.1.2.1 x.2.1.2.2.1 x.2.1.2.2.2.1 x.2.1.2.2.2.2.1 x.2.1.2.2.2.2.2.1 x.2.1.2.2.2.2.2.2.1 x.2.1.2.2.2.2.2.2.2.1 x.2.2.1.1 x.2.2.1.2.1 x.2.2.1.2.2.1 x.2.2.1.2.2.2.1 x.2.2.2.1.1 x.2.2.2.1.2.1 x.2.2.2.1.2.2.1 x.2.2.2.1.2.2.2.1) fuel
noncomputable def nw4' (p0 p1 p2 p3:Int) (p4 p5 p6:Nat) (p7:List (Car)) (p8:List (View)) (p9:List (Calls)):Option ((Unit×Int×Unit)×(T'22×Unit)):=
 (ncu' p0 p1 p2 p3 p4 p5 p6 p7).bind fun y1=>
 bif (y1.1.1 != (0:Int)) then
 some (((),(1:Int),()),((([]:List (Calls)),([]:List (Bool)),(0:Int),(0:Int),()),()))
 else
 bif (((List.length p8:Nat):Int) != ((List.length p7:Nat):Int)) then
 some (((),(1:Int),()),((([]:List (Calls)),([]:List (Bool)),(0:Int),(0:Int),()),()))
 else
 bif (((List.length p9:Nat):Int) != ((List.length p7:Nat):Int)) then
 some (((),(1:Int),()),((([]:List (Calls)),([]:List (Bool)),(0:Int),(0:Int),()),()))
 else
 (nju' ((p8,p9,(),(),(),(0:Int),()),((p0,p1,p2,p3,p4,p5,p6,p7,()),(([]:List (Calls)),([]:List (Bool)),(0:Int),(0:Int),()),(([]:List (Calls)),([]:List (Bool)),(0:Int),(0:Int),()),()))).bind fun y2=>
 some (((),(0:Int),()),(y2.2.2.1,()))
noncomputable def ntz' (p0:List (View)) (out:List (Record)) (i k p1 p2 p3 p4:Int) (p5 p6 p7:Nat) (p8:List (Car)) (p9:List (Int)) (p10 p11:List (Bool)) (p12:List (Entry)) (p13 p14 p15 p16:Int) (p17:Bool):Option (Sum (T'69×(T'0×T'5×T'11×Unit)) (T'68×(T'0×T'5×Unit))):=
 bif (decide (k < ((List.length p0:Nat):Int))) then
 bif (inB k (List.length p0)) then
 let z0:View:=(List.getD p0 (Int.toNat k) (View.mk false false false false (0:Int) (0:Int) (0:Int) (0:Int) (0:Int) (0:Int) (0:Int) (0:Int)))
 (nkv' p1 p2 p3 p4 p5 p6 p7 p8 z0.Ready z0.Serving z0.Legacy z0.Lost z0.Floor z0.Dir z0.Load z0.Shows_Up z0.Shows_Down z0.Stops_Car z0.Stops_Hall_Up z0.Stops_Hall_Down).bind fun y1=>
 (noc' y1.2.1.1 y1.2.1.2.1 p13 p14).bind fun y2=>
 bif y2.1.1 then
 let z1:List (Record):=[(Record.mk (2:Int) p13 p14 (0:Int) (0:Int))]
 bif (Nat.ble ((List.length out) + (List.length z1)) 2147483648) then
 some (Sum.inr ((p0,(),(),(out++z1),i,()),((p1,p2,p3,p4,p5,p6,p7,p8,()),(p9,p10,p11,p12,()),())))
 else
 none
 else
 some (Sum.inl ((p0,(),(),out,i,(),(IntKind.i64.wrap (k + (1:Int))),()),((p1,p2,p3,p4,p5,p6,p7,p8,()),(p9,p10,p11,p12,()),(p13,p14,p15,p16,p17,()),())))
 else
 none
 else
 some (Sum.inr ((p0,(),(),out,i,()),((p1,p2,p3,p4,p5,p6,p7,p8,()),(p9,p10,p11,p12,()),())))
noncomputable def njw':(T'69×(T'0×T'5×T'11×Unit))→Option (T'68×(T'0×T'5×Unit)):=iter (fun x=>ntz' x.1.1 x.1.2.2.2.1 x.1.2.2.2.2.1 x.1.2.2.2.2.2.2.1 x.2.1.1 x.2.1.2.1 x.2.1.2.2.1 x.2.1.2.2.2.1 x.2.1.2.2.2.2.1 x.2.1.2.2.2.2.2.1 x.2.1.2.2.2.2.2.2.1 x.2.1.2.2.2.2.2.2.2.1 x.2.2.1.1 x.2.2.1.2.1 x.2.2.1.2.2.1 x.2.2.1.2.2.2.1 x.2.2.2.1.1 x.2.2.2.1.2.1 x.2.2.2.1.2.2.1 x.2.2.2.1.2.2.2.1 x.2.2.2.1.2.2.2.2.1) fuel
noncomputable def ntv' (p0:List (View)) (out:List (Record)) (i p1 p2 p3 p4:Int) (p5 p6 p7:Nat) (p8:List (Car)) (p9:List (Int)) (p10 p11:List (Bool)) (p12:List (Entry)):Option (Sum (T'68×(T'0×T'5×Unit)) ((List (Record)×Unit)×Unit)):=
 bif (decide (i < ((List.length p12:Nat):Int))) then
 bif (inB i (List.length p12)) then
 let z0:Entry:=(List.getD p12 (Int.toNat i) (Entry.mk (0:Int) (0:Int) (0:Int) (0:Int) false))
 (njw' ((p0,(),(),out,i,(),(0:Int),()),((p1,p2,p3,p4,p5,p6,p7,p8,()),(p9,p10,p11,p12,()),(z0.Floor,z0.Dir,z0.Car,z0.Moves,z0.Moved,()),()))).bind fun y1=>
 some (Sum.inl ((y1.1.1,(),(),y1.1.2.2.2.1,(IntKind.i64.wrap (y1.1.2.2.2.2.1 + (1:Int))),()),(y1.2.1,y1.2.2.1,())))
 else
 none
 else
 some (Sum.inr ((out,()),()))
noncomputable def njz':(T'68×(T'0×T'5×Unit))→Option ((List (Record)×Unit)×Unit):=iter (fun x=>ntv' x.1.1 x.1.2.2.2.1 x.1.2.2.2.2.1 x.2.1.1 x.2.1.2.1 x.2.1.2.2.1 x.2.1.2.2.2.1 x.2.1.2.2.2.2.1 x.2.1.2.2.2.2.2.1 x.2.1.2.2.2.2.2.2.1 x.2.1.2.2.2.2.2.2.2.1 x.2.2.1.1 x.2.2.1.2.1 x.2.2.1.2.2.1 x.2.2.1.2.2.2.1) fuel
noncomputable def nwe' (p0 p1 p2 p3:Int) (p4 p5 p6:Nat) (p7:List (Car)) (p8:List (Int)) (p9 p10:List (Bool)) (p11:List (Entry)) (p12:List (View)):Option ((List (Record)×Unit)×Unit):=
 (net' p0 p1 p2 p3 p4 p5 p6 p7 p8 p9 p10 p11).bind fun y1=>
 bif (!y1.1.1) then
 some ((([]:List (Record)),()),())
 else
 bif (((List.length p12:Nat):Int) != ((List.length p7:Nat):Int)) then
 some ((([]:List (Record)),()),())
 else
 (njz' ((p12,(),(),([]:List (Record)),(0:Int),()),((p0,p1,p2,p3,p4,p5,p6,p7,()),(p8,p9,p10,p11,()),()))).bind fun y2=>
 some ((y2.1.1,()),())
end Go.Ovl
