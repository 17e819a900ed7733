/- What each function of the program comes to: part 2. -/
import Derived.Test.YthdomhdippmaiaaGreatDoorDefs1
namespace Go.Ovl
open Go Go.Ab
set_option maxRecDepth 100000
noncomputable def nem' (p0 p1 p2 p3 f p4:Int):Option ((Bool×Unit)×Unit):=
 bif (p4==(1:Int)) then
 Option.bind (bif (decide (f < (IntKind.i64.wrap (p0 - (1:Int))))) then
 let z0:Int:=(IntKind.u64.wrap f)
 bif (decide ((0:Int)≤z0)) then
 let z1:Int:=(Int.fdiv p2 ((2:Int) ^ (Min.min (Int.toNat z0) (IntKind.bits IntKind.u32))))
 some ((((IntKind.u32.wrap (stk z1 (1:Int) (BitVec.toNat ((BitVec.ofInt (IntKind.bits IntKind.u32) z1) &&& (BitVec.ofInt (IntKind.bits IntKind.u32) (1:Int))))))==(1:Int)),()),())
 else
 none
 else
 some ((false,()),())) fun y1=>
 some ((y1.1.1,()),())
 else
 bif (p4==(2:Int)) then
 Option.bind (bif (decide ((0:Int) < f)) then
 let z2:Int:=(IntKind.u64.wrap f)
 bif (decide ((0:Int)≤z2)) then
 let z3:Int:=(Int.fdiv p3 ((2:Int) ^ (Min.min (Int.toNat z2) (IntKind.bits IntKind.u32))))
 some ((((IntKind.u32.wrap (stk z3 (1:Int) (BitVec.toNat ((BitVec.ofInt (IntKind.bits IntKind.u32) z3) &&& (BitVec.ofInt (IntKind.bits IntKind.u32) (1:Int))))))==(1:Int)),()),())
 else
 none
 else
 some ((false,()),())) fun y2=>
 some ((y2.1.1,()),())
 else
 let z4:Int:=(IntKind.u64.wrap f)
 bif (decide ((0:Int)≤z4)) then
 let z5:Int:=(Int.fdiv p1 ((2:Int) ^ (Min.min (Int.toNat z4) (IntKind.bits IntKind.u32))))
 some ((((IntKind.u32.wrap (stk z5 (1:Int) (BitVec.toNat ((BitVec.ofInt (IntKind.bits IntKind.u32) z5) &&& (BitVec.ofInt (IntKind.bits IntKind.u32) (1:Int))))))==(1:Int)),()),())
 else
 none
noncomputable def ngc' (p0 p1 p2 p3 dir hi lo f p4 p5 p6:Int):Option (Sum (T'59×T'41) (T'60×Unit)):=
 bif (decide (f < p0)) then
 Option.bind ((nem' p0 p4 p5 p6 f (0:Int)).bind fun y1=>
 bif y1.1.1 then
 some ((p0,p1,p2,p3,dir,(),hi,lo,f,true,()),((p4,p5,p6,()),()))
 else
 (nem' p0 p4 p5 p6 f (1:Int)).bind fun y2=>
 bif y2.1.1 then
 some ((p0,p1,p2,p3,dir,(),hi,lo,f,true,()),((p4,p5,p6,()),()))
 else
 (nem' p0 p4 p5 p6 f (2:Int)).bind fun y3=>
 some ((p0,p1,p2,p3,dir,(),hi,lo,f,y3.1.1,()),((p4,p5,p6,()),()))) fun y4=>
 bif y4.1.2.2.2.2.2.2.2.2.2.1 then
 some (Sum.inl ((y4.1.1,y4.1.2.1,y4.1.2.2.1,y4.1.2.2.2.1,y4.1.2.2.2.2.1,(),(bif (decide (y4.1.2.2.2.2.2.2.1 < y4.1.2.2.2.2.2.2.2.2.1)) then y4.1.2.2.2.2.2.2.2.2.1 else y4.1.2.2.2.2.2.2.1),(bif (decide (y4.1.2.2.2.2.2.2.2.2.1 < y4.1.2.2.2.2.2.2.2.1)) then y4.1.2.2.2.2.2.2.2.2.1 else y4.1.2.2.2.2.2.2.2.1),(IntKind.i64.wrap (y4.1.2.2.2.2.2.2.2.2.1 + (1:Int))),()),(y4.2.1,())))
 else
 some (Sum.inl ((y4.1.1,y4.1.2.1,y4.1.2.2.1,y4.1.2.2.2.1,y4.1.2.2.2.2.1,(),y4.1.2.2.2.2.2.2.1,y4.1.2.2.2.2.2.2.2.1,(IntKind.i64.wrap (y4.1.2.2.2.2.2.2.2.2.1 + (1:Int))),()),(y4.2.1,())))
 else
 some (Sum.inr ((p1,p2,p3,dir,hi,lo,()),()))
noncomputable def nj4':(T'59×T'41)→Option (T'60×Unit):=iter (fun x=>ngc' x.1.1 x.1.2.1 x.1.2.2.1 x.1.2.2.2.1 x.1.2.2.2.2.1 x.1.2.2.2.2.2.2.1 x.1.2.2.2.2.2.2.2.1 x.1.2.2.2.2.2.2.2.2.1 x.2.1.1 x.2.1.2.1 x.2.1.2.2.1) fuel
noncomputable def ner' (p0 p1 p2 p3 p4 p5 p6 dir:Int):Option ((Int×Unit)×Unit):=
 bif (decide (p0 < (2:Int))) then
 some (((-1:Int),()),())
 else
 bif (decide ((32:Int) < p0)) then
 some (((-1:Int),()),())
 else
 bif (decide (p1 < (0:Int))) then
 some (((-1:Int),()),())
 else
 bif (decide (p0≤p1)) then
 some (((-1:Int),()),())
 else
 bif (decide (p2 < (0:Int))) then
 some (((-1:Int),()),())
 else
 bif (decide ((2:Int) < p2)) then
 some (((-1:Int),()),())
 else
 Option.bind (bif (dir==(1:Int)) then
 bif (decide ((0:Int)≤p6)) then
 bif (decide (p6 < (IntKind.i64.wrap (p0 - (1:Int))))) then
 some ((p0,p1,p2,p6,dir,(),false,()),((p3,p4,p5,()),()))
 else
 bif (dir==(2:Int)) then
 bif (decide ((0:Int) < p6)) then
 some ((p0,p1,p2,p6,dir,(),(!(decide (p6 < p0))),()),((p3,p4,p5,()),()))
 else
 some ((p0,p1,p2,p6,dir,(),true,()),((p3,p4,p5,()),()))
 else
 some ((p0,p1,p2,p6,dir,(),true,()),((p3,p4,p5,()),()))
 else
 bif (dir==(2:Int)) then
 bif (decide ((0:Int) < p6)) then
 some ((p0,p1,p2,p6,dir,(),(!(decide (p6 < p0))),()),((p3,p4,p5,()),()))
 else
 some ((p0,p1,p2,p6,dir,(),true,()),((p3,p4,p5,()),()))
 else
 some ((p0,p1,p2,p6,dir,(),true,()),((p3,p4,p5,()),()))
 else
 bif (dir==(2:Int)) then
 bif (decide ((0:Int) < p6)) then
 some ((p0,p1,p2,p6,dir,(),(!(decide (p6 < p0))),()),((p3,p4,p5,()),()))
 else
 some ((p0,p1,p2,p6,dir,(),true,()),((p3,p4,p5,()),()))
 else
 some ((p0,p1,p2,p6,dir,(),true,()),((p3,p4,p5,()),()))) fun y1=>
 bif y1.1.2.2.2.2.2.2.1 then
 some (((-1:Int),()),())
 else
 (nj4' ((y1.1.1,y1.1.2.1,y1.1.2.2.1,y1.1.2.2.2.1,y1.1.2.2.2.2.1,(),(bif (decide (y1.1.2.1 < y1.1.2.2.2.1)) then y1.1.2.2.2.1 else y1.1.2.1),(bif (decide (y1.1.2.2.2.1 < y1.1.2.1)) then y1.1.2.2.2.1 else y1.1.2.1),(0:Int),()),(y1.2.1,()))).bind fun y2=>
 bif (y2.1.2.1==(0:Int)) then
 let z0:Int:=(IntKind.i64.wrap (y2.1.1 - y2.1.2.2.1))
 let z1:Int:=(IntKind.i64.wrap (y2.1.2.2.1 - y2.1.1))
 some (((bif (decide (z0 < z1)) then z1 else z0),()),())
 else
 Option.bind (bif (y2.1.2.1==(1:Int)) then
 bif (y2.1.2.2.2.1==(1:Int)) then
 some ((y2.1.1,y2.1.2.1,y2.1.2.2.1,y2.1.2.2.2.1,y2.1.2.2.2.2.1,y2.1.2.2.2.2.2.1,(decide (y2.1.1≤y2.1.2.2.1)),()),())
 else
 some ((y2.1.1,y2.1.2.1,y2.1.2.2.1,y2.1.2.2.2.1,y2.1.2.2.2.2.1,y2.1.2.2.2.2.2.1,false,()),())
 else
 some ((y2.1.1,y2.1.2.1,y2.1.2.2.1,y2.1.2.2.2.1,y2.1.2.2.2.2.1,y2.1.2.2.2.2.2.1,false,()),())) fun y3=>
 bif y3.1.2.2.2.2.2.2.1 then
 some (((IntKind.i64.wrap (y3.1.2.2.1 - y3.1.1)),()),())
 else
 Option.bind (bif (y3.1.2.1==(1:Int)) then
 some ((y3.1.1,y3.1.2.1,y3.1.2.2.1,y3.1.2.2.2.1,y3.1.2.2.2.2.1,y3.1.2.2.2.2.2.1,(y3.1.2.2.2.1==(2:Int)),()),())
 else
 some ((y3.1.1,y3.1.2.1,y3.1.2.2.1,y3.1.2.2.2.1,y3.1.2.2.2.2.1,y3.1.2.2.2.2.2.1,false,()),())) fun y4=>
 bif y4.1.2.2.2.2.2.2.1 then
 some (((IntKind.i64.wrap ((IntKind.i64.wrap ((IntKind.i64.wrap (y4.1.2.2.2.2.1 - y4.1.1)) + y4.1.2.2.2.2.1)) - y4.1.2.2.1)),()),())
 else
 bif (y4.1.2.1==(1:Int)) then
 some (((IntKind.i64.wrap ((IntKind.i64.wrap ((IntKind.i64.wrap ((IntKind.i64.wrap ((IntKind.i64.wrap (y4.1.2.2.2.2.1 - y4.1.1)) + y4.1.2.2.2.2.1)) - y4.1.2.2.2.2.2.1)) + y4.1.2.2.1)) - y4.1.2.2.2.2.2.1)),()),())
 else
 Option.bind (bif (y4.1.2.2.2.1==(2:Int)) then
 some ((y4.1.1,y4.1.2.2.1,y4.1.2.2.2.1,y4.1.2.2.2.2.1,y4.1.2.2.2.2.2.1,(decide (y4.1.2.2.1≤y4.1.1)),()),())
 else
 some ((y4.1.1,y4.1.2.2.1,y4.1.2.2.2.1,y4.1.2.2.2.2.1,y4.1.2.2.2.2.2.1,false,()),())) fun y5=>
 bif y5.1.2.2.2.2.2.1 then
 some (((IntKind.i64.wrap (y5.1.1 - y5.1.2.1)),()),())
 else
 bif (y5.1.2.2.1==(1:Int)) then
 some (((IntKind.i64.wrap ((IntKind.i64.wrap ((IntKind.i64.wrap (y5.1.1 - y5.1.2.2.2.2.1)) + y5.1.2.1)) - y5.1.2.2.2.2.1)),()),())
 else
 some (((IntKind.i64.wrap ((IntKind.i64.wrap ((IntKind.i64.wrap ((IntKind.i64.wrap ((IntKind.i64.wrap (y5.1.1 - y5.1.2.2.2.2.1)) + y5.1.2.2.2.1)) - y5.1.2.2.2.2.1)) + y5.1.2.2.2.1)) - y5.1.2.1)),()),())
noncomputable def nhc' (p0 n f k p1 p2 p3:Int):Option (Sum (T'62×T'41) (T'61×T'41)):=
 bif (decide (k < (3:Int))) then
 (nem' p0 p1 p2 p3 f k).bind fun y1=>
 bif y1.1.1 then
 some (Sum.inl ((p0,(),(IntKind.i64.wrap (n + (1:Int))),f,(IntKind.i64.wrap (k + (1:Int))),()),((p1,p2,p3,()),())))
 else
 some (Sum.inl ((p0,(),n,f,(IntKind.i64.wrap (k + (1:Int))),()),((p1,p2,p3,()),())))
 else
 some (Sum.inr ((p0,(),n,f,()),((p1,p2,p3,()),())))
noncomputable def ni4':(T'62×T'41)→Option (T'61×T'41):=iter (fun x=>nhc' x.1.1 x.1.2.2.1 x.1.2.2.2.1 x.1.2.2.2.2.1 x.2.1.1 x.2.1.2.1 x.2.1.2.2.1) fuel
noncomputable def nfg' (p0 n f p1 p2 p3:Int):Option (Sum (T'61×T'41) ((Int×Unit)×Unit)):=
 bif (decide (f < p0)) then
 (ni4' ((p0,(),n,f,(0:Int),()),((p1,p2,p3,()),()))).bind fun y1=>
 some (Sum.inl ((y1.1.1,(),y1.1.2.2.1,(IntKind.i64.wrap (y1.1.2.2.2.1 + (1:Int))),()),(y1.2.1,())))
 else
 some (Sum.inr ((n,()),()))
noncomputable def nji':(T'61×T'41)→Option ((Int×Unit)×Unit):=iter (fun x=>nfg' x.1.1 x.1.2.2.1 x.1.2.2.2.1 x.2.1.1 x.2.1.2.1 x.2.1.2.2.1) fuel
noncomputable def nho' (p0 p1 p2 p3:Int):Option ((Int×Unit)×Unit):=
 bif (decide (p0 < (2:Int))) then
 some (((0:Int),()),())
 else
 bif (decide ((32:Int) < p0)) then
 some (((0:Int),()),())
 else
 (nji' ((p0,(),(0:Int),(0:Int),()),((p1,p2,p3,()),()))).bind fun y1=>
 some ((y1.1.1,()),())
noncomputable def nex' (p0 p1 p2 p3:Int) (p4 p5 p6:Nat) (p7:List (Car)) (car:Int) (p8 p9 p10 p11:Bool) (p12 p13 p14 p15 p16 p17 p18 p19 p20 dir:Int):Option ((Int×Unit)×Unit):=
 (ndh' p0 p1 p2 p3 p4 p5 p6 p7).bind fun y1=>
 bif (y1.1.1 != (0:Int)) then
 some (((1000000:Int),()),())
 else
 bif (decide (car < (0:Int))) then
 some (((1000000:Int),()),())
 else
 bif (decide (((List.length p7:Nat):Int)≤car)) then
 some (((1000000:Int),()),())
 else
 bif (decide (p12 < (0:Int))) then
 some (((1000000:Int),()),())
 else
 Option.bind (bif (p13==(3:Int)) then
 some ((car,p20,dir,(),(),(0:Int),()),((p0,p1,p2,p3,p4,p5,p6,p7,()),(p8,p9,p10,p11,p12,p13,p14,p15,p16,p17,p18,p19,()),()))
 else
 some ((car,p20,dir,(),(),p13,()),((p0,p1,p2,p3,p4,p5,p6,p7,()),(p8,p9,p10,p11,p12,p13,p14,p15,p16,p17,p18,p19,()),()))) fun y2=>
 (ner' y2.2.1.1 y2.2.2.1.2.2.2.2.1 y2.1.2.2.2.2.2.1 y2.2.2.1.2.2.2.2.2.2.2.2.2.1 y2.2.2.1.2.2.2.2.2.2.2.2.2.2.1 y2.2.2.1.2.2.2.2.2.2.2.2.2.2.2.1 y2.1.2.1 y2.1.2.2.1).bind fun y3=>
 bif (decide (y3.1.1 < (0:Int))) then
 some (((1000000:Int),()),())
 else
 bif (inB y2.1.1 (List.length y2.2.1.2.2.2.2.2.2.2.1)) then
 let z0:Car:=(List.getD y2.2.1.2.2.2.2.2.2.2.1 (Int.toNat y2.1.1) (Car.mk (0:Int) (0:Int) (0:Int) (0:Int) (0:Int) (0:Int) (0:Int) (0:Int) (0:Int)))
 (nho' y2.2.1.1 y2.2.2.1.2.2.2.2.2.2.2.2.2.1 y2.2.2.1.2.2.2.2.2.2.2.2.2.2.1 y2.2.2.1.2.2.2.2.2.2.2.2.2.2.2.1).bind fun y4=>
 let z1:Int:=(IntKind.i64.wrap ((IntKind.i64.wrap (y3.1.1 * z0.Step)) + (IntKind.i64.wrap (y4.1.1 * (IntKind.i64.wrap ((IntKind.i64.wrap ((2:Int) * z0.Travel)) + z0.Dwell))))))
 some (((bif (decide ((1000000:Int) < z1)) then (1000000:Int) else z1),()),())
 else
 none
noncomputable def ng2' (p0 p1 p2 p3:Int) (p4 p5 p6:Nat) (p7:List (Car)) (p8:List (View)) (car p9 dir:Int):Option ((Unit×Unit)×T'18):=
 Option.bind (bif (inB car (List.length p8)) then
 let z0:View:=(List.getD p8 (Int.toNat car) (View.mk false false false false (0:Int) (0:Int) (0:Int) (0:Int) (0:Int) (0:Int) (0:Int) (0:Int)))
 (nim' z0.Ready z0.Serving z0.Legacy z0.Lost z0.Floor z0.Dir z0.Load z0.Shows_Up z0.Shows_Down z0.Stops_Car z0.Stops_Hall_Up z0.Stops_Hall_Down).bind fun y1=>
 bif y1.1.1 then
 some ((p8,car,p9,dir,(),(),(1:Int),()),((p0,p1,p2,p3,p4,p5,p6,p7,()),((0:Int),(0:Int),()),()))
 else
 some ((p8,car,p9,dir,(),(),(0:Int),()),((p0,p1,p2,p3,p4,p5,p6,p7,()),((0:Int),(0:Int),()),()))
 else
 none) fun y2=>
 bif (inB y2.1.2.1 (List.length y2.1.1)) then
 let z1:View:=(List.getD y2.1.1 (Int.toNat y2.1.2.1) (View.mk false false false false (0:Int) (0:Int) (0:Int) (0:Int) (0:Int) (0:Int) (0:Int) (0:Int)))
 (nex' y2.2.1.1 y2.2.1.2.1 y2.2.1.2.2.1 y2.2.1.2.2.2.1 y2.2.1.2.2.2.2.1 y2.2.1.2.2.2.2.2.1 y2.2.1.2.2.2.2.2.2.1 y2.2.1.2.2.2.2.2.2.2.1 y2.1.2.1 z1.Ready z1.Serving z1.Legacy z1.Lost z1.Floor z1.Dir z1.Load z1.Shows_Up z1.Shows_Down z1.Stops_Car z1.Stops_Hall_Up z1.Stops_Hall_Down y2.1.2.2.1 y2.1.2.2.2.1).bind fun y3=>
 some (((),()),((y2.1.2.2.2.2.2.2.1,y3.1.1,()),()))
 else
 none
noncomputable def nh6' (p0 p1 p2 p3:Int):Option ((Bool×Unit)×Unit):=
 Option.bind (bif (decide (p0 < p2)) then
 some ((true,()),())
 else
 bif (p0==p2) then
 some (((decide (p1 < p3)),()),())
 else
 some ((false,()),())) fun y1=>
 some ((y1.1.1,()),())
noncomputable def ney' (p0:List (View)) (p1 dir p2 p3 i p4 p5 p6 p7:Int) (p8 p9 p10:Nat) (p11:List (Car)):Option (Sum (T'63×(T'0×Unit)) ((Int×Unit)×Unit)):=
 bif (decide (i < ((List.length p0:Nat):Int))) then
 bif (inB i (List.length p0)) then
 bif (!(List.getD p0 (Int.toNat i) (View.mk false false false false (0:Int) (0:Int) (0:Int) (0:Int) (0:Int) (0:Int) (0:Int) (0:Int))).Ready) then
 some (Sum.inl ((p0,p1,dir,p2,(),p3,(IntKind.i64.wrap (i + (1:Int))),()),((p4,p5,p6,p7,p8,p9,p10,p11,()),())))
 else
 bif (i==p2) then
 some (Sum.inl ((p0,p1,dir,p2,(),p3,(IntKind.i64.wrap (i + (1:Int))),()),((p4,p5,p6,p7,p8,p9,p10,p11,()),())))
 else
 Option.bind (bif (decide (p3 < (0:Int))) then
 some ((p0,p1,dir,p2,(),p3,i,true,()),((p4,p5,p6,p7,p8,p9,p10,p11,()),()))
 else
 (ng2' p4 p5 p6 p7 p8 p9 p10 p11 p0 i p1 dir).bind fun y1=>
 (ng2' p4 p5 p6 p7 p8 p9 p10 p11 p0 p3 p1 dir).bind fun y2=>
 (nh6' y1.2.1.1 y1.2.1.2.1 y2.2.1.1 y2.2.1.2.1).bind fun y3=>
 some ((p0,p1,dir,p2,(),p3,i,y3.1.1,()),((p4,p5,p6,p7,p8,p9,p10,p11,()),()))) fun y4=>
 bif y4.1.2.2.2.2.2.2.2.1 then
 some (Sum.inl ((y4.1.1,y4.1.2.1,y4.1.2.2.1,y4.1.2.2.2.1,(),y4.1.2.2.2.2.2.2.1,(IntKind.i64.wrap (y4.1.2.2.2.2.2.2.1 + (1:Int))),()),(y4.2.1,())))
 else
 some (Sum.inl ((y4.1.1,y4.1.2.1,y4.1.2.2.1,y4.1.2.2.2.1,(),y4.1.2.2.2.2.2.1,(IntKind.i64.wrap (y4.1.2.2.2.2.2.2.1 + (1:Int))),()),(y4.2.1,())))
 else
 none
 else
 some (Sum.inr ((p3,()),()))
noncomputable def nii':(T'63×(T'0×Unit))→Option ((Int×Unit)×Unit):=iter (fun x=>ney' x.1.1 x.1.2.1 x.1.2.2.1 x.1.2.2.2.1 x.1.2.2.2.2.2.1 x.1.2.2.2.2.2.2.1 x.2.1.1 x.2.1.2.1 x.2.1.2.2.1 x.2.1.2.2.2.1 x.2.1.2.2.2.2.1 x.2.1.2.2.2.2.2.1 x.2.1.2.2.2.2.2.2.1 x.2.1.2.2.2.2.2.2.2.1) fuel
noncomputable def nf9' (p0 p1 p2 p3:Int) (p4 p5 p6:Nat) (p7:List (Car)) (p8:List (View)) (p9 dir p10:Int):Option ((Int×Unit)×Unit):=
 (ndh' p0 p1 p2 p3 p4 p5 p6 p7).bind fun y1=>
 bif (y1.1.1 != (0:Int)) then
 some (((-1:Int),()),())
 else
 bif (((List.length p8:Nat):Int) != ((List.length p7:Nat):Int)) then
 some (((-1:Int),()),())
 else
 (nii' ((p8,p9,dir,p10,(),(-1:Int),(0:Int),()),((p0,p1,p2,p3,p4,p5,p6,p7,()),()))).bind fun y2=>
 some ((y2.1.1,()),())
noncomputable def nja' (p0 p1 p2 p3:Int) (p4 p5 p6:Nat) (p7:List (Car)) (p8 p9 p10 p11:Int) (p12:Bool) (p13:Int) (p14:List (View)):Option ((Unit×Unit)×(T'11×Unit)):=
 let z0:Int:=(IntKind.i64.wrap (((List.length p7:Nat):Int) + (1:Int)))
 bif (p10==(-2:Int)) then
 some (((),()),((p8,p9,p10,p11,p12,()),()))
 else
 bif (p10==(-1:Int)) then
 (nf9' p0 p1 p2 p3 p4 p5 p6 p7 p14 p8 p9 (-1:Int)).bind fun y1=>
 some (((),()),((p8,p9,y1.1.1,p11,p12,()),()))
 else
 Option.bind (bif (inB p10 (List.length p14)) then
 bif (List.getD p14 (Int.toNat p10) (View.mk false false false false (0:Int) (0:Int) (0:Int) (0:Int) (0:Int) (0:Int) (0:Int) (0:Int))).Lost then
 some ((p13,p14,(),(),(),z0,(decide (z0≤p11)),()),((p0,p1,p2,p3,p4,p5,p6,p7,()),(p8,p9,p10,p11,p12,()),((0:Int),(0:Int),(0:Int),(0:Int),false,()),()))
 else
 some ((p13,p14,(),(),(),z0,false,()),((p0,p1,p2,p3,p4,p5,p6,p7,()),(p8,p9,p10,p11,p12,()),((0:Int),(0:Int),(0:Int),(0:Int),false,()),()))
 else
 none) fun y2=>
 bif y2.1.2.2.2.2.2.2.1 then
 some (((),()),((y2.2.2.1.1,y2.2.2.1.2.1,(-2:Int),y2.2.2.1.2.2.2.1,y2.2.2.1.2.2.2.2.1,()),()))
 else
 bif (inB y2.2.2.1.2.2.1 (List.length y2.1.2.1)) then
 bif (List.getD y2.1.2.1 (Int.toNat y2.2.2.1.2.2.1) (View.mk false false false false (0:Int) (0:Int) (0:Int) (0:Int) (0:Int) (0:Int) (0:Int) (0:Int))).Lost then
 (nf9' y2.2.1.1 y2.2.1.2.1 y2.2.1.2.2.1 y2.2.1.2.2.2.1 y2.2.1.2.2.2.2.1 y2.2.1.2.2.2.2.2.1 y2.2.1.2.2.2.2.2.2.1 y2.2.1.2.2.2.2.2.2.2.1 y2.1.2.1 y2.2.2.1.1 y2.2.2.1.2.1 y2.2.2.1.2.2.1).bind fun y3=>
 some (((),()),((y2.2.2.1.1,y2.2.2.1.2.1,y3.1.1,(IntKind.i64.wrap (y2.2.2.1.2.2.2.1 + (1:Int))),y2.2.2.1.2.2.2.2.1,()),()))
 else
 bif y2.2.2.1.2.2.2.2.1 then
 some (((),()),(y2.2.2.1,()))
 else
 bif (decide (y2.1.2.2.2.2.2.1≤y2.2.2.1.2.2.2.1)) then
 some (((),()),(y2.2.2.1,()))
 else
 bif (inB y2.2.2.1.2.2.1 (List.length y2.1.2.1)) then
 let z1:View:=(List.getD y2.1.2.1 (Int.toNat y2.2.2.1.2.2.1) (View.mk false false false false (0:Int) (0:Int) (0:Int) (0:Int) (0:Int) (0:Int) (0:Int) (0:Int)))
 (nf9' y2.2.1.1 y2.2.1.2.1 y2.2.1.2.2.1 y2.2.1.2.2.2.1 y2.2.1.2.2.2.2.1 y2.2.1.2.2.2.2.2.1 y2.2.1.2.2.2.2.2.2.1 y2.2.1.2.2.2.2.2.2.2.1 y2.1.2.1 y2.2.2.1.1 y2.2.2.1.2.1 y2.2.2.1.2.2.1).bind fun y4=>
 bif (decide (y4.1.1 < (0:Int))) then
 some (((),()),(y2.2.2.1,()))
 else
 Option.bind (bif z1.Legacy then
 bif (y2.1.1==(0:Int)) then
 (ng2' y2.2.1.1 y2.2.1.2.1 y2.2.1.2.2.1 y2.2.1.2.2.2.1 y2.2.1.2.2.2.2.1 y2.2.1.2.2.2.2.2.1 y2.2.1.2.2.2.2.2.2.1 y2.2.1.2.2.2.2.2.2.2.1 y2.1.2.1 y4.1.1 y2.2.2.1.1 y2.2.2.1.2.1).bind fun y5=>
 (ng2' y2.2.1.1 y2.2.1.2.1 y2.2.1.2.2.1 y2.2.1.2.2.2.1 y2.2.1.2.2.2.2.1 y2.2.1.2.2.2.2.2.1 y2.2.1.2.2.2.2.2.2.1 y2.2.1.2.2.2.2.2.2.2.1 y2.1.2.1 y2.2.2.1.2.2.1 y2.2.2.1.1 y2.2.2.1.2.1).bind fun y6=>
 (nh6' y5.2.1.1 y5.2.1.2.1 y6.2.1.1 y6.2.1.2.1).bind fun y7=>
 some ((y2.1.2.1,(),(),(),y4.1.1,y7.1.1,()),(y2.2.2.1,y2.2.2.2.1,(z1.Ready,z1.Serving,z1.Legacy,z1.Lost,z1.Floor,z1.Dir,z1.Load,z1.Shows_Up,z1.Shows_Down,z1.Stops_Car,z1.Stops_Hall_Up,z1.Stops_Hall_Down,()),()))
 else
 some ((y2.1.2.1,(),(),(),y4.1.1,false,()),(y2.2.2.1,y2.2.2.2.1,(z1.Ready,z1.Serving,z1.Legacy,z1.Lost,z1.Floor,z1.Dir,z1.Load,z1.Shows_Up,z1.Shows_Down,z1.Stops_Car,z1.Stops_Hall_Up,z1.Stops_Hall_Down,()),()))
 else
 some ((y2.1.2.1,(),(),(),y4.1.1,false,()),(y2.2.2.1,y2.2.2.2.1,(z1.Ready,z1.Serving,z1.Legacy,z1.Lost,z1.Floor,z1.Dir,z1.Load,z1.Shows_Up,z1.Shows_Down,z1.Stops_Car,z1.Stops_Hall_Up,z1.Stops_Hall_Down,()),()))) fun y8=>
 Option.bind (bif y8.1.2.2.2.2.2.1 then
 some (((),(),y8.1.2.2.2.2.1,true,()),(y8.2.1,y8.2.2.1,()))
 else
 bif (!y8.2.2.2.1.2.2.1) then
 (nim' y8.2.2.2.1.1 y8.2.2.2.1.2.1 y8.2.2.2.1.2.2.1 y8.2.2.2.1.2.2.2.1 y8.2.2.2.1.2.2.2.2.1 y8.2.2.2.1.2.2.2.2.2.1 y8.2.2.2.1.2.2.2.2.2.2.1 y8.2.2.2.1.2.2.2.2.2.2.2.1 y8.2.2.2.1.2.2.2.2.2.2.2.2.1 y8.2.2.2.1.2.2.2.2.2.2.2.2.2.1 y8.2.2.2.1.2.2.2.2.2.2.2.2.2.2.1 y8.2.2.2.1.2.2.2.2.2.2.2.2.2.2.2.1).bind fun y9=>
 bif y9.1.1 then
 bif (inB y8.1.2.2.2.2.1 (List.length y8.1.1)) then
 let z2:View:=(List.getD y8.1.1 (Int.toNat y8.1.2.2.2.2.1) (View.mk false false false false (0:Int) (0:Int) (0:Int) (0:Int) (0:Int) (0:Int) (0:Int) (0:Int)))
 (nim' z2.Ready z2.Serving z2.Legacy z2.Lost z2.Floor z2.Dir z2.Load z2.Shows_Up z2.Shows_Down z2.Stops_Car z2.Stops_Hall_Up z2.Stops_Hall_Down).bind fun y10=>
 some (((),(),y8.1.2.2.2.2.1,(!y10.1.1),()),(y8.2.1,y8.2.2.1,()))
 else
 none
 else
 some (((),(),y8.1.2.2.2.2.1,false,()),(y8.2.1,y8.2.2.1,()))
 else
 some (((),(),y8.1.2.2.2.2.1,false,()),(y8.2.1,y8.2.2.1,()))) fun y11=>
 bif y11.1.2.2.2.1 then
 some (((),()),((y11.2.1.1,y11.2.1.2.1,y11.1.2.2.1,(IntKind.i64.wrap (y11.2.1.2.2.2.1 + (1:Int))),true,()),()))
 else
 some (((),()),(y11.2.1,()))
 else
 none
 else
 none
noncomputable def ngj' (p0:List (Int)) (p1:List (View)) (out:List (Record)) (p2:List (Int)) (i p3 p4 p5 p6:Int) (p7 p8 p9:Nat) (p10:List (Car)) (p11:List (Int)) (p12 p13:List (Bool)) (p14:List (Entry)):Option (Sum (T'64×(T'0×T'5×Unit)) (T'47×Unit)):=
 bif (decide (i < ((List.length p14:Nat):Int))) then
 bif (inB i (List.length p14)) then
 let z0:Entry:=(List.getD p14 (Int.toNat i) (Entry.mk (0:Int) (0:Int) (0:Int) (0:Int) false))
 bif (inB i (List.length p0)) then
 (nja' p3 p4 p5 p6 p7 p8 p9 p10 z0.Floor z0.Dir z0.Car z0.Moves z0.Moved (List.getD p0 (Int.toNat i) (0:Int)) p1).bind fun y1=>
 Option.bind (Option.bind (bif (y1.2.1.2.2.2.1 != z0.Moves) then
 some ((p0,p1,(),(),out,p2,i,(),(),true,()),((p3,p4,p5,p6,p7,p8,p9,p10,()),(p11,p12,p13,p14,()),(z0.Floor,z0.Dir,z0.Car,z0.Moves,z0.Moved,()),y1.2.1,()))
 else
 some ((p0,p1,(),(),out,p2,i,(),(),(!(y1.2.1.2.2.2.2.1==z0.Moved)),()),((p3,p4,p5,p6,p7,p8,p9,p10,()),(p11,p12,p13,p14,()),(z0.Floor,z0.Dir,z0.Car,z0.Moves,z0.Moved,()),y1.2.1,()))) fun y2=>
 bif y2.1.2.2.2.2.2.2.2.2.2.1 then
 bif y2.2.2.2.2.1.2.2.2.2.1 then
 let z1:List (Record):=[(Record.mk (7:Int) y2.2.2.2.1.1 y2.2.2.2.1.2.1 (1:Int) y2.2.2.2.2.1.2.2.2.1)]
 bif (Nat.ble ((List.length y2.1.2.2.2.2.1) + (List.length z1)) 2147483648) then
 some ((y2.1.1,y2.1.2.1,(),(),(y2.1.2.2.2.2.1++z1),y2.1.2.2.2.2.2.1,y2.1.2.2.2.2.2.2.1,(),(),()),(y2.2.1,y2.2.2.1,y2.2.2.2.1,y2.2.2.2.2.1,()))
 else
 none
 else
 let z2:List (Record):=[(Record.mk (7:Int) y2.2.2.2.1.1 y2.2.2.2.1.2.1 (0:Int) y2.2.2.2.2.1.2.2.2.1)]
 bif (Nat.ble ((List.length y2.1.2.2.2.2.1) + (List.length z2)) 2147483648) then
 some ((y2.1.1,y2.1.2.1,(),(),(y2.1.2.2.2.2.1++z2),y2.1.2.2.2.2.2.1,y2.1.2.2.2.2.2.2.1,(),(),()),(y2.2.1,y2.2.2.1,y2.2.2.2.1,y2.2.2.2.2.1,()))
 else
 none
 else
 some ((y2.1.1,y2.1.2.1,(),(),y2.1.2.2.2.2.1,y2.1.2.2.2.2.2.1,y2.1.2.2.2.2.2.2.1,(),(),()),(y2.2.1,y2.2.2.1,y2.2.2.2.1,y2.2.2.2.2.1,()))) fun y3=>
 Option.bind (bif (y3.2.2.2.2.1.2.2.1 != y3.2.2.2.1.2.2.1) then
 let z3:List (Record):=[(Record.mk (3:Int) y3.2.2.2.1.1 y3.2.2.2.1.2.1 y3.2.2.2.2.1.2.2.1 (0:Int))]
 bif (Nat.ble ((List.length y3.1.2.2.2.2.1) + (List.length z3)) 2147483648) then
 some ((y3.1.1,y3.1.2.1,(),(),(y3.1.2.2.2.2.1++z3),y3.1.2.2.2.2.2.1,y3.1.2.2.2.2.2.2.1,(),(),()),(y3.2.1,y3.2.2.1,y3.2.2.2.1,y3.2.2.2.2.1,()))
 else
 none
 else
 some ((y3.1.1,y3.1.2.1,(),(),y3.1.2.2.2.2.1,y3.1.2.2.2.2.2.1,y3.1.2.2.2.2.2.2.1,(),(),()),(y3.2.1,y3.2.2.1,y3.2.2.2.1,y3.2.2.2.2.1,()))) fun y4=>
 Option.bind (bif (y4.2.2.2.2.1.2.2.1 != y4.2.2.2.1.2.2.1) then
 some ((y4.1.1,y4.1.2.1,(),(),y4.1.2.2.2.2.1,y4.1.2.2.2.2.2.1,y4.1.2.2.2.2.2.2.1,(),(),(decide ((0:Int)≤y4.2.2.2.2.1.2.2.1)),()),(y4.2.1,y4.2.2.1,y4.2.2.2.1,y4.2.2.2.2.1,()))
 else
 some ((y4.1.1,y4.1.2.1,(),(),y4.1.2.2.2.2.1,y4.1.2.2.2.2.2.1,y4.1.2.2.2.2.2.2.1,(),(),false,()),(y4.2.1,y4.2.2.1,y4.2.2.2.1,y4.2.2.2.2.1,()))) fun y5=>
 bif y5.1.2.2.2.2.2.2.2.2.2.1 then
 bif (inB y5.2.2.2.2.1.2.2.1 (List.length y5.1.2.1)) then
 let z4:View:=(List.getD y5.1.2.1 (Int.toNat y5.2.2.2.2.1.2.2.1) (View.mk false false false false (0:Int) (0:Int) (0:Int) (0:Int) (0:Int) (0:Int) (0:Int) (0:Int)))
 (nex' y5.2.1.1 y5.2.1.2.1 y5.2.1.2.2.1 y5.2.1.2.2.2.1 y5.2.1.2.2.2.2.1 y5.2.1.2.2.2.2.2.1 y5.2.1.2.2.2.2.2.2.1 y5.2.1.2.2.2.2.2.2.2.1 y5.2.2.2.2.1.2.2.1 z4.Ready z4.Serving z4.Legacy z4.Lost z4.Floor z4.Dir z4.Load z4.Shows_Up z4.Shows_Down z4.Stops_Car z4.Stops_Hall_Up z4.Stops_Hall_Down y5.2.2.2.1.1 y5.2.2.2.1.2.1).bind fun y6=>
 bif (inB y5.2.2.2.2.1.2.2.1 (List.length y5.2.1.2.2.2.2.2.2.2.1)) then
 let z5:Int:=(IntKind.i64.wrap (y6.1.1 + (List.getD y5.2.1.2.2.2.2.2.2.2.1 (Int.toNat y5.2.2.2.2.1.2.2.1) (Car.mk (0:Int) (0:Int) (0:Int) (0:Int) (0:Int) (0:Int) (0:Int) (0:Int) (0:Int))).Slack))
 let z6:List (Int):=[(bif (decide ((1000000:Int) < z5)) then (1000000:Int) else z5)]
 bif (Nat.ble ((List.length y5.1.2.2.2.2.2.1) + (List.length z6)) 2147483648) then
 some (Sum.inl ((y5.1.1,y5.1.2.1,(),(),y5.1.2.2.2.2.1,(y5.1.2.2.2.2.2.1++z6),(IntKind.i64.wrap (y5.1.2.2.2.2.2.2.1 + (1:Int))),()),(y5.2.1,y5.2.2.1,())))
 else
 none
 else
 none
 else
 none
 else
 bif (inB y5.1.2.2.2.2.2.2.1 (List.length y5.1.1)) then
 let z7:Int:=(IntKind.i64.wrap ((List.getD y5.1.1 (Int.toNat y5.1.2.2.2.2.2.2.1) (0:Int)) - (1:Int)))
 let z8:List (Int):=[(bif (decide ((0:Int) < z7)) then z7 else (0:Int))]
 bif (Nat.ble ((List.length y5.1.2.2.2.2.2.1) + (List.length z8)) 2147483648) then
 some (Sum.inl ((y5.1.1,y5.1.2.1,(),(),y5.1.2.2.2.2.1,(y5.1.2.2.2.2.2.1++z8),(IntKind.i64.wrap (y5.1.2.2.2.2.2.2.1 + (1:Int))),()),(y5.2.1,y5.2.2.1,())))
 else
 none
 else
 none
 else
 none
 else
 none
 else
 some (Sum.inr ((out,p2,()),()))
noncomputable def nke':(T'64×(T'0×T'5×Unit))→Option (T'47×Unit):=iter (fun x=>ngj' x.1.1 x.1.2.1 x.1.2.2.2.2.1 x.1.2.2.2.2.2.1 x.1.2.2.2.2.2.2.1 x.2.1.1 x.2.1.2.1 x.2.1.2.2.1 x.2.1.2.2.2.1 x.2.1.2.2.2.2.1 x.2.1.2.2.2.2.2.1 x.2.1.2.2.2.2.2.2.1 x.2.1.2.2.2.2.2.2.2.1 x.2.2.1.1 x.2.2.1.2.1 x.2.2.1.2.2.1 x.2.2.1.2.2.2.1) fuel
noncomputable def nkx' (p0 p1 p2 p3:Int) (p4 p5 p6:Nat) (p7:List (Car)) (p8:List (Int)) (p9 p10:List (Bool)) (p11:List (Entry)) (p12:List (Int)) (p13:List (View)):Option (T'44×Unit):=
 (ndv' p0 p1 p2 p3 p4 p5 p6 p7 p8 p9 p10 p11).bind fun y1=>
 bif (!y1.1.1) then
 some ((([]:List (Record)),([]:List (Int)),(1:Int),()),())
 else
 (ngm' p8 p9 p10 p11 p12).bind fun y2=>
 bif (!y2.1.1) then
 some ((([]:List (Record)),([]:List (Int)),(1:Int),()),())
 else
 bif (((List.length p13:Nat):Int) != ((List.length p7:Nat):Int)) then
 some ((([]:List (Record)),([]:List (Int)),(1:Int),()),())
 else
 (nke' ((p12,p13,(),(),([]:List (Record)),([]:List (Int)),(0:Int),()),((p0,p1,p2,p3,p4,p5,p6,p7,()),(p8,p9,p10,p11,()),()))).bind fun y3=>
 some ((y3.1.1,y3.1.2.1,(0:Int),()),())
noncomputable def ngv' (p0:List (View)) (l:List (Entry)) (i p1 p2 p3 p4:Int) (p5 p6 p7:Nat) (p8:List (Car)) (p9:List (Int)) (p10 p11:List (Bool)) (p12:List (Entry)) (p13:List (Record)) (p14:List (Int)) (p15 p16:List (Bool)) (p17:List (Entry)) (p18:List (Int)) (p19:List (Calls)) (p20:List (Bool)) (p21 p22 p23 p24:Int) (p25:List (Record)) (p26:List (Int)) (p27 p28:List (Bool)) (p29:List (Entry)) (p30:List (Int)) (p31:List (Calls)) (p32:List (Bool)) (p33 p34 p35 p36:Int):Option (Sum (T'65×T'66) (T'67×T'68)):=
 bif (decide (i < ((List.length l:Nat):Int))) then
 bif (inB i (List.length l)) then
 let z0:Entry:=(List.getD l (Int.toNat i) (Entry.mk (0:Int) (0:Int) (0:Int) (0:Int) false))
 bif (inB i (List.length l)) then
 let z1:Entry:=(List.getD l (Int.toNat i) (Entry.mk (0:Int) (0:Int) (0:Int) (0:Int) false))
 (nil' p9 p10 p11 p12 z0.Floor z1.Dir).bind fun y1=>
 bif (decide ((0:Int)≤y1.1.1)) then
 some (Sum.inl ((p0,(),(),(),(),l,(IntKind.i64.wrap (i + (1:Int))),()),((p1,p2,p3,p4,p5,p6,p7,p8,()),(p9,p10,p11,p12,()),(p13,p14,p15,p16,p17,p18,p19,p20,p21,p22,p23,p24,()),(p25,p26,p27,p28,p29,p30,p31,p32,p33,p34,p35,p36,()),())))
 else
 (nmn' p1 p2 p3 p4 p5 p6 p7 p8 p26 p27 p28 p29).bind fun y2=>
 bif (!y2.1.1) then
 (nib' z0.Floor z1.Dir).bind fun y3=>
 (nhp' p35 p36 y3.2.1.1 y3.2.1.2.1).bind fun y4=>
 some (Sum.inl ((p0,(),(),(),(),l,(IntKind.i64.wrap (i + (1:Int))),()),((p1,p2,p3,p4,p5,p6,p7,p8,()),(p9,p10,p11,p12,()),(p13,p14,p15,p16,p17,p18,p19,p20,p21,p22,p23,p24,()),(p25,p26,p27,p28,p29,p30,p31,p32,p33,p34,y4.2.1.1,y4.2.1.2.1,()),())))
 else
 Option.bind (some ((p0,(),(),(),(),l,i,z0.Floor,z1.Dir,()),((p1,p2,p3,p4,p5,p6,p7,p8,()),(p9,p10,p11,p12,()),(p13,p14,p15,p16,p17,p18,p19,p20,p21,p22,p23,p24,()),(p25,p26,p27,p28,p29,p30,p31,p32,p33,p34,p35,p36,()),()))) fun y5=>
 (nfv' y5.2.1.1 y5.2.1.2.1 y5.2.1.2.2.1 y5.2.1.2.2.2.1 y5.2.1.2.2.2.2.1 y5.2.1.2.2.2.2.2.1 y5.2.1.2.2.2.2.2.2.1 y5.2.1.2.2.2.2.2.2.2.1 y5.2.2.2.2.1.1 y5.2.2.2.2.1.2.1 y5.2.2.2.2.1.2.2.1 y5.2.2.2.2.1.2.2.2.1 y5.2.2.2.2.1.2.2.2.2.1 y5.2.2.2.2.1.2.2.2.2.2.1 y5.2.2.2.2.1.2.2.2.2.2.2.1 y5.2.2.2.2.1.2.2.2.2.2.2.2.1 y5.2.2.2.2.1.2.2.2.2.2.2.2.2.1 y5.2.2.2.2.1.2.2.2.2.2.2.2.2.2.1 y5.2.2.2.2.1.2.2.2.2.2.2.2.2.2.2.1 y5.2.2.2.2.1.2.2.2.2.2.2.2.2.2.2.2.1 [(Record.mk (1:Int) y5.1.2.2.2.2.2.2.2.1 y5.1.2.2.2.2.2.2.2.2.1 (0:Int) (0:Int))]).bind fun y6=>
 some (Sum.inl ((y5.1.1,(),(),(),(),y5.1.2.2.2.2.2.1,(IntKind.i64.wrap (y5.1.2.2.2.2.2.2.1 + (1:Int))),()),(y5.2.1,y5.2.2.1,y5.2.2.2.1,y6.2.1,())))
 else
 none
 else
 none
 else
 some (Sum.inr ((p0,(),(),(),()),((p1,p2,p3,p4,p5,p6,p7,p8,()),(p13,p14,p15,p16,p17,p18,p19,p20,p21,p22,p23,p24,()),(p25,p26,p27,p28,p29,p30,p31,p32,p33,p34,p35,p36,()),())))
noncomputable def nkd':(T'65×T'66)→Option (T'67×T'68):=iter (fun x=>ngv' x.1.1 x.1.2.2.2.2.2.1 x.1.2.2.2.2.2.2.1 x.2.1.1 x.2.1.2.1 x.2.1.2.2.1 x.2.1.2.2.2.1 x.2.1.2.2.2.2.1 x.2.1.2.2.2.2.2.1 x.2.1.2.2.2.2.2.2.1 x.2.1.2.2.2.2.2.2.2.1 x.2.2.1.1 x.2.2.1.2.1 x.2.2.1.2.2.1 x.2.2.1.2.2.2.1 x.2.2.2.1.1 x.2.2.2.1.2.1 x.2.2.2.1.2.2.1 x.2.2.2.1.2.2.2.1 x.2.2.2.1.2.2.2.2.1 x.2.2.2.1.2.2.2.2.2.1 x.2.2.2.1.2.2.2.2.2.2.1 x.2.2.2.1.2.2.2.2.2.2.2.1 x.2.2.2.1.2.2.2.2.2.2.2.2.1 x.2.2.2.1.2.2.2.2.2.2.2.2.2.1 x.2.2.2.1.2.2.2.2.2.2.2.2.2.2.1 x.2.2.2.1.2.2.2.2.2.2.2.2.2.2.2.1 x.2.2.2.2.1.1 x.2.2.2.2.1.2.1 x.2.2.2.2.1.2.2.1 x.2.2.2.2.1.2.2.2.1 x.2.2.2.2.1.2.2.2.2.1 x.2.2.2.2.1.2.2.2.2.2.1 x.2.2.2.2.1.2.2.2.2.2.2.1 x.2.2.2.2.1.2.2.2.2.2.2.2.1 x.2.2.2.2.1.2.2.2.2.2.2.2.2.1 x.2.2.2.2.1.2.2.2.2.2.2.2.2.2.1 x.2.2.2.2.1.2.2.2.2.2.2.2.2.2.2.1 x.2.2.2.2.1.2.2.2.2.2.2.2.2.2.2.2.1) fuel
noncomputable def nkh' (p0 p1 p2 p3:Int) (p4 p5 p6:Nat) (p7:List (Car)) (p8:List (Int)) (p9 p10:List (Bool)) (p11:List (Entry)) (p12:List (Int)) (p13:List (View)) (p14:List (Calls)) (p15 p16:Int) (p17:Bool):Option ((Unit×Int×Unit)×(T'48×Unit)):=
 (ndv' p0 p1 p2 p3 p4 p5 p6 p7 p8 p9 p10 p11).bind fun y1=>
 bif (!y1.1.1) then
 some (((),(1:Int),()),((([]:List (Record)),([]:List (Int)),([]:List (Bool)),([]:List (Bool)),([]:List (Entry)),([]:List (Int)),([]:List (Calls)),([]:List (Bool)),(0:Int),(0:Int),(0:Int),(0:Int),()),()))
 else
 (ngm' p8 p9 p10 p11 p12).bind fun y2=>
 bif (!y2.1.1) then
 some (((),(1:Int),()),((([]:List (Record)),([]:List (Int)),([]:List (Bool)),([]:List (Bool)),([]:List (Entry)),([]:List (Int)),([]:List (Calls)),([]:List (Bool)),(0:Int),(0:Int),(0:Int),(0:Int),()),()))
 else
 bif (((List.length p13:Nat):Int) != ((List.length p7:Nat):Int)) then
 some (((),(1:Int),()),((([]:List (Record)),([]:List (Int)),([]:List (Bool)),([]:List (Bool)),([]:List (Entry)),([]:List (Int)),([]:List (Calls)),([]:List (Bool)),(0:Int),(0:Int),(0:Int),(0:Int),()),()))
 else
 bif (((List.length p14:Nat):Int) != ((List.length p7:Nat):Int)) then
 some (((),(1:Int),()),((([]:List (Record)),([]:List (Int)),([]:List (Bool)),([]:List (Bool)),([]:List (Entry)),([]:List (Int)),([]:List (Calls)),([]:List (Bool)),(0:Int),(0:Int),(0:Int),(0:Int),()),()))
 else
 Option.bind (bif p17 then
 (nlo' p0 p1 p2 p3 p4 p5 p6 p7 p13 p14).bind fun y3=>
 Option.bind (some ((p13,(),(),(),(),(),()),((p0,p1,p2,p3,p4,p5,p6,p7,()),(p8,p9,p10,p11,()),(p15,p16,()),(([]:List (Record)),([]:List (Int)),([]:List (Bool)),([]:List (Bool)),([]:List (Entry)),([]:List (Int)),([]:List (Calls)),([]:List (Bool)),(0:Int),(0:Int),(0:Int),(0:Int),()),(([]:List (Record)),p8,p9,p10,p11,p12,y3.2.1.1,y3.2.1.2.1,y3.2.1.2.2.1,y3.2.1.2.2.2.1,(0:Int),(0:Int),()),()))) fun y4=>
 (nlh' y4.2.1.1 y4.2.1.2.1 y4.2.1.2.2.1 y4.2.1.2.2.2.1 y4.2.1.2.2.2.2.1 y4.2.1.2.2.2.2.2.1 y4.2.1.2.2.2.2.2.2.1 y4.2.1.2.2.2.2.2.2.2.1 y4.2.2.1.1 y4.2.2.1.2.1 y4.2.2.1.2.2.1 y4.2.2.1.2.2.2.1 y4.1.1).bind fun y5=>
 (nfv' y4.2.1.1 y4.2.1.2.1 y4.2.1.2.2.1 y4.2.1.2.2.2.1 y4.2.1.2.2.2.2.1 y4.2.1.2.2.2.2.2.1 y4.2.1.2.2.2.2.2.2.1 y4.2.1.2.2.2.2.2.2.2.1 y4.2.2.2.2.2.1.1 y4.2.2.2.2.2.1.2.1 y4.2.2.2.2.2.1.2.2.1 y4.2.2.2.2.2.1.2.2.2.1 y4.2.2.2.2.2.1.2.2.2.2.1 y4.2.2.2.2.2.1.2.2.2.2.2.1 y4.2.2.2.2.2.1.2.2.2.2.2.2.1 y4.2.2.2.2.2.1.2.2.2.2.2.2.2.1 y4.2.2.2.2.2.1.2.2.2.2.2.2.2.2.1 y4.2.2.2.2.2.1.2.2.2.2.2.2.2.2.2.1 y4.2.2.2.2.2.1.2.2.2.2.2.2.2.2.2.2.1 y4.2.2.2.2.2.1.2.2.2.2.2.2.2.2.2.2.2.1 y5.1.1).bind fun y6=>
 some ((y4.1.1,(),(),(),(),(),()),(y4.2.1,y4.2.2.1,y4.2.2.2.1,y4.2.2.2.2.1,y6.2.1,()))
 else
 let z0:Int:=((List.length p13:Nat):Int)
 bif (((decide ((0:Int)≤z0))&&(decide (z0≤z0)))&&(decide (z0≤(2147483648:Int)))) then
 let z1:Int:=((List.length p13:Nat):Int)
 bif (((decide ((0:Int)≤z1))&&(decide (z1≤z1)))&&(decide (z1≤(2147483648:Int)))) then
 some ((p13,(),(),(),(),(),()),((p0,p1,p2,p3,p4,p5,p6,p7,()),(p8,p9,p10,p11,()),((0:Int),(0:Int),()),(([]:List (Record)),([]:List (Int)),([]:List (Bool)),([]:List (Bool)),([]:List (Entry)),([]:List (Int)),([]:List (Calls)),([]:List (Bool)),(0:Int),(0:Int),(0:Int),(0:Int),()),(([]:List (Record)),p8,p9,p10,p11,p12,(List.replicate (Int.toNat z0) (Calls.mk (0:Int) (0:Int))),(List.replicate (Int.toNat z1) false),(0:Int),(0:Int),(0:Int),(0:Int),()),()))
 else
 none
 else
 none) fun y7=>
 (nj8' y7.2.1.1 y7.2.1.2.1 y7.2.1.2.2.1 y7.2.1.2.2.2.1 y7.2.1.2.2.2.2.1 y7.2.1.2.2.2.2.2.1 y7.2.1.2.2.2.2.2.2.1 y7.2.1.2.2.2.2.2.2.2.1).bind fun y8=>
 (nku' y7.2.2.2.1.1 y7.2.2.2.1.2.1 y8.2.1.1 y8.2.1.2.1).bind fun y9=>
 (nmx' y9.2.1.1 y9.2.1.2.1).bind fun y10=>
 (nkd' ((y7.1.1,(),(),(),(),y10.1.1,(0:Int),()),(y7.2.1,y7.2.2.1,y7.2.2.2.2.1,y7.2.2.2.2.2.1,()))).bind fun y11=>
 (nkx' y11.2.1.1 y11.2.1.2.1 y11.2.1.2.2.1 y11.2.1.2.2.2.1 y11.2.1.2.2.2.2.1 y11.2.1.2.2.2.2.2.1 y11.2.1.2.2.2.2.2.2.1 y11.2.1.2.2.2.2.2.2.2.1 y11.2.2.2.1.2.1 y11.2.2.2.1.2.2.1 y11.2.2.2.1.2.2.2.1 y11.2.2.2.1.2.2.2.2.1 y11.2.2.2.1.2.2.2.2.2.1 y11.1.1).bind fun y12=>
 Option.bind (some (((),(),(),y12.1.1,y12.1.2.1,()),(y11.2.1,y11.2.2.1,y11.2.2.2.1,()))) fun y13=>
 (nfv' y13.2.1.1 y13.2.1.2.1 y13.2.1.2.2.1 y13.2.1.2.2.2.1 y13.2.1.2.2.2.2.1 y13.2.1.2.2.2.2.2.1 y13.2.1.2.2.2.2.2.2.1 y13.2.1.2.2.2.2.2.2.2.1 y13.2.2.2.1.1 y13.2.2.2.1.2.1 y13.2.2.2.1.2.2.1 y13.2.2.2.1.2.2.2.1 y13.2.2.2.1.2.2.2.2.1 y13.2.2.2.1.2.2.2.2.2.1 y13.2.2.2.1.2.2.2.2.2.2.1 y13.2.2.2.1.2.2.2.2.2.2.2.1 y13.2.2.2.1.2.2.2.2.2.2.2.2.1 y13.2.2.2.1.2.2.2.2.2.2.2.2.2.1 y13.2.2.2.1.2.2.2.2.2.2.2.2.2.2.1 y13.2.2.2.1.2.2.2.2.2.2.2.2.2.2.2.1 y13.1.2.2.2.1).bind fun y14=>
 some (((),(0:Int),()),((y14.2.1.1,y14.2.1.2.1,y14.2.1.2.2.1,y14.2.1.2.2.2.1,y14.2.1.2.2.2.2.1,y13.1.2.2.2.2.1,y14.2.1.2.2.2.2.2.2.1,y14.2.1.2.2.2.2.2.2.2.1,y14.2.1.2.2.2.2.2.2.2.2.1,y14.2.1.2.2.2.2.2.2.2.2.2.1,y14.2.1.2.2.2.2.2.2.2.2.2.2.1,y14.2.1.2.2.2.2.2.2.2.2.2.2.2.1,()),()))
noncomputable def ngp' (a b:List (Record)) (i:Int):Option (Sum (T'69×Unit) ((Unit×Unit) ⊕ ((Bool×Unit)×Unit))):=
 bif (decide (i < ((List.length a:Nat):Int))) then
 bif (inB i (List.length a)) then
 let z0:Record:=(List.getD a (Int.toNat i) (Record.mk (0:Int) (0:Int) (0:Int) (0:Int) (0:Int)))
 bif (inB i (List.length b)) then
 let z1:Record:=(List.getD b (Int.toNat i) (Record.mk (0:Int) (0:Int) (0:Int) (0:Int) (0:Int)))
 bif (!((z0.Kind==z1.Kind)&&((z0.Floor==z1.Floor)&&((z0.Dir==z1.Dir)&&((z0.Car==z1.Car)&&((z0.Value==z1.Value)&&true)))))) then
 some (Sum.inr (Sum.inr ((false,()),())))
 else
 some (Sum.inl ((a,b,(IntKind.i64.wrap (i + (1:Int))),()),()))
 else
 none
 else
 none
 else
 some (Sum.inr (Sum.inl ((),())))
noncomputable def nj0':(T'69×Unit)→Option ((Unit×Unit) ⊕ ((Bool×Unit)×Unit)):=iter (fun x=>ngp' x.1.1 x.1.2.1 x.1.2.2.1) fuel
noncomputable def nmv' (a b:List (Record)):Option ((Bool×Unit)×Unit):=
 bif (((List.length a:Nat):Int) != ((List.length b:Nat):Int)) then
 some ((false,()),())
 else
 (nj0' ((a,b,(0:Int),()),())).bind fun y1=>
 (match y1 with
 | .inl y2=>
 some ((true,()),())
 | .inr y2=>
 some ((y2.1.1,()),()))
noncomputable def ngh' (i:Int) (p0:List (Int)) (p1 p2:List (Bool)) (p3:List (Entry)) (p4:List (Int)) (p5 p6:List (Bool)) (p7:List (Entry)):Option (Sum (T'8×(T'5×T'5×Unit)) ((Unit×Unit) ⊕ ((Bool×Unit)×Unit))):=
 bif (decide (i < ((List.length p3:Nat):Int))) then
 bif (inB i (List.length p3)) then
 let z0:Entry:=(List.getD p3 (Int.toNat i) (Entry.mk (0:Int) (0:Int) (0:Int) (0:Int) false))
 bif (inB i (List.length p7)) then
 let z1:Entry:=(List.getD p7 (Int.toNat i) (Entry.mk (0:Int) (0:Int) (0:Int) (0:Int) false))
 bif (!((z0.Floor==z1.Floor)&&((z0.Dir==z1.Dir)&&((z0.Car==z1.Car)&&((z0.Moves==z1.Moves)&&((z0.Moved==z1.Moved)&&true)))))) then
 some (Sum.inr (Sum.inr ((false,()),())))
 else
 some (Sum.inl (((),(),(IntKind.i64.wrap (i + (1:Int))),()),((p0,p1,p2,p3,()),(p4,p5,p6,p7,()),())))
 else
 none
 else
 none
 else
 some (Sum.inr (Sum.inl ((),())))
noncomputable def nj1':(T'8×(T'5×T'5×Unit))→Option ((Unit×Unit) ⊕ ((Bool×Unit)×Unit)):=iter (fun x=>ngh' x.1.2.2.1 x.2.1.1 x.2.1.2.1 x.2.1.2.2.1 x.2.1.2.2.2.1 x.2.2.1.1 x.2.2.1.2.1 x.2.2.1.2.2.1 x.2.2.1.2.2.2.1) fuel
noncomputable def ngn' (i:Int) (p0:List (Int)) (p1 p2:List (Bool)) (p3:List (Entry)) (p4:List (Int)) (p5 p6:List (Bool)) (p7:List (Entry)):Option (Sum (T'8×(T'5×T'5×Unit)) (((Unit×Unit×Unit)×(T'5×T'5×Unit)) ⊕ ((Bool×Unit)×Unit))):=
 bif (decide (i < ((List.length p2:Nat):Int))) then
 bif (inB i (List.length p2)) then
 bif (inB i (List.length p6)) then
 bif (!((List.getD p2 (Int.toNat i) false)==(List.getD p6 (Int.toNat i) false))) then
 some (Sum.inr (Sum.inr ((false,()),())))
 else
 some (Sum.inl (((),(),(IntKind.i64.wrap (i + (1:Int))),()),((p0,p1,p2,p3,()),(p4,p5,p6,p7,()),())))
 else
 none
 else
 none
 else
 some (Sum.inr (Sum.inl (((),(),()),((p0,p1,p2,p3,()),(p4,p5,p6,p7,()),()))))
noncomputable def nky':(T'8×(T'5×T'5×Unit))→Option (((Unit×Unit×Unit)×(T'5×T'5×Unit)) ⊕ ((Bool×Unit)×Unit)):=iter (fun x=>ngn' x.1.2.2.1 x.2.1.1 x.2.1.2.1 x.2.1.2.2.1 x.2.1.2.2.2.1 x.2.2.1.1 x.2.2.1.2.1 x.2.2.1.2.2.1 x.2.2.1.2.2.2.1) fuel
noncomputable def ngy' (i:Int) (p0:List (Int)) (p1 p2:List (Bool)) (p3:List (Entry)) (p4:List (Int)) (p5 p6:List (Bool)) (p7:List (Entry)):Option (Sum (T'8×(T'5×T'5×Unit)) (((Unit×Unit×Unit)×(T'5×T'5×Unit)) ⊕ ((Bool×Unit)×Unit))):=
 bif (decide (i < ((List.length p1:Nat):Int))) then
 bif (inB i (List.length p1)) then
 bif (inB i (List.length p5)) then
 bif (!((List.getD p1 (Int.toNat i) false)==(List.getD p5 (Int.toNat i) false))) then
 some (Sum.inr (Sum.inr ((false,()),())))
 else
 some (Sum.inl (((),(),(IntKind.i64.wrap (i + (1:Int))),()),((p0,p1,p2,p3,()),(p4,p5,p6,p7,()),())))
 else
 none
 else
 none
 else
 some (Sum.inr (Sum.inl (((),(),()),((p0,p1,p2,p3,()),(p4,p5,p6,p7,()),()))))
noncomputable def nj9':(T'8×(T'5×T'5×Unit))→Option (((Unit×Unit×Unit)×(T'5×T'5×Unit)) ⊕ ((Bool×Unit)×Unit)):=iter (fun x=>ngy' x.1.2.2.1 x.2.1.1 x.2.1.2.1 x.2.1.2.2.1 x.2.1.2.2.2.1 x.2.2.1.1 x.2.2.1.2.1 x.2.2.1.2.2.1 x.2.2.1.2.2.2.1) fuel
noncomputable def ngr' (i:Int) (p0:List (Int)) (p1 p2:List (Bool)) (p3:List (Entry)) (p4:List (Int)) (p5 p6:List (Bool)) (p7:List (Entry)):Option (Sum (T'8×(T'5×T'5×Unit)) (((Unit×Unit×Unit)×(T'5×T'5×Unit)) ⊕ ((Bool×Unit)×Unit))):=
 bif (decide (i < ((List.length p0:Nat):Int))) then
 bif (inB i (List.length p0)) then
 bif (inB i (List.length p4)) then
 bif ((List.getD p0 (Int.toNat i) (0:Int)) != (List.getD p4 (Int.toNat i) (0:Int))) then
 some (Sum.inr (Sum.inr ((false,()),())))
 else
 some (Sum.inl (((),(),(IntKind.i64.wrap (i + (1:Int))),()),((p0,p1,p2,p3,()),(p4,p5,p6,p7,()),())))
 else
 none
 else
 none
 else
 some (Sum.inr (Sum.inl (((),(),()),((p0,p1,p2,p3,()),(p4,p5,p6,p7,()),()))))
noncomputable def nkn':(T'8×(T'5×T'5×Unit))→Option (((Unit×Unit×Unit)×(T'5×T'5×Unit)) ⊕ ((Bool×Unit)×Unit)):=iter (fun x=>ngr' x.1.2.2.1 x.2.1.1 x.2.1.2.1 x.2.1.2.2.1 x.2.1.2.2.2.1 x.2.2.1.1 x.2.2.1.2.1 x.2.2.1.2.2.1 x.2.2.1.2.2.2.1) fuel
noncomputable def nmz' (p0:List (Int)) (p1 p2:List (Bool)) (p3:List (Entry)) (p4:List (Int)) (p5 p6:List (Bool)) (p7:List (Entry)):Option ((Bool×Unit)×Unit):=
 bif (((List.length p0:Nat):Int) != ((List.length p4:Nat):Int)) then
 some ((false,()),())
 else
 bif (((List.length p1:Nat):Int) != ((List.length p5:Nat):Int)) then
 some ((false,()),())
 else
 bif (((List.length p2:Nat):Int) != ((List.length p6:Nat):Int)) then
 some ((false,()),())
 else
 bif (((List.length p3:Nat):Int) != ((List.length p7:Nat):Int)) then
 some ((false,()),())
 else
 (nkn' (((),(),(0:Int),()),((p0,p1,p2,p3,()),(p4,p5,p6,p7,()),()))).bind fun y1=>
 (match y1 with
 | .inl y2=>
 (nj9' (((),(),(0:Int),()),(y2.2.1,y2.2.2.1,()))).bind fun y3=>
 (match y3 with
 | .inl y4=>
 (nky' (((),(),(0:Int),()),(y4.2.1,y4.2.2.1,()))).bind fun y5=>
 (match y5 with
 | .inl y6=>
 (nj1' (((),(),(0:Int),()),(y6.2.1,y6.2.2.1,()))).bind fun y7=>
 (match y7 with
 | .inl y8=>
 some ((true,()),())
 | .inr y8=>
 some ((y8.1.1,()),()))
 | .inr y6=>
 some ((y6.1.1,()),()))
 | .inr y4=>
 some ((y4.1.1,()),()))
 | .inr y2=>
 some ((y2.1.1,()),()))
noncomputable def nd4' (a b:List (Int)) (i:Int):Option (Sum (T'19×Unit) ((Unit×Unit) ⊕ ((Bool×Unit)×Unit))):=
 bif (decide (i < ((List.length a:Nat):Int))) then
 bif (inB i (List.length a)) then
 bif (inB i (List.length b)) then
 bif ((List.getD a (Int.toNat i) (0:Int)) != (List.getD b (Int.toNat i) (0:Int))) then
 some (Sum.inr (Sum.inr ((false,()),())))
 else
 some (Sum.inl ((a,b,(IntKind.i64.wrap (i + (1:Int))),()),()))
 else
 none
 else
 none
 else
 some (Sum.inr (Sum.inl ((),())))
noncomputable def ng9':(T'19×Unit)→Option ((Unit×Unit) ⊕ ((Bool×Unit)×Unit)):=iter (fun x=>nd4' x.1.1 x.1.2.1 x.1.2.2.1) fuel
noncomputable def nih' (a b:List (Int)):Option ((Bool×Unit)×Unit):=
 bif (((List.length a:Nat):Int) != ((List.length b:Nat):Int)) then
 some ((false,()),())
 else
 (ng9' ((a,b,(0:Int),()),())).bind fun y1=>
 (match y1 with
 | .inl y2=>
 some ((true,()),())
 | .inr y2=>
 some ((y2.1.1,()),()))
noncomputable def ngd' (i:Int) (p0:List (Calls)) (p1:List (Bool)) (p2 p3:Int) (p4:List (Calls)) (p5:List (Bool)) (p6 p7:Int):Option (Sum (T'8×(T'22×T'22×Unit)) ((Unit×Unit) ⊕ ((Bool×Unit)×Unit))):=
 bif (decide (i < ((List.length p1:Nat):Int))) then
 bif (inB i (List.length p1)) then
 bif (inB i (List.length p5)) then
 bif (!((List.getD p1 (Int.toNat i) false)==(List.getD p5 (Int.toNat i) false))) then
 some (Sum.inr (Sum.inr ((false,()),())))
 else
 some (Sum.inl (((),(),(IntKind.i64.wrap (i + (1:Int))),()),((p0,p1,p2,p3,()),(p4,p5,p6,p7,()),())))
 else
 none
 else
 none
 else
 some (Sum.inr (Sum.inl ((),())))
noncomputable def nh4':(T'8×(T'22×T'22×Unit))→Option ((Unit×Unit) ⊕ ((Bool×Unit)×Unit)):=iter (fun x=>ngd' x.1.2.2.1 x.2.1.1 x.2.1.2.1 x.2.1.2.2.1 x.2.1.2.2.2.1 x.2.2.1.1 x.2.2.1.2.1 x.2.2.1.2.2.1 x.2.2.1.2.2.2.1) fuel
noncomputable def ngi' (i:Int) (p0:List (Calls)) (p1:List (Bool)) (p2 p3:Int) (p4:List (Calls)) (p5:List (Bool)) (p6 p7:Int):Option (Sum (T'8×(T'22×T'22×Unit)) (((Unit×Unit×Unit)×(T'22×T'22×Unit)) ⊕ ((Bool×Unit)×Unit))):=
 bif (decide (i < ((List.length p0:Nat):Int))) then
 bif (inB i (List.length p0)) then
 let z0:Calls:=(List.getD p0 (Int.toNat i) (Calls.mk (0:Int) (0:Int)))
 bif (inB i (List.length p4)) then
 let z1:Calls:=(List.getD p4 (Int.toNat i) (Calls.mk (0:Int) (0:Int)))
 bif (!((z0.Up==z1.Up)&&((z0.Down==z1.Down)&&true))) then
 some (Sum.inr (Sum.inr ((false,()),())))
 else
 some (Sum.inl (((),(),(IntKind.i64.wrap (i + (1:Int))),()),((p0,p1,p2,p3,()),(p4,p5,p6,p7,()),())))
 else
 none
 else
 none
 else
 some (Sum.inr (Sum.inl (((),(),()),((p0,p1,p2,p3,()),(p4,p5,p6,p7,()),()))))
noncomputable def nkj':(T'8×(T'22×T'22×Unit))→Option (((Unit×Unit×Unit)×(T'22×T'22×Unit)) ⊕ ((Bool×Unit)×Unit)):=iter (fun x=>ngi' x.1.2.2.1 x.2.1.1 x.2.1.2.1 x.2.1.2.2.1 x.2.1.2.2.2.1 x.2.2.1.1 x.2.2.1.2.1 x.2.2.1.2.2.1 x.2.2.1.2.2.2.1) fuel
noncomputable def nmy' (p0:List (Calls)) (p1:List (Bool)) (p2 p3:Int) (p4:List (Calls)) (p5:List (Bool)) (p6 p7:Int):Option ((Bool×Unit)×Unit):=
 bif (!((p2==p6)&&((p3==p7)&&true))) then
 some ((false,()),())
 else
 bif (((List.length p0:Nat):Int) != ((List.length p4:Nat):Int)) then
 some ((false,()),())
 else
 bif (((List.length p1:Nat):Int) != ((List.length p5:Nat):Int)) then
 some ((false,()),())
 else
 (nkj' (((),(),(0:Int),()),((p0,p1,p2,p3,()),(p4,p5,p6,p7,()),()))).bind fun y1=>
 (match y1 with
 | .inl y2=>
 (nh4' (((),(),(0:Int),()),(y2.2.1,y2.2.2.1,()))).bind fun y3=>
 (match y3 with
 | .inl y4=>
 some ((true,()),())
 | .inr y4=>
 some ((y4.1.1,()),()))
 | .inr y2=>
 some ((y2.1.1,()),()))
noncomputable def ng4' (p0:List (Record)) (p1:List (Int)) (p2 p3:List (Bool)) (p4:List (Entry)) (p5:List (Int)) (p6:List (Calls)) (p7:List (Bool)) (p8 p9 p10 p11:Int) (p12:List (Record)) (p13:List (Int)) (p14 p15:List (Bool)) (p16:List (Entry)) (p17:List (Int)) (p18:List (Calls)) (p19:List (Bool)) (p20 p21 p22 p23:Int):Option ((Bool×Unit)×Unit):=
 Option.bind ((nmv' p0 p12).bind fun y1=>
 bif y1.1.1 then
 (nmz' p1 p2 p3 p4 p13 p14 p15 p16).bind fun y2=>
 bif y2.1.1 then
 (nih' p5 p17).bind fun y3=>
 bif y3.1.1 then
 (nmy' p6 p7 p8 p9 p18 p19 p20 p21).bind fun y4=>
 bif y4.1.1 then
 some ((((p10==p22)&&((p11==p23)&&true)),()),())
 else
 some ((false,()),())
 else
 some ((false,()),())
 else
 some ((false,()),())
 else
 some ((false,()),())) fun y5=>
 some ((y5.1.1,()),())
noncomputable def n4' (s1 s2:List (Record)) (s12 s13:Int):Option (Sum (T'70×Unit) ((Unit×Unit) ⊕ ((Bool×Unit)×Unit))):=
 bif (decide (s13 < s12)) then
 bif (inB s13 (List.length s1)) then
 let z0:Record:=(List.getD s1 (Int.toNat s13) (Record.mk (0:Int) (0:Int) (0:Int) (0:Int) (0:Int)))
 bif (inB s13 (List.length s2)) then
 let z1:Record:=(List.getD s2 (Int.toNat s13) (Record.mk (0:Int) (0:Int) (0:Int) (0:Int) (0:Int)))
 bif (!((z0.Kind==z1.Kind)&&((z0.Floor==z1.Floor)&&((z0.Dir==z1.Dir)&&((z0.Car==z1.Car)&&((z0.Value==z1.Value)&&true)))))) then
 some (Sum.inr (Sum.inr ((false,()),())))
 else
 some (Sum.inl ((s1,s2,s12,(IntKind.i64.wrap (s13 + (1:Int))),()),()))
 else
 none
 else
 none
 else
 some (Sum.inr (Sum.inl ((),())))
noncomputable def nbw':(T'70×Unit)→Option ((Unit×Unit) ⊕ ((Bool×Unit)×Unit)):=iter (fun x=>n4' x.1.1 x.1.2.1 x.1.2.2.1 x.1.2.2.2.1) fuel
noncomputable def nb4' (s1 s2:List (Record)):Option ((Bool×Unit)×Unit):=
 bif (((List.length s1:Nat):Int) != ((List.length s2:Nat):Int)) then
 some ((false,()),())
 else
 (nbw' ((s1,s2,((List.length s1:Nat):Int),(0:Int),()),())).bind fun y1=>
 (match y1 with
 | .inl y2=>
 some ((true,()),())
 | .inr y2=>
 some ((y2.1.1,()),()))
noncomputable def nb8' (s1 s2:List (Int)) (s12 s13:Int):Option (Sum (T'71×Unit) ((Unit×Unit) ⊕ ((Bool×Unit)×Unit))):=
 bif (decide (s13 < s12)) then
 bif (inB s13 (List.length s1)) then
 bif (inB s13 (List.length s2)) then
 bif ((List.getD s1 (Int.toNat s13) (0:Int)) != (List.getD s2 (Int.toNat s13) (0:Int))) then
 some (Sum.inr (Sum.inr ((false,()),())))
 else
 some (Sum.inl ((s1,s2,s12,(IntKind.i64.wrap (s13 + (1:Int))),()),()))
 else
 none
 else
 none
 else
 some (Sum.inr (Sum.inl ((),())))
noncomputable def nc2':(T'71×Unit)→Option ((Unit×Unit) ⊕ ((Bool×Unit)×Unit)):=iter (fun x=>nb8' x.1.1 x.1.2.1 x.1.2.2.1 x.1.2.2.2.1) fuel
noncomputable def ncs' (s1 s2:List (Int)):Option ((Bool×Unit)×Unit):=
 bif (((List.length s1:Nat):Int) != ((List.length s2:Nat):Int)) then
 some ((false,()),())
 else
 (nc2' ((s1,s2,((List.length s1:Nat):Int),(0:Int),()),())).bind fun y1=>
 (match y1 with
 | .inl y2=>
 some ((true,()),())
 | .inr y2=>
 some ((y2.1.1,()),()))
noncomputable def nbz' (s1 s2:List (Bool)) (s12 s13:Int):Option (Sum (T'72×Unit) ((Unit×Unit) ⊕ ((Bool×Unit)×Unit))):=
 bif (decide (s13 < s12)) then
 bif (inB s13 (List.length s1)) then
 bif (inB s13 (List.length s2)) then
 bif (!((List.getD s1 (Int.toNat s13) false)==(List.getD s2 (Int.toNat s13) false))) then
 some (Sum.inr (Sum.inr ((false,()),())))
 else
 some (Sum.inl ((s1,s2,s12,(IntKind.i64.wrap (s13 + (1:Int))),()),()))
 else
 none
 else
 none
 else
 some (Sum.inr (Sum.inl ((),())))
noncomputable def ncu':(T'72×Unit)→Option ((Unit×Unit) ⊕ ((Bool×Unit)×Unit)):=iter (fun x=>nbz' x.1.1 x.1.2.1 x.1.2.2.1 x.1.2.2.2.1) fuel
noncomputable def nb6' (s1 s2:List (Bool)):Option ((Bool×Unit)×Unit):=
 bif (((List.length s1:Nat):Int) != ((List.length s2:Nat):Int)) then
 some ((false,()),())
 else
 (ncu' ((s1,s2,((List.length s1:Nat):Int),(0:Int),()),())).bind fun y1=>
 (match y1 with
 | .inl y2=>
 some ((true,()),())
 | .inr y2=>
 some ((y2.1.1,()),()))
noncomputable def n8' (s1 s2:List (Entry)) (s12 s13:Int):Option (Sum (T'73×Unit) ((Unit×Unit) ⊕ ((Bool×Unit)×Unit))):=
 bif (decide (s13 < s12)) then
 bif (inB s13 (List.length s1)) then
 let z0:Entry:=(List.getD s1 (Int.toNat s13) (Entry.mk (0:Int) (0:Int) (0:Int) (0:Int) false))
 bif (inB s13 (List.length s2)) then
 let z1:Entry:=(List.getD s2 (Int.toNat s13) (Entry.mk (0:Int) (0:Int) (0:Int) (0:Int) false))
 bif (!((z0.Floor==z1.Floor)&&((z0.Dir==z1.Dir)&&((z0.Car==z1.Car)&&((z0.Moves==z1.Moves)&&((z0.Moved==z1.Moved)&&true)))))) then
 some (Sum.inr (Sum.inr ((false,()),())))
 else
 some (Sum.inl ((s1,s2,s12,(IntKind.i64.wrap (s13 + (1:Int))),()),()))
 else
 none
 else
 none
 else
 some (Sum.inr (Sum.inl ((),())))
noncomputable def nb3':(T'73×Unit)→Option ((Unit×Unit) ⊕ ((Bool×Unit)×Unit)):=iter (fun x=>n8' x.1.1 x.1.2.1 x.1.2.2.1 x.1.2.2.2.1) fuel
noncomputable def nca' (s1 s2:List (Entry)):Option ((Bool×Unit)×Unit):=
 bif (((List.length s1:Nat):Int) != ((List.length s2:Nat):Int)) then
 some ((false,()),())
 else
 (nb3' ((s1,s2,((List.length s1:Nat):Int),(0:Int),()),())).bind fun y1=>
 (match y1 with
 | .inl y2=>
 some ((true,()),())
 | .inr y2=>
 some ((y2.1.1,()),()))
noncomputable def nmt' (p0:List (Int)) (p1 p2:List (Bool)) (p3:List (Entry)) (p4:List (Int)) (p5 p6:List (Bool)) (p7:List (Entry)):Option ((Bool×Unit)×Unit):=
 Option.bind ((ncs' p0 p4).bind fun y1=>
 bif y1.1.1 then
 (nb6' p1 p5).bind fun y2=>
 bif y2.1.1 then
 (nb6' p2 p6).bind fun y3=>
 bif y3.1.1 then
 (nca' p3 p7).bind fun y4=>
 some ((y4.1.1,()),())
 else
 some ((false,()),())
 else
 some ((false,()),())
 else
 some ((false,()),())) fun y5=>
 some ((y5.1.1,()),())
noncomputable def n7' (s1 s2:List (Calls)) (s12 s13:Int):Option (Sum (T'74×Unit) ((Unit×Unit) ⊕ ((Bool×Unit)×Unit))):=
 bif (decide (s13 < s12)) then
 bif (inB s13 (List.length s1)) then
 let z0:Calls:=(List.getD s1 (Int.toNat s13) (Calls.mk (0:Int) (0:Int)))
 bif (inB s13 (List.length s2)) then
 let z1:Calls:=(List.getD s2 (Int.toNat s13) (Calls.mk (0:Int) (0:Int)))
 bif (!((z0.Up==z1.Up)&&((z0.Down==z1.Down)&&true))) then
 some (Sum.inr (Sum.inr ((false,()),())))
 else
 some (Sum.inl ((s1,s2,s12,(IntKind.i64.wrap (s13 + (1:Int))),()),()))
 else
 none
 else
 none
 else
 some (Sum.inr (Sum.inl ((),())))
noncomputable def nb2':(T'74×Unit)→Option ((Unit×Unit) ⊕ ((Bool×Unit)×Unit)):=iter (fun x=>n7' x.1.1 x.1.2.1 x.1.2.2.1 x.1.2.2.2.1) fuel
noncomputable def ncb' (s1 s2:List (Calls)):Option ((Bool×Unit)×Unit):=
 bif (((List.length s1:Nat):Int) != ((List.length s2:Nat):Int)) then
 some ((false,()),())
 else
 (nb2' ((s1,s2,((List.length s1:Nat):Int),(0:Int),()),())).bind fun y1=>
 (match y1 with
 | .inl y2=>
 some ((true,()),())
 | .inr y2=>
 some ((y2.1.1,()),()))
noncomputable def niq' (p0:List (Calls)) (p1:List (Bool)) (p2 p3:Int) (p4:List (Calls)) (p5:List (Bool)) (p6 p7:Int):Option ((Bool×Unit)×Unit):=
 Option.bind ((ncb' p0 p4).bind fun y1=>
 bif y1.1.1 then
 (nb6' p1 p5).bind fun y2=>
 bif y2.1.1 then
 some ((((p2==p6)&&((p3==p7)&&true)),()),())
 else
 some ((false,()),())
 else
 some ((false,()),())) fun y3=>
 some ((y3.1.1,()),())
noncomputable def nci' (p0:List (Record)) (p1:List (Int)) (p2 p3:List (Bool)) (p4:List (Entry)) (p5:List (Int)) (p6:List (Calls)) (p7:List (Bool)) (p8 p9 p10 p11:Int) (p12:List (Record)) (p13:List (Int)) (p14 p15:List (Bool)) (p16:List (Entry)) (p17:List (Int)) (p18:List (Calls)) (p19:List (Bool)) (p20 p21 p22 p23:Int):Option ((Bool×Unit)×Unit):=
 Option.bind ((nb4' p0 p12).bind fun y1=>
 bif y1.1.1 then
 (nmt' p1 p2 p3 p4 p13 p14 p15 p16).bind fun y2=>
 bif y2.1.1 then
 (ncs' p5 p17).bind fun y3=>
 bif y3.1.1 then
 (niq' p6 p7 p8 p9 p18 p19 p20 p21).bind fun y4=>
 bif y4.1.1 then
 some ((((p10==p22)&&((p11==p23)&&true)),()),())
 else
 some ((false,()),())
 else
 some ((false,()),())
 else
 some ((false,()),())
 else
 some ((false,()),())) fun y5=>
 some ((y5.1.1,()),())
noncomputable def nkr' :Option ((Bool×Unit)×Unit):=
 (ndc' (9:Int) (90:Int)).bind fun y1=>
 let z0:List (View):=[(View.mk true true false false (0:Int) (0:Int) (0:Int) (0:Int) (0:Int) (0:Int) (0:Int) (0:Int)),(View.mk false false false false (0:Int) (0:Int) (0:Int) (0:Int) (0:Int) (0:Int) (0:Int) (0:Int))]
 (nfa' y1.2.1.1 y1.2.1.2.1 y1.2.1.2.2.1 y1.2.1.2.2.2.1 y1.2.1.2.2.2.2.1 y1.2.1.2.2.2.2.2.1 y1.2.1.2.2.2.2.2.2.1 y1.2.1.2.2.2.2.2.2.2.1).bind fun y2=>
 (nu' y1.2.1.1 y1.2.1.2.1 y1.2.1.2.2.1 y1.2.1.2.2.2.1 y1.2.1.2.2.2.2.1 y1.2.1.2.2.2.2.2.1 y1.2.1.2.2.2.2.2.2.1 y1.2.1.2.2.2.2.2.2.2.1 y2.2.1.1 y2.2.1.2.1 y2.2.1.2.2.1 y2.2.1.2.2.2.1 [] z0 (List.replicate (Int.toNat (2:Int)) (Calls.mk (0:Int) (0:Int))) (4:Int) (0:Int) true).bind fun y3=>
 bif (inB (0:Int) (List.length z0)) then
 let z1:Nat:=(Int.toNat (0:Int))
 let z2:View:=(List.getD z0 z1 (View.mk false false false false (0:Int) (0:Int) (0:Int) (0:Int) (0:Int) (0:Int) (0:Int) (0:Int)))
 (nu' y1.2.1.1 y1.2.1.2.1 y1.2.1.2.2.1 y1.2.1.2.2.2.1 y1.2.1.2.2.2.2.1 y1.2.1.2.2.2.2.2.1 y1.2.1.2.2.2.2.2.2.1 y1.2.1.2.2.2.2.2.2.2.1 y3.2.1.2.1 y3.2.1.2.2.1 y3.2.1.2.2.2.1 y3.2.1.2.2.2.2.1 y3.2.1.2.2.2.2.2.1 (List.set z0 z1 (View.mk z2.Ready z2.Serving z2.Legacy z2.Lost z2.Floor z2.Dir z2.Load (4:Int) (0:Int) z2.Stops_Car z2.Stops_Hall_Up z2.Stops_Hall_Down)) (List.replicate (Int.toNat (2:Int)) (Calls.mk (0:Int) (0:Int))) (4:Int) (0:Int) true).bind fun y4=>
 Option.bind (bif (y3.1.2.1==(0:Int)) then
 bif (((List.length y3.2.1.1:Nat):Int)==(2:Int)) then
 bif (((List.length y3.2.1.2.2.2.2.1:Nat):Int)==(1:Int)) then
 bif (inB (0:Int) (List.length y3.2.1.2.2.2.2.1)) then
 let z3:Entry:=(List.getD y3.2.1.2.2.2.2.1 (Int.toNat (0:Int)) (Entry.mk (0:Int) (0:Int) (0:Int) (0:Int) false))
 bif ((z3.Floor==(2:Int))&&((z3.Dir==(1:Int))&&((z3.Car==(0:Int))&&((z3.Moves==(0:Int))&&((z3.Moved==false)&&true))))) then
 bif (y4.1.2.1==(0:Int)) then
 bif (((List.length y4.2.1.2.2.2.2.1:Nat):Int)==(0:Int)) then
 bif ((y4.2.1.2.2.2.2.2.2.2.2.1==(4:Int))&&((y4.2.1.2.2.2.2.2.2.2.2.2.1==(0:Int))&&true)) then
 (nci' y4.2.1.1 y4.2.1.2.1 y4.2.1.2.2.1 y4.2.1.2.2.2.1 y4.2.1.2.2.2.2.1 y4.2.1.2.2.2.2.2.1 y4.2.1.2.2.2.2.2.2.1 y4.2.1.2.2.2.2.2.2.2.1 y4.2.1.2.2.2.2.2.2.2.2.1 y4.2.1.2.2.2.2.2.2.2.2.2.1 y4.2.1.2.2.2.2.2.2.2.2.2.2.1 y4.2.1.2.2.2.2.2.2.2.2.2.2.2.1 y4.2.1.1 y4.2.1.2.1 y4.2.1.2.2.1 y4.2.1.2.2.2.1 y4.2.1.2.2.2.2.1 y4.2.1.2.2.2.2.2.1 y4.2.1.2.2.2.2.2.2.1 y4.2.1.2.2.2.2.2.2.2.1 y4.2.1.2.2.2.2.2.2.2.2.1 y4.2.1.2.2.2.2.2.2.2.2.2.1 y4.2.1.2.2.2.2.2.2.2.2.2.2.1 y4.2.1.2.2.2.2.2.2.2.2.2.2.2.1).bind fun y5=>
 bif y5.1.1 then
 (nci' y3.2.1.1 y3.2.1.2.1 y3.2.1.2.2.1 y3.2.1.2.2.2.1 y3.2.1.2.2.2.2.1 y3.2.1.2.2.2.2.2.1 y3.2.1.2.2.2.2.2.2.1 y3.2.1.2.2.2.2.2.2.2.1 y3.2.1.2.2.2.2.2.2.2.2.1 y3.2.1.2.2.2.2.2.2.2.2.2.1 y3.2.1.2.2.2.2.2.2.2.2.2.2.1 y3.2.1.2.2.2.2.2.2.2.2.2.2.2.1 y4.2.1.1 y4.2.1.2.1 y4.2.1.2.2.1 y4.2.1.2.2.2.1 y4.2.1.2.2.2.2.1 y4.2.1.2.2.2.2.2.1 y4.2.1.2.2.2.2.2.2.1 y4.2.1.2.2.2.2.2.2.2.1 y4.2.1.2.2.2.2.2.2.2.2.1 y4.2.1.2.2.2.2.2.2.2.2.2.1 y4.2.1.2.2.2.2.2.2.2.2.2.2.1 y4.2.1.2.2.2.2.2.2.2.2.2.2.2.1).bind fun y6=>
 some (((!y6.1.1),()),())
 else
 some ((false,()),())
 else
 some ((false,()),())
 else
 some ((false,()),())
 else
 some ((false,()),())
 else
 some ((false,()),())
 else
 none
 else
 some ((false,()),())
 else
 some ((false,()),())
 else
 some ((false,()),())) fun y7=>
 some ((y7.1.1,()),())
 else
 none
noncomputable def nct' (k:List (Int)) (v:List (View)) (p:List (Calls)) (i p0 p1 p2 p3 p4 p5:Int) (p6 p7 p8:Nat) (p9:List (Car)) (p10:List (Int)) (p11 p12:List (Bool)) (p13:List (Entry)):Option (Sum (T'75×T'76) ((T'77×T'76) ⊕ ((Bool×Unit)×Unit))):=
 bif (decide (i < (2:Int))) then
 (nbv' p10 p11 p12 p13 k).bind fun y1=>
 (nu' p2 p3 p4 p5 p6 p7 p8 p9 p10 p11 p12 p13 y1.1.1 v p p0 p1 (i==(0:Int))).bind fun y2=>
 (nbv' p10 p11 p12 p13 k).bind fun y3=>
 (nkh' p2 p3 p4 p5 p6 p7 p8 p9 p10 p11 p12 p13 y3.1.1 v p p0 p1 (i==(0:Int))).bind fun y4=>
 bif (y2.1.2.1 != y4.1.2.1) then
 some (Sum.inr (Sum.inr ((false,()),())))
 else
 bif (y2.1.2.1 != (0:Int)) then
 some (Sum.inr (Sum.inr ((false,()),())))
 else
 (ng4' y2.2.1.1 y2.2.1.2.1 y2.2.1.2.2.1 y2.2.1.2.2.2.1 y2.2.1.2.2.2.2.1 y2.2.1.2.2.2.2.2.1 y2.2.1.2.2.2.2.2.2.1 y2.2.1.2.2.2.2.2.2.2.1 y2.2.1.2.2.2.2.2.2.2.2.1 y2.2.1.2.2.2.2.2.2.2.2.2.1 y2.2.1.2.2.2.2.2.2.2.2.2.2.1 y2.2.1.2.2.2.2.2.2.2.2.2.2.2.1 y4.2.1.1 y4.2.1.2.1 y4.2.1.2.2.1 y4.2.1.2.2.2.1 y4.2.1.2.2.2.2.1 y4.2.1.2.2.2.2.2.1 y4.2.1.2.2.2.2.2.2.1 y4.2.1.2.2.2.2.2.2.2.1 y4.2.1.2.2.2.2.2.2.2.2.1 y4.2.1.2.2.2.2.2.2.2.2.2.1 y4.2.1.2.2.2.2.2.2.2.2.2.2.1 y4.2.1.2.2.2.2.2.2.2.2.2.2.2.1).bind fun y5=>
 bif (!y5.1.1) then
 some (Sum.inr (Sum.inr ((false,()),())))
 else
 (nci' y2.2.1.1 y2.2.1.2.1 y2.2.1.2.2.1 y2.2.1.2.2.2.1 y2.2.1.2.2.2.2.1 y2.2.1.2.2.2.2.2.1 y2.2.1.2.2.2.2.2.2.1 y2.2.1.2.2.2.2.2.2.2.1 y2.2.1.2.2.2.2.2.2.2.2.1 y2.2.1.2.2.2.2.2.2.2.2.2.1 y2.2.1.2.2.2.2.2.2.2.2.2.2.1 y2.2.1.2.2.2.2.2.2.2.2.2.2.2.1 y4.2.1.1 y4.2.1.2.1 y4.2.1.2.2.1 y4.2.1.2.2.2.1 y4.2.1.2.2.2.2.1 y4.2.1.2.2.2.2.2.1 y4.2.1.2.2.2.2.2.2.1 y4.2.1.2.2.2.2.2.2.2.1 y4.2.1.2.2.2.2.2.2.2.2.1 y4.2.1.2.2.2.2.2.2.2.2.2.1 y4.2.1.2.2.2.2.2.2.2.2.2.2.1 y4.2.1.2.2.2.2.2.2.2.2.2.2.2.1).bind fun y6=>
 bif (!y6.1.1) then
 some (Sum.inr (Sum.inr ((false,()),())))
 else
 (nci' y2.2.1.1 y2.2.1.2.1 y2.2.1.2.2.1 y2.2.1.2.2.2.1 y2.2.1.2.2.2.2.1 y2.2.1.2.2.2.2.2.1 y2.2.1.2.2.2.2.2.2.1 y2.2.1.2.2.2.2.2.2.2.1 y2.2.1.2.2.2.2.2.2.2.2.1 y2.2.1.2.2.2.2.2.2.2.2.2.1 y2.2.1.2.2.2.2.2.2.2.2.2.2.1 y2.2.1.2.2.2.2.2.2.2.2.2.2.2.1 [] [] [] [] [] [] [] [] (0:Int) (0:Int) (0:Int) (0:Int)).bind fun y7=>
 (ng4' y4.2.1.1 y4.2.1.2.1 y4.2.1.2.2.1 y4.2.1.2.2.2.1 y4.2.1.2.2.2.2.1 y4.2.1.2.2.2.2.2.1 y4.2.1.2.2.2.2.2.2.1 y4.2.1.2.2.2.2.2.2.2.1 y4.2.1.2.2.2.2.2.2.2.2.1 y4.2.1.2.2.2.2.2.2.2.2.2.1 y4.2.1.2.2.2.2.2.2.2.2.2.2.1 y4.2.1.2.2.2.2.2.2.2.2.2.2.2.1 [] [] [] [] [] [] [] [] (0:Int) (0:Int) (0:Int) (0:Int)).bind fun y8=>
 bif (!(y7.1.1==y8.1.1)) then
 some (Sum.inr (Sum.inr ((false,()),())))
 else
 some (Sum.inl ((k,(),(),(),v,p,(IntKind.i64.wrap (i + (1:Int))),()),((p0,p1,()),(p2,p3,p4,p5,p6,p7,p8,p9,()),(p10,p11,p12,p13,()),())))
 else
 some (Sum.inr (Sum.inl ((k,(),(),(),v,p,()),((p0,p1,()),(p2,p3,p4,p5,p6,p7,p8,p9,()),(p10,p11,p12,p13,()),()))))
noncomputable def ndg':(T'75×T'76)→Option ((T'77×T'76) ⊕ ((Bool×Unit)×Unit)):=iter (fun x=>nct' x.1.1 x.1.2.2.2.2.1 x.1.2.2.2.2.2.1 x.1.2.2.2.2.2.2.1 x.2.1.1 x.2.1.2.1 x.2.2.1.1 x.2.2.1.2.1 x.2.2.1.2.2.1 x.2.2.1.2.2.2.1 x.2.2.1.2.2.2.2.1 x.2.2.1.2.2.2.2.2.1 x.2.2.1.2.2.2.2.2.2.1 x.2.2.1.2.2.2.2.2.2.2.1 x.2.2.2.1.1 x.2.2.2.1.2.1 x.2.2.2.1.2.2.1 x.2.2.2.1.2.2.2.1) fuel
noncomputable def F_l24_DispatchTicks (p0 p1:Int) (c_L c_K:List (Int)) (p2 p3:Int):Option ((Bool×Unit)×Unit):=
 (ndc' p0 p1).bind fun y1=>
 (nhq' y1.2.1.1 y1.2.1.2.1 y1.2.1.2.2.1 y1.2.1.2.2.2.1 y1.2.1.2.2.2.2.1 y1.2.1.2.2.2.2.2.1 y1.2.1.2.2.2.2.2.2.1 y1.2.1.2.2.2.2.2.2.2.1 c_L).bind fun y2=>
 (nhj' y1.2.1.1 y1.2.1.2.1 y1.2.1.2.2.1 y1.2.1.2.2.2.1 y1.2.1.2.2.2.2.1 y1.2.1.2.2.2.2.2.1 y1.2.1.2.2.2.2.2.2.1 y1.2.1.2.2.2.2.2.2.2.1 c_K).bind fun y3=>
 let z0:Int:=((List.length y1.2.1.2.2.2.2.2.2.2.1:Nat):Int)
 bif (((decide ((0:Int)≤z0))&&(decide (z0≤z0)))&&(decide (z0≤(2147483648:Int)))) then
 let z1:List (Calls):=(List.replicate (Int.toNat z0) (Calls.mk (0:Int) (0:Int)))
 bif (inB (0:Int) (List.length y3.1.1)) then
 let z2:View:=(List.getD y3.1.1 (Int.toNat (0:Int)) (View.mk false false false false (0:Int) (0:Int) (0:Int) (0:Int) (0:Int) (0:Int) (0:Int) (0:Int)))
 bif (inB (0:Int) (List.length z1)) then
 (ndg' ((c_K,(),(),(),y3.1.1,(List.set z1 (Int.toNat (0:Int)) (Calls.mk z2.Shows_Up z2.Shows_Down)),(0:Int),()),((p2,p3,()),y1.2.1,y2.2.1,()))).bind fun y4=>
 (match y4 with
 | .inl y5=>
 (nbv' y5.2.2.2.1.1 y5.2.2.2.1.2.1 y5.2.2.2.1.2.2.1 y5.2.2.2.1.2.2.2.1 y5.1.1).bind fun y6=>
 let z3:List (Int):=[(0:Int)]
 bif (Nat.ble ((List.length y6.1.1) + (List.length z3)) 2147483648) then
 (nu' y5.2.2.1.1 y5.2.2.1.2.1 y5.2.2.1.2.2.1 y5.2.2.1.2.2.2.1 y5.2.2.1.2.2.2.2.1 y5.2.2.1.2.2.2.2.2.1 y5.2.2.1.2.2.2.2.2.2.1 y5.2.2.1.2.2.2.2.2.2.2.1 y5.2.2.2.1.1 y5.2.2.2.1.2.1 y5.2.2.2.1.2.2.1 y5.2.2.2.1.2.2.2.1 (y6.1.1++z3) y5.1.2.2.2.2.1 y5.1.2.2.2.2.2.1 y5.2.1.1 y5.2.1.2.1 true).bind fun y7=>
 (nbv' y5.2.2.2.1.1 y5.2.2.2.1.2.1 y5.2.2.2.1.2.2.1 y5.2.2.2.1.2.2.2.1 y5.1.1).bind fun y8=>
 bif (decide ((1:Int)≤(((List.length y5.1.2.2.2.2.1):Nat):Int))) then
 (nu' y5.2.2.1.1 y5.2.2.1.2.1 y5.2.2.1.2.2.1 y5.2.2.1.2.2.2.1 y5.2.2.1.2.2.2.2.1 y5.2.2.1.2.2.2.2.2.1 y5.2.2.1.2.2.2.2.2.2.1 y5.2.2.1.2.2.2.2.2.2.2.1 y5.2.2.2.1.1 y5.2.2.2.1.2.1 y5.2.2.2.1.2.2.1 y5.2.2.2.1.2.2.2.1 y8.1.1 (List.drop 1 (List.take (List.length y5.1.2.2.2.2.1) y5.1.2.2.2.2.1)) y5.1.2.2.2.2.2.1 y5.2.1.1 y5.2.1.2.1 true).bind fun y9=>
 (nbv' y5.2.2.2.1.1 y5.2.2.2.1.2.1 y5.2.2.2.1.2.2.1 y5.2.2.2.1.2.2.2.1 y5.1.1).bind fun y10=>
 (nu' y5.2.2.1.1 y5.2.2.1.2.1 y5.2.2.1.2.2.1 y5.2.2.1.2.2.2.1 y5.2.2.1.2.2.2.2.1 y5.2.2.1.2.2.2.2.2.1 y5.2.2.1.2.2.2.2.2.2.1 y5.2.2.1.2.2.2.2.2.2.2.1 y5.2.2.2.1.1 y5.2.2.2.1.2.1 y5.2.2.2.1.2.2.1 y5.2.2.2.1.2.2.2.1 y10.1.1 y5.1.2.2.2.2.1 [] y5.2.1.1 y5.2.1.2.1 true).bind fun y11=>
 (nu' y5.2.2.1.1 y5.2.2.1.2.1 y5.2.2.1.2.2.1 y5.2.2.1.2.2.2.1 y5.2.2.1.2.2.2.2.1 y5.2.2.1.2.2.2.2.2.1 y5.2.2.1.2.2.2.2.2.2.1 y5.2.2.1.2.2.2.2.2.2.2.1 [] [] [] [] [] y5.1.2.2.2.2.1 y5.1.2.2.2.2.2.1 y5.2.1.1 y5.2.1.2.1 true).bind fun y12=>
 Option.bind (bif (y7.1.2.1==(1:Int)) then
 bif (y9.1.2.1==(1:Int)) then
 bif (y11.1.2.1==(1:Int)) then
 bif (y12.1.2.1==(1:Int)) then
 (nkr').bind fun y13=>
 some ((y13.1.1,()),())
 else
 some ((false,()),())
 else
 some ((false,()),())
 else
 some ((false,()),())
 else
 some ((false,()),())) fun y14=>
 some ((y14.1.1,()),())
 else
 none
 else
 none
 | .inr y5=>
 some ((y5.1.1,()),()))
 else
 none
 else
 none
 else
 none
noncomputable def nqh' (s12:List (Record)) (s13 s14 p0 p1 p2 p3:Int) (p4 p5 p6:Nat) (p7:List (Car)) (p8:List (Int)) (p9 p10:List (Bool)) (p11:List (Entry)) (p12:List (Int)) (p13 p14:List (Bool)) (p15:List (Entry)):Option (Sum (T'78×(T'0×T'5×T'5×Unit)) (((Unit×Unit×Unit)×(T'5×T'5×Unit)) ⊕ ((Unit×Int×Unit)×(T'5×Unit)))):=
 bif (decide (s14 < s13)) then
 bif (inB s14 (List.length s12)) then
 let z0:Record:=(List.getD s12 (Int.toNat s14) (Record.mk (0:Int) (0:Int) (0:Int) (0:Int) (0:Int)))
 (nit' p0 p1 p2 p3 p4 p5 p6 p7 p8 p9 p10 p11 z0.Kind z0.Floor z0.Dir z0.Car z0.Value).bind fun y1=>
 bif (y1.1.2.1 != (0:Int)) then
 some (Sum.inr (Sum.inr (((),y1.1.2.1,()),((([]:List (Int)),([]:List (Bool)),([]:List (Bool)),([]:List (Entry)),()),()))))
 else
 some (Sum.inl (((),(),(),s12,s13,(IntKind.i64.wrap (s14 + (1:Int))),()),((p0,p1,p2,p3,p4,p5,p6,p7,()),y1.2.1,(p12,p13,p14,p15,()),())))
 else
 none
 else
 some (Sum.inr (Sum.inl (((),(),()),((p8,p9,p10,p11,()),(p12,p13,p14,p15,()),()))))
noncomputable def nhr':(T'78×(T'0×T'5×T'5×Unit))→Option (((Unit×Unit×Unit)×(T'5×T'5×Unit)) ⊕ ((Unit×Int×Unit)×(T'5×Unit))):=iter (fun x=>nqh' x.1.2.2.2.1 x.1.2.2.2.2.1 x.1.2.2.2.2.2.1 x.2.1.1 x.2.1.2.1 x.2.1.2.2.1 x.2.1.2.2.2.1 x.2.1.2.2.2.2.1 x.2.1.2.2.2.2.2.1 x.2.1.2.2.2.2.2.2.1 x.2.1.2.2.2.2.2.2.2.1 x.2.2.1.1 x.2.2.1.2.1 x.2.2.1.2.2.1 x.2.2.1.2.2.2.1 x.2.2.2.1.1 x.2.2.2.1.2.1 x.2.2.2.1.2.2.1 x.2.2.2.1.2.2.2.1) fuel
noncomputable def nr3' (p0 p1 p2 p3:Int) (p4 p5 p6:Nat) (p7:List (Car)) (p8:List (Int)) (p9 p10:List (Bool)) (p11:List (Entry)) (l:List (Record)):Option ((Unit×Int×Unit)×(T'5×Unit)):=
 (nhr' (((),(),(),l,((List.length l:Nat):Int),(0:Int),()),((p0,p1,p2,p3,p4,p5,p6,p7,()),(p8,p9,p10,p11,()),(([]:List (Int)),([]:List (Bool)),([]:List (Bool)),([]:List (Entry)),()),()))).bind fun y1=>
 (match y1 with
 | .inl y2=>
 (nf4' y2.2.1.1 y2.2.1.2.1 y2.2.1.2.2.1 y2.2.1.2.2.2.1).bind fun y3=>
 some (((),(0:Int),()),(y3.2.1,()))
 | .inr y2=>
 some (((),y2.1.2.1,()),(y2.2.1,())))
noncomputable def n19' (l:List (Entry)) (i p0 p1 p2 p3:Int):Option (Sum (T'79×T'39) ((Unit×Unit×Unit)×T'39)):=
 bif (decide (i < ((List.length l:Nat):Int))) then
 bif (inB i (List.length l)) then
 bif (inB i (List.length l)) then
 (nib' (List.getD l (Int.toNat i) (Entry.mk (0:Int) (0:Int) (0:Int) (0:Int) false)).Floor (List.getD l (Int.toNat i) (Entry.mk (0:Int) (0:Int) (0:Int) (0:Int) false)).Dir).bind fun y1=>
 (nhp' p2 p3 y1.2.1.1 y1.2.1.2.1).bind fun y2=>
 some (Sum.inl ((l,(),(),(IntKind.i64.wrap (i + (1:Int))),()),((p0,p1,()),y2.2.1,())))
 else
 none
 else
 none
 else
 some (Sum.inr (((),(),()),((p0,p1,()),(p2,p3,()),())))
noncomputable def npl':(T'79×T'39)→Option ((Unit×Unit×Unit)×T'39):=iter (fun x=>n19' x.1.1 x.1.2.2.2.1 x.2.1.1 x.2.1.2.1 x.2.2.1.1 x.2.2.1.2.1) fuel
noncomputable def n6y' (l:List (Entry)):Option ((Unit×Unit)×T'18):=
 (npl' ((l,(),(),(0:Int),()),(((0:Int),(0:Int),()),((0:Int),(0:Int),()),()))).bind fun y1=>
 some (((),()),(y1.2.2.1,()))
end Go.Ovl
