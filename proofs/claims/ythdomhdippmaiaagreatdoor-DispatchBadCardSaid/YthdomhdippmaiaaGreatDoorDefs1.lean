/- What each function of the program comes to: part 1. -/
import Derived.Test.YthdomhdippmaiaaGreatDoorTy
namespace Go.Ovl
open Go Go.Ab
set_option maxRecDepth 100000
@[reducible] def T'0:Type:=(Int×Int×Int×Int×Nat×Nat×Nat×List (Car)×Unit)
@[reducible] def T'1:Type:=(Int×Int×Unit×Unit×Int×Unit)
@[reducible] def T'2:Type:=(Unit×Unit×List (Int)×Int×Unit)
@[reducible] def T'3:Type:=(Int×Int×Int×Int×Int×Int×Int×Int×Int×Unit)
@[reducible] def T'4:Type:=(Unit×Bool×Int×Unit)
@[reducible] def T'5:Type:=(List (Int)×List (Bool)×List (Bool)×List (Entry)×Unit)
@[reducible] def T'6:Type:=(List (Int)×Int×List (Record)×Int×Int×Int×Unit)
@[reducible] def T'7:Type:=(Unit×Unit×Int×Int×Unit)
@[reducible] def T'8:Type:=(Unit×Unit×Int×Unit)
@[reducible] def T'9:Type:=(Int×Int×Unit×Int×Unit)
@[reducible] def T'10:Type:=(List (Entry)×Unit×List (Entry)×Bool×Int×Unit)
@[reducible] def T'11:Type:=(Int×Int×Int×Int×Bool×Unit)
@[reducible] def T'12:Type:=(Unit×List (Entry)×Bool×Unit)
@[reducible] def T'13:Type:=(Unit×Unit×Unit×List (Record)×Int×Unit)
@[reducible] def T'14:Type:=(List (Int)×List (Int)×Int×Unit)
@[reducible] def T'15:Type:=(List (Int)×Unit×List (View)×Int×Unit)
@[reducible] def T'16:Type:=(List (Int)×Unit×List (View)×Int×Unit×Int×Unit)
@[reducible] def T'17:Type:=(Int×Int×Int×Int×Unit)
@[reducible] def T'18:Type:=(List (Int)×Unit×List (View)×Int×Unit×Unit)
@[reducible] def T'19:Type:=((Int×Int×Unit)×Unit)
@[reducible] def T'20:Type:=(Int×Int×List (Int)×Int×Int×Unit)
@[reducible] def T'21:Type:=(Unit×Bool×List (Car)×Int×Int×Unit)
@[reducible] def T'22:Type:=(List (Calls)×List (Bool)×Int×Int×Unit)
@[reducible] def T'23:Type:=(List (Calls)×Unit×Unit×Unit×List (View)×Int×Int×Unit)
@[reducible] def T'24:Type:=(T'0×T'22×T'22×Unit)
@[reducible] def T'25:Type:=(Int×List (Int)×Int×Int×Unit)
@[reducible] def T'26:Type:=(Unit×Unit×List (Int)×Int×Int×Unit)
@[reducible] def T'27:Type:=(Unit×Unit×List (Entry)×Int×Int×Unit)
@[reducible] def T'28:Type:=(List (Int)×Unit×Int×Int×Unit)
@[reducible] def T'29:Type:=(Unit×Unit×Unit×List (View)×Int×Int×Unit)
@[reducible] def T'30:Type:=(T'0×T'5×(Int×Int×Unit)×Unit)
@[reducible] def T'31:Type:=(T'5×(Int×Int×Unit)×Unit)
@[reducible] def T'32:Type:=(Unit×List (Record)×List (Entry)×Int×Int×Unit)
@[reducible] def T'33:Type:=((Int×Unit)×(Int×Unit)×Unit)
@[reducible] def T'34:Type:=(List (Entry)×Unit×Int×Int×Unit)
@[reducible] def T'35:Type:=(List (Entry)×Unit×Unit×Int×Int×Int×Unit)
@[reducible] def T'36:Type:=(List (Entry)×Unit×Unit×Int×Int×Unit)
@[reducible] def T'37:Type:=(List (Record)×List (Int)×List (Bool)×List (Bool)×List (Entry)×List (Int)×List (Calls)×List (Bool)×Int×Int×Int×Int×Int×Int×Int×Int×Nat×Nat×Nat×List (Car)×Unit)
@[reducible] def T'38:Type:=(Unit×List (Record)×Int×Int×Unit)
@[reducible] def T'39:Type:=((Int×Int×Unit)×(Int×Int×Unit)×Unit)
@[reducible] def T'40:Type:=(Unit×List (Entry)×Int×Int×Unit)
@[reducible] def T'41:Type:=((Int×Int×Int×Unit)×Unit)
@[reducible] def T'42:Type:=(List (View)×Int×Int×Int×Unit×Int×Unit×List (View)×Int×Int×Unit)
@[reducible] def T'43:Type:=(T'0×(Int×Int×Unit)×Unit)
@[reducible] def T'44:Type:=(List (Record)×List (Int)×Int×Unit)
@[reducible] def T'45:Type:=(List (Int)×List (View)×Unit×Unit×List (Record)×List (Int)×List (Entry)×Int×Int×Unit)
@[reducible] def T'46:Type:=(Int×Int×Int×Int×Nat×Nat×Nat×List (Car)×List (View)×Unit)
@[reducible] def T'47:Type:=(List (Record)×List (Int)×Unit)
@[reducible] def T'48:Type:=(List (Record)×List (Int)×List (Bool)×List (Bool)×List (Entry)×List (Int)×List (Calls)×List (Bool)×Int×Int×Int×Int×Unit)
@[reducible] def T'49:Type:=(List (Record)×List (Record)×Int×Int×Unit)
@[reducible] def T'50:Type:=(List (Int)×List (Int)×Int×Int×Unit)
@[reducible] def T'51:Type:=(List (Bool)×List (Bool)×Int×Int×Unit)
@[reducible] def T'52:Type:=(List (Entry)×List (Entry)×Int×Int×Unit)
@[reducible] def T'53:Type:=(List (Calls)×List (Calls)×Int×Int×Unit)
@[reducible] def T'54:Type:=(Unit×Unit×Unit×Int×Unit)
@[reducible] def T'55:Type:=(T'0×(Int×Int×Unit)×(Int×Int×Unit)×Unit)
@[reducible] def T'56:Type:=(Unit×List (Entry)×Int×Unit)
@[reducible] def T'57:Type:=(List (Entry)×Unit×Unit×Int×Unit)
@[reducible] def T'58:Type:=(List (Record)×List (Record)×Int×Unit)
@[reducible] def T'59:Type:=(Int×Unit×Int×Int×Unit)
@[reducible] def T'60:Type:=(Int×Unit×Int×Int×Int×Unit)
@[reducible] def T'61:Type:=(Int×Int×Int×Int×Int×Unit×Int×Int×Int×Unit)
@[reducible] def T'62:Type:=(Int×Int×Int×Int×Int×Int×Unit)
@[reducible] def T'63:Type:=(List (View)×Int×Int×Int×Unit×Int×Int×Unit)
@[reducible] def T'64:Type:=(List (Int)×Unit×Int×Unit)
@[reducible] def T'65:Type:=(List (Int)×Unit×Unit)
@[reducible] def T'66:Type:=(List (Int)×List (View)×Unit×Unit×List (Record)×List (Int)×Int×Unit)
@[reducible] def T'67:Type:=(List (View)×List (Calls)×Unit×Unit×Unit×Int×Unit)
@[reducible] def T'68:Type:=(List (View)×Unit×Unit×List (Record)×Int×Unit)
@[reducible] def T'69:Type:=(List (View)×Unit×Unit×List (Record)×Int×Unit×Int×Unit)
@[reducible] def T'70:Type:=(T'0×T'5×List (Int)×List (View)×List (Calls)×(Int×Int×Unit)×Bool×Unit)
noncomputable def nd9' (p0 p1 i p2 p3 p4 p5:Int) (p6 p7 p8:Nat) (p9:List (Car)) (p10 p11 p12 p13:Int) (p14 p15 p16:Nat) (p17:List (Car)):Option (Sum (T'1×(T'0×T'0×Unit)) ((Unit×Unit×Unit)×(T'0×T'0×Unit))):=
 bif (decide (i < p1)) then
 bif (p0 != (0:Int)) then
 let z0:List (Car):=[(Car.mk (100:Int) (2:Int) (6:Int) (5:Int) (4:Int) (2:Int) (3:Int) (10:Int) (Int.tmod i p0))]
 bif (Nat.ble ((List.length p17) + (List.length z0)) 2147483648) then
 some (Sum.inl ((p0,p1,(),(),(IntKind.i64.wrap (i + (1:Int))),()),((p2,p3,p4,p5,p6,p7,p8,p9,()),(p10,p11,p12,p13,p14,p15,p16,(p17++z0),()),())))
 else
 none
 else
 none
 else
 some (Sum.inr (((),(),()),((p2,p3,p4,p5,p6,p7,p8,p9,()),(p10,p11,p12,p13,p14,p15,p16,p17,()),())))
noncomputable def nfg':(T'1×(T'0×T'0×Unit))→Option ((Unit×Unit×Unit)×(T'0×T'0×Unit)):=iter (fun x=>nd9' x.1.1 x.1.2.1 x.1.2.2.2.2.1 x.2.1.1 x.2.1.2.1 x.2.1.2.2.1 x.2.1.2.2.2.1 x.2.1.2.2.2.2.1 x.2.1.2.2.2.2.2.1 x.2.1.2.2.2.2.2.2.1 x.2.1.2.2.2.2.2.2.2.1 x.2.2.1.1 x.2.2.1.2.1 x.2.2.1.2.2.1 x.2.2.1.2.2.2.1 x.2.2.1.2.2.2.2.1 x.2.2.1.2.2.2.2.2.1 x.2.2.1.2.2.2.2.2.2.1 x.2.2.1.2.2.2.2.2.2.2.1) fuel
noncomputable def nii' (p0 p1:Int):Option ((Unit×Unit)×(T'0×Unit)):=
 (nfg' ((p0,p1,(),(),(0:Int),()),(((0:Int),(0:Int),(0:Int),(0:Int),0,0,0,([]:List (Car)),()),(p0,(1:Int),(4000:Int),(30:Int),4591870180066957722,4605380978949069210,4607632778762754458,([]:List (Car)),()),()))).bind fun y1=>
 some (((),()),(y1.2.2.1,()))
noncomputable def ncr' (n p0:Int):Option ((Unit×Unit)×(T'0×Unit)):=
 (nii' (IntKind.i64.wrap ((2:Int) + (IntKind.i64.wrap (Int.tmod n (7:Int))))) (IntKind.i64.wrap ((1:Int) + (IntKind.i64.wrap (Int.tmod (IntKind.u8.wrap (Int.tdiv n (7:Int))) (3:Int)))))).bind fun y1=>
 some (((),()),((y1.2.1.1,y1.2.1.2.1,(IntKind.i64.wrap ((IntKind.i64.wrap ((IntKind.i64.wrap ((18:Int) * ((List.length y1.2.1.2.2.2.2.2.2.2.1:Nat):Int))) + (24:Int))) + (IntKind.i64.wrap p0))),y1.2.1.2.2.2.1,y1.2.1.2.2.2.2.1,y1.2.1.2.2.2.2.2.1,y1.2.1.2.2.2.2.2.2.1,y1.2.1.2.2.2.2.2.2.2.1,()),()))
noncomputable def ndi' (n lo hi:Int):Option ((Bool×Unit)×Unit):=
 Option.bind (bif (decide (lo≤n)) then
 some (((decide (n≤hi)),()),())
 else
 some ((false,()),())) fun y1=>
 some ((y1.1.1,()),())
noncomputable def nc7' (l:List (Int)) (i p0 p1 p2 p3:Int) (p4 p5 p6:Nat) (p7:List (Car)) (p8 p9 p10 p11 p12 p13 p14 p15 p16:Int):Option (Sum (T'2×(T'0×T'3×Unit)) (((Unit×Unit×Unit)×(T'0×T'3×Unit)) ⊕ ((Bool×Unit)×Unit))):=
 bif (decide (i < (7:Int))) then
 bif (inB i (List.length l)) then
 (ndi' (List.getD l (Int.toNat i) (0:Int)) (1:Int) (10000:Int)).bind fun y1=>
 bif (!y1.1.1) then
 some (Sum.inr (Sum.inr ((false,()),())))
 else
 some (Sum.inl (((),(),l,(IntKind.i64.wrap (i + (1:Int))),()),((p0,p1,p2,p3,p4,p5,p6,p7,()),(p8,p9,p10,p11,p12,p13,p14,p15,p16,()),())))
 else
 none
 else
 some (Sum.inr (Sum.inl (((),(),()),((p0,p1,p2,p3,p4,p5,p6,p7,()),(p8,p9,p10,p11,p12,p13,p14,p15,p16,()),()))))
noncomputable def nhh':(T'2×(T'0×T'3×Unit))→Option (((Unit×Unit×Unit)×(T'0×T'3×Unit)) ⊕ ((Bool×Unit)×Unit)):=iter (fun x=>nc7' x.1.2.2.1 x.1.2.2.2.1 x.2.1.1 x.2.1.2.1 x.2.1.2.2.1 x.2.1.2.2.2.1 x.2.1.2.2.2.2.1 x.2.1.2.2.2.2.2.1 x.2.1.2.2.2.2.2.2.1 x.2.1.2.2.2.2.2.2.2.1 x.2.2.1.1 x.2.2.1.2.1 x.2.2.1.2.2.1 x.2.2.1.2.2.2.1 x.2.2.1.2.2.2.2.1 x.2.2.1.2.2.2.2.2.1 x.2.2.1.2.2.2.2.2.2.1 x.2.2.1.2.2.2.2.2.2.2.1 x.2.2.1.2.2.2.2.2.2.2.2.1) fuel
noncomputable def ni5' (p0 p1 p2 p3:Int) (p4 p5 p6:Nat) (p7:List (Car)) (p8 p9 p10 p11 p12 p13 p14 p15 p16:Int):Option ((Bool×Unit)×Unit):=
 bif (decide (p11 < (0:Int))) then
 some ((false,()),())
 else
 bif (decide ((10000:Int) < p11)) then
 some ((false,()),())
 else
 (nhh' (((),(),[p8,p9,p10,p12,p13,p14,p15,(IntKind.i64.wrap (p11 + (1:Int)))],(0:Int),()),((p0,p1,p2,p3,p4,p5,p6,p7,()),(p8,p9,p10,p11,p12,p13,p14,p15,p16,()),()))).bind fun y1=>
 (match y1 with
 | .inl y2=>
 Option.bind (bif (decide (y2.2.2.1.2.2.2.2.2.2.1≤y2.2.2.1.2.2.2.2.2.2.2.1)) then
 (ndi' y2.2.2.1.2.2.2.2.2.2.2.2.1 (0:Int) (IntKind.i64.wrap (y2.2.1.1 - (1:Int)))).bind fun y3=>
 some ((y3.1.1,()),())
 else
 some ((false,()),())) fun y4=>
 some ((y4.1.1,()),())
 | .inr y2=>
 some ((y2.1.1,()),()))
noncomputable def neo' (ok:Bool) (i p0 p1 p2 p3:Int) (p4 p5 p6:Nat) (p7:List (Car)):Option (Sum (T'4×(T'0×Unit)) ((Unit×Bool×Unit)×(T'0×Unit))):=
 bif (decide (i < ((List.length p7:Nat):Int))) then
 Option.bind (bif ok then
 bif (inB i (List.length p7)) then
 let z0:Car:=(List.getD p7 (Int.toNat i) (Car.mk (0:Int) (0:Int) (0:Int) (0:Int) (0:Int) (0:Int) (0:Int) (0:Int) (0:Int)))
 (ni5' p0 p1 p2 p3 p4 p5 p6 p7 z0.Deadline z0.Pulse z0.Quiet z0.Slack z0.Step z0.Travel z0.Dwell z0.Hold z0.Home).bind fun y1=>
 some (((),y1.1.1,i,()),((p0,p1,p2,p3,p4,p5,p6,p7,()),()))
 else
 none
 else
 some (((),false,i,()),((p0,p1,p2,p3,p4,p5,p6,p7,()),()))) fun y2=>
 some (Sum.inl (((),y2.1.2.1,(IntKind.i64.wrap (y2.1.2.2.1 + (1:Int))),()),(y2.2.1,())))
 else
 some (Sum.inr (((),ok,()),((p0,p1,p2,p3,p4,p5,p6,p7,()),())))
noncomputable def nhg':(T'4×(T'0×Unit))→Option ((Unit×Bool×Unit)×(T'0×Unit)):=iter (fun x=>neo' x.1.2.1 x.1.2.2.1 x.2.1.1 x.2.1.2.1 x.2.1.2.2.1 x.2.1.2.2.2.1 x.2.1.2.2.2.2.1 x.2.1.2.2.2.2.2.1 x.2.1.2.2.2.2.2.2.1 x.2.1.2.2.2.2.2.2.2.1) fuel
noncomputable def ncu' (p0 p1 p2 p3:Int) (p4 p5 p6:Nat) (p7:List (Car)):Option ((Int×Unit)×Unit):=
 (ndi' p0 (2:Int) (32:Int)).bind fun y1=>
 bif (!y1.1.1) then
 some (((10:Int),()),())
 else
 (ndi' ((List.length p7:Nat):Int) (1:Int) (8:Int)).bind fun y2=>
 bif (!y2.1.1) then
 some (((11:Int),()),())
 else
 Option.bind ((ndi' p1 (1:Int) (16:Int)).bind fun y3=>
 bif y3.1.1 then
 (ndi' p3 (1:Int) (10000:Int)).bind fun y4=>
 some (((),y4.1.1,()),((p0,p1,p2,p3,p4,p5,p6,p7,()),()))
 else
 some (((),false,()),((p0,p1,p2,p3,p4,p5,p6,p7,()),()))) fun y5=>
 (nhg' (((),y5.1.2.1,(0:Int),()),(y5.2.1,()))).bind fun y6=>
 bif (!y6.1.2.1) then
 some (((12:Int),()),())
 else
 bif (((FloatKind.format FloatKind.f64).order 0 y6.2.1.2.2.2.2.1)==some Ordering.lt) then
 bif (((FloatKind.format FloatKind.f64).order y6.2.1.2.2.2.2.1 y6.2.1.2.2.2.2.2.1)==some Ordering.lt) then
 bif (((FloatKind.format FloatKind.f64).order y6.2.1.2.2.2.2.2.1 y6.2.1.2.2.2.2.2.2.1)==some Ordering.lt) then
 bif (!(((FloatKind.format FloatKind.f64).order y6.2.1.2.2.2.2.2.2.1 9218868437227405311)==some Ordering.lt||((FloatKind.format FloatKind.f64).order y6.2.1.2.2.2.2.2.2.1 9218868437227405311)==some Ordering.eq)) then
 some (((13:Int),()),())
 else
 (ndi' y6.2.1.2.2.1 (IntKind.i64.wrap ((IntKind.i64.wrap ((18:Int) * ((List.length y6.2.1.2.2.2.2.2.2.2.1:Nat):Int))) + (24:Int))) (65536:Int)).bind fun y7=>
 bif (!y7.1.1) then
 some (((14:Int),()),())
 else
 some (((0:Int),()),())
 else
 some (((13:Int),()),())
 else
 some (((13:Int),()),())
 else
 some (((13:Int),()),())
noncomputable def neq' (p0 p1 p2 p3:Int) (p4 p5 p6:Nat) (p7:List (Car)):Option ((Unit×Unit)×(T'5×Unit)):=
 (ncu' p0 p1 p2 p3 p4 p5 p6 p7).bind fun y1=>
 bif (y1.1.1 != (0:Int)) then
 some (((),()),((([]:List (Int)),([]:List (Bool)),([]:List (Bool)),([]:List (Entry)),()),()))
 else
 let z0:Int:=((List.length p7:Nat):Int)
 bif (((decide ((0:Int)≤z0))&&(decide (z0≤z0)))&&(decide (z0≤(2147483648:Int)))) then
 bif (((decide ((0:Int)≤z0))&&(decide (z0≤z0)))&&(decide (z0≤(2147483648:Int)))) then
 bif (((decide ((0:Int)≤z0))&&(decide (z0≤z0)))&&(decide (z0≤(2147483648:Int)))) then
 some (((),()),(((List.replicate (Int.toNat z0) (0:Int)),(List.replicate (Int.toNat z0) false),(List.replicate (Int.toNat z0) false),([]:List (Entry)),()),()))
 else
 none
 else
 none
 else
 none
noncomputable def ncz' (l:List (Int)) (p0:Int) (out:List (Record)) (f c i:Int):Option (Sum (T'6×Unit) ((List (Record)×Unit)×Unit)):=
 bif (decide ((IntKind.i64.wrap (i + (1:Int))) < ((List.length l:Nat):Int))) then
 bif (decide (((List.length out:Nat):Int) < p0)) then
 bif (inB i (List.length l)) then
 let z0:Int:=(IntKind.i64.wrap (List.getD l (Int.toNat i) (0:Int)))
 let z1:Int:=(IntKind.i64.wrap (i + (1:Int)))
 bif (inB z1 (List.length l)) then
 let z2:Int:=(IntKind.i64.wrap (List.getD l (Int.toNat z1) (0:Int)))
 let z3:Int:=(IntKind.i64.wrap ((1:Int) + (Int.tmod z0 (7:Int))))
 Option.bind (bif (z3==(4:Int)) then
 bif (c != (0:Int)) then
 some ((l,p0,out,f,c,i,z0,(),()),((z3,(0:Int),(0:Int),(Int.tmod (IntKind.i64.wrap (Int.tdiv z0 (7:Int))) c),(Int.tmod z2 (5:Int)),()),()))
 else
 none
 else
 bif (z3==(5:Int)) then
 bif (c != (0:Int)) then
 some ((l,p0,out,f,c,i,z0,(),()),((z3,(0:Int),(0:Int),(Int.tmod (IntKind.i64.wrap (Int.tdiv z0 (7:Int))) c),(Int.tmod z2 (2:Int)),()),()))
 else
 none
 else
 bif (z3==(6:Int)) then
 bif (c != (0:Int)) then
 some ((l,p0,out,f,c,i,z0,(),()),((z3,(0:Int),(0:Int),(Int.tmod (IntKind.i64.wrap (Int.tdiv z0 (7:Int))) c),(Int.tmod z2 (2:Int)),()),()))
 else
 none
 else
 let z4:Int:=(IntKind.i64.wrap ((1:Int) + (Int.tmod z2 (2:Int))))
 let z5:Int:=(IntKind.i64.wrap (f - (1:Int)))
 bif (z5 != (0:Int)) then
 let z6:Int:=(Int.tmod (IntKind.i64.wrap (Int.tdiv z2 (2:Int))) z5)
 bif (z4==(2:Int)) then
 some ((l,p0,out,f,c,i,z0,(),()),((z3,(IntKind.i64.wrap (z6 + (1:Int))),z4,(0:Int),(0:Int),()),()))
 else
 some ((l,p0,out,f,c,i,z0,(),()),((z3,z6,z4,(0:Int),(0:Int),()),()))
 else
 none) fun y1=>
 Option.bind (bif (y1.2.1.1==(3:Int)) then
 let z7:Int:=(IntKind.i64.wrap (y1.1.2.2.2.2.1 + (2:Int)))
 bif (z7 != (0:Int)) then
 some ((y1.1.1,y1.1.2.1,y1.1.2.2.1,y1.1.2.2.2.1,y1.1.2.2.2.2.1,y1.1.2.2.2.2.2.1,y1.1.2.2.2.2.2.2.1,(),()),((y1.2.1.1,y1.2.1.2.1,y1.2.1.2.2.1,(IntKind.i64.wrap ((Int.tmod (IntKind.i64.wrap (Int.tdiv y1.1.2.2.2.2.2.2.1 (7:Int))) z7) - (2:Int))),y1.2.1.2.2.2.2.1,()),()))
 else
 none
 else
 some ((y1.1.1,y1.1.2.1,y1.1.2.2.1,y1.1.2.2.2.1,y1.1.2.2.2.2.1,y1.1.2.2.2.2.2.1,y1.1.2.2.2.2.2.2.1,(),()),(y1.2.1,()))) fun y2=>
 bif (y2.2.1.1==(7:Int)) then
 let z8:List (Record):=[(Record.mk y2.2.1.1 y2.2.1.2.1 y2.2.1.2.2.1 (Int.tmod (IntKind.i64.wrap (Int.tdiv y2.1.2.2.2.2.2.2.1 (7:Int))) (2:Int)) (IntKind.i64.wrap (Int.tdiv y2.1.2.2.2.2.2.2.1 (14:Int))))]
 bif (Nat.ble ((List.length y2.1.2.2.1) + (List.length z8)) 2147483648) then
 some (Sum.inl ((y2.1.1,y2.1.2.1,(y2.1.2.2.1++z8),y2.1.2.2.2.1,y2.1.2.2.2.2.1,(IntKind.i64.wrap (y2.1.2.2.2.2.2.1 + (2:Int))),()),()))
 else
 none
 else
 let z9:List (Record):=[(Record.mk y2.2.1.1 y2.2.1.2.1 y2.2.1.2.2.1 y2.2.1.2.2.2.1 y2.2.1.2.2.2.2.1)]
 bif (Nat.ble ((List.length y2.1.2.2.1) + (List.length z9)) 2147483648) then
 some (Sum.inl ((y2.1.1,y2.1.2.1,(y2.1.2.2.1++z9),y2.1.2.2.2.1,y2.1.2.2.2.2.1,(IntKind.i64.wrap (y2.1.2.2.2.2.2.1 + (2:Int))),()),()))
 else
 none
 else
 none
 else
 none
 else
 some (Sum.inr ((out,()),()))
 else
 some (Sum.inr ((out,()),()))
noncomputable def ngq':(T'6×Unit)→Option ((List (Record)×Unit)×Unit):=iter (fun x=>ncz' x.1.1 x.1.2.1 x.1.2.2.1 x.1.2.2.2.1 x.1.2.2.2.2.1 x.1.2.2.2.2.2.1) fuel
noncomputable def nhl' (p0 p1 p2 p3:Int) (p4 p5 p6:Nat) (p7:List (Car)) (l:List (Int)) (p8:Int):Option ((List (Record)×Unit)×Unit):=
 (ngq' ((l,p8,([]:List (Record)),p0,((List.length p7:Nat):Int),(0:Int),()),())).bind fun y1=>
 some ((y1.1.1,()),())
noncomputable def nec' (p0 p1 p2 p3:Int) (p4 p5 p6:Nat) (p7:List (Car)) (p8 dir:Int):Option ((Bool×Unit)×Unit):=
 (ncu' p0 p1 p2 p3 p4 p5 p6 p7).bind fun y1=>
 bif (y1.1.1 != (0:Int)) then
 some ((false,()),())
 else
 Option.bind (bif (dir==(1:Int)) then
 (ndi' p8 (0:Int) (IntKind.i64.wrap (p0 - (2:Int)))).bind fun y2=>
 bif y2.1.1 then
 some ((true,()),())
 else
 bif (dir==(2:Int)) then
 (ndi' p8 (1:Int) (IntKind.i64.wrap (p0 - (1:Int)))).bind fun y3=>
 some ((y3.1.1,()),())
 else
 some ((false,()),())
 else
 bif (dir==(2:Int)) then
 (ndi' p8 (1:Int) (IntKind.i64.wrap (p0 - (1:Int)))).bind fun y4=>
 some ((y4.1.1,()),())
 else
 some ((false,()),())) fun y5=>
 some ((y5.1.1,()),())
noncomputable def nh6' (p0 p1 p2 p3:Int) (p4:Bool) (p5 p6 p7 p8:Int) (p9:Bool):Option ((Bool×Unit)×Unit):=
 Option.bind (bif (decide (p0 < p5)) then
 some ((true,()),())
 else
 bif (p0==p5) then
 some (((decide (p1 < p6)),()),())
 else
 some ((false,()),())) fun y1=>
 some ((y1.1.1,()),())
noncomputable def ncx' (n i p0 p1 p2 p3:Int) (p4 p5 p6:Nat) (p7:List (Car)) (p8:List (Int)) (p9 p10:List (Bool)) (p11:List (Entry)):Option (Sum (T'7×(T'0×T'5×Unit)) ((Unit×Unit) ⊕ ((Bool×Unit)×Unit))):=
 bif (decide (i < ((List.length p11:Nat):Int))) then
 bif (inB i (List.length p11)) then
 let z0:Entry:=(List.getD p11 (Int.toNat i) (Entry.mk (0:Int) (0:Int) (0:Int) (0:Int) false))
 Option.bind ((nec' p0 p1 p2 p3 p4 p5 p6 p7 z0.Floor z0.Dir).bind fun y1=>
 bif (!y1.1.1) then
 some (((),(),n,i,true,()),((p0,p1,p2,p3,p4,p5,p6,p7,()),(p8,p9,p10,p11,()),()))
 else
 bif (decide (z0.Car < (-2:Int))) then
 some (((),(),n,i,true,()),((p0,p1,p2,p3,p4,p5,p6,p7,()),(p8,p9,p10,p11,()),()))
 else
 bif (decide (n≤z0.Car)) then
 some (((),(),n,i,true,()),((p0,p1,p2,p3,p4,p5,p6,p7,()),(p8,p9,p10,p11,()),()))
 else
 bif (decide (z0.Moves < (0:Int))) then
 some (((),(),n,i,true,()),((p0,p1,p2,p3,p4,p5,p6,p7,()),(p8,p9,p10,p11,()),()))
 else
 bif (decide ((255:Int) < z0.Moves)) then
 some (((),(),n,i,true,()),((p0,p1,p2,p3,p4,p5,p6,p7,()),(p8,p9,p10,p11,()),()))
 else
 bif (decide ((0:Int) < i)) then
 let z1:Int:=(IntKind.i64.wrap (i - (1:Int)))
 bif (inB z1 (List.length p11)) then
 let z2:Entry:=(List.getD p11 (Int.toNat z1) (Entry.mk (0:Int) (0:Int) (0:Int) (0:Int) false))
 (nh6' z2.Floor z2.Dir z2.Car z2.Moves z2.Moved z0.Floor z0.Dir z0.Car z0.Moves z0.Moved).bind fun y2=>
 some (((),(),n,i,(!y2.1.1),()),((p0,p1,p2,p3,p4,p5,p6,p7,()),(p8,p9,p10,p11,()),()))
 else
 none
 else
 some (((),(),n,i,false,()),((p0,p1,p2,p3,p4,p5,p6,p7,()),(p8,p9,p10,p11,()),()))) fun y3=>
 bif y3.1.2.2.2.2.1 then
 some (Sum.inr (Sum.inr ((false,()),())))
 else
 some (Sum.inl (((),(),y3.1.2.2.1,(IntKind.i64.wrap (y3.1.2.2.2.1 + (1:Int))),()),(y3.2.1,y3.2.2.1,())))
 else
 none
 else
 some (Sum.inr (Sum.inl ((),())))
noncomputable def ngu':(T'7×(T'0×T'5×Unit))→Option ((Unit×Unit) ⊕ ((Bool×Unit)×Unit)):=iter (fun x=>ncx' x.1.2.2.1 x.1.2.2.2.1 x.2.1.1 x.2.1.2.1 x.2.1.2.2.1 x.2.1.2.2.2.1 x.2.1.2.2.2.2.1 x.2.1.2.2.2.2.2.1 x.2.1.2.2.2.2.2.2.1 x.2.1.2.2.2.2.2.2.2.1 x.2.2.1.1 x.2.2.1.2.1 x.2.2.1.2.2.1 x.2.2.1.2.2.2.1) fuel
noncomputable def ndy' (n i p0 p1 p2 p3:Int) (p4 p5 p6:Nat) (p7:List (Car)) (p8:List (Int)) (p9 p10:List (Bool)) (p11:List (Entry)):Option (Sum (T'7×(T'0×T'5×Unit)) ((T'8×(T'0×T'5×Unit)) ⊕ ((Bool×Unit)×Unit))):=
 bif (decide (i < n)) then
 bif (inB i (List.length p8)) then
 bif (decide ((List.getD p8 (Int.toNat i) (0:Int)) < (0:Int))) then
 some (Sum.inr (Sum.inr ((false,()),())))
 else
 bif (inB i (List.length p8)) then
 bif (decide ((4:Int) < (List.getD p8 (Int.toNat i) (0:Int)))) then
 some (Sum.inr (Sum.inr ((false,()),())))
 else
 some (Sum.inl (((),(),n,(IntKind.i64.wrap (i + (1:Int))),()),((p0,p1,p2,p3,p4,p5,p6,p7,()),(p8,p9,p10,p11,()),())))
 else
 none
 else
 none
 else
 some (Sum.inr (Sum.inl (((),(),n,()),((p0,p1,p2,p3,p4,p5,p6,p7,()),(p8,p9,p10,p11,()),()))))
noncomputable def ngi':(T'7×(T'0×T'5×Unit))→Option ((T'8×(T'0×T'5×Unit)) ⊕ ((Bool×Unit)×Unit)):=iter (fun x=>ndy' x.1.2.2.1 x.1.2.2.2.1 x.2.1.1 x.2.1.2.1 x.2.1.2.2.1 x.2.1.2.2.2.1 x.2.1.2.2.2.2.1 x.2.1.2.2.2.2.2.1 x.2.1.2.2.2.2.2.2.1 x.2.1.2.2.2.2.2.2.2.1 x.2.2.1.1 x.2.2.1.2.1 x.2.2.1.2.2.1 x.2.2.1.2.2.2.1) fuel
noncomputable def net' (p0 p1 p2 p3:Int) (p4 p5 p6:Nat) (p7:List (Car)) (p8:List (Int)) (p9 p10:List (Bool)) (p11:List (Entry)):Option ((Bool×Unit)×Unit):=
 let z0:Int:=((List.length p7:Nat):Int)
 (ncu' p0 p1 p2 p3 p4 p5 p6 p7).bind fun y1=>
 bif (y1.1.1 != (0:Int)) then
 some ((false,()),())
 else
 bif (((List.length p8:Nat):Int) != z0) then
 some ((false,()),())
 else
 bif (((List.length p9:Nat):Int) != z0) then
 some ((false,()),())
 else
 bif (((List.length p10:Nat):Int) != z0) then
 some ((false,()),())
 else
 (ngi' (((),(),z0,(0:Int),()),((p0,p1,p2,p3,p4,p5,p6,p7,()),(p8,p9,p10,p11,()),()))).bind fun y2=>
 (match y2 with
 | .inl y3=>
 (ngu' (((),(),y3.1.2.2.1,(0:Int),()),(y3.2.1,y3.2.2.1,()))).bind fun y4=>
 (match y4 with
 | .inl y5=>
 some ((true,()),())
 | .inr y5=>
 some ((y5.1.1,()),()))
 | .inr y3=>
 some ((y3.1.1,()),()))
noncomputable def ne8' (n lo hi:Int):Option ((Bool×Unit)×Unit):=
 Option.bind (bif (decide (lo≤n)) then
 some (((decide (n≤hi)),()),())
 else
 some ((false,()),())) fun y1=>
 some ((y1.1.1,()),())
noncomputable def ni6' (p0 p1 p2 p3:Int) (p4 p5 p6:Nat) (p7:List (Car)) (p8 p9 p10 p11 p12:Int):Option ((Bool×Unit)×Unit):=
 (ncu' p0 p1 p2 p3 p4 p5 p6 p7).bind fun y1=>
 bif (y1.1.1 != (0:Int)) then
 some ((false,()),())
 else
 (nec' p0 p1 p2 p3 p4 p5 p6 p7 p9 p10).bind fun y2=>
 Option.bind ((ne8' p11 (0:Int) (IntKind.i64.wrap (((List.length p7:Nat):Int) - (1:Int)))).bind fun y3=>
 bif y3.1.1 then
 bif (p9==(0:Int)) then
 some (((),(),y2.1.1,(p10==(0:Int)),()),((p0,p1,p2,p3,p4,p5,p6,p7,()),(p8,p9,p10,p11,p12,()),()))
 else
 some (((),(),y2.1.1,false,()),((p0,p1,p2,p3,p4,p5,p6,p7,()),(p8,p9,p10,p11,p12,()),()))
 else
 some (((),(),y2.1.1,false,()),((p0,p1,p2,p3,p4,p5,p6,p7,()),(p8,p9,p10,p11,p12,()),()))) fun y4=>
 bif (y4.2.2.1.1==(1:Int)) then
 Option.bind (bif y4.1.2.2.1 then
 bif (y4.2.2.1.2.2.2.1==(0:Int)) then
 some (((y4.2.2.1.2.2.2.2.1==(0:Int)),()),())
 else
 some ((false,()),())
 else
 some ((false,()),())) fun y5=>
 some ((y5.1.1,()),())
 else
 bif (y4.2.2.1.1==(2:Int)) then
 Option.bind (bif y4.1.2.2.1 then
 bif (y4.2.2.1.2.2.2.1==(0:Int)) then
 some (((y4.2.2.1.2.2.2.2.1==(0:Int)),()),())
 else
 some ((false,()),())
 else
 some ((false,()),())) fun y6=>
 some ((y6.1.1,()),())
 else
 bif (y4.2.2.1.1==(3:Int)) then
 Option.bind (bif y4.1.2.2.1 then
 (ne8' y4.2.2.1.2.2.2.1 (-2:Int) (IntKind.i64.wrap (((List.length y4.2.1.2.2.2.2.2.2.2.1:Nat):Int) - (1:Int)))).bind fun y7=>
 bif y7.1.1 then
 some (((y4.2.2.1.2.2.2.2.1==(0:Int)),()),())
 else
 some ((false,()),())
 else
 some ((false,()),())) fun y8=>
 some ((y8.1.1,()),())
 else
 bif (y4.2.2.1.1==(4:Int)) then
 Option.bind (bif y4.1.2.2.2.1 then
 (ne8' y4.2.2.1.2.2.2.2.1 (0:Int) (4:Int)).bind fun y9=>
 some ((y9.1.1,()),())
 else
 some ((false,()),())) fun y10=>
 some ((y10.1.1,()),())
 else
 bif (y4.2.2.1.1==(5:Int)) then
 Option.bind (bif y4.1.2.2.2.1 then
 (ne8' y4.2.2.1.2.2.2.2.1 (0:Int) (1:Int)).bind fun y11=>
 some ((y11.1.1,()),())
 else
 some ((false,()),())) fun y12=>
 some ((y12.1.1,()),())
 else
 bif (y4.2.2.1.1==(6:Int)) then
 Option.bind (bif y4.1.2.2.2.1 then
 (ne8' y4.2.2.1.2.2.2.2.1 (0:Int) (1:Int)).bind fun y13=>
 some ((y13.1.1,()),())
 else
 some ((false,()),())) fun y14=>
 some ((y14.1.1,()),())
 else
 bif (y4.2.2.1.1==(7:Int)) then
 Option.bind (bif y4.1.2.2.1 then
 (ne8' y4.2.2.1.2.2.2.1 (0:Int) (1:Int)).bind fun y15=>
 bif y15.1.1 then
 (ne8' y4.2.2.1.2.2.2.2.1 (0:Int) (255:Int)).bind fun y16=>
 some ((y16.1.1,()),())
 else
 some ((false,()),())
 else
 some ((false,()),())) fun y17=>
 some ((y17.1.1,()),())
 else
 some ((false,()),())
noncomputable def nfm' (p0 dir i:Int) (p1:List (Int)) (p2 p3:List (Bool)) (p4:List (Entry)):Option (Sum (T'9×(T'5×Unit)) ((Unit×Unit) ⊕ ((Int×Unit)×Unit))):=
 bif (decide (i < ((List.length p4:Nat):Int))) then
 Option.bind (bif (inB i (List.length p4)) then
 bif ((List.getD p4 (Int.toNat i) (Entry.mk (0:Int) (0:Int) (0:Int) (0:Int) false)).Floor==p0) then
 bif (inB i (List.length p4)) then
 some ((p0,dir,(),i,((List.getD p4 (Int.toNat i) (Entry.mk (0:Int) (0:Int) (0:Int) (0:Int) false)).Dir==dir),()),((p1,p2,p3,p4,()),()))
 else
 none
 else
 some ((p0,dir,(),i,false,()),((p1,p2,p3,p4,()),()))
 else
 none) fun y1=>
 bif y1.1.2.2.2.2.1 then
 some (Sum.inr (Sum.inr ((y1.1.2.2.2.1,()),())))
 else
 some (Sum.inl ((y1.1.1,y1.1.2.1,(),(IntKind.i64.wrap (y1.1.2.2.2.1 + (1:Int))),()),(y1.2.1,())))
 else
 some (Sum.inr (Sum.inl ((),())))
noncomputable def nid':(T'9×(T'5×Unit))→Option ((Unit×Unit) ⊕ ((Int×Unit)×Unit)):=iter (fun x=>nfm' x.1.1 x.1.2.1 x.1.2.2.2.1 x.2.1.1 x.2.1.2.1 x.2.1.2.2.1 x.2.1.2.2.2.1) fuel
noncomputable def nkj' (p0:List (Int)) (p1 p2:List (Bool)) (p3:List (Entry)) (p4 dir:Int):Option ((Int×Unit)×Unit):=
 (nid' ((p4,dir,(),(0:Int),()),((p0,p1,p2,p3,()),()))).bind fun y1=>
 (match y1 with
 | .inl y2=>
 some (((-1:Int),()),())
 | .inr y2=>
 some ((y2.1.1,()),()))
noncomputable def ndw' (l out:List (Entry)) (p0:Bool) (i p1 p2 p3 p4:Int) (p5:Bool):Option (Sum (T'10×(T'11×Unit)) (T'12×(T'11×Unit))):=
 bif (decide (i < ((List.length l:Nat):Int))) then
 Option.bind (Option.bind (bif (!p0) then
 bif (inB i (List.length l)) then
 let z0:Entry:=(List.getD l (Int.toNat i) (Entry.mk (0:Int) (0:Int) (0:Int) (0:Int) false))
 (nh6' p1 p2 p3 p4 p5 z0.Floor z0.Dir z0.Car z0.Moves z0.Moved).bind fun y1=>
 some ((l,(),out,p0,i,y1.1.1,()),((p1,p2,p3,p4,p5,()),()))
 else
 none
 else
 some ((l,(),out,p0,i,false,()),((p1,p2,p3,p4,p5,()),()))) fun y2=>
 bif y2.1.2.2.2.2.2.1 then
 let z1:List (Entry):=[(Entry.mk y2.2.1.1 y2.2.1.2.1 y2.2.1.2.2.1 y2.2.1.2.2.2.1 y2.2.1.2.2.2.2.1)]
 bif (Nat.ble ((List.length y2.1.2.2.1) + (List.length z1)) 2147483648) then
 some ((y2.1.1,(),(y2.1.2.2.1++z1),true,y2.1.2.2.2.2.1,()),(y2.2.1,()))
 else
 none
 else
 some ((y2.1.1,(),y2.1.2.2.1,y2.1.2.2.2.1,y2.1.2.2.2.2.1,()),(y2.2.1,()))) fun y3=>
 bif (inB y3.1.2.2.2.2.1 (List.length y3.1.1)) then
 let z2:Entry:=(List.getD y3.1.1 (Int.toNat y3.1.2.2.2.2.1) (Entry.mk (0:Int) (0:Int) (0:Int) (0:Int) false))
 let z3:List (Entry):=[(Entry.mk z2.Floor z2.Dir z2.Car z2.Moves z2.Moved)]
 bif (Nat.ble ((List.length y3.1.2.2.1) + (List.length z3)) 2147483648) then
 some (Sum.inl ((y3.1.1,(),(y3.1.2.2.1++z3),y3.1.2.2.2.1,(IntKind.i64.wrap (y3.1.2.2.2.2.1 + (1:Int))),()),(y3.2.1,())))
 else
 none
 else
 none
 else
 some (Sum.inr (((),out,p0,()),((p1,p2,p3,p4,p5,()),())))
noncomputable def ngn':(T'10×(T'11×Unit))→Option (T'12×(T'11×Unit)):=iter (fun x=>ndw' x.1.1 x.1.2.2.1 x.1.2.2.2.1 x.1.2.2.2.2.1 x.2.1.1 x.2.1.2.1 x.2.1.2.2.1 x.2.1.2.2.2.1 x.2.1.2.2.2.2.1) fuel
noncomputable def nhn' (l:List (Entry)) (p0 p1 p2 p3:Int) (p4:Bool):Option ((List (Entry)×Unit)×Unit):=
 (ngn' ((l,(),([]:List (Entry)),false,(0:Int),()),((p0,p1,p2,p3,p4,()),()))).bind fun y1=>
 bif (!y1.1.2.2.1) then
 let z0:List (Entry):=[(Entry.mk y1.2.1.1 y1.2.1.2.1 y1.2.1.2.2.1 y1.2.1.2.2.2.1 y1.2.1.2.2.2.2.1)]
 bif (Nat.ble ((List.length y1.1.2.1) + (List.length z0)) 2147483648) then
 some (((y1.1.2.1++z0),()),())
 else
 none
 else
 some ((y1.1.2.1,()),())
noncomputable def ni8' (p0 p1 p2 p3:Int) (p4 p5 p6:Nat) (p7:List (Car)) (p8:List (Int)) (p9 p10:List (Bool)) (p11:List (Entry)) (p12 p13 p14 p15 p16:Int):Option ((Unit×Int×Unit)×(T'5×Unit)):=
 (net' p0 p1 p2 p3 p4 p5 p6 p7 p8 p9 p10 p11).bind fun y1=>
 bif (!y1.1.1) then
 some (((),(1:Int),()),((([]:List (Int)),([]:List (Bool)),([]:List (Bool)),([]:List (Entry)),()),()))
 else
 (ni6' p0 p1 p2 p3 p4 p5 p6 p7 p12 p13 p14 p15 p16).bind fun y2=>
 bif (!y2.1.1) then
 some (((),(1:Int),()),((([]:List (Int)),([]:List (Bool)),([]:List (Bool)),([]:List (Entry)),()),()))
 else
 bif (Nat.ble ((List.length ([]:List (Int))) + (List.length p8)) 2147483648) then
 let z0:List (Int):=(([]:List (Int))++p8)
 bif (Nat.ble ((List.length ([]:List (Bool))) + (List.length p9)) 2147483648) then
 let z1:List (Bool):=(([]:List (Bool))++p9)
 bif (Nat.ble ((List.length ([]:List (Bool))) + (List.length p10)) 2147483648) then
 let z2:List (Bool):=(([]:List (Bool))++p10)
 bif (Nat.ble ((List.length ([]:List (Entry))) + (List.length p11)) 2147483648) then
 let z3:List (Entry):=(([]:List (Entry))++p11)
 (nkj' z0 z1 z2 z3 p13 p14).bind fun y3=>
 bif (p12==(4:Int)) then
 bif (inB p15 (List.length z0)) then
 some (((),(0:Int),()),(((List.set z0 (Int.toNat p15) p16),z1,z2,z3,()),()))
 else
 none
 else
 bif (p12==(5:Int)) then
 bif (inB p15 (List.length z1)) then
 some (((),(0:Int),()),((z0,(List.set z1 (Int.toNat p15) (p16==(1:Int))),z2,z3,()),()))
 else
 none
 else
 bif (p12==(6:Int)) then
 bif (inB p15 (List.length z2)) then
 some (((),(0:Int),()),((z0,z1,(List.set z2 (Int.toNat p15) (p16==(1:Int))),z3,()),()))
 else
 none
 else
 Option.bind (bif (p12==(1:Int)) then
 some (((),(),(),y3.1.1,(decide (y3.1.1 < (0:Int))),()),((z0,z1,z2,z3,()),(p12,p13,p14,p15,p16,()),(([]:List (Int)),([]:List (Bool)),([]:List (Bool)),([]:List (Entry)),()),()))
 else
 some (((),(),(),y3.1.1,false,()),((z0,z1,z2,z3,()),(p12,p13,p14,p15,p16,()),(([]:List (Int)),([]:List (Bool)),([]:List (Bool)),([]:List (Entry)),()),()))) fun y4=>
 bif y4.1.2.2.2.2.1 then
 (nhn' y4.2.1.2.2.2.1 y4.2.2.1.2.1 y4.2.2.1.2.2.1 (-1:Int) (0:Int) false).bind fun y5=>
 some (((),(0:Int),()),((y4.2.1.1,y4.2.1.2.1,y4.2.1.2.2.1,y5.1.1,()),()))
 else
 bif (decide (y4.1.2.2.2.1 < (0:Int))) then
 some (((),(0:Int),()),(y4.2.1,()))
 else
 bif (y4.2.2.1.1==(2:Int)) then
 Option.bind (some (((),(),y4.1.2.2.2.1,()),(y4.2.1,y4.2.2.2.1,()))) fun y6=>
 bif ((decide ((0:Int)≤y6.1.2.2.1))&&(decide (y6.1.2.2.1≤(((List.length y6.2.1.2.2.2.1):Nat):Int)))) then
 let z4:List (Entry):=(List.drop 0 (List.take (Int.toNat y6.1.2.2.1) y6.2.1.2.2.2.1))
 bif (Nat.ble ((List.length ([]:List (Entry))) + (List.length z4)) 2147483648) then
 let z5:List (Entry):=(([]:List (Entry))++z4)
 let z6:Int:=(IntKind.i64.wrap (y6.1.2.2.1 + (1:Int)))
 bif ((decide ((0:Int)≤z6))&&(decide (z6≤(((List.length y6.2.1.2.2.2.1):Nat):Int)))) then
 let z7:List (Entry):=(List.drop (Int.toNat z6) (List.take (List.length y6.2.1.2.2.2.1) y6.2.1.2.2.2.1))
 bif (Nat.ble ((List.length z5) + (List.length z7)) 2147483648) then
 some (((),(0:Int),()),((y6.2.1.1,y6.2.1.2.1,y6.2.1.2.2.1,(z5++z7),()),()))
 else
 none
 else
 none
 else
 none
 else
 none
 else
 bif (y4.2.2.1.1==(3:Int)) then
 bif (inB y4.1.2.2.2.1 (List.length y4.2.1.2.2.2.1)) then
 let z8:Nat:=(Int.toNat y4.1.2.2.2.1)
 let z9:Entry:=(List.getD y4.2.1.2.2.2.1 z8 (Entry.mk (0:Int) (0:Int) (0:Int) (0:Int) false))
 some (((),(0:Int),()),((y4.2.1.1,y4.2.1.2.1,y4.2.1.2.2.1,(List.set y4.2.1.2.2.2.1 z8 (Entry.mk z9.Floor z9.Dir y4.2.2.1.2.2.2.1 z9.Moves z9.Moved)),()),()))
 else
 none
 else
 bif (y4.2.2.1.1==(7:Int)) then
 bif (inB y4.1.2.2.2.1 (List.length y4.2.1.2.2.2.1)) then
 let z10:Nat:=(Int.toNat y4.1.2.2.2.1)
 let z11:Entry:=(List.getD y4.2.1.2.2.2.1 z10 (Entry.mk (0:Int) (0:Int) (0:Int) (0:Int) false))
 let z12:List (Entry):=(List.set y4.2.1.2.2.2.1 z10 (Entry.mk z11.Floor z11.Dir z11.Car y4.2.2.1.2.2.2.2.1 z11.Moved))
 bif (inB y4.1.2.2.2.1 (List.length z12)) then
 let z13:Nat:=(Int.toNat y4.1.2.2.2.1)
 let z14:Entry:=(List.getD z12 z13 (Entry.mk (0:Int) (0:Int) (0:Int) (0:Int) false))
 some (((),(0:Int),()),((y4.2.1.1,y4.2.1.2.1,y4.2.1.2.2.1,(List.set z12 z13 (Entry.mk z14.Floor z14.Dir z14.Car z14.Moves (y4.2.2.1.2.2.2.1==(1:Int)))),()),()))
 else
 none
 else
 none
 else
 some (((),(0:Int),()),(y4.2.1,()))
 else
 none
 else
 none
 else
 none
 else
 none
noncomputable def nen' (x_1:List (Record)) (i p0 p1 p2 p3:Int) (p4 p5 p6:Nat) (p7:List (Car)) (p8:List (Int)) (p9 p10:List (Bool)) (p11:List (Entry)) (p12:List (Int)) (p13 p14:List (Bool)) (p15:List (Entry)):Option (Sum (T'13×(T'0×T'5×T'5×Unit)) ((Unit×Unit×Unit)×(T'5×T'5×Unit))):=
 bif (decide (i < ((List.length x_1:Nat):Int))) then
 bif (inB i (List.length x_1)) then
 let z0:Record:=(List.getD x_1 (Int.toNat i) (Record.mk (0:Int) (0:Int) (0:Int) (0:Int) (0:Int)))
 (ni8' p0 p1 p2 p3 p4 p5 p6 p7 p12 p13 p14 p15 z0.Kind z0.Floor z0.Dir z0.Car z0.Value).bind fun y1=>
 some (Sum.inl (((),(),(),x_1,(IntKind.i64.wrap (i + (1:Int))),()),((p0,p1,p2,p3,p4,p5,p6,p7,()),(p8,p9,p10,p11,()),y1.2.1,())))
 else
 none
 else
 some (Sum.inr (((),(),()),((p8,p9,p10,p11,()),(p12,p13,p14,p15,()),())))
noncomputable def nhq':(T'13×(T'0×T'5×T'5×Unit))→Option ((Unit×Unit×Unit)×(T'5×T'5×Unit)):=iter (fun x=>nen' x.1.2.2.2.1 x.1.2.2.2.2.1 x.2.1.1 x.2.1.2.1 x.2.1.2.2.1 x.2.1.2.2.2.1 x.2.1.2.2.2.2.1 x.2.1.2.2.2.2.2.1 x.2.1.2.2.2.2.2.2.1 x.2.1.2.2.2.2.2.2.2.1 x.2.2.1.1 x.2.2.1.2.1 x.2.2.1.2.2.1 x.2.2.1.2.2.2.1 x.2.2.2.1.1 x.2.2.2.1.2.1 x.2.2.2.1.2.2.1 x.2.2.2.1.2.2.2.1) fuel
noncomputable def ngd' (p0 p1 p2 p3:Int) (p4 p5 p6:Nat) (p7:List (Car)) (l:List (Int)):Option ((Unit×Unit)×(T'5×Unit)):=
 (neq' p0 p1 p2 p3 p4 p5 p6 p7).bind fun y1=>
 (nhl' p0 p1 p2 p3 p4 p5 p6 p7 l (60:Int)).bind fun y2=>
 (nhq' (((),(),(),y2.1.1,(0:Int),()),((p0,p1,p2,p3,p4,p5,p6,p7,()),(([]:List (Int)),([]:List (Bool)),([]:List (Bool)),([]:List (Entry)),()),y1.2.1,()))).bind fun y3=>
 some (((),()),(y3.2.2.1,()))
noncomputable def nch' (l out:List (Int)) (i:Int):Option (Sum (T'14×Unit) ((List (Int)×Unit)×Unit)):=
 bif (decide (i < ((List.length out:Nat):Int))) then
 bif (decide (i < ((List.length l:Nat):Int))) then
 bif (inB i (List.length l)) then
 bif (inB i (List.length out)) then
 some (Sum.inl ((l,(List.set out (Int.toNat i) (IntKind.i64.wrap (Int.tmod (List.getD l (Int.toNat i) (0:Int)) (5:Int)))),(IntKind.i64.wrap (i + (1:Int))),()),()))
 else
 none
 else
 none
 else
 some (Sum.inr ((out,()),()))
 else
 some (Sum.inr ((out,()),()))
noncomputable def ngl':(T'14×Unit)→Option ((List (Int)×Unit)×Unit):=iter (fun x=>nch' x.1.1 x.1.2.1 x.1.2.2.1) fuel
noncomputable def nes' (p0:List (Int)) (p1 p2:List (Bool)) (p3:List (Entry)) (l:List (Int)):Option ((List (Int)×Unit)×Unit):=
 let z0:Int:=((List.length p3:Nat):Int)
 bif (((decide ((0:Int)≤z0))&&(decide (z0≤z0)))&&(decide (z0≤(2147483648:Int)))) then
 (ngl' ((l,(List.replicate (Int.toNat z0) (0:Int)),(0:Int),()),())).bind fun y1=>
 some ((y1.1.1,()),())
 else
 none
noncomputable def nhm' (l:List (Int)) (out:List (View)) (i k p0 p1 p2 p3:Int) (p4 p5 p6:Nat) (p7:List (Car)) (p8 p9 p10 p11:Int):Option (Sum (T'16×(T'0×T'17×Unit)) (T'18×(T'0×T'17×Unit))):=
 bif (decide (k < (4:Int))) then
 bif (decide ((0:Int) < ((List.length l:Nat):Int))) then
 let z0:Int:=((List.length l:Nat):Int)
 bif (z0 != (0:Int)) then
 let z1:Int:=(Int.tmod (IntKind.i64.wrap ((IntKind.i64.wrap ((4:Int) * i)) + k)) z0)
 bif (inB z1 (List.length l)) then
 let z2:Int:=(List.getD l (Int.toNat z1) (0:Int))
 bif (inB k 4) then
 let z3:Nat:=(Int.toNat k)
 some (Sum.inl ((l,(),out,i,(),(IntKind.i64.wrap (k + (1:Int))),()),((p0,p1,p2,p3,p4,p5,p6,p7,()),((bif (Nat.beq z3 0) then z2 else p8),(bif (Nat.beq z3 1) then z2 else p9),(bif (Nat.beq z3 2) then z2 else p10),(bif (Nat.beq z3 3) then z2 else p11),()),())))
 else
 none
 else
 none
 else
 none
 else
 some (Sum.inr ((l,(),out,i,(),()),((p0,p1,p2,p3,p4,p5,p6,p7,()),(p8,p9,p10,p11,()),())))
 else
 some (Sum.inr ((l,(),out,i,(),()),((p0,p1,p2,p3,p4,p5,p6,p7,()),(p8,p9,p10,p11,()),())))
noncomputable def nf9':(T'16×(T'0×T'17×Unit))→Option (T'18×(T'0×T'17×Unit)):=iter (fun x=>nhm' x.1.1 x.1.2.2.1 x.1.2.2.2.1 x.1.2.2.2.2.2.1 x.2.1.1 x.2.1.2.1 x.2.1.2.2.1 x.2.1.2.2.2.1 x.2.1.2.2.2.2.1 x.2.1.2.2.2.2.2.1 x.2.1.2.2.2.2.2.2.1 x.2.1.2.2.2.2.2.2.2.1 x.2.2.1.1 x.2.2.1.2.1 x.2.2.1.2.2.1 x.2.2.1.2.2.2.1) fuel
noncomputable def nhi' (l:List (Int)) (out:List (View)) (i p0 p1 p2 p3:Int) (p4 p5 p6:Nat) (p7:List (Car)):Option (Sum (T'15×(T'0×Unit)) ((List (View)×Unit)×Unit)):=
 bif (decide (i < ((List.length p7:Nat):Int))) then
 (nf9' ((l,(),out,i,(),(0:Int),()),((p0,p1,p2,p3,p4,p5,p6,p7,()),((0:Int),(0:Int),(0:Int),(0:Int),()),()))).bind fun y1=>
 let z0:Bool:=(decide ((0:Int) < (Int.tmod y1.2.2.1.1 (8:Int))))
 let z1:Bool:=((Int.tmod (IntKind.u8.wrap (Int.tdiv y1.2.2.1.1 (8:Int))) (2:Int))==(0:Int))
 let z2:Bool:=((Int.tmod (IntKind.u8.wrap (Int.tdiv y1.2.2.1.1 (16:Int))) (4:Int))==(0:Int))
 let z3:Int:=(IntKind.i64.wrap (y1.2.1.1 + (1:Int)))
 bif (z3 != (0:Int)) then
 let z4:Int:=(IntKind.i64.wrap ((Int.tmod (IntKind.i64.wrap y1.2.2.1.2.1) z3) - (1:Int)))
 let z5:Int:=(IntKind.i64.wrap (Int.tmod (IntKind.u8.wrap (Int.tdiv y1.2.2.1.2.1 (16:Int))) (4:Int)))
 let z6:Int:=(IntKind.i64.wrap (Int.tmod y1.2.2.1.2.2.1 (5:Int)))
 let z7:Int:=(IntKind.u32.wrap (IntKind.u8.wrap (stk y1.2.2.1.2.2.1 y1.2.2.1.2.2.2.1 (BitVec.toNat ((BitVec.ofInt (IntKind.bits IntKind.u8) y1.2.2.1.2.2.1) &&& (BitVec.ofInt (IntKind.bits IntKind.u8) y1.2.2.1.2.2.2.1))))))
 let z8:Int:=(IntKind.u32.wrap (IntKind.u8.wrap (stk y1.2.2.1.2.2.2.1 (5:Int) (BitVec.toNat ((BitVec.ofInt (IntKind.bits IntKind.u8) y1.2.2.1.2.2.2.1) &&& (BitVec.ofInt (IntKind.bits IntKind.u8) (5:Int)))))))
 let z9:Int:=(Int.fdiv y1.2.2.1.2.2.2.1 ((2:Int) ^ (Min.min (Int.toNat (4:Int)) (IntKind.bits IntKind.u8))))
 let z10:Int:=(IntKind.u32.wrap (IntKind.u8.wrap (stk z9 (6:Int) (BitVec.toNat ((BitVec.ofInt (IntKind.bits IntKind.u8) z9) &&& (BitVec.ofInt (IntKind.bits IntKind.u8) (6:Int)))))))
 bif z2 then
 let z11:List (View):=[(View.mk false z0 z1 z2 z4 z5 z6 (0:Int) (0:Int) z7 z8 z10)]
 bif (Nat.ble ((List.length y1.1.2.2.1) + (List.length z11)) 2147483648) then
 some (Sum.inl ((y1.1.1,(),(y1.1.2.2.1++z11),(IntKind.i64.wrap (y1.1.2.2.2.1 + (1:Int))),()),(y1.2.1,())))
 else
 none
 else
 let z12:List (View):=[(View.mk (decide ((0:Int) < (Int.tmod y1.2.2.1.1 (4:Int)))) z0 z1 z2 z4 z5 z6 (0:Int) (0:Int) z7 z8 z10)]
 bif (Nat.ble ((List.length y1.1.2.2.1) + (List.length z12)) 2147483648) then
 some (Sum.inl ((y1.1.1,(),(y1.1.2.2.1++z12),(IntKind.i64.wrap (y1.1.2.2.2.1 + (1:Int))),()),(y1.2.1,())))
 else
 none
 else
 none
 else
 some (Sum.inr ((out,()),()))
noncomputable def nf4':(T'15×(T'0×Unit))→Option ((List (View)×Unit)×Unit):=iter (fun x=>nhi' x.1.1 x.1.2.2.1 x.1.2.2.2.1 x.2.1.1 x.2.1.2.1 x.2.1.2.2.1 x.2.1.2.2.2.1 x.2.1.2.2.2.2.1 x.2.1.2.2.2.2.2.1 x.2.1.2.2.2.2.2.2.1 x.2.1.2.2.2.2.2.2.2.1) fuel
noncomputable def ni2' (p0 p1 p2 p3:Int) (p4 p5 p6:Nat) (p7:List (Car)) (l:List (Int)):Option ((List (View)×Unit)×Unit):=
 (nf4' ((l,(),([]:List (View)),(0:Int),()),((p0,p1,p2,p3,p4,p5,p6,p7,()),()))).bind fun y1=>
 some ((y1.1.1,()),())
noncomputable def nhy' (p0 dir:Int):Option ((Unit×Unit)×T'19):=
 bif (decide (p0 < (0:Int))) then
 some (((),()),(((0:Int),(0:Int),()),()))
 else
 bif (decide ((31:Int) < p0)) then
 some (((),()),(((0:Int),(0:Int),()),()))
 else
 bif (dir==(1:Int)) then
 let z0:Int:=(IntKind.u64.wrap p0)
 bif (decide ((0:Int)≤z0)) then
 some (((),()),(((IntKind.u32.wrap ((1:Int) * ((2:Int) ^ (Min.min (Int.toNat z0) (IntKind.bits IntKind.u32))))),(0:Int),()),()))
 else
 none
 else
 bif (dir==(2:Int)) then
 let z1:Int:=(IntKind.u64.wrap p0)
 bif (decide ((0:Int)≤z1)) then
 some (((),()),(((0:Int),(IntKind.u32.wrap ((1:Int) * ((2:Int) ^ (Min.min (Int.toNat z1) (IntKind.bits IntKind.u32))))),()),()))
 else
 none
 else
 some (((),()),(((0:Int),(0:Int),()),()))
noncomputable def nce' (l:List (Int)) (v:List (View)) (i p0 p1 p2 p3:Int) (p4 p5 p6:Nat) (p7:List (Car)):Option (Sum (T'15×(T'0×Unit)) ((List (View)×Unit)×Unit)):=
 bif (decide (i < ((List.length v:Nat):Int))) then
 bif (decide (i < ((List.length l:Nat):Int))) then
 bif (inB i (List.length l)) then
 bif ((Int.tmod (List.getD l (Int.toNat i) (0:Int)) (3:Int))==(0:Int)) then
 bif (inB i (List.length l)) then
 bif (p0 != (0:Int)) then
 bif (inB i (List.length l)) then
 (nhy' (Int.tmod (IntKind.i64.wrap (Int.tdiv (IntKind.i64.wrap (List.getD l (Int.toNat i) (0:Int))) (3:Int))) p0) (IntKind.i64.wrap ((1:Int) + (IntKind.i64.wrap (Int.tmod (IntKind.u8.wrap (Int.tdiv (List.getD l (Int.toNat i) (0:Int)) (64:Int))) (2:Int)))))).bind fun y1=>
 bif (inB i (List.length v)) then
 let z0:Nat:=(Int.toNat i)
 let z1:View:=(List.getD v z0 (View.mk false false false false (0:Int) (0:Int) (0:Int) (0:Int) (0:Int) (0:Int) (0:Int) (0:Int)))
 some (Sum.inl ((l,(),(List.set v z0 (View.mk z1.Ready z1.Serving z1.Legacy z1.Lost z1.Floor z1.Dir z1.Load y1.2.1.1 y1.2.1.2.1 z1.Stops_Car z1.Stops_Hall_Up z1.Stops_Hall_Down)),(IntKind.i64.wrap (i + (1:Int))),()),((p0,p1,p2,p3,p4,p5,p6,p7,()),())))
 else
 none
 else
 none
 else
 none
 else
 none
 else
 some (Sum.inl ((l,(),v,(IntKind.i64.wrap (i + (1:Int))),()),((p0,p1,p2,p3,p4,p5,p6,p7,()),())))
 else
 none
 else
 some (Sum.inr ((v,()),()))
 else
 some (Sum.inr ((v,()),()))
noncomputable def nhr':(T'15×(T'0×Unit))→Option ((List (View)×Unit)×Unit):=iter (fun x=>nce' x.1.1 x.1.2.2.1 x.1.2.2.2.1 x.2.1.1 x.2.1.2.1 x.2.1.2.2.1 x.2.1.2.2.2.1 x.2.1.2.2.2.2.1 x.2.1.2.2.2.2.2.1 x.2.1.2.2.2.2.2.2.1 x.2.1.2.2.2.2.2.2.2.1) fuel
noncomputable def ngf' (p0 p1 p2 p3:Int) (p4 p5 p6:Nat) (p7:List (Car)) (l:List (Int)):Option ((List (View)×Unit)×Unit):=
 (ni2' p0 p1 p2 p3 p4 p5 p6 p7 l).bind fun y1=>
 (nhr' ((l,(),y1.1.1,(0:Int),()),((p0,p1,p2,p3,p4,p5,p6,p7,()),()))).bind fun y2=>
 some ((y2.1.1,()),())
noncomputable def nbj' (lo hi:Int) (s9:List (Int)) (s10 s11:Int):Option (Sum (T'20×Unit) ((Unit×Unit) ⊕ ((Bool×Unit)×Unit))):=
 bif (decide (s11 < s10)) then
 bif (inB s11 (List.length s9)) then
 let z0:Int:=(List.getD s9 (Int.toNat s11) (0:Int))
 bif (decide (z0 < lo)) then
 some (Sum.inr (Sum.inr ((false,()),())))
 else
 bif (decide (hi < z0)) then
 some (Sum.inr (Sum.inr ((false,()),())))
 else
 some (Sum.inl ((lo,hi,s9,s10,(IntKind.i64.wrap (s11 + (1:Int))),()),()))
 else
 none
 else
 some (Sum.inr (Sum.inl ((),())))
noncomputable def nei':(T'20×Unit)→Option ((Unit×Unit) ⊕ ((Bool×Unit)×Unit)):=iter (fun x=>nbj' x.1.1 x.1.2.1 x.1.2.2.1 x.1.2.2.2.1 x.1.2.2.2.2.1) fuel
noncomputable def n1' (lo hi:Int) (l:List (Int)):Option ((Bool×Unit)×Unit):=
 (nei' ((lo,hi,l,((List.length l:Nat):Int),(0:Int),()),())).bind fun y1=>
 (match y1 with
 | .inl y2=>
 some ((true,()),())
 | .inr y2=>
 some ((y2.1.1,()),()))
noncomputable def nfy' (p0 p1 p2 p3 p4 p5 p6 p7 p8 p9:Int):Option ((Bool×Unit)×Unit):=
 Option.bind ((n1' (1:Int) (10000:Int) [p0,p1,p2,p4,p5,p6,p7]).bind fun y1=>
 bif y1.1.1 then
 (n1' (0:Int) (10000:Int) [p3]).bind fun y2=>
 bif y2.1.1 then
 bif (decide (p6≤p7)) then
 (n1' (0:Int) (IntKind.i64.wrap (p9 - (1:Int))) [p8]).bind fun y3=>
 some ((y3.1.1,()),())
 else
 some ((false,()),())
 else
 some ((false,()),())
 else
 some ((false,()),())) fun y4=>
 some ((y4.1.1,()),())
noncomputable def nfx' (p0 p1 p2 p3:Int) (p4 p5 p6:Nat) (p7:List (Car)):Option ((Bool×Unit)×Unit):=
 Option.bind (bif (((FloatKind.format FloatKind.f64).order 0 p4)==some Ordering.lt) then
 bif (((FloatKind.format FloatKind.f64).order p4 p5)==some Ordering.lt) then
 bif (((FloatKind.format FloatKind.f64).order p5 p6)==some Ordering.lt) then
 some (((((FloatKind.format FloatKind.f64).order p6 9218868437227405311)==some Ordering.lt||((FloatKind.format FloatKind.f64).order p6 9218868437227405311)==some Ordering.eq),()),())
 else
 some ((false,()),())
 else
 some ((false,()),())
 else
 some ((false,()),())) fun y1=>
 some ((y1.1.1,()),())
noncomputable def nct' (p0:Bool) (s28:List (Car)) (s29 s30 p1 p2 p3 p4:Int) (p5 p6 p7:Nat) (p8:List (Car)):Option (Sum (T'21×(T'0×Unit)) ((Unit×Bool×Unit)×(T'0×Unit))):=
 bif (decide (s30 < s29)) then
 bif (inB s30 (List.length s28)) then
 let z0:Car:=(List.getD s28 (Int.toNat s30) (Car.mk (0:Int) (0:Int) (0:Int) (0:Int) (0:Int) (0:Int) (0:Int) (0:Int) (0:Int)))
 Option.bind (bif p0 then
 (nfy' z0.Deadline z0.Pulse z0.Quiet z0.Slack z0.Step z0.Travel z0.Dwell z0.Hold z0.Home p1).bind fun y1=>
 some (((),y1.1.1,s28,s29,s30,()),((p1,p2,p3,p4,p5,p6,p7,p8,()),()))
 else
 some (((),false,s28,s29,s30,()),((p1,p2,p3,p4,p5,p6,p7,p8,()),()))) fun y2=>
 some (Sum.inl (((),y2.1.2.1,y2.1.2.2.1,y2.1.2.2.2.1,(IntKind.i64.wrap (y2.1.2.2.2.2.1 + (1:Int))),()),(y2.2.1,())))
 else
 none
 else
 some (Sum.inr (((),p0,()),((p1,p2,p3,p4,p5,p6,p7,p8,()),())))
noncomputable def ne3':(T'21×(T'0×Unit))→Option ((Unit×Bool×Unit)×(T'0×Unit)):=iter (fun x=>nct' x.1.2.1 x.1.2.2.1 x.1.2.2.2.1 x.1.2.2.2.2.1 x.2.1.1 x.2.1.2.1 x.2.1.2.2.1 x.2.1.2.2.2.1 x.2.1.2.2.2.2.1 x.2.1.2.2.2.2.2.1 x.2.1.2.2.2.2.2.2.1 x.2.1.2.2.2.2.2.2.2.1) fuel
noncomputable def nbr' (p0 p1 p2 p3:Int) (p4 p5 p6:Nat) (p7:List (Car)):Option ((Int×Unit)×Unit):=
 (n1' (2:Int) (32:Int) [p0]).bind fun y1=>
 bif (!y1.1.1) then
 some (((10:Int),()),())
 else
 (n1' (1:Int) (8:Int) [((List.length p7:Nat):Int)]).bind fun y2=>
 bif (!y2.1.1) then
 some (((11:Int),()),())
 else
 Option.bind ((n1' (1:Int) (16:Int) [p1]).bind fun y3=>
 bif y3.1.1 then
 (n1' (1:Int) (10000:Int) [p3]).bind fun y4=>
 some (((),y4.1.1,()),((p0,p1,p2,p3,p4,p5,p6,p7,()),()))
 else
 some (((),false,()),((p0,p1,p2,p3,p4,p5,p6,p7,()),()))) fun y5=>
 (ne3' (((),y5.1.2.1,y5.2.1.2.2.2.2.2.2.2.1,((List.length y5.2.1.2.2.2.2.2.2.2.1:Nat):Int),(0:Int),()),(y5.2.1,()))).bind fun y6=>
 bif (!y6.1.2.1) then
 some (((12:Int),()),())
 else
 (nfx' y6.2.1.1 y6.2.1.2.1 y6.2.1.2.2.1 y6.2.1.2.2.2.1 y6.2.1.2.2.2.2.1 y6.2.1.2.2.2.2.2.1 y6.2.1.2.2.2.2.2.2.1 y6.2.1.2.2.2.2.2.2.2.1).bind fun y7=>
 bif (!y7.1.1) then
 some (((13:Int),()),())
 else
 (n1' (IntKind.i64.wrap ((IntKind.i64.wrap ((18:Int) * ((List.length y6.2.1.2.2.2.2.2.2.2.1:Nat):Int))) + (24:Int))) (65536:Int) [y6.2.1.2.2.1]).bind fun y8=>
 bif (!y8.1.1) then
 some (((14:Int),()),())
 else
 some (((0:Int),()),())
noncomputable def ne4' (p0 p1 p2 p3:Int) (p4 p5 p6:Nat) (p7:List (Car)):Option ((Unit×Unit)×T'19):=
 (nbr' p0 p1 p2 p3 p4 p5 p6 p7).bind fun y1=>
 bif (y1.1.1 != (0:Int)) then
 some (((),()),(((0:Int),(0:Int),()),()))
 else
 let z0:Int:=(IntKind.i64.wrap (p0 - (1:Int)))
 bif (decide ((0:Int)≤z0)) then
 let z1:Int:=(IntKind.u32.wrap ((IntKind.u32.wrap ((1:Int) * ((2:Int) ^ (Min.min (Int.toNat z0) (IntKind.bits IntKind.u32))))) - (1:Int)))
 some (((),()),((z1,(IntKind.u32.wrap (z1 * ((2:Int) ^ (Min.min (Int.toNat (1:Int)) (IntKind.bits IntKind.u32))))),()),()))
 else
 none
noncomputable def ndp' (p0 p1 p2 p3:Int):Option ((Unit×Unit)×T'19):=
 some (((),()),(((IntKind.u32.wrap (stk p0 p2 (BitVec.toNat ((BitVec.ofInt (IntKind.bits IntKind.u32) p0) &&& (BitVec.ofInt (IntKind.bits IntKind.u32) p2))))),(IntKind.u32.wrap (stk p1 p3 (BitVec.toNat ((BitVec.ofInt (IntKind.bits IntKind.u32) p1) &&& (BitVec.ofInt (IntKind.bits IntKind.u32) p3))))),()),()))
noncomputable def ned' (p0 p1 p2 p3:Int) (p4 p5 p6:Nat) (p7:List (Car)) (p8 p9 p10 p11:Bool) (p12 p13 p14 p15 p16 p17 p18 p19:Int):Option ((Unit×Unit)×T'19):=
 bif (!p9) then
 some (((),()),(((0:Int),(0:Int),()),()))
 else
 (ne4' p0 p1 p2 p3 p4 p5 p6 p7).bind fun y1=>
 (ndp' p15 p16 y1.2.1.1 y1.2.1.2.1).bind fun y2=>
 some (((),()),(y2.2.1,()))
noncomputable def ner' (p0 p1 p2 p3:Int):Option ((Unit×Unit)×T'19):=
 some (((),()),(((IntKind.u32.wrap (stk p0 p2 (BitVec.toNat ((BitVec.ofInt (IntKind.bits IntKind.u32) p0) &&& (~~~ (BitVec.ofInt (IntKind.bits IntKind.u32) p2)))))),(IntKind.u32.wrap (stk p1 p3 (BitVec.toNat ((BitVec.ofInt (IntKind.bits IntKind.u32) p1) &&& (~~~ (BitVec.ofInt (IntKind.bits IntKind.u32) p3)))))),()),()))
noncomputable def nd0' (p0 p1 p2 p3:Int):Option ((Unit×Unit)×T'19):=
 some (((),()),(((IntKind.u32.wrap (stk p0 p2 (BitVec.toNat ((BitVec.ofInt (IntKind.bits IntKind.u32) p0) ||| (BitVec.ofInt (IntKind.bits IntKind.u32) p2))))),(IntKind.u32.wrap (stk p1 p3 (BitVec.toNat ((BitVec.ofInt (IntKind.bits IntKind.u32) p1) ||| (BitVec.ofInt (IntKind.bits IntKind.u32) p3))))),()),()))
noncomputable def nc6' (p0:List (Calls)) (s32:List (View)) (s33 s34 p1 p2 p3 p4:Int) (p5 p6 p7:Nat) (p8:List (Car)) (p9:List (Calls)) (p10:List (Bool)) (p11 p12:Int) (p13:List (Calls)) (p14:List (Bool)) (p15 p16:Int):Option (Sum (T'23×T'24) ((Unit×Unit×Unit)×(T'22×T'22×Unit))):=
 bif (decide (s34 < s33)) then
 bif (inB s34 (List.length s32)) then
 let z0:View:=(List.getD s32 (Int.toNat s34) (View.mk false false false false (0:Int) (0:Int) (0:Int) (0:Int) (0:Int) (0:Int) (0:Int) (0:Int)))
 (ned' p1 p2 p3 p4 p5 p6 p7 p8 z0.Ready z0.Serving z0.Legacy z0.Lost z0.Floor z0.Dir z0.Load z0.Shows_Up z0.Shows_Down z0.Stops_Car z0.Stops_Hall_Up z0.Stops_Hall_Down).bind fun y1=>
 (ner' y1.2.1.1 y1.2.1.2.1 p15 p16).bind fun y2=>
 let z1:List (Calls):=[(Calls.mk y2.2.1.1 y2.2.1.2.1)]
 bif (Nat.ble ((List.length p13) + (List.length z1)) 2147483648) then
 bif (inB s34 (List.length p0)) then
 let z2:Calls:=(List.getD p0 (Int.toNat s34) (Calls.mk (0:Int) (0:Int)))
 (ner' y2.2.1.1 y2.2.1.2.1 z2.Up z2.Down).bind fun y3=>
 let z3:List (Bool):=[(!((y3.2.1.1==(0:Int))&&((y3.2.1.2.1==(0:Int))&&true)))]
 bif (Nat.ble ((List.length p14) + (List.length z3)) 2147483648) then
 (nd0' p15 p16 y2.2.1.1 y2.2.1.2.1).bind fun y4=>
 some (Sum.inl ((p0,(),(),(),s32,s33,(IntKind.i64.wrap (s34 + (1:Int))),()),((p1,p2,p3,p4,p5,p6,p7,p8,()),(p9,p10,p11,p12,()),((p13++z1),(p14++z3),y4.2.1.1,y4.2.1.2.1,()),())))
 else
 none
 else
 none
 else
 none
 else
 none
 else
 some (Sum.inr (((),(),()),((p9,p10,p11,p12,()),(p13,p14,p15,p16,()),())))
noncomputable def nfe':(T'23×T'24)→Option ((Unit×Unit×Unit)×(T'22×T'22×Unit)):=iter (fun x=>nc6' x.1.1 x.1.2.2.2.2.1 x.1.2.2.2.2.2.1 x.1.2.2.2.2.2.2.1 x.2.1.1 x.2.1.2.1 x.2.1.2.2.1 x.2.1.2.2.2.1 x.2.1.2.2.2.2.1 x.2.1.2.2.2.2.2.1 x.2.1.2.2.2.2.2.2.1 x.2.1.2.2.2.2.2.2.2.1 x.2.2.1.1 x.2.2.1.2.1 x.2.2.1.2.2.1 x.2.2.1.2.2.2.1 x.2.2.2.1.1 x.2.2.2.1.2.1 x.2.2.2.1.2.2.1 x.2.2.2.1.2.2.2.1) fuel
noncomputable def ngt' (p0 p1 p2 p3:Int) (p4 p5 p6:Nat) (p7:List (Car)) (p8:List (View)) (p9:List (Calls)):Option ((Unit×Int×Unit)×(T'22×Unit)):=
 (nbr' p0 p1 p2 p3 p4 p5 p6 p7).bind fun y1=>
 bif (y1.1.1 != (0:Int)) then
 some (((),(1:Int),()),((([]:List (Calls)),([]:List (Bool)),(0:Int),(0:Int),()),()))
 else
 bif (((List.length p8:Nat):Int) != ((List.length p7:Nat):Int)) then
 some (((),(1:Int),()),((([]:List (Calls)),([]:List (Bool)),(0:Int),(0:Int),()),()))
 else
 bif (((List.length p9:Nat):Int) != ((List.length p7:Nat):Int)) then
 some (((),(1:Int),()),((([]:List (Calls)),([]:List (Bool)),(0:Int),(0:Int),()),()))
 else
 (nfe' ((p9,(),(),(),p8,((List.length p8:Nat):Int),(0:Int),()),((p0,p1,p2,p3,p4,p5,p6,p7,()),(([]:List (Calls)),([]:List (Bool)),(0:Int),(0:Int),()),(([]:List (Calls)),([]:List (Bool)),(0:Int),(0:Int),()),()))).bind fun y2=>
 some (((),(0:Int),()),(y2.2.2.1,()))
noncomputable def nfb' (p0 p1 dir:Int):Option ((Bool×Unit)×Unit):=
 Option.bind (bif (dir==(1:Int)) then
 (n1' (0:Int) (IntKind.i64.wrap (p0 - (2:Int))) [p1]).bind fun y1=>
 bif y1.1.1 then
 some ((true,()),())
 else
 bif (dir==(2:Int)) then
 (n1' (1:Int) (IntKind.i64.wrap (p0 - (1:Int))) [p1]).bind fun y2=>
 some ((y2.1.1,()),())
 else
 some ((false,()),())
 else
 bif (dir==(2:Int)) then
 (n1' (1:Int) (IntKind.i64.wrap (p0 - (1:Int))) [p1]).bind fun y3=>
 some ((y3.1.1,()),())
 else
 some ((false,()),())) fun y4=>
 some ((y4.1.1,()),())
noncomputable def nd3' (p0 p1 p2 p3:Int) (p4 p5 p6:Nat) (p7:List (Car)) (p8 dir:Int):Option ((Bool×Unit)×Unit):=
 Option.bind ((nbr' p0 p1 p2 p3 p4 p5 p6 p7).bind fun y1=>
 bif (y1.1.1==(0:Int)) then
 (nfb' p0 p8 dir).bind fun y2=>
 some ((y2.1.1,()),())
 else
 some ((false,()),())) fun y3=>
 some ((y3.1.1,()),())
noncomputable def nho' (p0 p1 p2 p3:Int) (p4 p5 p6:Nat) (p7:List (Car)) (p8 p9 p10 p11:Int) (p12:Bool):Option ((Bool×Unit)×Unit):=
 Option.bind ((nd3' p0 p1 p2 p3 p4 p5 p6 p7 p8 p9).bind fun y1=>
 bif y1.1.1 then
 bif (decide ((-2:Int)≤p10)) then
 bif (decide (p10 < ((List.length p7:Nat):Int))) then
 bif (decide ((0:Int)≤p11)) then
 some (((decide (p11≤(255:Int))),()),())
 else
 some ((false,()),())
 else
 some ((false,()),())
 else
 some ((false,()),())
 else
 some ((false,()),())) fun y2=>
 some ((y2.1.1,()),())
noncomputable def ngk' (x_1:Int):Option ((Bool×Unit)×Unit):=
 some (((x_1 != x_1),()),())
noncomputable def nd4' (x_1 y:Int):Option ((Int×Unit)×Unit):=
 (ngk' x_1).bind fun y1=>
 (ngk' y).bind fun y2=>
 bif y1.1.1 then
 bif y2.1.1 then
 some (((0:Int),()),())
 else
 some (((-1:Int),()),())
 else
 bif y2.1.1 then
 some (((1:Int),()),())
 else
 bif (decide (x_1 < y)) then
 some (((-1:Int),()),())
 else
 bif (decide (y < x_1)) then
 some (((1:Int),()),())
 else
 some (((0:Int),()),())
noncomputable def nfj' (p0:Int) (s6:List (Int)) (s7 s8:Int):Option (Sum (T'25×Unit) (((Int×Unit)×Unit) ⊕ ((Int×Unit)×Unit))):=
 bif (decide (s8 < s7)) then
 bif (inB s8 (List.length s6)) then
 let z0:Int:=(List.getD s6 (Int.toNat s8) (0:Int))
 bif (z0 != p0) then
 some (Sum.inr (Sum.inr ((z0,()),())))
 else
 some (Sum.inl ((p0,s6,s7,(IntKind.i64.wrap (s8 + (1:Int))),()),()))
 else
 none
 else
 some (Sum.inr (Sum.inl ((p0,()),())))
noncomputable def ng9':(T'25×Unit)→Option (((Int×Unit)×Unit) ⊕ ((Int×Unit)×Unit)):=iter (fun x=>nfj' x.1.1 x.1.2.1 x.1.2.2.1 x.1.2.2.2.1) fuel
noncomputable def nh5' (p0:List (Int)):Option ((Int×Unit)×Unit):=
 (ng9' (((0:Int),p0,((List.length p0:Nat):Int),(0:Int),()),())).bind fun y1=>
 (match y1 with
 | .inl y2=>
 some ((y2.1.1,()),())
 | .inr y2=>
 some ((y2.1.1,()),()))
noncomputable def nep' (p0 p1 p2 p3:Int) (p4:Bool) (p5 p6 p7 p8:Int) (p9:Bool):Option ((Int×Unit)×Unit):=
 (nd4' p0 p5).bind fun y1=>
 (nd4' p1 p6).bind fun y2=>
 (nh5' [y1.1.1,y2.1.1]).bind fun y3=>
 some ((y3.1.1,()),())
noncomputable def nc1' (s52:List (Entry)) (s53 s54 p0 p1 p2 p3:Int) (p4 p5 p6:Nat) (p7:List (Car)) (p8:List (Int)) (p9 p10:List (Bool)) (p11:List (Entry)):Option (Sum (T'27×(T'0×T'5×Unit)) ((Unit×Unit) ⊕ ((Bool×Unit)×Unit))):=
 bif (decide (s54 < s53)) then
 bif (inB s54 (List.length s52)) then
 let z0:Entry:=(List.getD s52 (Int.toNat s54) (Entry.mk (0:Int) (0:Int) (0:Int) (0:Int) false))
 Option.bind ((nho' p0 p1 p2 p3 p4 p5 p6 p7 z0.Floor z0.Dir z0.Car z0.Moves z0.Moved).bind fun y1=>
 bif (!y1.1.1) then
 some (((),(),s52,s53,s54,true,()),((p0,p1,p2,p3,p4,p5,p6,p7,()),(p8,p9,p10,p11,()),()))
 else
 bif (decide ((0:Int) < s54)) then
 let z1:Int:=(IntKind.i64.wrap (s54 - (1:Int)))
 bif (inB z1 (List.length p11)) then
 let z2:Entry:=(List.getD p11 (Int.toNat z1) (Entry.mk (0:Int) (0:Int) (0:Int) (0:Int) false))
 (nep' z2.Floor z2.Dir z2.Car z2.Moves z2.Moved z0.Floor z0.Dir z0.Car z0.Moves z0.Moved).bind fun y2=>
 some (((),(),s52,s53,s54,(decide ((0:Int)≤y2.1.1)),()),((p0,p1,p2,p3,p4,p5,p6,p7,()),(p8,p9,p10,p11,()),()))
 else
 none
 else
 some (((),(),s52,s53,s54,false,()),((p0,p1,p2,p3,p4,p5,p6,p7,()),(p8,p9,p10,p11,()),()))) fun y3=>
 bif y3.1.2.2.2.2.2.1 then
 some (Sum.inr (Sum.inr ((false,()),())))
 else
 some (Sum.inl (((),(),y3.1.2.2.1,y3.1.2.2.2.1,(IntKind.i64.wrap (y3.1.2.2.2.2.1 + (1:Int))),()),(y3.2.1,y3.2.2.1,())))
 else
 none
 else
 some (Sum.inr (Sum.inl ((),())))
noncomputable def ngj':(T'27×(T'0×T'5×Unit))→Option ((Unit×Unit) ⊕ ((Bool×Unit)×Unit)):=iter (fun x=>nc1' x.1.2.2.1 x.1.2.2.2.1 x.1.2.2.2.2.1 x.2.1.1 x.2.1.2.1 x.2.1.2.2.1 x.2.1.2.2.2.1 x.2.1.2.2.2.2.1 x.2.1.2.2.2.2.2.1 x.2.1.2.2.2.2.2.2.1 x.2.1.2.2.2.2.2.2.2.1 x.2.2.1.1 x.2.2.1.2.1 x.2.2.1.2.2.1 x.2.2.1.2.2.2.1) fuel
noncomputable def ndu' (s38:List (Int)) (s39 s40 p0 p1 p2 p3:Int) (p4 p5 p6:Nat) (p7:List (Car)) (p8:List (Int)) (p9 p10:List (Bool)) (p11:List (Entry)):Option (Sum (T'26×(T'0×T'5×Unit)) (((Unit×Unit×Unit)×(T'0×T'5×Unit)) ⊕ ((Bool×Unit)×Unit))):=
 bif (decide (s40 < s39)) then
 bif (inB s40 (List.length s38)) then
 let z0:Int:=(List.getD s38 (Int.toNat s40) (0:Int))
 bif (decide (z0 < (0:Int))) then
 some (Sum.inr (Sum.inr ((false,()),())))
 else
 bif (decide ((4:Int) < z0)) then
 some (Sum.inr (Sum.inr ((false,()),())))
 else
 some (Sum.inl (((),(),s38,s39,(IntKind.i64.wrap (s40 + (1:Int))),()),((p0,p1,p2,p3,p4,p5,p6,p7,()),(p8,p9,p10,p11,()),())))
 else
 none
 else
 some (Sum.inr (Sum.inl (((),(),()),((p0,p1,p2,p3,p4,p5,p6,p7,()),(p8,p9,p10,p11,()),()))))
noncomputable def ngo':(T'26×(T'0×T'5×Unit))→Option (((Unit×Unit×Unit)×(T'0×T'5×Unit)) ⊕ ((Bool×Unit)×Unit)):=iter (fun x=>ndu' x.1.2.2.1 x.1.2.2.2.1 x.1.2.2.2.2.1 x.2.1.1 x.2.1.2.1 x.2.1.2.2.1 x.2.1.2.2.2.1 x.2.1.2.2.2.2.1 x.2.1.2.2.2.2.2.1 x.2.1.2.2.2.2.2.2.1 x.2.1.2.2.2.2.2.2.2.1 x.2.2.1.1 x.2.2.1.2.1 x.2.2.1.2.2.1 x.2.2.1.2.2.2.1) fuel
noncomputable def nc8' (p0 p1 p2 p3:Int) (p4 p5 p6:Nat) (p7:List (Car)) (p8:List (Int)) (p9 p10:List (Bool)) (p11:List (Entry)):Option ((Bool×Unit)×Unit):=
 let z0:Int:=((List.length p7:Nat):Int)
 (nbr' p0 p1 p2 p3 p4 p5 p6 p7).bind fun y1=>
 bif (y1.1.1 != (0:Int)) then
 some ((false,()),())
 else
 bif (((List.length p8:Nat):Int) != z0) then
 some ((false,()),())
 else
 bif (((List.length p9:Nat):Int) != z0) then
 some ((false,()),())
 else
 bif (((List.length p10:Nat):Int) != z0) then
 some ((false,()),())
 else
 (ngo' (((),(),p8,((List.length p8:Nat):Int),(0:Int),()),((p0,p1,p2,p3,p4,p5,p6,p7,()),(p8,p9,p10,p11,()),()))).bind fun y2=>
 (match y2 with
 | .inl y3=>
 (ngj' (((),(),y3.2.2.1.2.2.2.1,((List.length y3.2.2.1.2.2.2.1:Nat):Int),(0:Int),()),(y3.2.1,y3.2.2.1,()))).bind fun y4=>
 (match y4 with
 | .inl y5=>
 some ((true,()),())
 | .inr y5=>
 some ((y5.1.1,()),()))
 | .inr y3=>
 some ((y3.1.1,()),()))
noncomputable def ndx' (n:Int):Option ((Bool×Unit)×Unit):=
 Option.bind (bif (decide (n < (0:Int))) then
 some ((true,()),())
 else
 some (((decide ((1000000:Int) < n)),()),())) fun y1=>
 some ((y1.1.1,()),())
noncomputable def nq' (s:List (Int)) (s7 s8:Int):Option (Sum (T'28×Unit) ((Unit×Unit) ⊕ ((Int×Unit)×Unit))):=
 bif (decide (s8 < s7)) then
 bif (inB s8 (List.length s)) then
 (ndx' (List.getD s (Int.toNat s8) (0:Int))).bind fun y1=>
 bif y1.1.1 then
 some (Sum.inr (Sum.inr ((s8,()),())))
 else
 some (Sum.inl ((s,(),s7,(IntKind.i64.wrap (s8 + (1:Int))),()),()))
 else
 none
 else
 some (Sum.inr (Sum.inl ((),())))
noncomputable def n3':(T'28×Unit)→Option ((Unit×Unit) ⊕ ((Int×Unit)×Unit)):=iter (fun x=>nq' x.1.1 x.1.2.2.1 x.1.2.2.2.1) fuel
noncomputable def nbo' (s:List (Int)):Option ((Int×Unit)×Unit):=
 (n3' ((s,(),((List.length s:Nat):Int),(0:Int),()),())).bind fun y1=>
 (match y1 with
 | .inl y2=>
 some (((-1:Int),()),())
 | .inr y2=>
 some ((y2.1.1,()),()))
noncomputable def n2' (s:List (Int)):Option ((Bool×Unit)×Unit):=
 (nbo' s).bind fun y1=>
 some (((decide ((0:Int)≤y1.1.1)),()),())
noncomputable def neh' (p0:List (Int)) (p1 p2:List (Bool)) (p3:List (Entry)) (p4:List (Int)):Option ((Bool×Unit)×Unit):=
 Option.bind (bif (((List.length p4:Nat):Int)==((List.length p3:Nat):Int)) then
 (n2' p4).bind fun y1=>
 some (((!y1.1.1),()),())
 else
 some ((false,()),())) fun y2=>
 some ((y2.1.1,()),())
noncomputable def nbs' (s:List (Int)):Option ((List (Int)×Unit)×Unit):=
 cloF s
noncomputable def nbh' (s:List (Bool)):Option ((List (Bool)×Unit)×Unit):=
 cloF s
noncomputable def nbe' (s:List (Entry)):Option ((List (Entry)×Unit)×Unit):=
 cloF s
noncomputable def nha' (p0:List (Int)) (p1 p2:List (Bool)) (p3:List (Entry)):Option ((Unit×Unit)×(T'5×Unit)):=
 (nbs' p0).bind fun y1=>
 (nbh' p1).bind fun y2=>
 (nbh' p2).bind fun y3=>
 (nbe' p3).bind fun y4=>
 some (((),()),((y1.1.1,y2.1.1,y3.1.1,y4.1.1,()),()))
noncomputable def nik' (n:Int):Option ((Unit×Unit)×(T'22×Unit)):=
 bif (((decide ((0:Int)≤n))&&(decide (n≤n)))&&(decide (n≤(2147483648:Int)))) then
 bif (((decide ((0:Int)≤n))&&(decide (n≤n)))&&(decide (n≤(2147483648:Int)))) then
 some (((),()),(((List.replicate (Int.toNat n) (Calls.mk (0:Int) (0:Int))),(List.replicate (Int.toNat n) false),(0:Int),(0:Int),()),()))
 else
 none
 else
 none
noncomputable def ngg' (p0 dir:Int):Option ((Unit×Unit)×T'19):=
 Option.bind (bif (decide ((0:Int)≤p0)) then
 some ((p0,dir,(),(decide (p0 < (32:Int))),()),(((0:Int),(0:Int),()),()))
 else
 some ((p0,dir,(),false,()),(((0:Int),(0:Int),()),()))) fun y1=>
 bif y1.1.2.2.2.1 then
 bif (y1.1.2.1==(1:Int)) then
 bif (decide ((0:Int)≤y1.1.1)) then
 some (((),()),(((IntKind.u32.wrap ((1:Int) * ((2:Int) ^ (Min.min (Int.toNat y1.1.1) (IntKind.bits IntKind.u32))))),(0:Int),()),()))
 else
 none
 else
 bif (y1.1.2.1==(2:Int)) then
 bif (decide ((0:Int)≤y1.1.1)) then
 some (((),()),(((0:Int),(IntKind.u32.wrap ((1:Int) * ((2:Int) ^ (Min.min (Int.toNat y1.1.1) (IntKind.bits IntKind.u32))))),()),()))
 else
 none
 else
 some (((),()),(((0:Int),(0:Int),()),()))
 else
 some (((),()),(((0:Int),(0:Int),()),()))
noncomputable def ncv' (p0 p1 p2 dir:Int):Option ((Bool×Unit)×Unit):=
 (ngg' p2 dir).bind fun y1=>
 (ndp' p0 p1 y1.2.1.1 y1.2.1.2.1).bind fun y2=>
 some (((!((y2.2.1.1==(0:Int))&&((y2.2.1.2.1==(0:Int))&&true))),()),())
noncomputable def nc2' (l:List (Record)) (s38:List (Entry)) (s39 s40 p0 p1:Int):Option (Sum (T'32×T'19) ((List (Record)×Unit)×Unit)):=
 bif (decide (s40 < s39)) then
 bif (inB s40 (List.length s38)) then
 let z0:Entry:=(List.getD s38 (Int.toNat s40) (Entry.mk (0:Int) (0:Int) (0:Int) (0:Int) false))
 (ncv' p0 p1 z0.Floor z0.Dir).bind fun y1=>
 bif y1.1.1 then
 let z1:List (Record):=[(Record.mk (2:Int) z0.Floor z0.Dir (0:Int) (0:Int))]
 bif (Nat.ble ((List.length l) + (List.length z1)) 2147483648) then
 some (Sum.inl (((),(l++z1),s38,s39,(IntKind.i64.wrap (s40 + (1:Int))),()),((p0,p1,()),())))
 else
 none
 else
 some (Sum.inl (((),l,s38,s39,(IntKind.i64.wrap (s40 + (1:Int))),()),((p0,p1,()),())))
 else
 none
 else
 some (Sum.inr ((l,()),()))
noncomputable def nfa':(T'32×T'19)→Option ((List (Record)×Unit)×Unit):=iter (fun x=>nc2' x.1.2.1 x.1.2.2.1 x.1.2.2.2.1 x.1.2.2.2.2.1 x.2.1.1 x.2.1.2.1) fuel
noncomputable def nc4' (s25:List (View)) (s26 s27 p0 p1 p2 p3:Int) (p4 p5 p6:Nat) (p7:List (Car)) (p8:List (Int)) (p9 p10:List (Bool)) (p11:List (Entry)) (p12 p13:Int):Option (Sum (T'29×T'30) ((Unit×Unit×Unit)×T'31)):=
 bif (decide (s27 < s26)) then
 bif (inB s27 (List.length s25)) then
 let z0:View:=(List.getD s25 (Int.toNat s27) (View.mk false false false false (0:Int) (0:Int) (0:Int) (0:Int) (0:Int) (0:Int) (0:Int) (0:Int)))
 (ned' p0 p1 p2 p3 p4 p5 p6 p7 z0.Ready z0.Serving z0.Legacy z0.Lost z0.Floor z0.Dir z0.Load z0.Shows_Up z0.Shows_Down z0.Stops_Car z0.Stops_Hall_Up z0.Stops_Hall_Down).bind fun y1=>
 (nd0' p12 p13 y1.2.1.1 y1.2.1.2.1).bind fun y2=>
 some (Sum.inl (((),(),(),s25,s26,(IntKind.i64.wrap (s27 + (1:Int))),()),((p0,p1,p2,p3,p4,p5,p6,p7,()),(p8,p9,p10,p11,()),y2.2.1,())))
 else
 none
 else
 some (Sum.inr (((),(),()),((p8,p9,p10,p11,()),(p12,p13,()),())))
noncomputable def nfc':(T'29×T'30)→Option ((Unit×Unit×Unit)×T'31):=iter (fun x=>nc4' x.1.2.2.2.1 x.1.2.2.2.2.1 x.1.2.2.2.2.2.1 x.2.1.1 x.2.1.2.1 x.2.1.2.2.1 x.2.1.2.2.2.1 x.2.1.2.2.2.2.1 x.2.1.2.2.2.2.2.1 x.2.1.2.2.2.2.2.2.1 x.2.1.2.2.2.2.2.2.2.1 x.2.2.1.1 x.2.2.1.2.1 x.2.2.1.2.2.1 x.2.2.1.2.2.2.1 x.2.2.2.1.1 x.2.2.2.1.2.1) fuel
noncomputable def ngr' (p0 p1 p2 p3:Int) (p4 p5 p6:Nat) (p7:List (Car)) (p8:List (Int)) (p9 p10:List (Bool)) (p11:List (Entry)) (p12:List (View)):Option ((List (Record)×Unit)×Unit):=
 (nc8' p0 p1 p2 p3 p4 p5 p6 p7 p8 p9 p10 p11).bind fun y1=>
 bif (!y1.1.1) then
 some ((([]:List (Record)),()),())
 else
 bif (((List.length p12:Nat):Int) != ((List.length p7:Nat):Int)) then
 some ((([]:List (Record)),()),())
 else
 (nfc' (((),(),(),p12,((List.length p12:Nat):Int),(0:Int),()),((p0,p1,p2,p3,p4,p5,p6,p7,()),(p8,p9,p10,p11,()),((0:Int),(0:Int),()),()))).bind fun y2=>
 (nfa' (((),([]:List (Record)),y2.2.1.2.2.2.1,((List.length y2.2.1.2.2.2.1:Nat):Int),(0:Int),()),(y2.2.2.1,()))).bind fun y3=>
 some ((y3.1.1,()),())
noncomputable def nev' (p0 p1 p2 p3:Int) (p4:Bool) (b0 b1:Int):Option ((Bool×Unit)×T'33):=
 Option.bind (bif (decide (b0 < p0)) then
 some ((true,()),((b0,()),(b1,()),()))
 else
 bif (p0==b0) then
 some (((decide (b1≤p1)),()),((b0,()),(b1,()),()))
 else
 some ((false,()),((b0,()),(b1,()),()))) fun y1=>
 some ((y1.1.1,()),((y1.2.1.1,()),(y1.2.2.1.1,()),()))
noncomputable def nh' (s:List (Entry)) (s7 s8 b0 b1:Int):Option (Sum (T'34×T'33) ((Unit×T'33) ⊕ ((Int×Unit)×T'33))):=
 bif (decide (s8 < s7)) then
 bif (inB s8 (List.length s)) then
 let z0:Entry:=(List.getD s (Int.toNat s8) (Entry.mk (0:Int) (0:Int) (0:Int) (0:Int) false))
 (nev' z0.Floor z0.Dir z0.Car z0.Moves z0.Moved b0 b1).bind fun y1=>
 bif y1.1.1 then
 some (Sum.inr (Sum.inr ((s8,()),((y1.2.1.1,()),(y1.2.2.1.1,()),()))))
 else
 some (Sum.inl ((s,(),s7,(IntKind.i64.wrap (s8 + (1:Int))),()),((y1.2.1.1,()),(y1.2.2.1.1,()),())))
 else
 none
 else
 some (Sum.inr (Sum.inl ((),((b0,()),(b1,()),()))))
noncomputable def nw':(T'34×T'33)→Option ((Unit×T'33) ⊕ ((Int×Unit)×T'33)):=iter (fun x=>nh' x.1.1 x.1.2.2.1 x.1.2.2.2.1 x.2.1.1 x.2.2.1.1) fuel
noncomputable def n8' (s:List (Entry)) (b0 b1:Int):Option ((Int×Unit)×T'33):=
 (nw' ((s,(),((List.length s:Nat):Int),(0:Int),()),((b0,()),(b1,()),()))).bind fun y1=>
 (match y1 with
 | .inl y2=>
 some (((-1:Int),()),((y2.2.1.1,()),(y2.2.2.1.1,()),()))
 | .inr y2=>
 some ((y2.1.1,()),((y2.2.1.1,()),(y2.2.2.1.1,()),())))
noncomputable def nf2' (p0:List (Int)) (p1 p2:List (Bool)) (p3:List (Entry)) (p4 dir:Int):Option ((Int×Bool×Unit)×Unit):=
 (n8' p3 p4 dir).bind fun y1=>
 bif (decide (y1.1.1 < (0:Int))) then
 some ((((List.length p3:Nat):Int),false,()),())
 else
 Option.bind (bif (inB y1.1.1 (List.length p3)) then
 bif ((List.getD p3 (Int.toNat y1.1.1) (Entry.mk (0:Int) (0:Int) (0:Int) (0:Int) false)).Floor==y1.2.1.1) then
 bif (inB y1.1.1 (List.length p3)) then
 some ((y1.1.1,((List.getD p3 (Int.toNat y1.1.1) (Entry.mk (0:Int) (0:Int) (0:Int) (0:Int) false)).Dir==y1.2.2.1.1),()),())
 else
 none
 else
 some ((y1.1.1,false,()),())
 else
 none) fun y2=>
 some ((y2.1.1,y2.1.2.1,()),())
noncomputable def nco' (s:List (Int)) (i j:Int):Option ((List (Int)×Unit)×Unit):=
 delF s i j
noncomputable def ncq' (s:List (Int)) (i:Int) (v:List (Int)):Option ((List (Int)×Unit)×Unit):=
 insF s i v
noncomputable def nbv' (n lo hi:Int):Option ((Bool×Unit)×Unit):=
 Option.bind (bif (decide (lo≤n)) then
 some (((decide (n≤hi)),()),())
 else
 some ((false,()),())) fun y1=>
 some ((y1.1.1,()),())
noncomputable def ng5' (p0 p1 p2 p3:Int) (p4 p5 p6:Nat) (p7:List (Car)) (p8 p9 p10 p11 p12:Int):Option ((Bool×Unit)×Unit):=
 (nbr' p0 p1 p2 p3 p4 p5 p6 p7).bind fun y1=>
 bif (y1.1.1 != (0:Int)) then
 some ((false,()),())
 else
 (nd3' p0 p1 p2 p3 p4 p5 p6 p7 p9 p10).bind fun y2=>
 Option.bind (bif (p9==(0:Int)) then
 bif (p10==(0:Int)) then
 (nbv' p11 (0:Int) (IntKind.i64.wrap (((List.length p7:Nat):Int) - (1:Int)))).bind fun y3=>
 some (((),(),y2.1.1,y3.1.1,()),((p0,p1,p2,p3,p4,p5,p6,p7,()),(p8,p9,p10,p11,p12,()),()))
 else
 some (((),(),y2.1.1,false,()),((p0,p1,p2,p3,p4,p5,p6,p7,()),(p8,p9,p10,p11,p12,()),()))
 else
 some (((),(),y2.1.1,false,()),((p0,p1,p2,p3,p4,p5,p6,p7,()),(p8,p9,p10,p11,p12,()),()))) fun y4=>
 bif (y4.2.2.1.1==(1:Int)) then
 Option.bind (bif y4.1.2.2.1 then
 bif (y4.2.2.1.2.2.2.1==(0:Int)) then
 some (((y4.2.2.1.2.2.2.2.1==(0:Int)),()),())
 else
 some ((false,()),())
 else
 some ((false,()),())) fun y5=>
 some ((y5.1.1,()),())
 else
 bif (y4.2.2.1.1==(2:Int)) then
 Option.bind (bif y4.1.2.2.1 then
 bif (y4.2.2.1.2.2.2.1==(0:Int)) then
 some (((y4.2.2.1.2.2.2.2.1==(0:Int)),()),())
 else
 some ((false,()),())
 else
 some ((false,()),())) fun y6=>
 some ((y6.1.1,()),())
 else
 bif (y4.2.2.1.1==(3:Int)) then
 Option.bind (bif y4.1.2.2.1 then
 (nbv' y4.2.2.1.2.2.2.1 (-2:Int) (IntKind.i64.wrap (((List.length y4.2.1.2.2.2.2.2.2.2.1:Nat):Int) - (1:Int)))).bind fun y7=>
 bif y7.1.1 then
 some (((y4.2.2.1.2.2.2.2.1==(0:Int)),()),())
 else
 some ((false,()),())
 else
 some ((false,()),())) fun y8=>
 some ((y8.1.1,()),())
 else
 bif (y4.2.2.1.1==(7:Int)) then
 Option.bind (bif y4.1.2.2.1 then
 (nbv' y4.2.2.1.2.2.2.1 (0:Int) (1:Int)).bind fun y9=>
 bif y9.1.1 then
 (nbv' y4.2.2.1.2.2.2.2.1 (0:Int) (255:Int)).bind fun y10=>
 some ((y10.1.1,()),())
 else
 some ((false,()),())
 else
 some ((false,()),())) fun y11=>
 some ((y11.1.1,()),())
 else
 bif (y4.2.2.1.1==(4:Int)) then
 Option.bind (bif y4.1.2.2.2.1 then
 (nbv' y4.2.2.1.2.2.2.2.1 (0:Int) (4:Int)).bind fun y12=>
 some ((y12.1.1,()),())
 else
 some ((false,()),())) fun y13=>
 some ((y13.1.1,()),())
 else
 bif (y4.2.2.1.1==(5:Int)) then
 Option.bind (bif y4.1.2.2.2.1 then
 (nbv' y4.2.2.1.2.2.2.2.1 (0:Int) (1:Int)).bind fun y14=>
 some ((y14.1.1,()),())
 else
 some ((false,()),())) fun y15=>
 some ((y15.1.1,()),())
 else
 bif (y4.2.2.1.1==(6:Int)) then
 Option.bind (bif y4.1.2.2.2.1 then
 (nbv' y4.2.2.1.2.2.2.2.1 (0:Int) (1:Int)).bind fun y16=>
 some ((y16.1.1,()),())
 else
 some ((false,()),())) fun y17=>
 some ((y17.1.1,()),())
 else
 some ((false,()),())
noncomputable def ni0' (p0:List (Int)) (p1 p2:List (Bool)) (p3:List (Entry)):Option ((Unit×Unit)×(T'5×Unit)):=
 (nbs' p0).bind fun y1=>
 (nbh' p1).bind fun y2=>
 (nbh' p2).bind fun y3=>
 (nbe' p3).bind fun y4=>
 some (((),()),((y1.1.1,y2.1.1,y3.1.1,y4.1.1,()),()))
noncomputable def nn' (x_1:List (Entry)) (n i j p0 p1 p2 p3:Int) (p4:Bool):Option (Sum (T'35×(T'11×Unit)) (T'36×(T'11×Unit))):=
 bif (decide (i < j)) then
 let z0:Int:=(IntKind.i64.wrap (Int.fdiv (IntKind.u64.wrap (IntKind.i64.wrap (i + j))) ((2:Int) ^ (Min.min (Int.toNat (1:Int)) (IntKind.bits IntKind.u64)))))
 bif (inB z0 (List.length x_1)) then
 let z1:Entry:=(List.getD x_1 (Int.toNat z0) (Entry.mk (0:Int) (0:Int) (0:Int) (0:Int) false))
 (nep' z1.Floor z1.Dir z1.Car z1.Moves z1.Moved p0 p1 p2 p3 p4).bind fun y1=>
 bif (decide (y1.1.1 < (0:Int))) then
 some (Sum.inl ((x_1,(),(),n,(IntKind.i64.wrap (z0 + (1:Int))),j,()),((p0,p1,p2,p3,p4,()),())))
 else
 some (Sum.inl ((x_1,(),(),n,i,z0,()),((p0,p1,p2,p3,p4,()),())))
 else
 none
 else
 some (Sum.inr ((x_1,(),(),n,i,()),((p0,p1,p2,p3,p4,()),())))
noncomputable def np':(T'35×(T'11×Unit))→Option (T'36×(T'11×Unit)):=iter (fun x=>nn' x.1.1 x.1.2.2.2.1 x.1.2.2.2.2.1 x.1.2.2.2.2.2.1 x.2.1.1 x.2.1.2.1 x.2.1.2.2.1 x.2.1.2.2.2.1 x.2.1.2.2.2.2.1) fuel
noncomputable def n0' (x_1:List (Entry)) (p0 p1 p2 p3:Int) (p4:Bool):Option ((Int×Bool×Unit)×Unit):=
 let z0:Int:=((List.length x_1:Nat):Int)
 (np' ((x_1,(),(),z0,(0:Int),z0,()),((p0,p1,p2,p3,p4,()),()))).bind fun y1=>
 Option.bind (bif (decide (y1.1.2.2.2.2.1 < y1.1.2.2.2.1)) then
 bif (inB y1.1.2.2.2.2.1 (List.length y1.1.1)) then
 let z1:Entry:=(List.getD y1.1.1 (Int.toNat y1.1.2.2.2.2.1) (Entry.mk (0:Int) (0:Int) (0:Int) (0:Int) false))
 (nep' z1.Floor z1.Dir z1.Car z1.Moves z1.Moved y1.2.1.1 y1.2.1.2.1 y1.2.1.2.2.1 y1.2.1.2.2.2.1 y1.2.1.2.2.2.2.1).bind fun y2=>
 some ((y1.1.2.2.2.2.1,(y2.1.1==(0:Int)),()),())
 else
 none
 else
 some ((y1.1.2.2.2.2.1,false,()),())) fun y3=>
 some ((y3.1.1,y3.1.2.1,()),())
noncomputable def nkk' (p0:List (Int)) (p1 p2:List (Bool)) (p3:List (Entry)) (p4 dir:Int):Option ((Int×Bool×Unit)×Unit):=
 (n0' p3 p4 dir (0:Int) (0:Int) false).bind fun y1=>
 some ((y1.1.1,y1.1.2.1,()),())
noncomputable def nb7' (s:List (Entry)) (i:Int) (v:List (Entry)):Option ((List (Entry)×Unit)×Unit):=
 insF s i v
noncomputable def nb6' (s:List (Entry)) (i j:Int):Option ((List (Entry)×Unit)×Unit):=
 delF s i j
noncomputable def nic' (p0 p1 p2 p3 p4:Int) (p5:List (Int)) (p6 p7:List (Bool)) (p8:List (Entry)):Option (Unit×(T'5×Unit)):=
 (nkk' p5 p6 p7 p8 p1 p2).bind fun y1=>
 bif (p0==(4:Int)) then
 bif (inB p3 (List.length p5)) then
 some ((),(((List.set p5 (Int.toNat p3) p4),p6,p7,p8,()),()))
 else
 none
 else
 bif (p0==(5:Int)) then
 bif (inB p3 (List.length p6)) then
 some ((),((p5,(List.set p6 (Int.toNat p3) (p4==(1:Int))),p7,p8,()),()))
 else
 none
 else
 bif (p0==(6:Int)) then
 bif (inB p3 (List.length p7)) then
 some ((),((p5,p6,(List.set p7 (Int.toNat p3) (p4==(1:Int))),p8,()),()))
 else
 none
 else
 bif (p0==(1:Int)) then
 bif (!y1.1.2.1) then
 (nb7' p8 y1.1.1 [(Entry.mk p1 p2 (-1:Int) (0:Int) false)]).bind fun y2=>
 some ((),((p5,p6,p7,y2.1.1,()),()))
 else
 some ((),((p5,p6,p7,p8,()),()))
 else
 bif (p0==(2:Int)) then
 bif y1.1.2.1 then
 (nb6' p8 y1.1.1 (IntKind.i64.wrap (y1.1.1 + (1:Int)))).bind fun y3=>
 some ((),((p5,p6,p7,y3.1.1,()),()))
 else
 some ((),((p5,p6,p7,p8,()),()))
 else
 bif (p0==(3:Int)) then
 bif y1.1.2.1 then
 bif (inB y1.1.1 (List.length p8)) then
 let z0:Nat:=(Int.toNat y1.1.1)
 let z1:Entry:=(List.getD p8 z0 (Entry.mk (0:Int) (0:Int) (0:Int) (0:Int) false))
 some ((),((p5,p6,p7,(List.set p8 z0 (Entry.mk z1.Floor z1.Dir p3 z1.Moves z1.Moved)),()),()))
 else
 none
 else
 some ((),((p5,p6,p7,p8,()),()))
 else
 bif (p0==(7:Int)) then
 bif y1.1.2.1 then
 bif (inB y1.1.1 (List.length p8)) then
 let z2:Nat:=(Int.toNat y1.1.1)
 let z3:Entry:=(List.getD p8 z2 (Entry.mk (0:Int) (0:Int) (0:Int) (0:Int) false))
 let z4:List (Entry):=(List.set p8 z2 (Entry.mk z3.Floor z3.Dir z3.Car p4 z3.Moved))
 bif (inB y1.1.1 (List.length z4)) then
 let z5:Nat:=(Int.toNat y1.1.1)
 let z6:Entry:=(List.getD z4 z5 (Entry.mk (0:Int) (0:Int) (0:Int) (0:Int) false))
 some ((),((p5,p6,p7,(List.set z4 z5 (Entry.mk z6.Floor z6.Dir z6.Car z6.Moves (p3==(1:Int)))),()),()))
 else
 none
 else
 none
 else
 some ((),((p5,p6,p7,p8,()),()))
 else
 some ((),((p5,p6,p7,p8,()),()))
noncomputable def ni4' (p0 p1 p2 p3:Int) (p4 p5 p6:Nat) (p7:List (Car)) (p8:List (Int)) (p9 p10:List (Bool)) (p11:List (Entry)) (p12 p13 p14 p15 p16:Int):Option ((Unit×Int×Unit)×(T'5×Unit)):=
 (nc8' p0 p1 p2 p3 p4 p5 p6 p7 p8 p9 p10 p11).bind fun y1=>
 bif (!y1.1.1) then
 some (((),(1:Int),()),((([]:List (Int)),([]:List (Bool)),([]:List (Bool)),([]:List (Entry)),()),()))
 else
 (ng5' p0 p1 p2 p3 p4 p5 p6 p7 p12 p13 p14 p15 p16).bind fun y2=>
 bif (!y2.1.1) then
 some (((),(1:Int),()),((([]:List (Int)),([]:List (Bool)),([]:List (Bool)),([]:List (Entry)),()),()))
 else
 (ni0' p8 p9 p10 p11).bind fun y3=>
 (nic' p12 p13 p14 p15 p16 y3.2.1.1 y3.2.1.2.1 y3.2.1.2.2.1 y3.2.1.2.2.2.1).bind fun y4=>
 some (((),(0:Int),()),(y4.2.1,()))
noncomputable def nbg' (s10:List (Record)) (s11 s12:Int) (p0:List (Record)) (p1:List (Int)) (p2 p3:List (Bool)) (p4:List (Entry)) (p5:List (Int)) (p6:List (Calls)) (p7:List (Bool)) (p8 p9 p10 p11 p12 p13 p14 p15:Int) (p16 p17 p18:Nat) (p19:List (Car)):Option (Sum (T'38×(T'37×Unit)) (Unit×(T'37×Unit))):=
 bif (decide (s12 < s11)) then
 bif (inB s12 (List.length s10)) then
 let z0:Record:=(List.getD s10 (Int.toNat s12) (Record.mk (0:Int) (0:Int) (0:Int) (0:Int) (0:Int)))
 (nf2' p1 p2 p3 p4 z0.Floor z0.Dir).bind fun y1=>
 Option.bind (Option.bind (bif (z0.Kind==(2:Int)) then
 some (((),(),y1.1.1,y1.1.2.1,s10,s11,s12,y1.1.2.1,()),((z0.Kind,z0.Floor,z0.Dir,z0.Car,z0.Value,()),(p0,p1,p2,p3,p4,p5,p6,p7,p8,p9,p10,p11,p12,p13,p14,p15,p16,p17,p18,p19,()),()))
 else
 some (((),(),y1.1.1,y1.1.2.1,s10,s11,s12,false,()),((z0.Kind,z0.Floor,z0.Dir,z0.Car,z0.Value,()),(p0,p1,p2,p3,p4,p5,p6,p7,p8,p9,p10,p11,p12,p13,p14,p15,p16,p17,p18,p19,()),()))) fun y2=>
 bif y2.1.2.2.2.2.2.2.2.1 then
 (nco' y2.2.2.1.2.2.2.2.2.1 y2.1.2.2.1 (IntKind.i64.wrap (y2.1.2.2.1 + (1:Int)))).bind fun y3=>
 some (((),(),y2.1.2.2.2.2.1,y2.1.2.2.2.2.2.1,y2.1.2.2.2.2.2.2.1,()),(y2.2.1,(y2.2.2.1.1,y2.2.2.1.2.1,y2.2.2.1.2.2.1,y2.2.2.1.2.2.2.1,y2.2.2.1.2.2.2.2.1,y3.1.1,y2.2.2.1.2.2.2.2.2.2.1,y2.2.2.1.2.2.2.2.2.2.2.1,y2.2.2.1.2.2.2.2.2.2.2.2.1,y2.2.2.1.2.2.2.2.2.2.2.2.2.1,y2.2.2.1.2.2.2.2.2.2.2.2.2.2.1,y2.2.2.1.2.2.2.2.2.2.2.2.2.2.2.1,y2.2.2.1.2.2.2.2.2.2.2.2.2.2.2.2.1,y2.2.2.1.2.2.2.2.2.2.2.2.2.2.2.2.2.1,y2.2.2.1.2.2.2.2.2.2.2.2.2.2.2.2.2.2.1,y2.2.2.1.2.2.2.2.2.2.2.2.2.2.2.2.2.2.2.1,y2.2.2.1.2.2.2.2.2.2.2.2.2.2.2.2.2.2.2.2.1,y2.2.2.1.2.2.2.2.2.2.2.2.2.2.2.2.2.2.2.2.2.1,y2.2.2.1.2.2.2.2.2.2.2.2.2.2.2.2.2.2.2.2.2.2.1,y2.2.2.1.2.2.2.2.2.2.2.2.2.2.2.2.2.2.2.2.2.2.2.1,()),()))
 else
 Option.bind (bif (y2.2.1.1==(1:Int)) then
 some (((),(),y2.1.2.2.1,y2.1.2.2.2.2.1,y2.1.2.2.2.2.2.1,y2.1.2.2.2.2.2.2.1,(!y2.1.2.2.2.1),()),(y2.2.1,y2.2.2.1,()))
 else
 some (((),(),y2.1.2.2.1,y2.1.2.2.2.2.1,y2.1.2.2.2.2.2.1,y2.1.2.2.2.2.2.2.1,false,()),(y2.2.1,y2.2.2.1,()))) fun y4=>
 bif y4.1.2.2.2.2.2.2.1 then
 (ncq' y4.2.2.1.2.2.2.2.2.1 y4.1.2.2.1 [(0:Int)]).bind fun y5=>
 some (((),(),y4.1.2.2.2.1,y4.1.2.2.2.2.1,y4.1.2.2.2.2.2.1,()),(y4.2.1,(y4.2.2.1.1,y4.2.2.1.2.1,y4.2.2.1.2.2.1,y4.2.2.1.2.2.2.1,y4.2.2.1.2.2.2.2.1,y5.1.1,y4.2.2.1.2.2.2.2.2.2.1,y4.2.2.1.2.2.2.2.2.2.2.1,y4.2.2.1.2.2.2.2.2.2.2.2.1,y4.2.2.1.2.2.2.2.2.2.2.2.2.1,y4.2.2.1.2.2.2.2.2.2.2.2.2.2.1,y4.2.2.1.2.2.2.2.2.2.2.2.2.2.2.1,y4.2.2.1.2.2.2.2.2.2.2.2.2.2.2.2.1,y4.2.2.1.2.2.2.2.2.2.2.2.2.2.2.2.2.1,y4.2.2.1.2.2.2.2.2.2.2.2.2.2.2.2.2.2.1,y4.2.2.1.2.2.2.2.2.2.2.2.2.2.2.2.2.2.2.1,y4.2.2.1.2.2.2.2.2.2.2.2.2.2.2.2.2.2.2.2.1,y4.2.2.1.2.2.2.2.2.2.2.2.2.2.2.2.2.2.2.2.2.1,y4.2.2.1.2.2.2.2.2.2.2.2.2.2.2.2.2.2.2.2.2.2.1,y4.2.2.1.2.2.2.2.2.2.2.2.2.2.2.2.2.2.2.2.2.2.2.1,()),()))
 else
 some (((),(),y4.1.2.2.2.1,y4.1.2.2.2.2.1,y4.1.2.2.2.2.2.1,()),(y4.2.1,y4.2.2.1,()))) fun y6=>
 (ni4' y6.2.2.1.2.2.2.2.2.2.2.2.2.2.2.2.1 y6.2.2.1.2.2.2.2.2.2.2.2.2.2.2.2.2.1 y6.2.2.1.2.2.2.2.2.2.2.2.2.2.2.2.2.2.1 y6.2.2.1.2.2.2.2.2.2.2.2.2.2.2.2.2.2.2.1 y6.2.2.1.2.2.2.2.2.2.2.2.2.2.2.2.2.2.2.2.1 y6.2.2.1.2.2.2.2.2.2.2.2.2.2.2.2.2.2.2.2.2.1 y6.2.2.1.2.2.2.2.2.2.2.2.2.2.2.2.2.2.2.2.2.2.1 y6.2.2.1.2.2.2.2.2.2.2.2.2.2.2.2.2.2.2.2.2.2.2.1 y6.2.2.1.2.1 y6.2.2.1.2.2.1 y6.2.2.1.2.2.2.1 y6.2.2.1.2.2.2.2.1 y6.2.1.1 y6.2.1.2.1 y6.2.1.2.2.1 y6.2.1.2.2.2.1 y6.2.1.2.2.2.2.1).bind fun y7=>
 bif (y7.1.2.1==(0:Int)) then
 let z1:List (Record):=[(Record.mk y6.2.1.1 y6.2.1.2.1 y6.2.1.2.2.1 y6.2.1.2.2.2.1 y6.2.1.2.2.2.2.1)]
 bif (Nat.ble ((List.length y6.2.2.1.1) + (List.length z1)) 2147483648) then
 some (Sum.inl (((),y6.1.2.2.1,y6.1.2.2.2.1,(IntKind.i64.wrap (y6.1.2.2.2.2.1 + (1:Int))),()),(((y6.2.2.1.1++z1),y7.2.1.1,y7.2.1.2.1,y7.2.1.2.2.1,y7.2.1.2.2.2.1,y6.2.2.1.2.2.2.2.2.1,y6.2.2.1.2.2.2.2.2.2.1,y6.2.2.1.2.2.2.2.2.2.2.1,y6.2.2.1.2.2.2.2.2.2.2.2.1,y6.2.2.1.2.2.2.2.2.2.2.2.2.1,y6.2.2.1.2.2.2.2.2.2.2.2.2.2.1,y6.2.2.1.2.2.2.2.2.2.2.2.2.2.2.1,y6.2.2.1.2.2.2.2.2.2.2.2.2.2.2.2.1,y6.2.2.1.2.2.2.2.2.2.2.2.2.2.2.2.2.1,y6.2.2.1.2.2.2.2.2.2.2.2.2.2.2.2.2.2.1,y6.2.2.1.2.2.2.2.2.2.2.2.2.2.2.2.2.2.2.1,y6.2.2.1.2.2.2.2.2.2.2.2.2.2.2.2.2.2.2.2.1,y6.2.2.1.2.2.2.2.2.2.2.2.2.2.2.2.2.2.2.2.2.1,y6.2.2.1.2.2.2.2.2.2.2.2.2.2.2.2.2.2.2.2.2.2.1,y6.2.2.1.2.2.2.2.2.2.2.2.2.2.2.2.2.2.2.2.2.2.2.1,()),())))
 else
 none
 else
 some (Sum.inl (((),y6.1.2.2.1,y6.1.2.2.2.1,(IntKind.i64.wrap (y6.1.2.2.2.2.1 + (1:Int))),()),(y6.2.2.1,())))
 else
 none
 else
 some (Sum.inr ((),((p0,p1,p2,p3,p4,p5,p6,p7,p8,p9,p10,p11,p12,p13,p14,p15,p16,p17,p18,p19,()),())))
noncomputable def nbq':(T'38×(T'37×Unit))→Option (Unit×(T'37×Unit)):=iter (fun x=>nbg' x.1.2.1 x.1.2.2.1 x.1.2.2.2.1 x.2.1.1 x.2.1.2.1 x.2.1.2.2.1 x.2.1.2.2.2.1 x.2.1.2.2.2.2.1 x.2.1.2.2.2.2.2.1 x.2.1.2.2.2.2.2.2.1 x.2.1.2.2.2.2.2.2.2.1 x.2.1.2.2.2.2.2.2.2.2.1 x.2.1.2.2.2.2.2.2.2.2.2.1 x.2.1.2.2.2.2.2.2.2.2.2.2.1 x.2.1.2.2.2.2.2.2.2.2.2.2.2.1 x.2.1.2.2.2.2.2.2.2.2.2.2.2.2.1 x.2.1.2.2.2.2.2.2.2.2.2.2.2.2.2.1 x.2.1.2.2.2.2.2.2.2.2.2.2.2.2.2.2.1 x.2.1.2.2.2.2.2.2.2.2.2.2.2.2.2.2.2.1 x.2.1.2.2.2.2.2.2.2.2.2.2.2.2.2.2.2.2.1 x.2.1.2.2.2.2.2.2.2.2.2.2.2.2.2.2.2.2.2.1 x.2.1.2.2.2.2.2.2.2.2.2.2.2.2.2.2.2.2.2.2.1 x.2.1.2.2.2.2.2.2.2.2.2.2.2.2.2.2.2.2.2.2.2.1) fuel
noncomputable def n9' (l p0:List (Record)) (p1:List (Int)) (p2 p3:List (Bool)) (p4:List (Entry)) (p5:List (Int)) (p6:List (Calls)) (p7:List (Bool)) (p8 p9 p10 p11 p12 p13 p14 p15:Int) (p16 p17 p18:Nat) (p19:List (Car)):Option (Unit×(T'37×Unit)):=
 (nbq' (((),l,((List.length l:Nat):Int),(0:Int),()),((p0,p1,p2,p3,p4,p5,p6,p7,p8,p9,p10,p11,p12,p13,p14,p15,p16,p17,p18,p19,()),()))).bind fun y1=>
 some ((),(y1.2.1,()))
noncomputable def nfu' (s6:List (Entry)) (s7 s8 p0 p1 p2 p3:Int):Option (Sum (T'27×T'39) ((Unit×Unit×Unit)×T'39)):=
 bif (decide (s8 < s7)) then
 bif (inB s8 (List.length s6)) then
 let z0:Entry:=(List.getD s6 (Int.toNat s8) (Entry.mk (0:Int) (0:Int) (0:Int) (0:Int) false))
 (ngg' z0.Floor z0.Dir).bind fun y1=>
 (nd0' p2 p3 y1.2.1.1 y1.2.1.2.1).bind fun y2=>
 some (Sum.inl (((),(),s6,s7,(IntKind.i64.wrap (s8 + (1:Int))),()),((p0,p1,()),y2.2.1,())))
 else
 none
 else
 some (Sum.inr (((),(),()),((p0,p1,()),(p2,p3,()),())))
noncomputable def nh4':(T'27×T'39)→Option ((Unit×Unit×Unit)×T'39):=iter (fun x=>nfu' x.1.2.2.1 x.1.2.2.2.1 x.1.2.2.2.2.1 x.2.1.1 x.2.1.2.1 x.2.2.1.1 x.2.2.1.2.1) fuel
noncomputable def nki' (l:List (Entry)):Option ((Unit×Unit)×T'19):=
 (nh4' (((),(),l,((List.length l:Nat):Int),(0:Int),()),(((0:Int),(0:Int),()),((0:Int),(0:Int),()),()))).bind fun y1=>
 some (((),()),(y1.2.2.1,()))
noncomputable def nib' (p0:List (Int)) (p1 p2:List (Bool)) (p3:List (Entry)):Option ((Unit×Unit)×T'19):=
 (nki' p3).bind fun y1=>
 some (((),()),(y1.2.1,()))
noncomputable def nih' (p0 p1:Int):Option ((List (Entry)×Unit)×Unit):=
 lstF (fun f d=>ncv' p0 p1 f d) (fun f d=>Entry.mk f d (-1) 0 false)
noncomputable def nkf' (p0 p1 p2 p3:Int) (p4 p5 p6:Nat) (p7:List (Car)) (p8:List (Int)) (p9 p10:List (Bool)) (p11:List (Entry)):Option ((Bool×Unit)×Unit):=
 Option.bind ((nc8' p0 p1 p2 p3 p4 p5 p6 p7 p8 p9 p10 p11).bind fun y1=>
 bif y1.1.1 then
 some (((decide ((IntKind.i64.wrap ((IntKind.i64.wrap ((18:Int) * (IntKind.i64.wrap ((IntKind.i64.wrap (((List.length p7:Nat):Int) + ((List.length p11:Nat):Int))) + (1:Int))))) + (6:Int)))≤p2)),()),())
 else
 some ((false,()),())) fun y2=>
 some ((y2.1.1,()),())
noncomputable def n6' (s17:List (Entry)) (s18 s19:Int) (p0:List (Record)) (p1:List (Int)) (p2 p3:List (Bool)) (p4:List (Entry)) (p5:List (Int)) (p6:List (Calls)) (p7:List (Bool)) (p8 p9 p10 p11 p12 p13 p14 p15:Int) (p16 p17 p18:Nat) (p19:List (Car)):Option (Sum (T'40×(T'37×Unit)) (Unit×(T'37×Unit))):=
 bif (decide (s19 < s18)) then
 bif (inB s19 (List.length s17)) then
 let z0:Entry:=(List.getD s17 (Int.toNat s19) (Entry.mk (0:Int) (0:Int) (0:Int) (0:Int) false))
 (nkf' p12 p13 p14 p15 p16 p17 p18 p19 p1 p2 p3 p4).bind fun y1=>
 bif y1.1.1 then
 (n9' [(Record.mk (1:Int) z0.Floor z0.Dir (0:Int) (0:Int))] p0 p1 p2 p3 p4 p5 p6 p7 p8 p9 p10 p11 p12 p13 p14 p15 p16 p17 p18 p19).bind fun y2=>
 some (Sum.inl (((),s17,s18,(IntKind.i64.wrap (s19 + (1:Int))),()),(y2.2.1,())))
 else
 (ngg' z0.Floor z0.Dir).bind fun y3=>
 (nd0' p10 p11 y3.2.1.1 y3.2.1.2.1).bind fun y4=>
 some (Sum.inl (((),s17,s18,(IntKind.i64.wrap (s19 + (1:Int))),()),((p0,p1,p2,p3,p4,p5,p6,p7,p8,p9,y4.2.1.1,y4.2.1.2.1,p12,p13,p14,p15,p16,p17,p18,p19,()),())))
 else
 none
 else
 some (Sum.inr ((),((p0,p1,p2,p3,p4,p5,p6,p7,p8,p9,p10,p11,p12,p13,p14,p15,p16,p17,p18,p19,()),())))
noncomputable def nbu':(T'40×(T'37×Unit))→Option (Unit×(T'37×Unit)):=iter (fun x=>n6' x.1.2.1 x.1.2.2.1 x.1.2.2.2.1 x.2.1.1 x.2.1.2.1 x.2.1.2.2.1 x.2.1.2.2.2.1 x.2.1.2.2.2.2.1 x.2.1.2.2.2.2.2.1 x.2.1.2.2.2.2.2.2.1 x.2.1.2.2.2.2.2.2.2.1 x.2.1.2.2.2.2.2.2.2.2.1 x.2.1.2.2.2.2.2.2.2.2.2.1 x.2.1.2.2.2.2.2.2.2.2.2.2.1 x.2.1.2.2.2.2.2.2.2.2.2.2.2.1 x.2.1.2.2.2.2.2.2.2.2.2.2.2.2.1 x.2.1.2.2.2.2.2.2.2.2.2.2.2.2.2.1 x.2.1.2.2.2.2.2.2.2.2.2.2.2.2.2.2.1 x.2.1.2.2.2.2.2.2.2.2.2.2.2.2.2.2.2.1 x.2.1.2.2.2.2.2.2.2.2.2.2.2.2.2.2.2.2.1 x.2.1.2.2.2.2.2.2.2.2.2.2.2.2.2.2.2.2.2.1 x.2.1.2.2.2.2.2.2.2.2.2.2.2.2.2.2.2.2.2.2.1 x.2.1.2.2.2.2.2.2.2.2.2.2.2.2.2.2.2.2.2.2.2.1) fuel
noncomputable def nb1' (p0 p1 p2 p3:Int) (p4:List (Record)) (p5:List (Int)) (p6 p7:List (Bool)) (p8:List (Entry)) (p9:List (Int)) (p10:List (Calls)) (p11:List (Bool)) (p12 p13 p14 p15 p16 p17 p18 p19:Int) (p20 p21 p22:Nat) (p23:List (Car)):Option (Unit×(T'37×Unit)):=
 (ne4' p16 p17 p18 p19 p20 p21 p22 p23).bind fun y1=>
 (ndp' p0 p1 y1.2.1.1 y1.2.1.2.1).bind fun y2=>
 (ner' y2.2.1.1 y2.2.1.2.1 p2 p3).bind fun y3=>
 (nih' y3.2.1.1 y3.2.1.2.1).bind fun y4=>
 (nbu' (((),y4.1.1,((List.length y4.1.1:Nat):Int),(0:Int),()),((p4,p5,p6,p7,p8,p9,p10,p11,p12,p13,p14,p15,p16,p17,p18,p19,p20,p21,p22,p23,()),()))).bind fun y5=>
 some ((),(y5.2.1,()))
noncomputable def ngm' (n:Int):Option ((Bool×Unit)×Unit):=
 Option.bind (bif (decide (n < (0:Int))) then
 some ((true,()),())
 else
 some (((decide ((1000000:Int) < n)),()),())) fun y1=>
 some ((y1.1.1,()),())
noncomputable def nu' (s:List (Int)) (s7 s8:Int):Option (Sum (T'28×Unit) ((Unit×Unit) ⊕ ((Int×Unit)×Unit))):=
 bif (decide (s8 < s7)) then
 bif (inB s8 (List.length s)) then
 (ngm' (List.getD s (Int.toNat s8) (0:Int))).bind fun y1=>
 bif y1.1.1 then
 some (Sum.inr (Sum.inr ((s8,()),())))
 else
 some (Sum.inl ((s,(),s7,(IntKind.i64.wrap (s8 + (1:Int))),()),()))
 else
 none
 else
 some (Sum.inr (Sum.inl ((),())))
noncomputable def nbc':(T'28×Unit)→Option ((Unit×Unit) ⊕ ((Int×Unit)×Unit)):=iter (fun x=>nu' x.1.1 x.1.2.2.1 x.1.2.2.2.1) fuel
noncomputable def nbt' (s:List (Int)):Option ((Int×Unit)×Unit):=
 (nbc' ((s,(),((List.length s:Nat):Int),(0:Int),()),())).bind fun y1=>
 (match y1 with
 | .inl y2=>
 some (((-1:Int),()),())
 | .inr y2=>
 some ((y2.1.1,()),()))
noncomputable def nba' (s:List (Int)):Option ((Bool×Unit)×Unit):=
 (nbt' s).bind fun y1=>
 some (((decide ((0:Int)≤y1.1.1)),()),())
noncomputable def nez' (p0:Int):Option ((Bool×Unit)×Unit):=
 Option.bind (bif (decide ((2:Int)≤p0)) then
 some (((decide (p0≤(32:Int))),()),())
 else
 some ((false,()),())) fun y1=>
 some ((y1.1.1,()),())
noncomputable def nhk' (p0 p1 dir:Int):Option ((Bool×Unit)×Unit):=
 Option.bind (bif (dir==(1:Int)) then
 bif (decide ((0:Int)≤p1)) then
 bif (decide (p1 < (IntKind.i64.wrap (p0 - (1:Int))))) then
 some ((true,()),())
 else
 bif (dir==(2:Int)) then
 bif (decide ((0:Int) < p1)) then
 some (((decide (p1 < p0)),()),())
 else
 some ((false,()),())
 else
 some ((false,()),())
 else
 bif (dir==(2:Int)) then
 bif (decide ((0:Int) < p1)) then
 some (((decide (p1 < p0)),()),())
 else
 some ((false,()),())
 else
 some ((false,()),())
 else
 bif (dir==(2:Int)) then
 bif (decide ((0:Int) < p1)) then
 some (((decide (p1 < p0)),()),())
 else
 some ((false,()),())
 else
 some ((false,()),())) fun y1=>
 some ((y1.1.1,()),())
noncomputable def nfo' (p0 p1 p2 p3:Int):Option ((Unit×Unit)×T'41):=
 bif (decide ((0:Int)≤p0)) then
 let z0:Int:=(IntKind.u32.wrap ((IntKind.u32.wrap ((1:Int) * ((2:Int) ^ (Min.min (Int.toNat p0) (IntKind.bits IntKind.u32))))) - (1:Int)))
 (ndp' p2 p3 (Int.fdiv z0 ((2:Int) ^ (Min.min (Int.toNat (1:Int)) (IntKind.bits IntKind.u32)))) (IntKind.u32.wrap (stk z0 (1:Int) (BitVec.toNat ((BitVec.ofInt (IntKind.bits IntKind.u32) z0) &&& (~~~ (BitVec.ofInt (IntKind.bits IntKind.u32) (1:Int)))))))).bind fun y1=>
 some (((),()),(((IntKind.u32.wrap (stk p1 z0 (BitVec.toNat ((BitVec.ofInt (IntKind.bits IntKind.u32) p1) &&& (BitVec.ofInt (IntKind.bits IntKind.u32) z0))))),y1.2.1.1,y1.2.1.2.1,()),()))
 else
 none
noncomputable def ncm' (x_1:Int):Option ((Int×Unit)×Unit):=
 bif (x_1==(0:Int)) then
 some (((32:Int),()),())
 else
 let z0:Int:=(IntKind.u32.wrap ((0:Int) - x_1))
 let z1:Int:=(Int.fdiv (IntKind.u32.wrap ((IntKind.u32.wrap (stk x_1 z0 (BitVec.toNat ((BitVec.ofInt (IntKind.bits IntKind.u32) x_1) &&& (BitVec.ofInt (IntKind.bits IntKind.u32) z0))))) * (125613361:Int))) ((2:Int) ^ (Min.min (Int.toNat (27:Int)) (IntKind.bits IntKind.u32))))
 bif (inB z1 32) then
 some (((IntKind.i64.wrap (List.getD [(0:Int),(1:Int),(28:Int),(2:Int),(29:Int),(14:Int),(24:Int),(3:Int),(30:Int),(22:Int),(20:Int),(15:Int),(25:Int),(17:Int),(4:Int),(8:Int),(31:Int),(27:Int),(13:Int),(23:Int),(21:Int),(19:Int),(16:Int),(7:Int),(26:Int),(12:Int),(18:Int),(6:Int),(11:Int),(5:Int),(10:Int),(9:Int)] (Int.toNat z1) (0:Int))),()),())
 else
 none
noncomputable def ngw' (x_1:Int):Option ((Int×Unit)×Unit):=
 Option.bind (bif (decide ((65536:Int)≤x_1)) then
 some (((Int.fdiv x_1 ((2:Int) ^ (Min.min (Int.toNat (16:Int)) (IntKind.bits IntKind.u32)))),(16:Int),()),())
 else
 some ((x_1,(0:Int),()),())) fun y1=>
 Option.bind (bif (decide ((256:Int)≤y1.1.1)) then
 some (((Int.fdiv y1.1.1 ((2:Int) ^ (Min.min (Int.toNat (8:Int)) (IntKind.bits IntKind.u32)))),(IntKind.i64.wrap (y1.1.2.1 + (8:Int))),()),())
 else
 some ((y1.1.1,y1.1.2.1,()),())) fun y2=>
 let z0:Int:=(IntKind.u8.wrap y2.1.1)
 bif (inB z0 (ByteArray.size (ByteArray.mk (Array.mk [0,1,2,2,3,3,3,3,4,4,4,4,4,4,4,4,5,5,5,5,5,5,5,5,5,5,5,5,5,5,5,5,6,6,6,6,6,6,6,6,6,6,6,6,6,6,6,6,6,6,6,6,6,6,6,6,6,6,6,6,6,6,6,6,7,7,7,7,7,7,7,7,7,7,7,7,7,7,7,7,7,7,7,7,7,7,7,7,7,7,7,7,7,7,7,7,7,7,7,7,7,7,7,7,7,7,7,7,7,7,7,7,7,7,7,7,7,7,7,7,7,7,7,7,7,7,7,7,8,8,8,8,8,8,8,8,8,8,8,8,8,8,8,8,8,8,8,8,8,8,8,8,8,8,8,8,8,8,8,8,8,8,8,8,8,8,8,8,8,8,8,8,8,8,8,8,8,8,8,8,8,8,8,8,8,8,8,8,8,8,8,8,8,8,8,8,8,8,8,8,8,8,8,8,8,8,8,8,8,8,8,8,8,8,8,8,8,8,8,8,8,8,8,8,8,8,8,8,8,8,8,8,8,8,8,8,8,8,8,8,8,8,8,8,8,8,8,8,8,8,8,8,8,8,8,8])))) then
 some (((IntKind.i64.wrap (y2.1.2.1 + (IntKind.i64.wrap (nk0' (ByteArray.mk (Array.mk [0,1,2,2,3,3,3,3,4,4,4,4,4,4,4,4,5,5,5,5,5,5,5,5,5,5,5,5,5,5,5,5,6,6,6,6,6,6,6,6,6,6,6,6,6,6,6,6,6,6,6,6,6,6,6,6,6,6,6,6,6,6,6,6,7,7,7,7,7,7,7,7,7,7,7,7,7,7,7,7,7,7,7,7,7,7,7,7,7,7,7,7,7,7,7,7,7,7,7,7,7,7,7,7,7,7,7,7,7,7,7,7,7,7,7,7,7,7,7,7,7,7,7,7,7,7,7,7,8,8,8,8,8,8,8,8,8,8,8,8,8,8,8,8,8,8,8,8,8,8,8,8,8,8,8,8,8,8,8,8,8,8,8,8,8,8,8,8,8,8,8,8,8,8,8,8,8,8,8,8,8,8,8,8,8,8,8,8,8,8,8,8,8,8,8,8,8,8,8,8,8,8,8,8,8,8,8,8,8,8,8,8,8,8,8,8,8,8,8,8,8,8,8,8,8,8,8,8,8,8,8,8,8,8,8,8,8,8,8,8,8,8,8,8,8,8,8,8,8,8,8,8,8,8,8,8])) (Int.toNat z0))))),()),())
 else
 none
noncomputable def nb4' (n p0:Int) (s13:List (Int)) (s14 s15 b0 b1:Int):Option (Sum (T'20×T'33) ((Int×Unit)×T'33)):=
 bif (decide (s15 < s14)) then
 bif (inB s15 (List.length s13)) then
 let z0:Int:=(List.getD s13 (Int.toNat s15) (0:Int))
 let z1:Int:=(IntKind.i64.wrap (z0 - p0))
 let z2:Int:=(IntKind.i64.wrap (p0 - z0))
 some (Sum.inl (((IntKind.i64.wrap (n + (bif (decide (z1 < z2)) then z2 else z1))),z0,s13,s14,(IntKind.i64.wrap (s15 + (1:Int))),()),((b0,()),(b1,()),())))
 else
 none
 else
 some (Sum.inr ((n,()),((b0,()),(b1,()),())))
noncomputable def ndo':(T'20×T'33)→Option ((Int×Unit)×T'33):=iter (fun x=>nb4' x.1.1 x.1.2.1 x.1.2.2.1 x.1.2.2.2.1 x.1.2.2.2.2.1 x.2.1.1 x.2.2.1.1) fuel
noncomputable def ns' (p0:List (Int)) (b0 b1:Int):Option ((Int×Unit)×T'33):=
 let z0:List (Int):=[b1]
 bif (Nat.ble ((List.length p0) + (List.length z0)) 2147483648) then
 let z1:List (Int):=(p0++z0)
 (ndo' (((0:Int),b0,z1,((List.length z1:Nat):Int),(0:Int),()),((b0,()),(b1,()),()))).bind fun y1=>
 some ((y1.1.1,()),((y1.2.1.1,()),(y1.2.2.1.1,()),()))
 else
 none
noncomputable def ndm' (p0 p1 p2 p3 p4 p5 p6 dir:Int):Option ((Int×Unit)×Unit):=
 (nez' p0).bind fun y1=>
 bif (!y1.1.1) then
 some (((-1:Int),()),())
 else
 bif (decide (p1 < (0:Int))) then
 some (((-1:Int),()),())
 else
 bif (decide (p0≤p1)) then
 some (((-1:Int),()),())
 else
 bif (decide (p2 < (0:Int))) then
 some (((-1:Int),()),())
 else
 bif (decide ((2:Int) < p2)) then
 some (((-1:Int),()),())
 else
 (nhk' p0 p6 dir).bind fun y2=>
 bif (!y2.1.1) then
 some (((-1:Int),()),())
 else
 (nfo' p0 p3 p4 p5).bind fun y3=>
 let z0:Int:=(IntKind.u32.wrap (stk y3.2.1.1 y3.2.1.2.1 (BitVec.toNat ((BitVec.ofInt (IntKind.bits IntKind.u32) y3.2.1.1) ||| (BitVec.ofInt (IntKind.bits IntKind.u32) y3.2.1.2.1)))))
 let z1:Int:=(IntKind.u32.wrap (stk z0 y3.2.1.2.2.1 (BitVec.toNat ((BitVec.ofInt (IntKind.bits IntKind.u32) z0) ||| (BitVec.ofInt (IntKind.bits IntKind.u32) y3.2.1.2.2.1)))))
 bif (decide ((0:Int)≤p1)) then
 let z2:Int:=(IntKind.u32.wrap ((1:Int) * ((2:Int) ^ (Min.min (Int.toNat p1) (IntKind.bits IntKind.u32)))))
 let z3:Int:=(IntKind.u32.wrap (stk z1 z2 (BitVec.toNat ((BitVec.ofInt (IntKind.bits IntKind.u32) z1) ||| (BitVec.ofInt (IntKind.bits IntKind.u32) z2)))))
 bif (decide ((0:Int)≤p6)) then
 let z4:Int:=(IntKind.u32.wrap ((1:Int) * ((2:Int) ^ (Min.min (Int.toNat p6) (IntKind.bits IntKind.u32)))))
 let z5:Int:=(IntKind.u32.wrap (stk z3 z4 (BitVec.toNat ((BitVec.ofInt (IntKind.bits IntKind.u32) z3) ||| (BitVec.ofInt (IntKind.bits IntKind.u32) z4)))))
 (ncm' z5).bind fun y4=>
 (ngw' z5).bind fun y5=>
 let z6:Int:=(IntKind.i64.wrap (y5.1.1 - (1:Int)))
 Option.bind (bif (p2==(1:Int)) then
 bif (decide (p1≤p6)) then
 some ((p2,dir,y4.1.1,z6,(),true,()),((p1,()),(p6,()),()))
 else
 bif (p2==(2:Int)) then
 some ((p2,dir,y4.1.1,z6,(),(decide (p6≤p1)),()),((p1,()),(p6,()),()))
 else
 some ((p2,dir,y4.1.1,z6,(),false,()),((p1,()),(p6,()),()))
 else
 bif (p2==(2:Int)) then
 some ((p2,dir,y4.1.1,z6,(),(decide (p6≤p1)),()),((p1,()),(p6,()),()))
 else
 some ((p2,dir,y4.1.1,z6,(),false,()),((p1,()),(p6,()),()))) fun y6=>
 Option.bind (bif (y6.1.1==(0:Int)) then
 some ((y6.1.1,y6.1.2.1,y6.1.2.2.1,y6.1.2.2.2.1,(),true,()),((y6.2.1.1,()),(y6.2.2.1.1,()),()))
 else
 bif (y6.1.1==y6.1.2.1) then
 some ((y6.1.1,y6.1.2.1,y6.1.2.2.1,y6.1.2.2.2.1,(),y6.1.2.2.2.2.2.1,()),((y6.2.1.1,()),(y6.2.2.1.1,()),()))
 else
 some ((y6.1.1,y6.1.2.1,y6.1.2.2.1,y6.1.2.2.2.1,(),false,()),((y6.2.1.1,()),(y6.2.2.1.1,()),()))) fun y7=>
 bif y7.1.2.2.2.2.2.1 then
 (ns' [] y7.2.1.1 y7.2.2.1.1).bind fun y8=>
 some ((y8.1.1,()),())
 else
 Option.bind (bif (y7.1.1 != y7.1.2.1) then
 some ((y7.1.1,y7.1.2.1,y7.1.2.2.1,y7.1.2.2.2.1,(),(y7.1.1==(1:Int)),()),((y7.2.1.1,()),(y7.2.2.1.1,()),()))
 else
 some ((y7.1.1,y7.1.2.1,y7.1.2.2.1,y7.1.2.2.2.1,(),false,()),((y7.2.1.1,()),(y7.2.2.1.1,()),()))) fun y9=>
 bif y9.1.2.2.2.2.2.1 then
 (ns' [y9.1.2.2.2.1] y9.2.1.1 y9.2.2.1.1).bind fun y10=>
 some ((y10.1.1,()),())
 else
 bif (y9.1.1 != y9.1.2.1) then
 (ns' [y9.1.2.2.1] y9.2.1.1 y9.2.2.1.1).bind fun y11=>
 some ((y11.1.1,()),())
 else
 bif (y9.1.1==(1:Int)) then
 (ns' [y9.1.2.2.2.1,y9.1.2.2.1] y9.2.1.1 y9.2.2.1.1).bind fun y12=>
 some ((y12.1.1,()),())
 else
 (ns' [y9.1.2.2.1,y9.1.2.2.2.1] y9.2.1.1 y9.2.2.1.1).bind fun y13=>
 some ((y13.1.1,()),())
 else
 none
 else
 none
noncomputable def ncd' (x_1:Int):Option ((Int×Unit)×Unit):=
 let z0:Int:=(Int.fdiv x_1 ((2:Int) ^ (Min.min (Int.toNat (24:Int)) (IntKind.bits IntKind.u32))))
 bif (inB z0 (ByteArray.size (ByteArray.mk (Array.mk [0,1,1,2,1,2,2,3,1,2,2,3,2,3,3,4,1,2,2,3,2,3,3,4,2,3,3,4,3,4,4,5,1,2,2,3,2,3,3,4,2,3,3,4,3,4,4,5,2,3,3,4,3,4,4,5,3,4,4,5,4,5,5,6,1,2,2,3,2,3,3,4,2,3,3,4,3,4,4,5,2,3,3,4,3,4,4,5,3,4,4,5,4,5,5,6,2,3,3,4,3,4,4,5,3,4,4,5,4,5,5,6,3,4,4,5,4,5,5,6,4,5,5,6,5,6,6,7,1,2,2,3,2,3,3,4,2,3,3,4,3,4,4,5,2,3,3,4,3,4,4,5,3,4,4,5,4,5,5,6,2,3,3,4,3,4,4,5,3,4,4,5,4,5,5,6,3,4,4,5,4,5,5,6,4,5,5,6,5,6,6,7,2,3,3,4,3,4,4,5,3,4,4,5,4,5,5,6,3,4,4,5,4,5,5,6,4,5,5,6,5,6,6,7,3,4,4,5,4,5,5,6,4,5,5,6,5,6,6,7,4,5,5,6,5,6,6,7,5,6,6,7,6,7,7,8])))) then
 let z1:Int:=(Int.fdiv x_1 ((2:Int) ^ (Min.min (Int.toNat (16:Int)) (IntKind.bits IntKind.u32))))
 let z2:Int:=(IntKind.u32.wrap (stk z1 (255:Int) (BitVec.toNat ((BitVec.ofInt (IntKind.bits IntKind.u32) z1) &&& (BitVec.ofInt (IntKind.bits IntKind.u32) (255:Int))))))
 bif (inB z2 (ByteArray.size (ByteArray.mk (Array.mk [0,1,1,2,1,2,2,3,1,2,2,3,2,3,3,4,1,2,2,3,2,3,3,4,2,3,3,4,3,4,4,5,1,2,2,3,2,3,3,4,2,3,3,4,3,4,4,5,2,3,3,4,3,4,4,5,3,4,4,5,4,5,5,6,1,2,2,3,2,3,3,4,2,3,3,4,3,4,4,5,2,3,3,4,3,4,4,5,3,4,4,5,4,5,5,6,2,3,3,4,3,4,4,5,3,4,4,5,4,5,5,6,3,4,4,5,4,5,5,6,4,5,5,6,5,6,6,7,1,2,2,3,2,3,3,4,2,3,3,4,3,4,4,5,2,3,3,4,3,4,4,5,3,4,4,5,4,5,5,6,2,3,3,4,3,4,4,5,3,4,4,5,4,5,5,6,3,4,4,5,4,5,5,6,4,5,5,6,5,6,6,7,2,3,3,4,3,4,4,5,3,4,4,5,4,5,5,6,3,4,4,5,4,5,5,6,4,5,5,6,5,6,6,7,3,4,4,5,4,5,5,6,4,5,5,6,5,6,6,7,4,5,5,6,5,6,6,7,5,6,6,7,6,7,7,8])))) then
 let z3:Int:=(Int.fdiv x_1 ((2:Int) ^ (Min.min (Int.toNat (8:Int)) (IntKind.bits IntKind.u32))))
 let z4:Int:=(IntKind.u32.wrap (stk z3 (255:Int) (BitVec.toNat ((BitVec.ofInt (IntKind.bits IntKind.u32) z3) &&& (BitVec.ofInt (IntKind.bits IntKind.u32) (255:Int))))))
 bif (inB z4 (ByteArray.size (ByteArray.mk (Array.mk [0,1,1,2,1,2,2,3,1,2,2,3,2,3,3,4,1,2,2,3,2,3,3,4,2,3,3,4,3,4,4,5,1,2,2,3,2,3,3,4,2,3,3,4,3,4,4,5,2,3,3,4,3,4,4,5,3,4,4,5,4,5,5,6,1,2,2,3,2,3,3,4,2,3,3,4,3,4,4,5,2,3,3,4,3,4,4,5,3,4,4,5,4,5,5,6,2,3,3,4,3,4,4,5,3,4,4,5,4,5,5,6,3,4,4,5,4,5,5,6,4,5,5,6,5,6,6,7,1,2,2,3,2,3,3,4,2,3,3,4,3,4,4,5,2,3,3,4,3,4,4,5,3,4,4,5,4,5,5,6,2,3,3,4,3,4,4,5,3,4,4,5,4,5,5,6,3,4,4,5,4,5,5,6,4,5,5,6,5,6,6,7,2,3,3,4,3,4,4,5,3,4,4,5,4,5,5,6,3,4,4,5,4,5,5,6,4,5,5,6,5,6,6,7,3,4,4,5,4,5,5,6,4,5,5,6,5,6,6,7,4,5,5,6,5,6,6,7,5,6,6,7,6,7,7,8])))) then
 let z5:Int:=(IntKind.u32.wrap (stk x_1 (255:Int) (BitVec.toNat ((BitVec.ofInt (IntKind.bits IntKind.u32) x_1) &&& (BitVec.ofInt (IntKind.bits IntKind.u32) (255:Int))))))
 bif (inB z5 (ByteArray.size (ByteArray.mk (Array.mk [0,1,1,2,1,2,2,3,1,2,2,3,2,3,3,4,1,2,2,3,2,3,3,4,2,3,3,4,3,4,4,5,1,2,2,3,2,3,3,4,2,3,3,4,3,4,4,5,2,3,3,4,3,4,4,5,3,4,4,5,4,5,5,6,1,2,2,3,2,3,3,4,2,3,3,4,3,4,4,5,2,3,3,4,3,4,4,5,3,4,4,5,4,5,5,6,2,3,3,4,3,4,4,5,3,4,4,5,4,5,5,6,3,4,4,5,4,5,5,6,4,5,5,6,5,6,6,7,1,2,2,3,2,3,3,4,2,3,3,4,3,4,4,5,2,3,3,4,3,4,4,5,3,4,4,5,4,5,5,6,2,3,3,4,3,4,4,5,3,4,4,5,4,5,5,6,3,4,4,5,4,5,5,6,4,5,5,6,5,6,6,7,2,3,3,4,3,4,4,5,3,4,4,5,4,5,5,6,3,4,4,5,4,5,5,6,4,5,5,6,5,6,6,7,3,4,4,5,4,5,5,6,4,5,5,6,5,6,6,7,4,5,5,6,5,6,6,7,5,6,6,7,6,7,7,8])))) then
 some (((IntKind.i64.wrap (IntKind.u8.wrap ((IntKind.u8.wrap ((IntKind.u8.wrap ((nk0' (ByteArray.mk (Array.mk [0,1,1,2,1,2,2,3,1,2,2,3,2,3,3,4,1,2,2,3,2,3,3,4,2,3,3,4,3,4,4,5,1,2,2,3,2,3,3,4,2,3,3,4,3,4,4,5,2,3,3,4,3,4,4,5,3,4,4,5,4,5,5,6,1,2,2,3,2,3,3,4,2,3,3,4,3,4,4,5,2,3,3,4,3,4,4,5,3,4,4,5,4,5,5,6,2,3,3,4,3,4,4,5,3,4,4,5,4,5,5,6,3,4,4,5,4,5,5,6,4,5,5,6,5,6,6,7,1,2,2,3,2,3,3,4,2,3,3,4,3,4,4,5,2,3,3,4,3,4,4,5,3,4,4,5,4,5,5,6,2,3,3,4,3,4,4,5,3,4,4,5,4,5,5,6,3,4,4,5,4,5,5,6,4,5,5,6,5,6,6,7,2,3,3,4,3,4,4,5,3,4,4,5,4,5,5,6,3,4,4,5,4,5,5,6,4,5,5,6,5,6,6,7,3,4,4,5,4,5,5,6,4,5,5,6,5,6,6,7,4,5,5,6,5,6,6,7,5,6,6,7,6,7,7,8])) (Int.toNat z0)) + (nk0' (ByteArray.mk (Array.mk [0,1,1,2,1,2,2,3,1,2,2,3,2,3,3,4,1,2,2,3,2,3,3,4,2,3,3,4,3,4,4,5,1,2,2,3,2,3,3,4,2,3,3,4,3,4,4,5,2,3,3,4,3,4,4,5,3,4,4,5,4,5,5,6,1,2,2,3,2,3,3,4,2,3,3,4,3,4,4,5,2,3,3,4,3,4,4,5,3,4,4,5,4,5,5,6,2,3,3,4,3,4,4,5,3,4,4,5,4,5,5,6,3,4,4,5,4,5,5,6,4,5,5,6,5,6,6,7,1,2,2,3,2,3,3,4,2,3,3,4,3,4,4,5,2,3,3,4,3,4,4,5,3,4,4,5,4,5,5,6,2,3,3,4,3,4,4,5,3,4,4,5,4,5,5,6,3,4,4,5,4,5,5,6,4,5,5,6,5,6,6,7,2,3,3,4,3,4,4,5,3,4,4,5,4,5,5,6,3,4,4,5,4,5,5,6,4,5,5,6,5,6,6,7,3,4,4,5,4,5,5,6,4,5,5,6,5,6,6,7,4,5,5,6,5,6,6,7,5,6,6,7,6,7,7,8])) (Int.toNat z2)))) + (nk0' (ByteArray.mk (Array.mk [0,1,1,2,1,2,2,3,1,2,2,3,2,3,3,4,1,2,2,3,2,3,3,4,2,3,3,4,3,4,4,5,1,2,2,3,2,3,3,4,2,3,3,4,3,4,4,5,2,3,3,4,3,4,4,5,3,4,4,5,4,5,5,6,1,2,2,3,2,3,3,4,2,3,3,4,3,4,4,5,2,3,3,4,3,4,4,5,3,4,4,5,4,5,5,6,2,3,3,4,3,4,4,5,3,4,4,5,4,5,5,6,3,4,4,5,4,5,5,6,4,5,5,6,5,6,6,7,1,2,2,3,2,3,3,4,2,3,3,4,3,4,4,5,2,3,3,4,3,4,4,5,3,4,4,5,4,5,5,6,2,3,3,4,3,4,4,5,3,4,4,5,4,5,5,6,3,4,4,5,4,5,5,6,4,5,5,6,5,6,6,7,2,3,3,4,3,4,4,5,3,4,4,5,4,5,5,6,3,4,4,5,4,5,5,6,4,5,5,6,5,6,6,7,3,4,4,5,4,5,5,6,4,5,5,6,5,6,6,7,4,5,5,6,5,6,6,7,5,6,6,7,6,7,7,8])) (Int.toNat z4)))) + (nk0' (ByteArray.mk (Array.mk [0,1,1,2,1,2,2,3,1,2,2,3,2,3,3,4,1,2,2,3,2,3,3,4,2,3,3,4,3,4,4,5,1,2,2,3,2,3,3,4,2,3,3,4,3,4,4,5,2,3,3,4,3,4,4,5,3,4,4,5,4,5,5,6,1,2,2,3,2,3,3,4,2,3,3,4,3,4,4,5,2,3,3,4,3,4,4,5,3,4,4,5,4,5,5,6,2,3,3,4,3,4,4,5,3,4,4,5,4,5,5,6,3,4,4,5,4,5,5,6,4,5,5,6,5,6,6,7,1,2,2,3,2,3,3,4,2,3,3,4,3,4,4,5,2,3,3,4,3,4,4,5,3,4,4,5,4,5,5,6,2,3,3,4,3,4,4,5,3,4,4,5,4,5,5,6,3,4,4,5,4,5,5,6,4,5,5,6,5,6,6,7,2,3,3,4,3,4,4,5,3,4,4,5,4,5,5,6,3,4,4,5,4,5,5,6,4,5,5,6,5,6,6,7,3,4,4,5,4,5,5,6,4,5,5,6,5,6,6,7,4,5,5,6,5,6,6,7,5,6,6,7,6,7,7,8])) (Int.toNat z5))))),()),())
 else
 none
 else
 none
 else
 none
 else
 none
noncomputable def njx' (p0 p1:Int):Option ((Int×Unit)×Unit):=
 (ncd' p0).bind fun y1=>
 (ncd' p1).bind fun y2=>
 some (((IntKind.i64.wrap (y1.1.1 + y2.1.1)),()),())
noncomputable def nft' (p0 p1 p2 p3:Int):Option ((Int×Unit)×Unit):=
 (nez' p0).bind fun y1=>
 bif (!y1.1.1) then
 some (((0:Int),()),())
 else
 (nfo' p0 p1 p2 p3).bind fun y2=>
 (ncd' y2.2.1.1).bind fun y3=>
 (njx' y2.2.1.2.1 y2.2.1.2.2.1).bind fun y4=>
 some (((IntKind.i64.wrap (y3.1.1 + y4.1.1)),()),())
noncomputable def ncy' (p0 p1 p2 p3:Int) (p4 p5 p6:Nat) (p7:List (Car)) (car:Int) (p8 p9 p10 p11:Bool) (p12 p13 p14 p15 p16 p17 p18 p19 p20 dir:Int):Option ((Int×Unit)×Unit):=
 (nbr' p0 p1 p2 p3 p4 p5 p6 p7).bind fun y1=>
 bif (y1.1.1 != (0:Int)) then
 some (((1000000:Int),()),())
 else
 bif (decide (car < (0:Int))) then
 some (((1000000:Int),()),())
 else
 bif (decide (((List.length p7:Nat):Int)≤car)) then
 some (((1000000:Int),()),())
 else
 Option.bind (bif (p13==(3:Int)) then
 some ((car,p20,dir,(),(),(0:Int),()),((p0,p1,p2,p3,p4,p5,p6,p7,()),(p8,p9,p10,p11,p12,p13,p14,p15,p16,p17,p18,p19,()),()))
 else
 some ((car,p20,dir,(),(),p13,()),((p0,p1,p2,p3,p4,p5,p6,p7,()),(p8,p9,p10,p11,p12,p13,p14,p15,p16,p17,p18,p19,()),()))) fun y2=>
 (ndm' y2.2.1.1 y2.2.2.1.2.2.2.2.1 y2.1.2.2.2.2.2.1 y2.2.2.1.2.2.2.2.2.2.2.2.2.1 y2.2.2.1.2.2.2.2.2.2.2.2.2.2.1 y2.2.2.1.2.2.2.2.2.2.2.2.2.2.2.1 y2.1.2.1 y2.1.2.2.1).bind fun y3=>
 bif (decide (y3.1.1 < (0:Int))) then
 some (((1000000:Int),()),())
 else
 bif (inB y2.1.1 (List.length y2.2.1.2.2.2.2.2.2.2.1)) then
 let z0:Car:=(List.getD y2.2.1.2.2.2.2.2.2.2.1 (Int.toNat y2.1.1) (Car.mk (0:Int) (0:Int) (0:Int) (0:Int) (0:Int) (0:Int) (0:Int) (0:Int) (0:Int)))
 (nft' y2.2.1.1 y2.2.2.1.2.2.2.2.2.2.2.2.2.1 y2.2.2.1.2.2.2.2.2.2.2.2.2.2.1 y2.2.2.1.2.2.2.2.2.2.2.2.2.2.2.1).bind fun y4=>
 let z1:Int:=(IntKind.i64.wrap ((IntKind.i64.wrap (y3.1.1 * z0.Step)) + (IntKind.i64.wrap (y4.1.1 * (IntKind.i64.wrap ((IntKind.i64.wrap ((2:Int) * z0.Travel)) + z0.Dwell))))))
 some (((bif (decide ((1000000:Int) < z1)) then (1000000:Int) else z1),()),())
 else
 none
noncomputable def nd2' (p0 p1 p2 p3:Bool) (p4 p5 p6 p7 p8 p9 p10 p11:Int):Option ((Bool×Unit)×Unit):=
 Option.bind (bif (p6==(3:Int)) then
 some ((true,()),())
 else
 some (((p6==(4:Int)),()),())) fun y1=>
 some ((y1.1.1,()),())
noncomputable def nem' (p0 p1 p2 p3:Int) (p4 p5 p6:Nat) (p7:List (Car)) (p8:List (View)) (car p9 dir:Int):Option ((Unit×Unit)×T'19):=
 bif (inB car (List.length p8)) then
 let z0:View:=(List.getD p8 (Int.toNat car) (View.mk false false false false (0:Int) (0:Int) (0:Int) (0:Int) (0:Int) (0:Int) (0:Int) (0:Int)))
 (ncy' p0 p1 p2 p3 p4 p5 p6 p7 car z0.Ready z0.Serving z0.Legacy z0.Lost z0.Floor z0.Dir z0.Load z0.Shows_Up z0.Shows_Down z0.Stops_Car z0.Stops_Hall_Up z0.Stops_Hall_Down p9 dir).bind fun y1=>
 bif (inB car (List.length p8)) then
 let z1:View:=(List.getD p8 (Int.toNat car) (View.mk false false false false (0:Int) (0:Int) (0:Int) (0:Int) (0:Int) (0:Int) (0:Int) (0:Int)))
 (nd2' z1.Ready z1.Serving z1.Legacy z1.Lost z1.Floor z1.Dir z1.Load z1.Shows_Up z1.Shows_Down z1.Stops_Car z1.Stops_Hall_Up z1.Stops_Hall_Down).bind fun y2=>
 bif y2.1.1 then
 some (((),()),(((1:Int),y1.1.1,()),()))
 else
 some (((),()),(((0:Int),y1.1.1,()),()))
 else
 none
 else
 none
noncomputable def ne2' (p0 p1 p2 p3:Int):Option ((Bool×Unit)×Unit):=
 bif ((p0==p2)&&((p1==p3)&&true)) then
 some ((false,()),())
 else
 Option.bind (bif (decide (p0 < p2)) then
 some ((true,()),())
 else
 bif (p0==p2) then
 some (((decide (p1 < p3)),()),())
 else
 some ((false,()),())) fun y1=>
 some ((y1.1.1,()),())
noncomputable def nc5' (p0:List (View)) (p1 dir p2 p3:Int) (s28:List (View)) (s29 s30 p4 p5 p6 p7:Int) (p8 p9 p10:Nat) (p11:List (Car)) (p12 p13:Int):Option (Sum (T'42×T'43) ((Int×Unit)×Unit)):=
 bif (decide (s30 < s29)) then
 bif (inB s30 (List.length s28)) then
 bif (!(List.getD s28 (Int.toNat s30) (View.mk false false false false (0:Int) (0:Int) (0:Int) (0:Int) (0:Int) (0:Int) (0:Int) (0:Int))).Ready) then
 some (Sum.inl ((p0,p1,dir,p2,(),p3,(),s28,s29,(IntKind.i64.wrap (s30 + (1:Int))),()),((p4,p5,p6,p7,p8,p9,p10,p11,()),(p12,p13,()),())))
 else
 bif (s30==p2) then
 some (Sum.inl ((p0,p1,dir,p2,(),p3,(),s28,s29,(IntKind.i64.wrap (s30 + (1:Int))),()),((p4,p5,p6,p7,p8,p9,p10,p11,()),(p12,p13,()),())))
 else
 (nem' p4 p5 p6 p7 p8 p9 p10 p11 p0 s30 p1 dir).bind fun y1=>
 Option.bind (bif (p3==(-1:Int)) then
 some ((p0,p1,dir,p2,(),p3,(),s30,(),s28,s29,s30,true,()),((p4,p5,p6,p7,p8,p9,p10,p11,()),(p12,p13,()),y1.2.1,()))
 else
 (ne2' y1.2.1.1 y1.2.1.2.1 p12 p13).bind fun y2=>
 some ((p0,p1,dir,p2,(),p3,(),s30,(),s28,s29,s30,y2.1.1,()),((p4,p5,p6,p7,p8,p9,p10,p11,()),(p12,p13,()),y1.2.1,()))) fun y3=>
 bif y3.1.2.2.2.2.2.2.2.2.2.2.2.2.1 then
 some (Sum.inl ((y3.1.1,y3.1.2.1,y3.1.2.2.1,y3.1.2.2.2.1,(),y3.1.2.2.2.2.2.2.2.1,(),y3.1.2.2.2.2.2.2.2.2.2.1,y3.1.2.2.2.2.2.2.2.2.2.2.1,(IntKind.i64.wrap (y3.1.2.2.2.2.2.2.2.2.2.2.2.1 + (1:Int))),()),(y3.2.1,y3.2.2.2.1,())))
 else
 some (Sum.inl ((y3.1.1,y3.1.2.1,y3.1.2.2.1,y3.1.2.2.2.1,(),y3.1.2.2.2.2.2.1,(),y3.1.2.2.2.2.2.2.2.2.2.1,y3.1.2.2.2.2.2.2.2.2.2.2.1,(IntKind.i64.wrap (y3.1.2.2.2.2.2.2.2.2.2.2.2.1 + (1:Int))),()),(y3.2.1,y3.2.2.1,())))
 else
 none
 else
 some (Sum.inr ((p3,()),()))
noncomputable def nfd':(T'42×T'43)→Option ((Int×Unit)×Unit):=iter (fun x=>nc5' x.1.1 x.1.2.1 x.1.2.2.1 x.1.2.2.2.1 x.1.2.2.2.2.2.1 x.1.2.2.2.2.2.2.2.1 x.1.2.2.2.2.2.2.2.2.1 x.1.2.2.2.2.2.2.2.2.2.1 x.2.1.1 x.2.1.2.1 x.2.1.2.2.1 x.2.1.2.2.2.1 x.2.1.2.2.2.2.1 x.2.1.2.2.2.2.2.1 x.2.1.2.2.2.2.2.2.1 x.2.1.2.2.2.2.2.2.2.1 x.2.2.1.1 x.2.2.1.2.1) fuel
noncomputable def ndv' (p0 p1 p2 p3:Int) (p4 p5 p6:Nat) (p7:List (Car)) (p8:List (View)) (p9 dir p10:Int):Option ((Int×Unit)×Unit):=
 (nbr' p0 p1 p2 p3 p4 p5 p6 p7).bind fun y1=>
 bif (y1.1.1 != (0:Int)) then
 some (((-1:Int),()),())
 else
 bif (((List.length p8:Nat):Int) != ((List.length p7:Nat):Int)) then
 some (((-1:Int),()),())
 else
 (nfd' ((p8,p9,dir,p10,(),(-1:Int),(),p8,((List.length p8:Nat):Int),(0:Int),()),((p0,p1,p2,p3,p4,p5,p6,p7,()),((0:Int),(0:Int),()),()))).bind fun y2=>
 some ((y2.1.1,()),())
noncomputable def ndn' (p0 p1 p2 p3:Int) (p4 p5 p6:Nat) (p7:List (Car)) (p8:List (View)) (p9 p10 p11 p12:Int) (p13:Bool) (p14:Int):Option ((Int×Unit)×Unit):=
 (ndv' p0 p1 p2 p3 p4 p5 p6 p7 p8 p9 p10 p11).bind fun y1=>
 bif (y1.1.1==(-1:Int)) then
 some ((y1.1.1,()),())
 else
 bif (inB p11 (List.length p8)) then
 let z0:View:=(List.getD p8 (Int.toNat p11) (View.mk false false false false (0:Int) (0:Int) (0:Int) (0:Int) (0:Int) (0:Int) (0:Int) (0:Int)))
 Option.bind (bif z0.Legacy then
 bif (p14==(0:Int)) then
 (nem' p0 p1 p2 p3 p4 p5 p6 p7 p8 y1.1.1 p9 p10).bind fun y2=>
 (nem' p0 p1 p2 p3 p4 p5 p6 p7 p8 p11 p9 p10).bind fun y3=>
 (ne2' y2.2.1.1 y2.2.1.2.1 y3.2.1.1 y3.2.1.2.1).bind fun y4=>
 some (((),y1.1.1,(),y4.1.1,()),((p0,p1,p2,p3,p4,p5,p6,p7,p8,()),(z0.Ready,z0.Serving,z0.Legacy,z0.Lost,z0.Floor,z0.Dir,z0.Load,z0.Shows_Up,z0.Shows_Down,z0.Stops_Car,z0.Stops_Hall_Up,z0.Stops_Hall_Down,()),()))
 else
 some (((),y1.1.1,(),false,()),((p0,p1,p2,p3,p4,p5,p6,p7,p8,()),(z0.Ready,z0.Serving,z0.Legacy,z0.Lost,z0.Floor,z0.Dir,z0.Load,z0.Shows_Up,z0.Shows_Down,z0.Stops_Car,z0.Stops_Hall_Up,z0.Stops_Hall_Down,()),()))
 else
 some (((),y1.1.1,(),false,()),((p0,p1,p2,p3,p4,p5,p6,p7,p8,()),(z0.Ready,z0.Serving,z0.Legacy,z0.Lost,z0.Floor,z0.Dir,z0.Load,z0.Shows_Up,z0.Shows_Down,z0.Stops_Car,z0.Stops_Hall_Up,z0.Stops_Hall_Down,()),()))) fun y5=>
 Option.bind (bif y5.1.2.2.2.1 then
 some ((y5.1.2.1,true,()),())
 else
 bif (!y5.2.2.1.2.2.1) then
 (nd2' y5.2.2.1.1 y5.2.2.1.2.1 y5.2.2.1.2.2.1 y5.2.2.1.2.2.2.1 y5.2.2.1.2.2.2.2.1 y5.2.2.1.2.2.2.2.2.1 y5.2.2.1.2.2.2.2.2.2.1 y5.2.2.1.2.2.2.2.2.2.2.1 y5.2.2.1.2.2.2.2.2.2.2.2.1 y5.2.2.1.2.2.2.2.2.2.2.2.2.1 y5.2.2.1.2.2.2.2.2.2.2.2.2.2.1 y5.2.2.1.2.2.2.2.2.2.2.2.2.2.2.1).bind fun y6=>
 bif y6.1.1 then
 bif (inB y5.1.2.1 (List.length y5.2.1.2.2.2.2.2.2.2.2.1)) then
 let z1:View:=(List.getD y5.2.1.2.2.2.2.2.2.2.2.1 (Int.toNat y5.1.2.1) (View.mk false false false false (0:Int) (0:Int) (0:Int) (0:Int) (0:Int) (0:Int) (0:Int) (0:Int)))
 (nd2' z1.Ready z1.Serving z1.Legacy z1.Lost z1.Floor z1.Dir z1.Load z1.Shows_Up z1.Shows_Down z1.Stops_Car z1.Stops_Hall_Up z1.Stops_Hall_Down).bind fun y7=>
 some ((y5.1.2.1,(!y7.1.1),()),())
 else
 none
 else
 some ((y5.1.2.1,false,()),())
 else
 some ((y5.1.2.1,false,()),())) fun y8=>
 bif y8.1.2.1 then
 some ((y8.1.1,()),())
 else
 some (((-1:Int),()),())
 else
 none
noncomputable def ndb' (p0 p1 p2 p3:Int) (p4 p5 p6:Nat) (p7:List (Car)) (p8:List (View)) (p9 p10 p11 p12:Int) (p13:Bool) (p14:Int):Option ((Unit×Unit)×(T'11×Unit)):=
 let z0:Int:=((List.length p7:Nat):Int)
 bif (p11==(-2:Int)) then
 some (((),()),((p9,p10,p11,p12,p13,()),()))
 else
 bif (p11==(-1:Int)) then
 (ndv' p0 p1 p2 p3 p4 p5 p6 p7 p8 p9 p10 (-1:Int)).bind fun y1=>
 some (((),()),((p9,p10,y1.1.1,p12,p13,()),()))
 else
 Option.bind (bif (inB p11 (List.length p8)) then
 bif (List.getD p8 (Int.toNat p11) (View.mk false false false false (0:Int) (0:Int) (0:Int) (0:Int) (0:Int) (0:Int) (0:Int) (0:Int))).Lost then
 some ((p14,(),(),(),z0,(decide (z0 < p12)),()),((p0,p1,p2,p3,p4,p5,p6,p7,p8,()),(p9,p10,p11,p12,p13,()),((0:Int),(0:Int),(0:Int),(0:Int),false,()),()))
 else
 some ((p14,(),(),(),z0,false,()),((p0,p1,p2,p3,p4,p5,p6,p7,p8,()),(p9,p10,p11,p12,p13,()),((0:Int),(0:Int),(0:Int),(0:Int),false,()),()))
 else
 none) fun y2=>
 bif y2.1.2.2.2.2.2.1 then
 some (((),()),((y2.2.2.1.1,y2.2.2.1.2.1,(-2:Int),y2.2.2.1.2.2.2.1,y2.2.2.1.2.2.2.2.1,()),()))
 else
 bif (inB y2.2.2.1.2.2.1 (List.length y2.2.1.2.2.2.2.2.2.2.2.1)) then
 bif (List.getD y2.2.1.2.2.2.2.2.2.2.2.1 (Int.toNat y2.2.2.1.2.2.1) (View.mk false false false false (0:Int) (0:Int) (0:Int) (0:Int) (0:Int) (0:Int) (0:Int) (0:Int))).Lost then
 (ndv' y2.2.1.1 y2.2.1.2.1 y2.2.1.2.2.1 y2.2.1.2.2.2.1 y2.2.1.2.2.2.2.1 y2.2.1.2.2.2.2.2.1 y2.2.1.2.2.2.2.2.2.1 y2.2.1.2.2.2.2.2.2.2.1 y2.2.1.2.2.2.2.2.2.2.2.1 y2.2.2.1.1 y2.2.2.1.2.1 y2.2.2.1.2.2.1).bind fun y3=>
 some (((),()),((y2.2.2.1.1,y2.2.2.1.2.1,y3.1.1,(IntKind.i64.wrap (y2.2.2.1.2.2.2.1 + (1:Int))),y2.2.2.1.2.2.2.2.1,()),()))
 else
 Option.bind (bif (!y2.2.2.1.2.2.2.2.1) then
 some ((y2.1.1,(),(),(),(decide (y2.2.2.1.2.2.2.1≤y2.1.2.2.2.2.1)),()),(y2.2.1,y2.2.2.1,y2.2.2.2.1,()))
 else
 some ((y2.1.1,(),(),(),false,()),(y2.2.1,y2.2.2.1,y2.2.2.2.1,()))) fun y4=>
 bif y4.1.2.2.2.2.1 then
 (ndn' y4.2.1.1 y4.2.1.2.1 y4.2.1.2.2.1 y4.2.1.2.2.2.1 y4.2.1.2.2.2.2.1 y4.2.1.2.2.2.2.2.1 y4.2.1.2.2.2.2.2.2.1 y4.2.1.2.2.2.2.2.2.2.1 y4.2.1.2.2.2.2.2.2.2.2.1 y4.2.2.1.1 y4.2.2.1.2.1 y4.2.2.1.2.2.1 y4.2.2.1.2.2.2.1 y4.2.2.1.2.2.2.2.1 y4.1.1).bind fun y5=>
 bif (y5.1.1 != (-1:Int)) then
 some (((),()),((y4.2.2.1.1,y4.2.2.1.2.1,y5.1.1,(IntKind.i64.wrap (y4.2.2.1.2.2.2.1 + (1:Int))),true,()),()))
 else
 some (((),()),(y4.2.2.1,()))
 else
 some (((),()),(y4.2.2.1,()))
 else
 none
noncomputable def nf1' (p0 p1 p2 p3:Int) (p4:Bool) (p5 p6 p7 p8:Int) (p9:Bool):Option ((List (Record)×Unit)×Unit):=
 Option.bind (Option.bind (bif (p3 != p8) then
 some (((),(),([]:List (Record)),true,()),((p0,p1,p2,p3,p4,()),(p5,p6,p7,p8,p9,()),()))
 else
 some (((),(),([]:List (Record)),(!(p4==p9)),()),((p0,p1,p2,p3,p4,()),(p5,p6,p7,p8,p9,()),()))) fun y1=>
 bif y1.1.2.2.2.1 then
 bif y1.2.2.1.2.2.2.2.1 then
 let z0:List (Record):=[(Record.mk (7:Int) y1.2.2.1.1 y1.2.2.1.2.1 (1:Int) y1.2.2.1.2.2.2.1)]
 bif (Nat.ble ((List.length y1.1.2.2.1) + (List.length z0)) 2147483648) then
 some (((),(),(y1.1.2.2.1++z0),()),(y1.2.1,y1.2.2.1,()))
 else
 none
 else
 let z1:List (Record):=[(Record.mk (7:Int) y1.2.2.1.1 y1.2.2.1.2.1 (0:Int) y1.2.2.1.2.2.2.1)]
 bif (Nat.ble ((List.length y1.1.2.2.1) + (List.length z1)) 2147483648) then
 some (((),(),(y1.1.2.2.1++z1),()),(y1.2.1,y1.2.2.1,()))
 else
 none
 else
 some (((),(),y1.1.2.2.1,()),(y1.2.1,y1.2.2.1,()))) fun y2=>
 bif (y2.2.1.2.2.1 != y2.2.2.1.2.2.1) then
 let z2:List (Record):=[(Record.mk (3:Int) y2.2.2.1.1 y2.2.2.1.2.1 y2.2.2.1.2.2.1 (0:Int))]
 bif (Nat.ble ((List.length y2.1.2.2.1) + (List.length z2)) 2147483648) then
 some (((y2.1.2.2.1++z2),()),())
 else
 none
 else
 some ((y2.1.2.2.1,()),())
noncomputable def ndt' (p0:List (Int)) (p1:List (View)) (l:List (Record)) (p2:List (Int)) (s48:List (Entry)) (s49 s50 p3 p4 p5 p6:Int) (p7 p8 p9:Nat) (p10:List (Car)) (p11 p12 p13 p14:Int) (p15 p16 p17:Nat) (p18:List (Car)) (p19:List (View)):Option (Sum (T'45×(T'0×T'46×Unit)) (T'47×Unit)):=
 bif (decide (s50 < s49)) then
 bif (inB s50 (List.length s48)) then
 let z0:Entry:=(List.getD s48 (Int.toNat s50) (Entry.mk (0:Int) (0:Int) (0:Int) (0:Int) false))
 bif (inB s50 (List.length p0)) then
 (ndb' p11 p12 p13 p14 p15 p16 p17 p18 p19 z0.Floor z0.Dir z0.Car z0.Moves z0.Moved (List.getD p0 (Int.toNat s50) (0:Int))).bind fun y1=>
 (nf1' z0.Floor z0.Dir z0.Car z0.Moves z0.Moved y1.2.1.1 y1.2.1.2.1 y1.2.1.2.2.1 y1.2.1.2.2.2.1 y1.2.1.2.2.2.2.1).bind fun y2=>
 bif (Nat.ble ((List.length l) + (List.length y2.1.1)) 2147483648) then
 let z1:List (Record):=(l++y2.1.1)
 bif (inB s50 (List.length p0)) then
 let z2:Int:=(IntKind.i64.wrap ((List.getD p0 (Int.toNat s50) (0:Int)) - (1:Int)))
 bif (inB s50 (List.length p2)) then
 let z3:List (Int):=(List.set p2 (Int.toNat s50) (bif (decide (z2 < (0:Int))) then (0:Int) else z2))
 Option.bind (bif (y1.2.1.2.2.1 != z0.Car) then
 some ((p0,p1,(),(),z1,z3,s50,(),(),s48,s49,s50,(decide ((0:Int)≤y1.2.1.2.2.1)),()),((p3,p4,p5,p6,p7,p8,p9,p10,()),(p11,p12,p13,p14,p15,p16,p17,p18,p19,()),(z0.Floor,z0.Dir,z0.Car,z0.Moves,z0.Moved,()),y1.2.1,()))
 else
 some ((p0,p1,(),(),z1,z3,s50,(),(),s48,s49,s50,false,()),((p3,p4,p5,p6,p7,p8,p9,p10,()),(p11,p12,p13,p14,p15,p16,p17,p18,p19,()),(z0.Floor,z0.Dir,z0.Car,z0.Moves,z0.Moved,()),y1.2.1,()))) fun y3=>
 bif y3.1.2.2.2.2.2.2.2.2.2.2.2.2.1 then
 bif (inB y3.2.2.2.2.1.2.2.1 (List.length y3.1.2.1)) then
 let z4:View:=(List.getD y3.1.2.1 (Int.toNat y3.2.2.2.2.1.2.2.1) (View.mk false false false false (0:Int) (0:Int) (0:Int) (0:Int) (0:Int) (0:Int) (0:Int) (0:Int)))
 (ncy' y3.2.1.1 y3.2.1.2.1 y3.2.1.2.2.1 y3.2.1.2.2.2.1 y3.2.1.2.2.2.2.1 y3.2.1.2.2.2.2.2.1 y3.2.1.2.2.2.2.2.2.1 y3.2.1.2.2.2.2.2.2.2.1 y3.2.2.2.2.1.2.2.1 z4.Ready z4.Serving z4.Legacy z4.Lost z4.Floor z4.Dir z4.Load z4.Shows_Up z4.Shows_Down z4.Stops_Car z4.Stops_Hall_Up z4.Stops_Hall_Down y3.2.2.2.1.1 y3.2.2.2.1.2.1).bind fun y4=>
 bif (inB y3.2.2.2.2.1.2.2.1 (List.length y3.2.1.2.2.2.2.2.2.2.1)) then
 let z5:Int:=(IntKind.i64.wrap (y4.1.1 + (List.getD y3.2.1.2.2.2.2.2.2.2.1 (Int.toNat y3.2.2.2.2.1.2.2.1) (Car.mk (0:Int) (0:Int) (0:Int) (0:Int) (0:Int) (0:Int) (0:Int) (0:Int) (0:Int))).Slack))
 bif (inB y3.1.2.2.2.2.2.2.1 (List.length y3.1.2.2.2.2.2.1)) then
 some (Sum.inl ((y3.1.1,y3.1.2.1,(),(),y3.1.2.2.2.2.1,(List.set y3.1.2.2.2.2.2.1 (Int.toNat y3.1.2.2.2.2.2.2.1) (bif (decide ((1000000:Int) < z5)) then (1000000:Int) else z5)),y3.1.2.2.2.2.2.2.2.2.2.1,y3.1.2.2.2.2.2.2.2.2.2.2.1,(IntKind.i64.wrap (y3.1.2.2.2.2.2.2.2.2.2.2.2.1 + (1:Int))),()),(y3.2.1,y3.2.2.1,())))
 else
 none
 else
 none
 else
 none
 else
 some (Sum.inl ((y3.1.1,y3.1.2.1,(),(),y3.1.2.2.2.2.1,y3.1.2.2.2.2.2.1,y3.1.2.2.2.2.2.2.2.2.2.1,y3.1.2.2.2.2.2.2.2.2.2.2.1,(IntKind.i64.wrap (y3.1.2.2.2.2.2.2.2.2.2.2.2.1 + (1:Int))),()),(y3.2.1,y3.2.2.1,())))
 else
 none
 else
 none
 else
 none
 else
 none
 else
 none
 else
 some (Sum.inr ((l,p2,()),()))
noncomputable def ngp':(T'45×(T'0×T'46×Unit))→Option (T'47×Unit):=iter (fun x=>ndt' x.1.1 x.1.2.1 x.1.2.2.2.2.1 x.1.2.2.2.2.2.1 x.1.2.2.2.2.2.2.1 x.1.2.2.2.2.2.2.2.1 x.1.2.2.2.2.2.2.2.2.1 x.2.1.1 x.2.1.2.1 x.2.1.2.2.1 x.2.1.2.2.2.1 x.2.1.2.2.2.2.1 x.2.1.2.2.2.2.2.1 x.2.1.2.2.2.2.2.2.1 x.2.1.2.2.2.2.2.2.2.1 x.2.2.1.1 x.2.2.1.2.1 x.2.2.1.2.2.1 x.2.2.1.2.2.2.1 x.2.2.1.2.2.2.2.1 x.2.2.1.2.2.2.2.2.1 x.2.2.1.2.2.2.2.2.2.1 x.2.2.1.2.2.2.2.2.2.2.1 x.2.2.1.2.2.2.2.2.2.2.2.1) fuel
noncomputable def nel' (p0 p1 p2 p3:Int) (p4 p5 p6:Nat) (p7:List (Car)) (p8:List (Int)) (p9 p10:List (Bool)) (p11:List (Entry)) (p12:List (Int)) (p13:List (View)):Option (T'44×Unit):=
 (nc8' p0 p1 p2 p3 p4 p5 p6 p7 p8 p9 p10 p11).bind fun y1=>
 bif (!y1.1.1) then
 some ((([]:List (Record)),([]:List (Int)),(1:Int),()),())
 else
 bif (((List.length p12:Nat):Int) != ((List.length p11:Nat):Int)) then
 some ((([]:List (Record)),([]:List (Int)),(1:Int),()),())
 else
 bif (((List.length p13:Nat):Int) != ((List.length p7:Nat):Int)) then
 some ((([]:List (Record)),([]:List (Int)),(1:Int),()),())
 else
 (nba' p12).bind fun y2=>
 bif y2.1.1 then
 some ((([]:List (Record)),([]:List (Int)),(1:Int),()),())
 else
 let z0:Int:=((List.length p12:Nat):Int)
 bif (((decide ((0:Int)≤z0))&&(decide (z0≤z0)))&&(decide (z0≤(2147483648:Int)))) then
 (ngp' ((p12,p13,(),(),([]:List (Record)),(List.replicate (Int.toNat z0) (0:Int)),p11,((List.length p11:Nat):Int),(0:Int),()),((p0,p1,p2,p3,p4,p5,p6,p7,()),(p0,p1,p2,p3,p4,p5,p6,p7,p13,()),()))).bind fun y3=>
 some ((y3.1.1,y3.1.2.1,(0:Int),()),())
 else
 none
noncomputable def nbw' (p0 p1 p2 p3:Int) (p4 p5 p6:Nat) (p7:List (Car)) (p8:List (Int)) (p9 p10:List (Bool)) (p11:List (Entry)) (p12:List (Int)) (p13:List (View)) (p14:List (Calls)) (p15 p16:Int) (p17:Bool):Option ((Unit×Int×Unit)×(T'48×Unit)):=
 (ngt' p0 p1 p2 p3 p4 p5 p6 p7 p13 p14).bind fun y1=>
 bif (y1.1.2.1 != (0:Int)) then
 some (((),(1:Int),()),((([]:List (Record)),([]:List (Int)),([]:List (Bool)),([]:List (Bool)),([]:List (Entry)),([]:List (Int)),([]:List (Calls)),([]:List (Bool)),(0:Int),(0:Int),(0:Int),(0:Int),()),()))
 else
 (nc8' p0 p1 p2 p3 p4 p5 p6 p7 p8 p9 p10 p11).bind fun y2=>
 bif (!y2.1.1) then
 some (((),(1:Int),()),((([]:List (Record)),([]:List (Int)),([]:List (Bool)),([]:List (Bool)),([]:List (Entry)),([]:List (Int)),([]:List (Calls)),([]:List (Bool)),(0:Int),(0:Int),(0:Int),(0:Int),()),()))
 else
 (neh' p8 p9 p10 p11 p12).bind fun y3=>
 bif (!y3.1.1) then
 some (((),(1:Int),()),((([]:List (Record)),([]:List (Int)),([]:List (Bool)),([]:List (Bool)),([]:List (Entry)),([]:List (Int)),([]:List (Calls)),([]:List (Bool)),(0:Int),(0:Int),(0:Int),(0:Int),()),()))
 else
 (nha' p8 p9 p10 p11).bind fun y4=>
 (nbs' p12).bind fun y5=>
 (nik' ((List.length p13:Nat):Int)).bind fun y6=>
 Option.bind (bif p17 then
 (ngr' p0 p1 p2 p3 p4 p5 p6 p7 p8 p9 p10 p11 p13).bind fun y7=>
 (n9' y7.1.1 [] y4.2.1.1 y4.2.1.2.1 y4.2.1.2.2.1 y4.2.1.2.2.2.1 y5.1.1 y1.2.1.1 y1.2.1.2.1 y1.2.1.2.2.1 y1.2.1.2.2.2.1 (0:Int) (0:Int) p0 p1 p2 p3 p4 p5 p6 p7).bind fun y8=>
 (nib' p8 p9 p10 p11).bind fun y9=>
 (nb1' p15 p16 y9.2.1.1 y9.2.1.2.1 y8.2.1.1 y8.2.1.2.1 y8.2.1.2.2.1 y8.2.1.2.2.2.1 y8.2.1.2.2.2.2.1 y8.2.1.2.2.2.2.2.1 y8.2.1.2.2.2.2.2.2.1 y8.2.1.2.2.2.2.2.2.2.1 y8.2.1.2.2.2.2.2.2.2.2.1 y8.2.1.2.2.2.2.2.2.2.2.2.1 y8.2.1.2.2.2.2.2.2.2.2.2.2.1 y8.2.1.2.2.2.2.2.2.2.2.2.2.2.1 y8.2.1.2.2.2.2.2.2.2.2.2.2.2.2.1 y8.2.1.2.2.2.2.2.2.2.2.2.2.2.2.2.1 y8.2.1.2.2.2.2.2.2.2.2.2.2.2.2.2.2.1 y8.2.1.2.2.2.2.2.2.2.2.2.2.2.2.2.2.2.1 y8.2.1.2.2.2.2.2.2.2.2.2.2.2.2.2.2.2.2.1 y8.2.1.2.2.2.2.2.2.2.2.2.2.2.2.2.2.2.2.2.1 y8.2.1.2.2.2.2.2.2.2.2.2.2.2.2.2.2.2.2.2.2.1 y8.2.1.2.2.2.2.2.2.2.2.2.2.2.2.2.2.2.2.2.2.2.1).bind fun y10=>
 some ((p13,(),(),(),()),((p0,p1,p2,p3,p4,p5,p6,p7,()),(([]:List (Record)),([]:List (Int)),([]:List (Bool)),([]:List (Bool)),([]:List (Entry)),([]:List (Int)),([]:List (Calls)),([]:List (Bool)),(0:Int),(0:Int),(0:Int),(0:Int),()),y10.2.1,()))
 else
 some ((p13,(),(),(),()),((p0,p1,p2,p3,p4,p5,p6,p7,()),(([]:List (Record)),([]:List (Int)),([]:List (Bool)),([]:List (Bool)),([]:List (Entry)),([]:List (Int)),([]:List (Calls)),([]:List (Bool)),(0:Int),(0:Int),(0:Int),(0:Int),()),(([]:List (Record)),y4.2.1.1,y4.2.1.2.1,y4.2.1.2.2.1,y4.2.1.2.2.2.1,y5.1.1,y6.2.1.1,y6.2.1.2.1,y6.2.1.2.2.1,y6.2.1.2.2.2.1,(0:Int),(0:Int),p0,p1,p2,p3,p4,p5,p6,p7,()),()))) fun y11=>
 (nel' y11.2.1.1 y11.2.1.2.1 y11.2.1.2.2.1 y11.2.1.2.2.2.1 y11.2.1.2.2.2.2.1 y11.2.1.2.2.2.2.2.1 y11.2.1.2.2.2.2.2.2.1 y11.2.1.2.2.2.2.2.2.2.1 y11.2.2.2.1.2.1 y11.2.2.2.1.2.2.1 y11.2.2.2.1.2.2.2.1 y11.2.2.2.1.2.2.2.2.1 y11.2.2.2.1.2.2.2.2.2.1 y11.1.1).bind fun y12=>
 (n9' y12.1.1 y11.2.2.2.1.1 y11.2.2.2.1.2.1 y11.2.2.2.1.2.2.1 y11.2.2.2.1.2.2.2.1 y11.2.2.2.1.2.2.2.2.1 y11.2.2.2.1.2.2.2.2.2.1 y11.2.2.2.1.2.2.2.2.2.2.1 y11.2.2.2.1.2.2.2.2.2.2.2.1 y11.2.2.2.1.2.2.2.2.2.2.2.2.1 y11.2.2.2.1.2.2.2.2.2.2.2.2.2.1 y11.2.2.2.1.2.2.2.2.2.2.2.2.2.2.1 y11.2.2.2.1.2.2.2.2.2.2.2.2.2.2.2.1 y11.2.2.2.1.2.2.2.2.2.2.2.2.2.2.2.2.1 y11.2.2.2.1.2.2.2.2.2.2.2.2.2.2.2.2.2.1 y11.2.2.2.1.2.2.2.2.2.2.2.2.2.2.2.2.2.2.1 y11.2.2.2.1.2.2.2.2.2.2.2.2.2.2.2.2.2.2.2.1 y11.2.2.2.1.2.2.2.2.2.2.2.2.2.2.2.2.2.2.2.2.1 y11.2.2.2.1.2.2.2.2.2.2.2.2.2.2.2.2.2.2.2.2.2.1 y11.2.2.2.1.2.2.2.2.2.2.2.2.2.2.2.2.2.2.2.2.2.2.1 y11.2.2.2.1.2.2.2.2.2.2.2.2.2.2.2.2.2.2.2.2.2.2.2.1).bind fun y13=>
 some (((),(0:Int),()),((y13.2.1.1,y13.2.1.2.1,y13.2.1.2.2.1,y13.2.1.2.2.2.1,y13.2.1.2.2.2.2.1,y12.1.2.1,y13.2.1.2.2.2.2.2.2.1,y13.2.1.2.2.2.2.2.2.2.1,y13.2.1.2.2.2.2.2.2.2.2.1,y13.2.1.2.2.2.2.2.2.2.2.2.1,y13.2.1.2.2.2.2.2.2.2.2.2.2.1,y13.2.1.2.2.2.2.2.2.2.2.2.2.2.1,()),()))
noncomputable def nfv' (s1 s2:List (Record)) (s12 s13:Int):Option (Sum (T'49×Unit) ((Unit×Unit) ⊕ ((Bool×Unit)×Unit))):=
 bif (decide (s13 < s12)) then
 bif (inB s13 (List.length s1)) then
 let z0:Record:=(List.getD s1 (Int.toNat s13) (Record.mk (0:Int) (0:Int) (0:Int) (0:Int) (0:Int)))
 bif (inB s13 (List.length s2)) then
 let z1:Record:=(List.getD s2 (Int.toNat s13) (Record.mk (0:Int) (0:Int) (0:Int) (0:Int) (0:Int)))
 bif (!((z0.Kind==z1.Kind)&&((z0.Floor==z1.Floor)&&((z0.Dir==z1.Dir)&&((z0.Car==z1.Car)&&((z0.Value==z1.Value)&&true)))))) then
 some (Sum.inr (Sum.inr ((false,()),())))
 else
 some (Sum.inl ((s1,s2,s12,(IntKind.i64.wrap (s13 + (1:Int))),()),()))
 else
 none
 else
 none
 else
 some (Sum.inr (Sum.inl ((),())))
noncomputable def nbx':(T'49×Unit)→Option ((Unit×Unit) ⊕ ((Bool×Unit)×Unit)):=iter (fun x=>nfv' x.1.1 x.1.2.1 x.1.2.2.1 x.1.2.2.2.1) fuel
noncomputable def nc9' (s1 s2:List (Record)):Option ((Bool×Unit)×Unit):=
 bif (((List.length s1:Nat):Int) != ((List.length s2:Nat):Int)) then
 some ((false,()),())
 else
 (nbx' ((s1,s2,((List.length s1:Nat):Int),(0:Int),()),())).bind fun y1=>
 (match y1 with
 | .inl y2=>
 some ((true,()),())
 | .inr y2=>
 some ((y2.1.1,()),()))
noncomputable def nja' (s1 s2:List (Int)) (s12 s13:Int):Option (Sum (T'50×Unit) ((Unit×Unit) ⊕ ((Bool×Unit)×Unit))):=
 bif (decide (s13 < s12)) then
 bif (inB s13 (List.length s1)) then
 bif (inB s13 (List.length s2)) then
 bif ((List.getD s1 (Int.toNat s13) (0:Int)) != (List.getD s2 (Int.toNat s13) (0:Int))) then
 some (Sum.inr (Sum.inr ((false,()),())))
 else
 some (Sum.inl ((s1,s2,s12,(IntKind.i64.wrap (s13 + (1:Int))),()),()))
 else
 none
 else
 none
 else
 some (Sum.inr (Sum.inl ((),())))
noncomputable def ndq':(T'50×Unit)→Option ((Unit×Unit) ⊕ ((Bool×Unit)×Unit)):=iter (fun x=>nja' x.1.1 x.1.2.1 x.1.2.2.1 x.1.2.2.2.1) fuel
noncomputable def nd6' (s1 s2:List (Int)):Option ((Bool×Unit)×Unit):=
 bif (((List.length s1:Nat):Int) != ((List.length s2:Nat):Int)) then
 some ((false,()),())
 else
 (ndq' ((s1,s2,((List.length s1:Nat):Int),(0:Int),()),())).bind fun y1=>
 (match y1 with
 | .inl y2=>
 some ((true,()),())
 | .inr y2=>
 some ((y2.1.1,()),()))
noncomputable def nim' (s1 s2:List (Bool)) (s12 s13:Int):Option (Sum (T'51×Unit) ((Unit×Unit) ⊕ ((Bool×Unit)×Unit))):=
 bif (decide (s13 < s12)) then
 bif (inB s13 (List.length s1)) then
 bif (inB s13 (List.length s2)) then
 bif (!((List.getD s1 (Int.toNat s13) false)==(List.getD s2 (Int.toNat s13) false))) then
 some (Sum.inr (Sum.inr ((false,()),())))
 else
 some (Sum.inl ((s1,s2,s12,(IntKind.i64.wrap (s13 + (1:Int))),()),()))
 else
 none
 else
 none
 else
 some (Sum.inr (Sum.inl ((),())))
noncomputable def nda':(T'51×Unit)→Option ((Unit×Unit) ⊕ ((Bool×Unit)×Unit)):=iter (fun x=>nim' x.1.1 x.1.2.1 x.1.2.2.1 x.1.2.2.2.1) fuel
noncomputable def nci' (s1 s2:List (Bool)):Option ((Bool×Unit)×Unit):=
 bif (((List.length s1:Nat):Int) != ((List.length s2:Nat):Int)) then
 some ((false,()),())
 else
 (nda' ((s1,s2,((List.length s1:Nat):Int),(0:Int),()),())).bind fun y1=>
 (match y1 with
 | .inl y2=>
 some ((true,()),())
 | .inr y2=>
 some ((y2.1.1,()),()))
noncomputable def nf7' (s1 s2:List (Entry)) (s12 s13:Int):Option (Sum (T'52×Unit) ((Unit×Unit) ⊕ ((Bool×Unit)×Unit))):=
 bif (decide (s13 < s12)) then
 bif (inB s13 (List.length s1)) then
 let z0:Entry:=(List.getD s1 (Int.toNat s13) (Entry.mk (0:Int) (0:Int) (0:Int) (0:Int) false))
 bif (inB s13 (List.length s2)) then
 let z1:Entry:=(List.getD s2 (Int.toNat s13) (Entry.mk (0:Int) (0:Int) (0:Int) (0:Int) false))
 bif (!((z0.Floor==z1.Floor)&&((z0.Dir==z1.Dir)&&((z0.Car==z1.Car)&&((z0.Moves==z1.Moves)&&((z0.Moved==z1.Moved)&&true)))))) then
 some (Sum.inr (Sum.inr ((false,()),())))
 else
 some (Sum.inl ((s1,s2,s12,(IntKind.i64.wrap (s13 + (1:Int))),()),()))
 else
 none
 else
 none
 else
 some (Sum.inr (Sum.inl ((),())))
noncomputable def nb3':(T'52×Unit)→Option ((Unit×Unit) ⊕ ((Bool×Unit)×Unit)):=iter (fun x=>nf7' x.1.1 x.1.2.1 x.1.2.2.1 x.1.2.2.2.1) fuel
noncomputable def ndk' (s1 s2:List (Entry)):Option ((Bool×Unit)×Unit):=
 bif (((List.length s1:Nat):Int) != ((List.length s2:Nat):Int)) then
 some ((false,()),())
 else
 (nb3' ((s1,s2,((List.length s1:Nat):Int),(0:Int),()),())).bind fun y1=>
 (match y1 with
 | .inl y2=>
 some ((true,()),())
 | .inr y2=>
 some ((y2.1.1,()),()))
noncomputable def nq1' (p0:List (Int)) (p1 p2:List (Bool)) (p3:List (Entry)) (p4:List (Int)) (p5 p6:List (Bool)) (p7:List (Entry)):Option ((Bool×Unit)×Unit):=
 Option.bind ((nd6' p0 p4).bind fun y1=>
 bif y1.1.1 then
 (nci' p1 p5).bind fun y2=>
 bif y2.1.1 then
 (nci' p2 p6).bind fun y3=>
 bif y3.1.1 then
 (ndk' p3 p7).bind fun y4=>
 some ((y4.1.1,()),())
 else
 some ((false,()),())
 else
 some ((false,()),())
 else
 some ((false,()),())) fun y5=>
 some ((y5.1.1,()),())
noncomputable def nf5' (s1 s2:List (Calls)) (s12 s13:Int):Option (Sum (T'53×Unit) ((Unit×Unit) ⊕ ((Bool×Unit)×Unit))):=
 bif (decide (s13 < s12)) then
 bif (inB s13 (List.length s1)) then
 let z0:Calls:=(List.getD s1 (Int.toNat s13) (Calls.mk (0:Int) (0:Int)))
 bif (inB s13 (List.length s2)) then
 let z1:Calls:=(List.getD s2 (Int.toNat s13) (Calls.mk (0:Int) (0:Int)))
 bif (!((z0.Up==z1.Up)&&((z0.Down==z1.Down)&&true))) then
 some (Sum.inr (Sum.inr ((false,()),())))
 else
 some (Sum.inl ((s1,s2,s12,(IntKind.i64.wrap (s13 + (1:Int))),()),()))
 else
 none
 else
 none
 else
 some (Sum.inr (Sum.inl ((),())))
noncomputable def nb2':(T'53×Unit)→Option ((Unit×Unit) ⊕ ((Bool×Unit)×Unit)):=iter (fun x=>nf5' x.1.1 x.1.2.1 x.1.2.2.1 x.1.2.2.2.1) fuel
noncomputable def ndl' (s1 s2:List (Calls)):Option ((Bool×Unit)×Unit):=
 bif (((List.length s1:Nat):Int) != ((List.length s2:Nat):Int)) then
 some ((false,()),())
 else
 (nb2' ((s1,s2,((List.length s1:Nat):Int),(0:Int),()),())).bind fun y1=>
 (match y1 with
 | .inl y2=>
 some ((true,()),())
 | .inr y2=>
 some ((y2.1.1,()),()))
noncomputable def nma' (p0:List (Calls)) (p1:List (Bool)) (p2 p3:Int) (p4:List (Calls)) (p5:List (Bool)) (p6 p7:Int):Option ((Bool×Unit)×Unit):=
 Option.bind ((ndl' p0 p4).bind fun y1=>
 bif y1.1.1 then
 (nci' p1 p5).bind fun y2=>
 bif y2.1.1 then
 some ((((p2==p6)&&((p3==p7)&&true)),()),())
 else
 some ((false,()),())
 else
 some ((false,()),())) fun y3=>
 some ((y3.1.1,()),())
noncomputable def ngs' (p0:List (Record)) (p1:List (Int)) (p2 p3:List (Bool)) (p4:List (Entry)) (p5:List (Int)) (p6:List (Calls)) (p7:List (Bool)) (p8 p9 p10 p11:Int) (p12:List (Record)) (p13:List (Int)) (p14 p15:List (Bool)) (p16:List (Entry)) (p17:List (Int)) (p18:List (Calls)) (p19:List (Bool)) (p20 p21 p22 p23:Int):Option ((Bool×Unit)×Unit):=
 Option.bind ((nc9' p0 p12).bind fun y1=>
 bif y1.1.1 then
 (nq1' p1 p2 p3 p4 p13 p14 p15 p16).bind fun y2=>
 bif y2.1.1 then
 (nd6' p5 p17).bind fun y3=>
 bif y3.1.1 then
 (nma' p6 p7 p8 p9 p18 p19 p20 p21).bind fun y4=>
 bif y4.1.1 then
 some ((((p10==p22)&&((p11==p23)&&true)),()),())
 else
 some ((false,()),())
 else
 some ((false,()),())
 else
 some ((false,()),())
 else
 some ((false,()),())) fun y5=>
 some ((y5.1.1,()),())
noncomputable def ng7' :Option ((Bool×Unit)×Unit):=
 (ncr' (9:Int) (90:Int)).bind fun y1=>
 let z0:List (View):=[(View.mk true true false false (0:Int) (0:Int) (0:Int) (0:Int) (0:Int) (0:Int) (0:Int) (0:Int)),(View.mk false false false false (0:Int) (0:Int) (0:Int) (0:Int) (0:Int) (0:Int) (0:Int) (0:Int))]
 (neq' y1.2.1.1 y1.2.1.2.1 y1.2.1.2.2.1 y1.2.1.2.2.2.1 y1.2.1.2.2.2.2.1 y1.2.1.2.2.2.2.2.1 y1.2.1.2.2.2.2.2.2.1 y1.2.1.2.2.2.2.2.2.2.1).bind fun y2=>
 (nbw' y1.2.1.1 y1.2.1.2.1 y1.2.1.2.2.1 y1.2.1.2.2.2.1 y1.2.1.2.2.2.2.1 y1.2.1.2.2.2.2.2.1 y1.2.1.2.2.2.2.2.2.1 y1.2.1.2.2.2.2.2.2.2.1 y2.2.1.1 y2.2.1.2.1 y2.2.1.2.2.1 y2.2.1.2.2.2.1 [] z0 (List.replicate (Int.toNat (2:Int)) (Calls.mk (0:Int) (0:Int))) (4:Int) (0:Int) true).bind fun y3=>
 bif (inB (0:Int) (List.length z0)) then
 let z1:Nat:=(Int.toNat (0:Int))
 let z2:View:=(List.getD z0 z1 (View.mk false false false false (0:Int) (0:Int) (0:Int) (0:Int) (0:Int) (0:Int) (0:Int) (0:Int)))
 (nbw' y1.2.1.1 y1.2.1.2.1 y1.2.1.2.2.1 y1.2.1.2.2.2.1 y1.2.1.2.2.2.2.1 y1.2.1.2.2.2.2.2.1 y1.2.1.2.2.2.2.2.2.1 y1.2.1.2.2.2.2.2.2.2.1 y3.2.1.2.1 y3.2.1.2.2.1 y3.2.1.2.2.2.1 y3.2.1.2.2.2.2.1 y3.2.1.2.2.2.2.2.1 (List.set z0 z1 (View.mk z2.Ready z2.Serving z2.Legacy z2.Lost z2.Floor z2.Dir z2.Load (4:Int) (0:Int) z2.Stops_Car z2.Stops_Hall_Up z2.Stops_Hall_Down)) (List.replicate (Int.toNat (2:Int)) (Calls.mk (0:Int) (0:Int))) (4:Int) (0:Int) true).bind fun y4=>
 Option.bind (bif (y3.1.2.1==(0:Int)) then
 bif (((List.length y3.2.1.1:Nat):Int)==(2:Int)) then
 bif (((List.length y3.2.1.2.2.2.2.1:Nat):Int)==(1:Int)) then
 bif (inB (0:Int) (List.length y3.2.1.2.2.2.2.1)) then
 let z3:Entry:=(List.getD y3.2.1.2.2.2.2.1 (Int.toNat (0:Int)) (Entry.mk (0:Int) (0:Int) (0:Int) (0:Int) false))
 bif ((z3.Floor==(2:Int))&&((z3.Dir==(1:Int))&&((z3.Car==(0:Int))&&((z3.Moves==(0:Int))&&((z3.Moved==false)&&true))))) then
 bif (y4.1.2.1==(0:Int)) then
 bif (((List.length y4.2.1.2.2.2.2.1:Nat):Int)==(0:Int)) then
 bif ((y4.2.1.2.2.2.2.2.2.2.2.1==(4:Int))&&((y4.2.1.2.2.2.2.2.2.2.2.2.1==(0:Int))&&true)) then
 (ngs' y4.2.1.1 y4.2.1.2.1 y4.2.1.2.2.1 y4.2.1.2.2.2.1 y4.2.1.2.2.2.2.1 y4.2.1.2.2.2.2.2.1 y4.2.1.2.2.2.2.2.2.1 y4.2.1.2.2.2.2.2.2.2.1 y4.2.1.2.2.2.2.2.2.2.2.1 y4.2.1.2.2.2.2.2.2.2.2.2.1 y4.2.1.2.2.2.2.2.2.2.2.2.2.1 y4.2.1.2.2.2.2.2.2.2.2.2.2.2.1 y4.2.1.1 y4.2.1.2.1 y4.2.1.2.2.1 y4.2.1.2.2.2.1 y4.2.1.2.2.2.2.1 y4.2.1.2.2.2.2.2.1 y4.2.1.2.2.2.2.2.2.1 y4.2.1.2.2.2.2.2.2.2.1 y4.2.1.2.2.2.2.2.2.2.2.1 y4.2.1.2.2.2.2.2.2.2.2.2.1 y4.2.1.2.2.2.2.2.2.2.2.2.2.1 y4.2.1.2.2.2.2.2.2.2.2.2.2.2.1).bind fun y5=>
 bif y5.1.1 then
 (ngs' y3.2.1.1 y3.2.1.2.1 y3.2.1.2.2.1 y3.2.1.2.2.2.1 y3.2.1.2.2.2.2.1 y3.2.1.2.2.2.2.2.1 y3.2.1.2.2.2.2.2.2.1 y3.2.1.2.2.2.2.2.2.2.1 y3.2.1.2.2.2.2.2.2.2.2.1 y3.2.1.2.2.2.2.2.2.2.2.2.1 y3.2.1.2.2.2.2.2.2.2.2.2.2.1 y3.2.1.2.2.2.2.2.2.2.2.2.2.2.1 y4.2.1.1 y4.2.1.2.1 y4.2.1.2.2.1 y4.2.1.2.2.2.1 y4.2.1.2.2.2.2.1 y4.2.1.2.2.2.2.2.1 y4.2.1.2.2.2.2.2.2.1 y4.2.1.2.2.2.2.2.2.2.1 y4.2.1.2.2.2.2.2.2.2.2.1 y4.2.1.2.2.2.2.2.2.2.2.2.1 y4.2.1.2.2.2.2.2.2.2.2.2.2.1 y4.2.1.2.2.2.2.2.2.2.2.2.2.2.1).bind fun y6=>
 some (((!y6.1.1),()),())
 else
 some ((false,()),())
 else
 some ((false,()),())
 else
 some ((false,()),())
 else
 some ((false,()),())
 else
 some ((false,()),())
 else
 none
 else
 some ((false,()),())
 else
 some ((false,()),())
 else
 some ((false,()),())) fun y7=>
 some ((y7.1.1,()),())
 else
 none
noncomputable def nck' (i:Int) (p0:List (Record)) (p1:List (Int)) (p2 p3:List (Bool)) (p4:List (Entry)) (p5:List (Int)) (p6:List (Calls)) (p7:List (Bool)) (p8 p9 p10 p11:Int):Option (Sum ((Unit×Int×Unit)×(T'48×Unit)) ((Unit×Unit) ⊕ ((Bool×Unit)×Unit))):=
 bif (decide (i < ((List.length p0:Nat):Int))) then
 bif (inB i (List.length p0)) then
 let z0:Record:=(List.getD p0 (Int.toNat i) (Record.mk (0:Int) (0:Int) (0:Int) (0:Int) (0:Int)))
 Option.bind (bif (z0.Kind != (3:Int)) then
 some (((),i,(z0.Kind != (7:Int)),()),((p0,p1,p2,p3,p4,p5,p6,p7,p8,p9,p10,p11,()),()))
 else
 some (((),i,false,()),((p0,p1,p2,p3,p4,p5,p6,p7,p8,p9,p10,p11,()),()))) fun y1=>
 bif y1.1.2.2.1 then
 some (Sum.inr (Sum.inr ((false,()),())))
 else
 some (Sum.inl (((),(IntKind.i64.wrap (y1.1.2.1 + (1:Int))),()),(y1.2.1,())))
 else
 none
 else
 some (Sum.inr (Sum.inl ((),())))
noncomputable def ndc':((Unit×Int×Unit)×(T'48×Unit))→Option ((Unit×Unit) ⊕ ((Bool×Unit)×Unit)):=iter (fun x=>nck' x.1.2.1 x.2.1.1 x.2.1.2.1 x.2.1.2.2.1 x.2.1.2.2.2.1 x.2.1.2.2.2.2.1 x.2.1.2.2.2.2.2.1 x.2.1.2.2.2.2.2.2.1 x.2.1.2.2.2.2.2.2.2.1 x.2.1.2.2.2.2.2.2.2.2.1 x.2.1.2.2.2.2.2.2.2.2.2.1 x.2.1.2.2.2.2.2.2.2.2.2.2.1 x.2.1.2.2.2.2.2.2.2.2.2.2.2.1) fuel
noncomputable def ncj' (i p0 p1 p2 p3:Int) (p4 p5 p6:Nat) (p7:List (Car)) (p8:List (Record)) (p9:List (Int)) (p10 p11:List (Bool)) (p12:List (Entry)) (p13:List (Int)) (p14:List (Calls)) (p15:List (Bool)) (p16 p17 p18 p19:Int):Option (Sum (T'8×(T'0×T'48×Unit)) (((Unit×Unit)×(T'48×Unit)) ⊕ ((Bool×Unit)×Unit))):=
 bif (decide (i < ((List.length p7:Nat):Int))) then
 bif (inB i (List.length p14)) then
 let z0:Calls:=(List.getD p14 (Int.toNat i) (Calls.mk (0:Int) (0:Int)))
 bif (!((z0.Up==(0:Int))&&((z0.Down==(0:Int))&&true))) then
 some (Sum.inr (Sum.inr ((false,()),())))
 else
 bif (inB i (List.length p15)) then
 bif (List.getD p15 (Int.toNat i) false) then
 some (Sum.inr (Sum.inr ((false,()),())))
 else
 some (Sum.inl (((),(),(IntKind.i64.wrap (i + (1:Int))),()),((p0,p1,p2,p3,p4,p5,p6,p7,()),(p8,p9,p10,p11,p12,p13,p14,p15,p16,p17,p18,p19,()),())))
 else
 none
 else
 none
 else
 some (Sum.inr (Sum.inl (((),()),((p8,p9,p10,p11,p12,p13,p14,p15,p16,p17,p18,p19,()),()))))
noncomputable def nde':(T'8×(T'0×T'48×Unit))→Option (((Unit×Unit)×(T'48×Unit)) ⊕ ((Bool×Unit)×Unit)):=iter (fun x=>ncj' x.1.2.2.1 x.2.1.1 x.2.1.2.1 x.2.1.2.2.1 x.2.1.2.2.2.1 x.2.1.2.2.2.2.1 x.2.1.2.2.2.2.2.1 x.2.1.2.2.2.2.2.2.1 x.2.1.2.2.2.2.2.2.2.1 x.2.2.1.1 x.2.2.1.2.1 x.2.2.1.2.2.1 x.2.2.1.2.2.2.1 x.2.2.1.2.2.2.2.1 x.2.2.1.2.2.2.2.2.1 x.2.2.1.2.2.2.2.2.2.1 x.2.2.1.2.2.2.2.2.2.2.1 x.2.2.1.2.2.2.2.2.2.2.2.1 x.2.2.1.2.2.2.2.2.2.2.2.2.1 x.2.2.1.2.2.2.2.2.2.2.2.2.2.1 x.2.2.1.2.2.2.2.2.2.2.2.2.2.2.1) fuel
noncomputable def F_l24_DispatchBad (p0 p1:Int) (c_L c_K:List (Int)) (p2 p3:Int):Option ((Bool×Unit)×Unit):=
 (ncr' p0 p1).bind fun y1=>
 (ngd' y1.2.1.1 y1.2.1.2.1 y1.2.1.2.2.1 y1.2.1.2.2.2.1 y1.2.1.2.2.2.2.1 y1.2.1.2.2.2.2.2.1 y1.2.1.2.2.2.2.2.2.1 y1.2.1.2.2.2.2.2.2.2.1 c_L).bind fun y2=>
 (nes' y2.2.1.1 y2.2.1.2.1 y2.2.1.2.2.1 y2.2.1.2.2.2.1 c_K).bind fun y3=>
 (ngf' y1.2.1.1 y1.2.1.2.1 y1.2.1.2.2.1 y1.2.1.2.2.2.1 y1.2.1.2.2.2.2.1 y1.2.1.2.2.2.2.2.1 y1.2.1.2.2.2.2.2.2.1 y1.2.1.2.2.2.2.2.2.2.1 c_K).bind fun y4=>
 let z0:Int:=((List.length y1.2.1.2.2.2.2.2.2.2.1:Nat):Int)
 bif (((decide ((0:Int)≤z0))&&(decide (z0≤z0)))&&(decide (z0≤(2147483648:Int)))) then
 (nbw' y1.2.1.1 y1.2.1.2.1 y1.2.1.2.2.1 y1.2.1.2.2.2.1 y1.2.1.2.2.2.2.1 y1.2.1.2.2.2.2.2.1 y1.2.1.2.2.2.2.2.2.1 y1.2.1.2.2.2.2.2.2.2.1 y2.2.1.1 y2.2.1.2.1 y2.2.1.2.2.1 y2.2.1.2.2.2.1 y3.1.1 y4.1.1 (List.replicate (Int.toNat z0) (Calls.mk (0:Int) (0:Int))) p2 p3 false).bind fun y5=>
 bif (y5.1.2.1 != (0:Int)) then
 some ((false,()),())
 else
 bif (!((y5.2.1.2.2.2.2.2.2.2.2.2.2.1==(0:Int))&&((y5.2.1.2.2.2.2.2.2.2.2.2.2.2.1==(0:Int))&&true))) then
 some ((false,()),())
 else
 bif (!((y5.2.1.2.2.2.2.2.2.2.2.1==(0:Int))&&((y5.2.1.2.2.2.2.2.2.2.2.2.1==(0:Int))&&true))) then
 some ((false,()),())
 else
 bif (((List.length y5.2.1.2.2.2.2.2.2.1:Nat):Int) != ((List.length y1.2.1.2.2.2.2.2.2.2.1:Nat):Int)) then
 some ((false,()),())
 else
 bif (((List.length y5.2.1.2.2.2.2.2.2.2.1:Nat):Int) != ((List.length y1.2.1.2.2.2.2.2.2.2.1:Nat):Int)) then
 some ((false,()),())
 else
 (nde' (((),(),(0:Int),()),(y1.2.1,y5.2.1,()))).bind fun y6=>
 (match y6 with
 | .inl y7=>
 (ndc' (((),(0:Int),()),(y7.2.1,()))).bind fun y8=>
 (match y8 with
 | .inl y9=>
 (ng7').bind fun y10=>
 some ((y10.1.1,()),())
 | .inr y9=>
 some ((y9.1.1,()),()))
 | .inr y7=>
 some ((y7.1.1,()),()))
 else
 none
noncomputable def nuu' (f p0 p1 p2 p3:Int) (p4 p5 p6:Nat) (p7:List (Car)) (p8 p9 p10 p11:Int):Option (Sum (T'54×T'55) ((Unit×Unit×Unit)×T'39)):=
 bif (decide (f < (32:Int))) then
 Option.bind ((nec' p0 p1 p2 p3 p4 p5 p6 p7 f (1:Int)).bind fun y1=>
 bif y1.1.1 then
 let z0:Int:=(IntKind.u64.wrap f)
 bif (decide ((0:Int)≤z0)) then
 let z1:Int:=(IntKind.u32.wrap ((1:Int) * ((2:Int) ^ (Min.min (Int.toNat z0) (IntKind.bits IntKind.u32)))))
 some (((),(),(),f,()),((p0,p1,p2,p3,p4,p5,p6,p7,()),(p8,p9,()),((IntKind.u32.wrap (stk p10 z1 (BitVec.toNat ((BitVec.ofInt (IntKind.bits IntKind.u32) p10) ||| (BitVec.ofInt (IntKind.bits IntKind.u32) z1))))),p11,()),()))
 else
 none
 else
 some (((),(),(),f,()),((p0,p1,p2,p3,p4,p5,p6,p7,()),(p8,p9,()),(p10,p11,()),()))) fun y2=>
 (nec' y2.2.1.1 y2.2.1.2.1 y2.2.1.2.2.1 y2.2.1.2.2.2.1 y2.2.1.2.2.2.2.1 y2.2.1.2.2.2.2.2.1 y2.2.1.2.2.2.2.2.2.1 y2.2.1.2.2.2.2.2.2.2.1 y2.1.2.2.2.1 (2:Int)).bind fun y3=>
 bif y3.1.1 then
 let z2:Int:=(IntKind.u64.wrap y2.1.2.2.2.1)
 bif (decide ((0:Int)≤z2)) then
 let z3:Int:=(IntKind.u32.wrap ((1:Int) * ((2:Int) ^ (Min.min (Int.toNat z2) (IntKind.bits IntKind.u32)))))
 some (Sum.inl (((),(),(),(IntKind.i64.wrap (y2.1.2.2.2.1 + (1:Int))),()),(y2.2.1,y2.2.2.1,(y2.2.2.2.1.1,(IntKind.u32.wrap (stk y2.2.2.2.1.2.1 z3 (BitVec.toNat ((BitVec.ofInt (IntKind.bits IntKind.u32) y2.2.2.2.1.2.1) ||| (BitVec.ofInt (IntKind.bits IntKind.u32) z3))))),()),())))
 else
 none
 else
 some (Sum.inl (((),(),(),(IntKind.i64.wrap (y2.1.2.2.2.1 + (1:Int))),()),(y2.2.1,y2.2.2.1,y2.2.2.2.1,())))
 else
 some (Sum.inr (((),(),()),((p8,p9,()),(p10,p11,()),())))
noncomputable def nk8':(T'54×T'55)→Option ((Unit×Unit×Unit)×T'39):=iter (fun x=>nuu' x.1.2.2.2.1 x.2.1.1 x.2.1.2.1 x.2.1.2.2.1 x.2.1.2.2.2.1 x.2.1.2.2.2.2.1 x.2.1.2.2.2.2.2.1 x.2.1.2.2.2.2.2.2.1 x.2.1.2.2.2.2.2.2.2.1 x.2.2.1.1 x.2.2.1.2.1 x.2.2.2.1.1 x.2.2.2.1.2.1) fuel
noncomputable def nqc' (p0 p1 p2 p3:Int) (p4 p5 p6:Nat) (p7:List (Car)):Option ((Unit×Unit)×T'19):=
 (nk8' (((),(),(),(0:Int),()),((p0,p1,p2,p3,p4,p5,p6,p7,()),((0:Int),(0:Int),()),((0:Int),(0:Int),()),()))).bind fun y1=>
 some (((),()),(y1.2.2.1,()))
noncomputable def nq2' (p0 p1 p2 p3:Int):Option ((Unit×Unit)×T'19):=
 some (((),()),(((IntKind.u32.wrap (stk p0 p2 (BitVec.toNat ((BitVec.ofInt (IntKind.bits IntKind.u32) p0) &&& (BitVec.ofInt (IntKind.bits IntKind.u32) p2))))),(IntKind.u32.wrap (stk p1 p3 (BitVec.toNat ((BitVec.ofInt (IntKind.bits IntKind.u32) p1) &&& (BitVec.ofInt (IntKind.bits IntKind.u32) p3))))),()),()))
noncomputable def noc' (p0 p1 p2 dir:Int):Option ((Bool×Unit)×Unit):=
 bif (decide (p2 < (0:Int))) then
 some ((false,()),())
 else
 bif (decide ((31:Int) < p2)) then
 some ((false,()),())
 else
 Option.bind (bif (dir==(1:Int)) then
 let z0:Int:=(IntKind.u64.wrap p2)
 bif (decide ((0:Int)≤z0)) then
 let z1:Int:=(Int.fdiv p0 ((2:Int) ^ (Min.min (Int.toNat z0) (IntKind.bits IntKind.u32))))
 bif ((IntKind.u32.wrap (stk z1 (1:Int) (BitVec.toNat ((BitVec.ofInt (IntKind.bits IntKind.u32) z1) &&& (BitVec.ofInt (IntKind.bits IntKind.u32) (1:Int))))))==(1:Int)) then
 some ((true,()),())
 else
 bif (dir==(2:Int)) then
 let z2:Int:=(IntKind.u64.wrap p2)
 bif (decide ((0:Int)≤z2)) then
 let z3:Int:=(Int.fdiv p1 ((2:Int) ^ (Min.min (Int.toNat z2) (IntKind.bits IntKind.u32))))
 some ((((IntKind.u32.wrap (stk z3 (1:Int) (BitVec.toNat ((BitVec.ofInt (IntKind.bits IntKind.u32) z3) &&& (BitVec.ofInt (IntKind.bits IntKind.u32) (1:Int))))))==(1:Int)),()),())
 else
 none
 else
 some ((false,()),())
 else
 none
 else
 bif (dir==(2:Int)) then
 let z4:Int:=(IntKind.u64.wrap p2)
 bif (decide ((0:Int)≤z4)) then
 let z5:Int:=(Int.fdiv p1 ((2:Int) ^ (Min.min (Int.toNat z4) (IntKind.bits IntKind.u32))))
 some ((((IntKind.u32.wrap (stk z5 (1:Int) (BitVec.toNat ((BitVec.ofInt (IntKind.bits IntKind.u32) z5) &&& (BitVec.ofInt (IntKind.bits IntKind.u32) (1:Int))))))==(1:Int)),()),())
 else
 none
 else
 some ((false,()),())) fun y1=>
 some ((y1.1.1,()),())
end Go.Ovl
