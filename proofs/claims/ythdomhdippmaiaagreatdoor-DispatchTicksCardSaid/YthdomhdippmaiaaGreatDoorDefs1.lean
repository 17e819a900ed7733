/- What each function of the program comes to: part 1. -/
import Derived.Test.YthdomhdippmaiaaGreatDoorTy
namespace Go.Ovl
open Go Go.Ab
set_option maxRecDepth 100000
@[reducible] def T'0:Type:=(Int×Int×Int×Int×Nat×Nat×Nat×List (Car)×Unit)
@[reducible] def T'1:Type:=(Int×Int×Unit×Unit×Int×Unit)
@[reducible] def T'2:Type:=(Unit×Unit×List (Int)×Int×Unit)
@[reducible] def T'3:Type:=(Int×Int×Int×Int×Int×Int×Int×Int×Int×Unit)
@[reducible] def T'4:Type:=(Unit×Bool×Int×Unit)
@[reducible] def T'5:Type:=(List (Int)×List (Bool)×List (Bool)×List (Entry)×Unit)
@[reducible] def T'6:Type:=(List (Int)×Int×List (Record)×Int×Int×Int×Unit)
@[reducible] def T'7:Type:=(Unit×Unit×Int×Int×Unit)
@[reducible] def T'8:Type:=(Unit×Unit×Int×Unit)
@[reducible] def T'9:Type:=(Int×Int×Unit×Int×Unit)
@[reducible] def T'10:Type:=(List (Entry)×Unit×List (Entry)×Bool×Int×Unit)
@[reducible] def T'11:Type:=(Int×Int×Int×Int×Bool×Unit)
@[reducible] def T'12:Type:=(Unit×List (Entry)×Bool×Unit)
@[reducible] def T'13:Type:=(Unit×Unit×Unit×List (Record)×Int×Unit)
@[reducible] def T'14:Type:=(List (Int)×Unit×List (View)×Int×Unit)
@[reducible] def T'15:Type:=(List (Int)×Unit×List (View)×Int×Unit×Int×Unit)
@[reducible] def T'16:Type:=(Int×Int×Int×Int×Unit)
@[reducible] def T'17:Type:=(List (Int)×Unit×List (View)×Int×Unit×Unit)
@[reducible] def T'18:Type:=((Int×Int×Unit)×Unit)
@[reducible] def T'19:Type:=(List (Int)×List (Int)×Int×Unit)
@[reducible] def T'20:Type:=(Int×Int×List (Int)×Int×Int×Unit)
@[reducible] def T'21:Type:=(Unit×Bool×List (Car)×Int×Int×Unit)
@[reducible] def T'22:Type:=(List (Calls)×List (Bool)×Int×Int×Unit)
@[reducible] def T'23:Type:=(List (Calls)×Unit×Unit×Unit×List (View)×Int×Int×Unit)
@[reducible] def T'24:Type:=(T'0×T'22×T'22×Unit)
@[reducible] def T'25:Type:=(Int×List (Int)×Int×Int×Unit)
@[reducible] def T'26:Type:=(Unit×Unit×List (Int)×Int×Int×Unit)
@[reducible] def T'27:Type:=(Unit×Unit×List (Entry)×Int×Int×Unit)
@[reducible] def T'28:Type:=(List (Int)×Unit×Int×Int×Unit)
@[reducible] def T'29:Type:=(Unit×Unit×Unit×List (View)×Int×Int×Unit)
@[reducible] def T'30:Type:=(T'0×T'5×(Int×Int×Unit)×Unit)
@[reducible] def T'31:Type:=(T'5×(Int×Int×Unit)×Unit)
@[reducible] def T'32:Type:=(Unit×List (Record)×List (Entry)×Int×Int×Unit)
@[reducible] def T'33:Type:=((Int×Unit)×(Int×Unit)×Unit)
@[reducible] def T'34:Type:=(List (Entry)×Unit×Int×Int×Unit)
@[reducible] def T'35:Type:=(List (Entry)×Unit×Unit×Int×Int×Int×Unit)
@[reducible] def T'36:Type:=(List (Entry)×Unit×Unit×Int×Int×Unit)
@[reducible] def T'37:Type:=(List (Record)×List (Int)×List (Bool)×List (Bool)×List (Entry)×List (Int)×List (Calls)×List (Bool)×Int×Int×Int×Int×Int×Int×Int×Int×Nat×Nat×Nat×List (Car)×Unit)
@[reducible] def T'38:Type:=(Unit×List (Record)×Int×Int×Unit)
@[reducible] def T'39:Type:=((Int×Int×Unit)×(Int×Int×Unit)×Unit)
@[reducible] def T'40:Type:=(Unit×List (Entry)×Int×Int×Unit)
@[reducible] def T'41:Type:=((Int×Int×Int×Unit)×Unit)
@[reducible] def T'42:Type:=(List (View)×Int×Int×Int×Unit×Int×Unit×List (View)×Int×Int×Unit)
@[reducible] def T'43:Type:=(T'0×(Int×Int×Unit)×Unit)
@[reducible] def T'44:Type:=(List (Record)×List (Int)×Int×Unit)
@[reducible] def T'45:Type:=(List (Int)×List (View)×Unit×Unit×List (Record)×List (Int)×List (Entry)×Int×Int×Unit)
@[reducible] def T'46:Type:=(Int×Int×Int×Int×Nat×Nat×Nat×List (Car)×List (View)×Unit)
@[reducible] def T'47:Type:=(List (Record)×List (Int)×Unit)
@[reducible] def T'48:Type:=(List (Record)×List (Int)×List (Bool)×List (Bool)×List (Entry)×List (Int)×List (Calls)×List (Bool)×Int×Int×Int×Int×Unit)
@[reducible] def T'49:Type:=(List (Int)×Unit×Int×Unit)
@[reducible] def T'50:Type:=(List (Int)×Unit×Unit)
@[reducible] def T'51:Type:=(Unit×Unit×Unit×Int×Unit)
@[reducible] def T'52:Type:=(T'0×(Int×Int×Unit)×(Int×Int×Unit)×Unit)
@[reducible] def T'53:Type:=(List (View)×List (Calls)×Unit×Unit×Unit×Int×Unit)
@[reducible] def T'54:Type:=(List (View)×Unit×Unit×List (Record)×Int×Unit)
@[reducible] def T'55:Type:=(List (View)×Unit×Unit×List (Record)×Int×Unit×Int×Unit)
@[reducible] def T'56:Type:=(List (Record)×Unit×Unit×Unit×Int×Unit)
@[reducible] def T'57:Type:=(List (Int)×Unit×Unit×List (Int)×Int×Unit)
@[reducible] def T'58:Type:=(Unit×List (Entry)×Int×Unit)
@[reducible] def T'59:Type:=(Int×Int×Int×Int×Int×Unit×Int×Int×Int×Unit)
@[reducible] def T'60:Type:=(Int×Int×Int×Int×Int×Int×Unit)
@[reducible] def T'61:Type:=(Int×Unit×Int×Int×Unit)
@[reducible] def T'62:Type:=(Int×Unit×Int×Int×Int×Unit)
@[reducible] def T'63:Type:=(List (View)×Int×Int×Int×Unit×Int×Int×Unit)
@[reducible] def T'64:Type:=(List (Int)×List (View)×Unit×Unit×List (Record)×List (Int)×Int×Unit)
@[reducible] def T'65:Type:=(List (View)×Unit×Unit×Unit×Unit×List (Entry)×Int×Unit)
@[reducible] def T'66:Type:=(T'0×T'5×T'48×T'48×Unit)
@[reducible] def T'67:Type:=(List (View)×Unit×Unit×Unit×Unit)
@[reducible] def T'68:Type:=(T'0×T'48×T'48×Unit)
@[reducible] def T'69:Type:=(List (Record)×List (Record)×Int×Unit)
@[reducible] def T'70:Type:=(List (Record)×List (Record)×Int×Int×Unit)
@[reducible] def T'71:Type:=(List (Int)×List (Int)×Int×Int×Unit)
@[reducible] def T'72:Type:=(List (Bool)×List (Bool)×Int×Int×Unit)
@[reducible] def T'73:Type:=(List (Entry)×List (Entry)×Int×Int×Unit)
@[reducible] def T'74:Type:=(List (Calls)×List (Calls)×Int×Int×Unit)
@[reducible] def T'75:Type:=(List (Int)×Unit×Unit×Unit×List (View)×List (Calls)×Int×Unit)
@[reducible] def T'76:Type:=((Int×Int×Unit)×T'0×T'5×Unit)
@[reducible] def T'77:Type:=(List (Int)×Unit×Unit×Unit×List (View)×List (Calls)×Unit)
@[reducible] def T'78:Type:=(Unit×Unit×Unit×List (Record)×Int×Int×Unit)
@[reducible] def T'79:Type:=(List (Entry)×Unit×Unit×Int×Unit)
@[reducible] def T'80:Type:=(T'0×T'5×List (Int)×List (View)×List (Calls)×(Int×Int×Unit)×Bool×Unit)
noncomputable def ne0' (p0 p1 i p2 p3 p4 p5:Int) (p6 p7 p8:Nat) (p9:List (Car)) (p10 p11 p12 p13:Int) (p14 p15 p16:Nat) (p17:List (Car)):Option (Sum (T'1×(T'0×T'0×Unit)) ((Unit×Unit×Unit)×(T'0×T'0×Unit))):=
 bif (decide (i < p1)) then
 bif (p0 != (0:Int)) then
 let z0:List (Car):=[(Car.mk (100:Int) (2:Int) (6:Int) (5:Int) (4:Int) (2:Int) (3:Int) (10:Int) (Int.tmod i p0))]
 bif (Nat.ble ((List.length p17) + (List.length z0)) 2147483648) then
 some (Sum.inl ((p0,p1,(),(),(IntKind.i64.wrap (i + (1:Int))),()),((p2,p3,p4,p5,p6,p7,p8,p9,()),(p10,p11,p12,p13,p14,p15,p16,(p17++z0),()),())))
 else
 none
 else
 none
 else
 some (Sum.inr (((),(),()),((p2,p3,p4,p5,p6,p7,p8,p9,()),(p10,p11,p12,p13,p14,p15,p16,p17,()),())))
noncomputable def nga':(T'1×(T'0×T'0×Unit))→Option ((Unit×Unit×Unit)×(T'0×T'0×Unit)):=iter (fun x=>ne0' x.1.1 x.1.2.1 x.1.2.2.2.2.1 x.2.1.1 x.2.1.2.1 x.2.1.2.2.1 x.2.1.2.2.2.1 x.2.1.2.2.2.2.1 x.2.1.2.2.2.2.2.1 x.2.1.2.2.2.2.2.2.1 x.2.1.2.2.2.2.2.2.2.1 x.2.2.1.1 x.2.2.1.2.1 x.2.2.1.2.2.1 x.2.2.1.2.2.2.1 x.2.2.1.2.2.2.2.1 x.2.2.1.2.2.2.2.2.1 x.2.2.1.2.2.2.2.2.2.1 x.2.2.1.2.2.2.2.2.2.2.1) fuel
noncomputable def nki' (p0 p1:Int):Option ((Unit×Unit)×(T'0×Unit)):=
 (nga' ((p0,p1,(),(),(0:Int),()),(((0:Int),(0:Int),(0:Int),(0:Int),0,0,0,([]:List (Car)),()),(p0,(1:Int),(4000:Int),(30:Int),4591870180066957722,4605380978949069210,4607632778762754458,([]:List (Car)),()),()))).bind fun y1=>
 some (((),()),(y1.2.2.1,()))
noncomputable def ndc' (n p0:Int):Option ((Unit×Unit)×(T'0×Unit)):=
 (nki' (IntKind.i64.wrap ((2:Int) + (IntKind.i64.wrap (Int.tmod n (7:Int))))) (IntKind.i64.wrap ((1:Int) + (IntKind.i64.wrap (Int.tmod (IntKind.u8.wrap (Int.tdiv n (7:Int))) (3:Int)))))).bind fun y1=>
 some (((),()),((y1.2.1.1,y1.2.1.2.1,(IntKind.i64.wrap ((IntKind.i64.wrap ((IntKind.i64.wrap ((18:Int) * ((List.length y1.2.1.2.2.2.2.2.2.2.1:Nat):Int))) + (24:Int))) + (IntKind.i64.wrap p0))),y1.2.1.2.2.2.1,y1.2.1.2.2.2.2.1,y1.2.1.2.2.2.2.2.1,y1.2.1.2.2.2.2.2.2.1,y1.2.1.2.2.2.2.2.2.2.1,()),()))
noncomputable def nd2' (n lo hi:Int):Option ((Bool×Unit)×Unit):=
 Option.bind (bif (decide (lo≤n)) then
 some (((decide (n≤hi)),()),())
 else
 some ((false,()),())) fun y1=>
 some ((y1.1.1,()),())
noncomputable def ndu' (l:List (Int)) (i p0 p1 p2 p3:Int) (p4 p5 p6:Nat) (p7:List (Car)) (p8 p9 p10 p11 p12 p13 p14 p15 p16:Int):Option (Sum (T'2×(T'0×T'3×Unit)) (((Unit×Unit×Unit)×(T'0×T'3×Unit)) ⊕ ((Bool×Unit)×Unit))):=
 bif (decide (i < (7:Int))) then
 bif (inB i (List.length l)) then
 (nd2' (List.getD l (Int.toNat i) (0:Int)) (1:Int) (10000:Int)).bind fun y1=>
 bif (!y1.1.1) then
 some (Sum.inr (Sum.inr ((false,()),())))
 else
 some (Sum.inl (((),(),l,(IntKind.i64.wrap (i + (1:Int))),()),((p0,p1,p2,p3,p4,p5,p6,p7,()),(p8,p9,p10,p11,p12,p13,p14,p15,p16,()),())))
 else
 none
 else
 some (Sum.inr (Sum.inl (((),(),()),((p0,p1,p2,p3,p4,p5,p6,p7,()),(p8,p9,p10,p11,p12,p13,p14,p15,p16,()),()))))
noncomputable def ni9':(T'2×(T'0×T'3×Unit))→Option (((Unit×Unit×Unit)×(T'0×T'3×Unit)) ⊕ ((Bool×Unit)×Unit)):=iter (fun x=>ndu' x.1.2.2.1 x.1.2.2.2.1 x.2.1.1 x.2.1.2.1 x.2.1.2.2.1 x.2.1.2.2.2.1 x.2.1.2.2.2.2.1 x.2.1.2.2.2.2.2.1 x.2.1.2.2.2.2.2.2.1 x.2.1.2.2.2.2.2.2.2.1 x.2.2.1.1 x.2.2.1.2.1 x.2.2.1.2.2.1 x.2.2.1.2.2.2.1 x.2.2.1.2.2.2.2.1 x.2.2.1.2.2.2.2.2.1 x.2.2.1.2.2.2.2.2.2.1 x.2.2.1.2.2.2.2.2.2.2.1 x.2.2.1.2.2.2.2.2.2.2.2.1) fuel
noncomputable def nlk' (p0 p1 p2 p3:Int) (p4 p5 p6:Nat) (p7:List (Car)) (p8 p9 p10 p11 p12 p13 p14 p15 p16:Int):Option ((Bool×Unit)×Unit):=
 bif (decide (p11 < (0:Int))) then
 some ((false,()),())
 else
 bif (decide ((10000:Int) < p11)) then
 some ((false,()),())
 else
 (ni9' (((),(),[p8,p9,p10,p12,p13,p14,p15,(IntKind.i64.wrap (p11 + (1:Int)))],(0:Int),()),((p0,p1,p2,p3,p4,p5,p6,p7,()),(p8,p9,p10,p11,p12,p13,p14,p15,p16,()),()))).bind fun y1=>
 (match y1 with
 | .inl y2=>
 Option.bind (bif (decide (y2.2.2.1.2.2.2.2.2.2.1≤y2.2.2.1.2.2.2.2.2.2.2.1)) then
 (nd2' y2.2.2.1.2.2.2.2.2.2.2.2.1 (0:Int) (IntKind.i64.wrap (y2.2.1.1 - (1:Int)))).bind fun y3=>
 some ((y3.1.1,()),())
 else
 some ((false,()),())) fun y4=>
 some ((y4.1.1,()),())
 | .inr y2=>
 some ((y2.1.1,()),()))
noncomputable def nfb' (ok:Bool) (i p0 p1 p2 p3:Int) (p4 p5 p6:Nat) (p7:List (Car)):Option (Sum (T'4×(T'0×Unit)) ((Unit×Bool×Unit)×(T'0×Unit))):=
 bif (decide (i < ((List.length p7:Nat):Int))) then
 Option.bind (bif ok then
 bif (inB i (List.length p7)) then
 let z0:Car:=(List.getD p7 (Int.toNat i) (Car.mk (0:Int) (0:Int) (0:Int) (0:Int) (0:Int) (0:Int) (0:Int) (0:Int) (0:Int)))
 (nlk' p0 p1 p2 p3 p4 p5 p6 p7 z0.Deadline z0.Pulse z0.Quiet z0.Slack z0.Step z0.Travel z0.Dwell z0.Hold z0.Home).bind fun y1=>
 some (((),y1.1.1,i,()),((p0,p1,p2,p3,p4,p5,p6,p7,()),()))
 else
 none
 else
 some (((),false,i,()),((p0,p1,p2,p3,p4,p5,p6,p7,()),()))) fun y2=>
 some (Sum.inl (((),y2.1.2.1,(IntKind.i64.wrap (y2.1.2.2.1 + (1:Int))),()),(y2.2.1,())))
 else
 some (Sum.inr (((),ok,()),((p0,p1,p2,p3,p4,p5,p6,p7,()),())))
noncomputable def njb':(T'4×(T'0×Unit))→Option ((Unit×Bool×Unit)×(T'0×Unit)):=iter (fun x=>nfb' x.1.2.1 x.1.2.2.1 x.2.1.1 x.2.1.2.1 x.2.1.2.2.1 x.2.1.2.2.2.1 x.2.1.2.2.2.2.1 x.2.1.2.2.2.2.2.1 x.2.1.2.2.2.2.2.2.1 x.2.1.2.2.2.2.2.2.2.1) fuel
noncomputable def ndh' (p0 p1 p2 p3:Int) (p4 p5 p6:Nat) (p7:List (Car)):Option ((Int×Unit)×Unit):=
 (nd2' p0 (2:Int) (32:Int)).bind fun y1=>
 bif (!y1.1.1) then
 some (((10:Int),()),())
 else
 (nd2' ((List.length p7:Nat):Int) (1:Int) (8:Int)).bind fun y2=>
 bif (!y2.1.1) then
 some (((11:Int),()),())
 else
 Option.bind ((nd2' p1 (1:Int) (16:Int)).bind fun y3=>
 bif y3.1.1 then
 (nd2' p3 (1:Int) (10000:Int)).bind fun y4=>
 some (((),y4.1.1,()),((p0,p1,p2,p3,p4,p5,p6,p7,()),()))
 else
 some (((),false,()),((p0,p1,p2,p3,p4,p5,p6,p7,()),()))) fun y5=>
 (njb' (((),y5.1.2.1,(0:Int),()),(y5.2.1,()))).bind fun y6=>
 bif (!y6.1.2.1) then
 some (((12:Int),()),())
 else
 bif (((FloatKind.format FloatKind.f64).order 0 y6.2.1.2.2.2.2.1)==some Ordering.lt) then
 bif (((FloatKind.format FloatKind.f64).order y6.2.1.2.2.2.2.1 y6.2.1.2.2.2.2.2.1)==some Ordering.lt) then
 bif (((FloatKind.format FloatKind.f64).order y6.2.1.2.2.2.2.2.1 y6.2.1.2.2.2.2.2.2.1)==some Ordering.lt) then
 bif (!(((FloatKind.format FloatKind.f64).order y6.2.1.2.2.2.2.2.2.1 9218868437227405311)==some Ordering.lt||((FloatKind.format FloatKind.f64).order y6.2.1.2.2.2.2.2.2.1 9218868437227405311)==some Ordering.eq)) then
 some (((13:Int),()),())
 else
 (nd2' y6.2.1.2.2.1 (IntKind.i64.wrap ((IntKind.i64.wrap ((18:Int) * ((List.length y6.2.1.2.2.2.2.2.2.2.1:Nat):Int))) + (24:Int))) (65536:Int)).bind fun y7=>
 bif (!y7.1.1) then
 some (((14:Int),()),())
 else
 some (((0:Int),()),())
 else
 some (((13:Int),()),())
 else
 some (((13:Int),()),())
 else
 some (((13:Int),()),())
noncomputable def nfa' (p0 p1 p2 p3:Int) (p4 p5 p6:Nat) (p7:List (Car)):Option ((Unit×Unit)×(T'5×Unit)):=
 (ndh' p0 p1 p2 p3 p4 p5 p6 p7).bind fun y1=>
 bif (y1.1.1 != (0:Int)) then
 some (((),()),((([]:List (Int)),([]:List (Bool)),([]:List (Bool)),([]:List (Entry)),()),()))
 else
 let z0:Int:=((List.length p7:Nat):Int)
 bif (((decide ((0:Int)≤z0))&&(decide (z0≤z0)))&&(decide (z0≤(2147483648:Int)))) then
 bif (((decide ((0:Int)≤z0))&&(decide (z0≤z0)))&&(decide (z0≤(2147483648:Int)))) then
 bif (((decide ((0:Int)≤z0))&&(decide (z0≤z0)))&&(decide (z0≤(2147483648:Int)))) then
 some (((),()),(((List.replicate (Int.toNat z0) (0:Int)),(List.replicate (Int.toNat z0) false),(List.replicate (Int.toNat z0) false),([]:List (Entry)),()),()))
 else
 none
 else
 none
 else
 none
noncomputable def ndo' (l:List (Int)) (p0:Int) (out:List (Record)) (f c i:Int):Option (Sum (T'6×Unit) ((List (Record)×Unit)×Unit)):=
 bif (decide ((IntKind.i64.wrap (i + (1:Int))) < ((List.length l:Nat):Int))) then
 bif (decide (((List.length out:Nat):Int) < p0)) then
 bif (inB i (List.length l)) then
 let z0:Int:=(IntKind.i64.wrap (List.getD l (Int.toNat i) (0:Int)))
 let z1:Int:=(IntKind.i64.wrap (i + (1:Int)))
 bif (inB z1 (List.length l)) then
 let z2:Int:=(IntKind.i64.wrap (List.getD l (Int.toNat z1) (0:Int)))
 let z3:Int:=(IntKind.i64.wrap ((1:Int) + (Int.tmod z0 (7:Int))))
 Option.bind (bif (z3==(4:Int)) then
 bif (c != (0:Int)) then
 some ((l,p0,out,f,c,i,z0,(),()),((z3,(0:Int),(0:Int),(Int.tmod (IntKind.i64.wrap (Int.tdiv z0 (7:Int))) c),(Int.tmod z2 (5:Int)),()),()))
 else
 none
 else
 bif (z3==(5:Int)) then
 bif (c != (0:Int)) then
 some ((l,p0,out,f,c,i,z0,(),()),((z3,(0:Int),(0:Int),(Int.tmod (IntKind.i64.wrap (Int.tdiv z0 (7:Int))) c),(Int.tmod z2 (2:Int)),()),()))
 else
 none
 else
 bif (z3==(6:Int)) then
 bif (c != (0:Int)) then
 some ((l,p0,out,f,c,i,z0,(),()),((z3,(0:Int),(0:Int),(Int.tmod (IntKind.i64.wrap (Int.tdiv z0 (7:Int))) c),(Int.tmod z2 (2:Int)),()),()))
 else
 none
 else
 let z4:Int:=(IntKind.i64.wrap ((1:Int) + (Int.tmod z2 (2:Int))))
 let z5:Int:=(IntKind.i64.wrap (f - (1:Int)))
 bif (z5 != (0:Int)) then
 let z6:Int:=(Int.tmod (IntKind.i64.wrap (Int.tdiv z2 (2:Int))) z5)
 bif (z4==(2:Int)) then
 some ((l,p0,out,f,c,i,z0,(),()),((z3,(IntKind.i64.wrap (z6 + (1:Int))),z4,(0:Int),(0:Int),()),()))
 else
 some ((l,p0,out,f,c,i,z0,(),()),((z3,z6,z4,(0:Int),(0:Int),()),()))
 else
 none) fun y1=>
 Option.bind (bif (y1.2.1.1==(3:Int)) then
 let z7:Int:=(IntKind.i64.wrap (y1.1.2.2.2.2.1 + (2:Int)))
 bif (z7 != (0:Int)) then
 some ((y1.1.1,y1.1.2.1,y1.1.2.2.1,y1.1.2.2.2.1,y1.1.2.2.2.2.1,y1.1.2.2.2.2.2.1,y1.1.2.2.2.2.2.2.1,(),()),((y1.2.1.1,y1.2.1.2.1,y1.2.1.2.2.1,(IntKind.i64.wrap ((Int.tmod (IntKind.i64.wrap (Int.tdiv y1.1.2.2.2.2.2.2.1 (7:Int))) z7) - (2:Int))),y1.2.1.2.2.2.2.1,()),()))
 else
 none
 else
 some ((y1.1.1,y1.1.2.1,y1.1.2.2.1,y1.1.2.2.2.1,y1.1.2.2.2.2.1,y1.1.2.2.2.2.2.1,y1.1.2.2.2.2.2.2.1,(),()),(y1.2.1,()))) fun y2=>
 bif (y2.2.1.1==(7:Int)) then
 let z8:List (Record):=[(Record.mk y2.2.1.1 y2.2.1.2.1 y2.2.1.2.2.1 (Int.tmod (IntKind.i64.wrap (Int.tdiv y2.1.2.2.2.2.2.2.1 (7:Int))) (2:Int)) (IntKind.i64.wrap (Int.tdiv y2.1.2.2.2.2.2.2.1 (14:Int))))]
 bif (Nat.ble ((List.length y2.1.2.2.1) + (List.length z8)) 2147483648) then
 some (Sum.inl ((y2.1.1,y2.1.2.1,(y2.1.2.2.1++z8),y2.1.2.2.2.1,y2.1.2.2.2.2.1,(IntKind.i64.wrap (y2.1.2.2.2.2.2.1 + (2:Int))),()),()))
 else
 none
 else
 let z9:List (Record):=[(Record.mk y2.2.1.1 y2.2.1.2.1 y2.2.1.2.2.1 y2.2.1.2.2.2.1 y2.2.1.2.2.2.2.1)]
 bif (Nat.ble ((List.length y2.1.2.2.1) + (List.length z9)) 2147483648) then
 some (Sum.inl ((y2.1.1,y2.1.2.1,(y2.1.2.2.1++z9),y2.1.2.2.2.1,y2.1.2.2.2.2.1,(IntKind.i64.wrap (y2.1.2.2.2.2.2.1 + (2:Int))),()),()))
 else
 none
 else
 none
 else
 none
 else
 some (Sum.inr ((out,()),()))
 else
 some (Sum.inr ((out,()),()))
noncomputable def nhx':(T'6×Unit)→Option ((List (Record)×Unit)×Unit):=iter (fun x=>ndo' x.1.1 x.1.2.1 x.1.2.2.1 x.1.2.2.2.1 x.1.2.2.2.2.1 x.1.2.2.2.2.2.1) fuel
noncomputable def njd' (p0 p1 p2 p3:Int) (p4 p5 p6:Nat) (p7:List (Car)) (l:List (Int)) (p8:Int):Option ((List (Record)×Unit)×Unit):=
 (nhx' ((l,p8,([]:List (Record)),p0,((List.length p7:Nat):Int),(0:Int),()),())).bind fun y1=>
 some ((y1.1.1,()),())
noncomputable def ne4' (p0 p1 p2 p3:Int) (p4 p5 p6:Nat) (p7:List (Car)) (p8 dir:Int):Option ((Bool×Unit)×Unit):=
 (ndh' p0 p1 p2 p3 p4 p5 p6 p7).bind fun y1=>
 bif (y1.1.1 != (0:Int)) then
 some ((false,()),())
 else
 Option.bind (bif (dir==(1:Int)) then
 (nd2' p8 (0:Int) (IntKind.i64.wrap (p0 - (2:Int)))).bind fun y2=>
 bif y2.1.1 then
 some ((true,()),())
 else
 bif (dir==(2:Int)) then
 (nd2' p8 (1:Int) (IntKind.i64.wrap (p0 - (1:Int)))).bind fun y3=>
 some ((y3.1.1,()),())
 else
 some ((false,()),())
 else
 bif (dir==(2:Int)) then
 (nd2' p8 (1:Int) (IntKind.i64.wrap (p0 - (1:Int)))).bind fun y4=>
 some ((y4.1.1,()),())
 else
 some ((false,()),())) fun y5=>
 some ((y5.1.1,()),())
noncomputable def nj3' (p0 p1 p2 p3:Int) (p4:Bool) (p5 p6 p7 p8:Int) (p9:Bool):Option ((Bool×Unit)×Unit):=
 Option.bind (bif (decide (p0 < p5)) then
 some ((true,()),())
 else
 bif (p0==p5) then
 some (((decide (p1 < p6)),()),())
 else
 some ((false,()),())) fun y1=>
 some ((y1.1.1,()),())
noncomputable def ndm' (n i p0 p1 p2 p3:Int) (p4 p5 p6:Nat) (p7:List (Car)) (p8:List (Int)) (p9 p10:List (Bool)) (p11:List (Entry)):Option (Sum (T'7×(T'0×T'5×Unit)) ((Unit×Unit) ⊕ ((Bool×Unit)×Unit))):=
 bif (decide (i < ((List.length p11:Nat):Int))) then
 bif (inB i (List.length p11)) then
 let z0:Entry:=(List.getD p11 (Int.toNat i) (Entry.mk (0:Int) (0:Int) (0:Int) (0:Int) false))
 Option.bind ((ne4' p0 p1 p2 p3 p4 p5 p6 p7 z0.Floor z0.Dir).bind fun y1=>
 bif (!y1.1.1) then
 some (((),(),n,i,true,()),((p0,p1,p2,p3,p4,p5,p6,p7,()),(p8,p9,p10,p11,()),()))
 else
 bif (decide (z0.Car < (-2:Int))) then
 some (((),(),n,i,true,()),((p0,p1,p2,p3,p4,p5,p6,p7,()),(p8,p9,p10,p11,()),()))
 else
 bif (decide (n≤z0.Car)) then
 some (((),(),n,i,true,()),((p0,p1,p2,p3,p4,p5,p6,p7,()),(p8,p9,p10,p11,()),()))
 else
 bif (decide (z0.Moves < (0:Int))) then
 some (((),(),n,i,true,()),((p0,p1,p2,p3,p4,p5,p6,p7,()),(p8,p9,p10,p11,()),()))
 else
 bif (decide ((255:Int) < z0.Moves)) then
 some (((),(),n,i,true,()),((p0,p1,p2,p3,p4,p5,p6,p7,()),(p8,p9,p10,p11,()),()))
 else
 bif (decide ((0:Int) < i)) then
 let z1:Int:=(IntKind.i64.wrap (i - (1:Int)))
 bif (inB z1 (List.length p11)) then
 let z2:Entry:=(List.getD p11 (Int.toNat z1) (Entry.mk (0:Int) (0:Int) (0:Int) (0:Int) false))
 (nj3' z2.Floor z2.Dir z2.Car z2.Moves z2.Moved z0.Floor z0.Dir z0.Car z0.Moves z0.Moved).bind fun y2=>
 some (((),(),n,i,(!y2.1.1),()),((p0,p1,p2,p3,p4,p5,p6,p7,()),(p8,p9,p10,p11,()),()))
 else
 none
 else
 some (((),(),n,i,false,()),((p0,p1,p2,p3,p4,p5,p6,p7,()),(p8,p9,p10,p11,()),()))) fun y3=>
 bif y3.1.2.2.2.2.1 then
 some (Sum.inr (Sum.inr ((false,()),())))
 else
 some (Sum.inl (((),(),y3.1.2.2.1,(IntKind.i64.wrap (y3.1.2.2.2.1 + (1:Int))),()),(y3.2.1,y3.2.2.1,())))
 else
 none
 else
 some (Sum.inr (Sum.inl ((),())))
noncomputable def nh0':(T'7×(T'0×T'5×Unit))→Option ((Unit×Unit) ⊕ ((Bool×Unit)×Unit)):=iter (fun x=>ndm' x.1.2.2.1 x.1.2.2.2.1 x.2.1.1 x.2.1.2.1 x.2.1.2.2.1 x.2.1.2.2.2.1 x.2.1.2.2.2.2.1 x.2.1.2.2.2.2.2.1 x.2.1.2.2.2.2.2.2.1 x.2.1.2.2.2.2.2.2.2.1 x.2.2.1.1 x.2.2.1.2.1 x.2.2.1.2.2.1 x.2.2.1.2.2.2.1) fuel
noncomputable def nej' (n i p0 p1 p2 p3:Int) (p4 p5 p6:Nat) (p7:List (Car)) (p8:List (Int)) (p9 p10:List (Bool)) (p11:List (Entry)):Option (Sum (T'7×(T'0×T'5×Unit)) ((T'8×(T'0×T'5×Unit)) ⊕ ((Bool×Unit)×Unit))):=
 bif (decide (i < n)) then
 bif (inB i (List.length p8)) then
 bif (decide ((List.getD p8 (Int.toNat i) (0:Int)) < (0:Int))) then
 some (Sum.inr (Sum.inr ((false,()),())))
 else
 bif (inB i (List.length p8)) then
 bif (decide ((4:Int) < (List.getD p8 (Int.toNat i) (0:Int)))) then
 some (Sum.inr (Sum.inr ((false,()),())))
 else
 some (Sum.inl (((),(),n,(IntKind.i64.wrap (i + (1:Int))),()),((p0,p1,p2,p3,p4,p5,p6,p7,()),(p8,p9,p10,p11,()),())))
 else
 none
 else
 none
 else
 some (Sum.inr (Sum.inl (((),(),n,()),((p0,p1,p2,p3,p4,p5,p6,p7,()),(p8,p9,p10,p11,()),()))))
noncomputable def nhu':(T'7×(T'0×T'5×Unit))→Option ((T'8×(T'0×T'5×Unit)) ⊕ ((Bool×Unit)×Unit)):=iter (fun x=>nej' x.1.2.2.1 x.1.2.2.2.1 x.2.1.1 x.2.1.2.1 x.2.1.2.2.1 x.2.1.2.2.2.1 x.2.1.2.2.2.2.1 x.2.1.2.2.2.2.2.1 x.2.1.2.2.2.2.2.2.1 x.2.1.2.2.2.2.2.2.2.1 x.2.2.1.1 x.2.2.1.2.1 x.2.2.1.2.2.1 x.2.2.1.2.2.2.1) fuel
noncomputable def ndv' (p0 p1 p2 p3:Int) (p4 p5 p6:Nat) (p7:List (Car)) (p8:List (Int)) (p9 p10:List (Bool)) (p11:List (Entry)):Option ((Bool×Unit)×Unit):=
 let z0:Int:=((List.length p7:Nat):Int)
 (ndh' p0 p1 p2 p3 p4 p5 p6 p7).bind fun y1=>
 bif (y1.1.1 != (0:Int)) then
 some ((false,()),())
 else
 bif (((List.length p8:Nat):Int) != z0) then
 some ((false,()),())
 else
 bif (((List.length p9:Nat):Int) != z0) then
 some ((false,()),())
 else
 bif (((List.length p10:Nat):Int) != z0) then
 some ((false,()),())
 else
 (nhu' (((),(),z0,(0:Int),()),((p0,p1,p2,p3,p4,p5,p6,p7,()),(p8,p9,p10,p11,()),()))).bind fun y2=>
 (match y2 with
 | .inl y3=>
 (nh0' (((),(),y3.1.2.2.1,(0:Int),()),(y3.2.1,y3.2.2.1,()))).bind fun y4=>
 (match y4 with
 | .inl y5=>
 some ((true,()),())
 | .inr y5=>
 some ((y5.1.1,()),()))
 | .inr y3=>
 some ((y3.1.1,()),()))
noncomputable def nf1' (n lo hi:Int):Option ((Bool×Unit)×Unit):=
 Option.bind (bif (decide (lo≤n)) then
 some (((decide (n≤hi)),()),())
 else
 some ((false,()),())) fun y1=>
 some ((y1.1.1,()),())
noncomputable def nlt' (p0 p1 p2 p3:Int) (p4 p5 p6:Nat) (p7:List (Car)) (p8 p9 p10 p11 p12:Int):Option ((Bool×Unit)×Unit):=
 (ndh' p0 p1 p2 p3 p4 p5 p6 p7).bind fun y1=>
 bif (y1.1.1 != (0:Int)) then
 some ((false,()),())
 else
 (ne4' p0 p1 p2 p3 p4 p5 p6 p7 p9 p10).bind fun y2=>
 Option.bind ((nf1' p11 (0:Int) (IntKind.i64.wrap (((List.length p7:Nat):Int) - (1:Int)))).bind fun y3=>
 bif y3.1.1 then
 bif (p9==(0:Int)) then
 some (((),(),y2.1.1,(p10==(0:Int)),()),((p0,p1,p2,p3,p4,p5,p6,p7,()),(p8,p9,p10,p11,p12,()),()))
 else
 some (((),(),y2.1.1,false,()),((p0,p1,p2,p3,p4,p5,p6,p7,()),(p8,p9,p10,p11,p12,()),()))
 else
 some (((),(),y2.1.1,false,()),((p0,p1,p2,p3,p4,p5,p6,p7,()),(p8,p9,p10,p11,p12,()),()))) fun y4=>
 bif (y4.2.2.1.1==(1:Int)) then
 Option.bind (bif y4.1.2.2.1 then
 bif (y4.2.2.1.2.2.2.1==(0:Int)) then
 some (((y4.2.2.1.2.2.2.2.1==(0:Int)),()),())
 else
 some ((false,()),())
 else
 some ((false,()),())) fun y5=>
 some ((y5.1.1,()),())
 else
 bif (y4.2.2.1.1==(2:Int)) then
 Option.bind (bif y4.1.2.2.1 then
 bif (y4.2.2.1.2.2.2.1==(0:Int)) then
 some (((y4.2.2.1.2.2.2.2.1==(0:Int)),()),())
 else
 some ((false,()),())
 else
 some ((false,()),())) fun y6=>
 some ((y6.1.1,()),())
 else
 bif (y4.2.2.1.1==(3:Int)) then
 Option.bind (bif y4.1.2.2.1 then
 (nf1' y4.2.2.1.2.2.2.1 (-2:Int) (IntKind.i64.wrap (((List.length y4.2.1.2.2.2.2.2.2.2.1:Nat):Int) - (1:Int)))).bind fun y7=>
 bif y7.1.1 then
 some (((y4.2.2.1.2.2.2.2.1==(0:Int)),()),())
 else
 some ((false,()),())
 else
 some ((false,()),())) fun y8=>
 some ((y8.1.1,()),())
 else
 bif (y4.2.2.1.1==(4:Int)) then
 Option.bind (bif y4.1.2.2.2.1 then
 (nf1' y4.2.2.1.2.2.2.2.1 (0:Int) (4:Int)).bind fun y9=>
 some ((y9.1.1,()),())
 else
 some ((false,()),())) fun y10=>
 some ((y10.1.1,()),())
 else
 bif (y4.2.2.1.1==(5:Int)) then
 Option.bind (bif y4.1.2.2.2.1 then
 (nf1' y4.2.2.1.2.2.2.2.1 (0:Int) (1:Int)).bind fun y11=>
 some ((y11.1.1,()),())
 else
 some ((false,()),())) fun y12=>
 some ((y12.1.1,()),())
 else
 bif (y4.2.2.1.1==(6:Int)) then
 Option.bind (bif y4.1.2.2.2.1 then
 (nf1' y4.2.2.1.2.2.2.2.1 (0:Int) (1:Int)).bind fun y13=>
 some ((y13.1.1,()),())
 else
 some ((false,()),())) fun y14=>
 some ((y14.1.1,()),())
 else
 bif (y4.2.2.1.1==(7:Int)) then
 Option.bind (bif y4.1.2.2.1 then
 (nf1' y4.2.2.1.2.2.2.1 (0:Int) (1:Int)).bind fun y15=>
 bif y15.1.1 then
 (nf1' y4.2.2.1.2.2.2.2.1 (0:Int) (255:Int)).bind fun y16=>
 some ((y16.1.1,()),())
 else
 some ((false,()),())
 else
 some ((false,()),())) fun y17=>
 some ((y17.1.1,()),())
 else
 some ((false,()),())
noncomputable def ng0' (p0 dir i:Int) (p1:List (Int)) (p2 p3:List (Bool)) (p4:List (Entry)):Option (Sum (T'9×(T'5×Unit)) ((Unit×Unit) ⊕ ((Int×Unit)×Unit))):=
 bif (decide (i < ((List.length p4:Nat):Int))) then
 Option.bind (bif (inB i (List.length p4)) then
 bif ((List.getD p4 (Int.toNat i) (Entry.mk (0:Int) (0:Int) (0:Int) (0:Int) false)).Floor==p0) then
 bif (inB i (List.length p4)) then
 some ((p0,dir,(),i,((List.getD p4 (Int.toNat i) (Entry.mk (0:Int) (0:Int) (0:Int) (0:Int) false)).Dir==dir),()),((p1,p2,p3,p4,()),()))
 else
 none
 else
 some ((p0,dir,(),i,false,()),((p1,p2,p3,p4,()),()))
 else
 none) fun y1=>
 bif y1.1.2.2.2.2.1 then
 some (Sum.inr (Sum.inr ((y1.1.2.2.2.1,()),())))
 else
 some (Sum.inl ((y1.1.1,y1.1.2.1,(),(IntKind.i64.wrap (y1.1.2.2.2.1 + (1:Int))),()),(y1.2.1,())))
 else
 some (Sum.inr (Sum.inl ((),())))
noncomputable def nkl':(T'9×(T'5×Unit))→Option ((Unit×Unit) ⊕ ((Int×Unit)×Unit)):=iter (fun x=>ng0' x.1.1 x.1.2.1 x.1.2.2.2.1 x.2.1.1 x.2.1.2.1 x.2.1.2.2.1 x.2.1.2.2.2.1) fuel
noncomputable def nil' (p0:List (Int)) (p1 p2:List (Bool)) (p3:List (Entry)) (p4 dir:Int):Option ((Int×Unit)×Unit):=
 (nkl' ((p4,dir,(),(0:Int),()),((p0,p1,p2,p3,()),()))).bind fun y1=>
 (match y1 with
 | .inl y2=>
 some (((-1:Int),()),())
 | .inr y2=>
 some ((y2.1.1,()),()))
noncomputable def nec' (l out:List (Entry)) (p0:Bool) (i p1 p2 p3 p4:Int) (p5:Bool):Option (Sum (T'10×(T'11×Unit)) (T'12×(T'11×Unit))):=
 bif (decide (i < ((List.length l:Nat):Int))) then
 Option.bind (Option.bind (bif (!p0) then
 bif (inB i (List.length l)) then
 let z0:Entry:=(List.getD l (Int.toNat i) (Entry.mk (0:Int) (0:Int) (0:Int) (0:Int) false))
 (nj3' p1 p2 p3 p4 p5 z0.Floor z0.Dir z0.Car z0.Moves z0.Moved).bind fun y1=>
 some ((l,(),out,p0,i,y1.1.1,()),((p1,p2,p3,p4,p5,()),()))
 else
 none
 else
 some ((l,(),out,p0,i,false,()),((p1,p2,p3,p4,p5,()),()))) fun y2=>
 bif y2.1.2.2.2.2.2.1 then
 let z1:List (Entry):=[(Entry.mk y2.2.1.1 y2.2.1.2.1 y2.2.1.2.2.1 y2.2.1.2.2.2.1 y2.2.1.2.2.2.2.1)]
 bif (Nat.ble ((List.length y2.1.2.2.1) + (List.length z1)) 2147483648) then
 some ((y2.1.1,(),(y2.1.2.2.1++z1),true,y2.1.2.2.2.2.1,()),(y2.2.1,()))
 else
 none
 else
 some ((y2.1.1,(),y2.1.2.2.1,y2.1.2.2.2.1,y2.1.2.2.2.2.1,()),(y2.2.1,()))) fun y3=>
 bif (inB y3.1.2.2.2.2.1 (List.length y3.1.1)) then
 let z2:Entry:=(List.getD y3.1.1 (Int.toNat y3.1.2.2.2.2.1) (Entry.mk (0:Int) (0:Int) (0:Int) (0:Int) false))
 let z3:List (Entry):=[(Entry.mk z2.Floor z2.Dir z2.Car z2.Moves z2.Moved)]
 bif (Nat.ble ((List.length y3.1.2.2.1) + (List.length z3)) 2147483648) then
 some (Sum.inl ((y3.1.1,(),(y3.1.2.2.1++z3),y3.1.2.2.2.1,(IntKind.i64.wrap (y3.1.2.2.2.2.1 + (1:Int))),()),(y3.2.1,())))
 else
 none
 else
 none
 else
 some (Sum.inr (((),out,p0,()),((p1,p2,p3,p4,p5,()),())))
noncomputable def nh2':(T'10×(T'11×Unit))→Option (T'12×(T'11×Unit)):=iter (fun x=>nec' x.1.1 x.1.2.2.1 x.1.2.2.2.1 x.1.2.2.2.2.1 x.2.1.1 x.2.1.2.1 x.2.1.2.2.1 x.2.1.2.2.2.1 x.2.1.2.2.2.2.1) fuel
noncomputable def ni7' (l:List (Entry)) (p0 p1 p2 p3:Int) (p4:Bool):Option ((List (Entry)×Unit)×Unit):=
 (nh2' ((l,(),([]:List (Entry)),false,(0:Int),()),((p0,p1,p2,p3,p4,()),()))).bind fun y1=>
 bif (!y1.1.2.2.1) then
 let z0:List (Entry):=[(Entry.mk y1.2.1.1 y1.2.1.2.1 y1.2.1.2.2.1 y1.2.1.2.2.2.1 y1.2.1.2.2.2.2.1)]
 bif (Nat.ble ((List.length y1.1.2.1) + (List.length z0)) 2147483648) then
 some (((y1.1.2.1++z0),()),())
 else
 none
 else
 some ((y1.1.2.1,()),())
noncomputable def niw' (p0 p1 p2 p3:Int) (p4 p5 p6:Nat) (p7:List (Car)) (p8:List (Int)) (p9 p10:List (Bool)) (p11:List (Entry)) (p12 p13 p14 p15 p16:Int):Option ((Unit×Int×Unit)×(T'5×Unit)):=
 (ndv' p0 p1 p2 p3 p4 p5 p6 p7 p8 p9 p10 p11).bind fun y1=>
 bif (!y1.1.1) then
 some (((),(1:Int),()),((([]:List (Int)),([]:List (Bool)),([]:List (Bool)),([]:List (Entry)),()),()))
 else
 (nlt' p0 p1 p2 p3 p4 p5 p6 p7 p12 p13 p14 p15 p16).bind fun y2=>
 bif (!y2.1.1) then
 some (((),(1:Int),()),((([]:List (Int)),([]:List (Bool)),([]:List (Bool)),([]:List (Entry)),()),()))
 else
 bif (Nat.ble ((List.length ([]:List (Int))) + (List.length p8)) 2147483648) then
 let z0:List (Int):=(([]:List (Int))++p8)
 bif (Nat.ble ((List.length ([]:List (Bool))) + (List.length p9)) 2147483648) then
 let z1:List (Bool):=(([]:List (Bool))++p9)
 bif (Nat.ble ((List.length ([]:List (Bool))) + (List.length p10)) 2147483648) then
 let z2:List (Bool):=(([]:List (Bool))++p10)
 bif (Nat.ble ((List.length ([]:List (Entry))) + (List.length p11)) 2147483648) then
 let z3:List (Entry):=(([]:List (Entry))++p11)
 (nil' z0 z1 z2 z3 p13 p14).bind fun y3=>
 bif (p12==(4:Int)) then
 bif (inB p15 (List.length z0)) then
 some (((),(0:Int),()),(((List.set z0 (Int.toNat p15) p16),z1,z2,z3,()),()))
 else
 none
 else
 bif (p12==(5:Int)) then
 bif (inB p15 (List.length z1)) then
 some (((),(0:Int),()),((z0,(List.set z1 (Int.toNat p15) (p16==(1:Int))),z2,z3,()),()))
 else
 none
 else
 bif (p12==(6:Int)) then
 bif (inB p15 (List.length z2)) then
 some (((),(0:Int),()),((z0,z1,(List.set z2 (Int.toNat p15) (p16==(1:Int))),z3,()),()))
 else
 none
 else
 Option.bind (bif (p12==(1:Int)) then
 some (((),(),(),y3.1.1,(decide (y3.1.1 < (0:Int))),()),((z0,z1,z2,z3,()),(p12,p13,p14,p15,p16,()),(([]:List (Int)),([]:List (Bool)),([]:List (Bool)),([]:List (Entry)),()),()))
 else
 some (((),(),(),y3.1.1,false,()),((z0,z1,z2,z3,()),(p12,p13,p14,p15,p16,()),(([]:List (Int)),([]:List (Bool)),([]:List (Bool)),([]:List (Entry)),()),()))) fun y4=>
 bif y4.1.2.2.2.2.1 then
 (ni7' y4.2.1.2.2.2.1 y4.2.2.1.2.1 y4.2.2.1.2.2.1 (-1:Int) (0:Int) false).bind fun y5=>
 some (((),(0:Int),()),((y4.2.1.1,y4.2.1.2.1,y4.2.1.2.2.1,y5.1.1,()),()))
 else
 bif (decide (y4.1.2.2.2.1 < (0:Int))) then
 some (((),(0:Int),()),(y4.2.1,()))
 else
 bif (y4.2.2.1.1==(2:Int)) then
 Option.bind (some (((),(),y4.1.2.2.2.1,()),(y4.2.1,y4.2.2.2.1,()))) fun y6=>
 bif ((decide ((0:Int)≤y6.1.2.2.1))&&(decide (y6.1.2.2.1≤(((List.length y6.2.1.2.2.2.1):Nat):Int)))) then
 let z4:List (Entry):=(List.drop 0 (List.take (Int.toNat y6.1.2.2.1) y6.2.1.2.2.2.1))
 bif (Nat.ble ((List.length ([]:List (Entry))) + (List.length z4)) 2147483648) then
 let z5:List (Entry):=(([]:List (Entry))++z4)
 let z6:Int:=(IntKind.i64.wrap (y6.1.2.2.1 + (1:Int)))
 bif ((decide ((0:Int)≤z6))&&(decide (z6≤(((List.length y6.2.1.2.2.2.1):Nat):Int)))) then
 let z7:List (Entry):=(List.drop (Int.toNat z6) (List.take (List.length y6.2.1.2.2.2.1) y6.2.1.2.2.2.1))
 bif (Nat.ble ((List.length z5) + (List.length z7)) 2147483648) then
 some (((),(0:Int),()),((y6.2.1.1,y6.2.1.2.1,y6.2.1.2.2.1,(z5++z7),()),()))
 else
 none
 else
 none
 else
 none
 else
 none
 else
 bif (y4.2.2.1.1==(3:Int)) then
 bif (inB y4.1.2.2.2.1 (List.length y4.2.1.2.2.2.1)) then
 let z8:Nat:=(Int.toNat y4.1.2.2.2.1)
 let z9:Entry:=(List.getD y4.2.1.2.2.2.1 z8 (Entry.mk (0:Int) (0:Int) (0:Int) (0:Int) false))
 some (((),(0:Int),()),((y4.2.1.1,y4.2.1.2.1,y4.2.1.2.2.1,(List.set y4.2.1.2.2.2.1 z8 (Entry.mk z9.Floor z9.Dir y4.2.2.1.2.2.2.1 z9.Moves z9.Moved)),()),()))
 else
 none
 else
 bif (y4.2.2.1.1==(7:Int)) then
 bif (inB y4.1.2.2.2.1 (List.length y4.2.1.2.2.2.1)) then
 let z10:Nat:=(Int.toNat y4.1.2.2.2.1)
 let z11:Entry:=(List.getD y4.2.1.2.2.2.1 z10 (Entry.mk (0:Int) (0:Int) (0:Int) (0:Int) false))
 let z12:List (Entry):=(List.set y4.2.1.2.2.2.1 z10 (Entry.mk z11.Floor z11.Dir z11.Car y4.2.2.1.2.2.2.2.1 z11.Moved))
 bif (inB y4.1.2.2.2.1 (List.length z12)) then
 let z13:Nat:=(Int.toNat y4.1.2.2.2.1)
 let z14:Entry:=(List.getD z12 z13 (Entry.mk (0:Int) (0:Int) (0:Int) (0:Int) false))
 some (((),(0:Int),()),((y4.2.1.1,y4.2.1.2.1,y4.2.1.2.2.1,(List.set z12 z13 (Entry.mk z14.Floor z14.Dir z14.Car z14.Moves (y4.2.2.1.2.2.2.1==(1:Int)))),()),()))
 else
 none
 else
 none
 else
 some (((),(0:Int),()),(y4.2.1,()))
 else
 none
 else
 none
 else
 none
 else
 none
noncomputable def nfd' (x_1:List (Record)) (i p0 p1 p2 p3:Int) (p4 p5 p6:Nat) (p7:List (Car)) (p8:List (Int)) (p9 p10:List (Bool)) (p11:List (Entry)) (p12:List (Int)) (p13 p14:List (Bool)) (p15:List (Entry)):Option (Sum (T'13×(T'0×T'5×T'5×Unit)) ((Unit×Unit×Unit)×(T'5×T'5×Unit))):=
 bif (decide (i < ((List.length x_1:Nat):Int))) then
 bif (inB i (List.length x_1)) then
 let z0:Record:=(List.getD x_1 (Int.toNat i) (Record.mk (0:Int) (0:Int) (0:Int) (0:Int) (0:Int)))
 (niw' p0 p1 p2 p3 p4 p5 p6 p7 p12 p13 p14 p15 z0.Kind z0.Floor z0.Dir z0.Car z0.Value).bind fun y1=>
 some (Sum.inl (((),(),(),x_1,(IntKind.i64.wrap (i + (1:Int))),()),((p0,p1,p2,p3,p4,p5,p6,p7,()),(p8,p9,p10,p11,()),y1.2.1,())))
 else
 none
 else
 some (Sum.inr (((),(),()),((p8,p9,p10,p11,()),(p12,p13,p14,p15,()),())))
noncomputable def ni5':(T'13×(T'0×T'5×T'5×Unit))→Option ((Unit×Unit×Unit)×(T'5×T'5×Unit)):=iter (fun x=>nfd' x.1.2.2.2.1 x.1.2.2.2.2.1 x.2.1.1 x.2.1.2.1 x.2.1.2.2.1 x.2.1.2.2.2.1 x.2.1.2.2.2.2.1 x.2.1.2.2.2.2.2.1 x.2.1.2.2.2.2.2.2.1 x.2.1.2.2.2.2.2.2.2.1 x.2.2.1.1 x.2.2.1.2.1 x.2.2.1.2.2.1 x.2.2.1.2.2.2.1 x.2.2.2.1.1 x.2.2.2.1.2.1 x.2.2.2.1.2.2.1 x.2.2.2.1.2.2.2.1) fuel
noncomputable def nhq' (p0 p1 p2 p3:Int) (p4 p5 p6:Nat) (p7:List (Car)) (l:List (Int)):Option ((Unit×Unit)×(T'5×Unit)):=
 (nfa' p0 p1 p2 p3 p4 p5 p6 p7).bind fun y1=>
 (njd' p0 p1 p2 p3 p4 p5 p6 p7 l (60:Int)).bind fun y2=>
 (ni5' (((),(),(),y2.1.1,(0:Int),()),((p0,p1,p2,p3,p4,p5,p6,p7,()),(([]:List (Int)),([]:List (Bool)),([]:List (Bool)),([]:List (Entry)),()),y1.2.1,()))).bind fun y3=>
 some (((),()),(y3.2.2.1,()))
noncomputable def njg' (l:List (Int)) (out:List (View)) (i k p0 p1 p2 p3:Int) (p4 p5 p6:Nat) (p7:List (Car)) (p8 p9 p10 p11:Int):Option (Sum (T'15×(T'0×T'16×Unit)) (T'17×(T'0×T'16×Unit))):=
 bif (decide (k < (4:Int))) then
 bif (decide ((0:Int) < ((List.length l:Nat):Int))) then
 let z0:Int:=((List.length l:Nat):Int)
 bif (z0 != (0:Int)) then
 let z1:Int:=(Int.tmod (IntKind.i64.wrap ((IntKind.i64.wrap ((4:Int) * i)) + k)) z0)
 bif (inB z1 (List.length l)) then
 let z2:Int:=(List.getD l (Int.toNat z1) (0:Int))
 bif (inB k 4) then
 let z3:Nat:=(Int.toNat k)
 some (Sum.inl ((l,(),out,i,(),(IntKind.i64.wrap (k + (1:Int))),()),((p0,p1,p2,p3,p4,p5,p6,p7,()),((bif (Nat.beq z3 0) then z2 else p8),(bif (Nat.beq z3 1) then z2 else p9),(bif (Nat.beq z3 2) then z2 else p10),(bif (Nat.beq z3 3) then z2 else p11),()),())))
 else
 none
 else
 none
 else
 none
 else
 some (Sum.inr ((l,(),out,i,(),()),((p0,p1,p2,p3,p4,p5,p6,p7,()),(p8,p9,p10,p11,()),())))
 else
 some (Sum.inr ((l,(),out,i,(),()),((p0,p1,p2,p3,p4,p5,p6,p7,()),(p8,p9,p10,p11,()),())))
noncomputable def nhg':(T'15×(T'0×T'16×Unit))→Option (T'17×(T'0×T'16×Unit)):=iter (fun x=>njg' x.1.1 x.1.2.2.1 x.1.2.2.2.1 x.1.2.2.2.2.2.1 x.2.1.1 x.2.1.2.1 x.2.1.2.2.1 x.2.1.2.2.2.1 x.2.1.2.2.2.2.1 x.2.1.2.2.2.2.2.1 x.2.1.2.2.2.2.2.2.1 x.2.1.2.2.2.2.2.2.2.1 x.2.2.1.1 x.2.2.1.2.1 x.2.2.1.2.2.1 x.2.2.1.2.2.2.1) fuel
noncomputable def njh' (l:List (Int)) (out:List (View)) (i p0 p1 p2 p3:Int) (p4 p5 p6:Nat) (p7:List (Car)):Option (Sum (T'14×(T'0×Unit)) ((List (View)×Unit)×Unit)):=
 bif (decide (i < ((List.length p7:Nat):Int))) then
 (nhg' ((l,(),out,i,(),(0:Int),()),((p0,p1,p2,p3,p4,p5,p6,p7,()),((0:Int),(0:Int),(0:Int),(0:Int),()),()))).bind fun y1=>
 let z0:Bool:=(decide ((0:Int) < (Int.tmod y1.2.2.1.1 (8:Int))))
 let z1:Bool:=((Int.tmod (IntKind.u8.wrap (Int.tdiv y1.2.2.1.1 (8:Int))) (2:Int))==(0:Int))
 let z2:Bool:=((Int.tmod (IntKind.u8.wrap (Int.tdiv y1.2.2.1.1 (16:Int))) (4:Int))==(0:Int))
 let z3:Int:=(IntKind.i64.wrap (y1.2.1.1 + (1:Int)))
 bif (z3 != (0:Int)) then
 let z4:Int:=(IntKind.i64.wrap ((Int.tmod (IntKind.i64.wrap y1.2.2.1.2.1) z3) - (1:Int)))
 let z5:Int:=(IntKind.i64.wrap (Int.tmod (IntKind.u8.wrap (Int.tdiv y1.2.2.1.2.1 (16:Int))) (4:Int)))
 let z6:Int:=(IntKind.i64.wrap (Int.tmod y1.2.2.1.2.2.1 (5:Int)))
 let z7:Int:=(IntKind.u32.wrap (IntKind.u8.wrap (stk y1.2.2.1.2.2.1 y1.2.2.1.2.2.2.1 (BitVec.toNat ((BitVec.ofInt (IntKind.bits IntKind.u8) y1.2.2.1.2.2.1) &&& (BitVec.ofInt (IntKind.bits IntKind.u8) y1.2.2.1.2.2.2.1))))))
 let z8:Int:=(IntKind.u32.wrap (IntKind.u8.wrap (stk y1.2.2.1.2.2.2.1 (5:Int) (BitVec.toNat ((BitVec.ofInt (IntKind.bits IntKind.u8) y1.2.2.1.2.2.2.1) &&& (BitVec.ofInt (IntKind.bits IntKind.u8) (5:Int)))))))
 let z9:Int:=(Int.fdiv y1.2.2.1.2.2.2.1 ((2:Int) ^ (Min.min (Int.toNat (4:Int)) (IntKind.bits IntKind.u8))))
 let z10:Int:=(IntKind.u32.wrap (IntKind.u8.wrap (stk z9 (6:Int) (BitVec.toNat ((BitVec.ofInt (IntKind.bits IntKind.u8) z9) &&& (BitVec.ofInt (IntKind.bits IntKind.u8) (6:Int)))))))
 bif z2 then
 let z11:List (View):=[(View.mk false z0 z1 z2 z4 z5 z6 (0:Int) (0:Int) z7 z8 z10)]
 bif (Nat.ble ((List.length y1.1.2.2.1) + (List.length z11)) 2147483648) then
 some (Sum.inl ((y1.1.1,(),(y1.1.2.2.1++z11),(IntKind.i64.wrap (y1.1.2.2.2.1 + (1:Int))),()),(y1.2.1,())))
 else
 none
 else
 let z12:List (View):=[(View.mk (decide ((0:Int) < (Int.tmod y1.2.2.1.1 (4:Int)))) z0 z1 z2 z4 z5 z6 (0:Int) (0:Int) z7 z8 z10)]
 bif (Nat.ble ((List.length y1.1.2.2.1) + (List.length z12)) 2147483648) then
 some (Sum.inl ((y1.1.1,(),(y1.1.2.2.1++z12),(IntKind.i64.wrap (y1.1.2.2.2.1 + (1:Int))),()),(y1.2.1,())))
 else
 none
 else
 none
 else
 some (Sum.inr ((out,()),()))
noncomputable def nhe':(T'14×(T'0×Unit))→Option ((List (View)×Unit)×Unit):=iter (fun x=>njh' x.1.1 x.1.2.2.1 x.1.2.2.2.1 x.2.1.1 x.2.1.2.1 x.2.1.2.2.1 x.2.1.2.2.2.1 x.2.1.2.2.2.2.1 x.2.1.2.2.2.2.2.1 x.2.1.2.2.2.2.2.2.1 x.2.1.2.2.2.2.2.2.2.1) fuel
noncomputable def nlp' (p0 p1 p2 p3:Int) (p4 p5 p6:Nat) (p7:List (Car)) (l:List (Int)):Option ((List (View)×Unit)×Unit):=
 (nhe' ((l,(),([]:List (View)),(0:Int),()),((p0,p1,p2,p3,p4,p5,p6,p7,()),()))).bind fun y1=>
 some ((y1.1.1,()),())
noncomputable def nib' (p0 dir:Int):Option ((Unit×Unit)×T'18):=
 bif (decide (p0 < (0:Int))) then
 some (((),()),(((0:Int),(0:Int),()),()))
 else
 bif (decide ((31:Int) < p0)) then
 some (((),()),(((0:Int),(0:Int),()),()))
 else
 bif (dir==(1:Int)) then
 let z0:Int:=(IntKind.u64.wrap p0)
 bif (decide ((0:Int)≤z0)) then
 some (((),()),(((IntKind.u32.wrap ((1:Int) * ((2:Int) ^ (Min.min (Int.toNat z0) (IntKind.bits IntKind.u32))))),(0:Int),()),()))
 else
 none
 else
 bif (dir==(2:Int)) then
 let z1:Int:=(IntKind.u64.wrap p0)
 bif (decide ((0:Int)≤z1)) then
 some (((),()),(((0:Int),(IntKind.u32.wrap ((1:Int) * ((2:Int) ^ (Min.min (Int.toNat z1) (IntKind.bits IntKind.u32))))),()),()))
 else
 none
 else
 some (((),()),(((0:Int),(0:Int),()),()))
noncomputable def ncz' (l:List (Int)) (v:List (View)) (i p0 p1 p2 p3:Int) (p4 p5 p6:Nat) (p7:List (Car)):Option (Sum (T'14×(T'0×Unit)) ((List (View)×Unit)×Unit)):=
 bif (decide (i < ((List.length v:Nat):Int))) then
 bif (decide (i < ((List.length l:Nat):Int))) then
 bif (inB i (List.length l)) then
 bif ((Int.tmod (List.getD l (Int.toNat i) (0:Int)) (3:Int))==(0:Int)) then
 bif (inB i (List.length l)) then
 bif (p0 != (0:Int)) then
 bif (inB i (List.length l)) then
 (nib' (Int.tmod (IntKind.i64.wrap (Int.tdiv (IntKind.i64.wrap (List.getD l (Int.toNat i) (0:Int))) (3:Int))) p0) (IntKind.i64.wrap ((1:Int) + (IntKind.i64.wrap (Int.tmod (IntKind.u8.wrap (Int.tdiv (List.getD l (Int.toNat i) (0:Int)) (64:Int))) (2:Int)))))).bind fun y1=>
 bif (inB i (List.length v)) then
 let z0:Nat:=(Int.toNat i)
 let z1:View:=(List.getD v z0 (View.mk false false false false (0:Int) (0:Int) (0:Int) (0:Int) (0:Int) (0:Int) (0:Int) (0:Int)))
 some (Sum.inl ((l,(),(List.set v z0 (View.mk z1.Ready z1.Serving z1.Legacy z1.Lost z1.Floor z1.Dir z1.Load y1.2.1.1 y1.2.1.2.1 z1.Stops_Car z1.Stops_Hall_Up z1.Stops_Hall_Down)),(IntKind.i64.wrap (i + (1:Int))),()),((p0,p1,p2,p3,p4,p5,p6,p7,()),())))
 else
 none
 else
 none
 else
 none
 else
 none
 else
 some (Sum.inl ((l,(),v,(IntKind.i64.wrap (i + (1:Int))),()),((p0,p1,p2,p3,p4,p5,p6,p7,()),())))
 else
 none
 else
 some (Sum.inr ((v,()),()))
 else
 some (Sum.inr ((v,()),()))
noncomputable def ni3':(T'14×(T'0×Unit))→Option ((List (View)×Unit)×Unit):=iter (fun x=>ncz' x.1.1 x.1.2.2.1 x.1.2.2.2.1 x.2.1.1 x.2.1.2.1 x.2.1.2.2.1 x.2.1.2.2.2.1 x.2.1.2.2.2.2.1 x.2.1.2.2.2.2.2.1 x.2.1.2.2.2.2.2.2.1 x.2.1.2.2.2.2.2.2.2.1) fuel
noncomputable def nhj' (p0 p1 p2 p3:Int) (p4 p5 p6:Nat) (p7:List (Car)) (l:List (Int)):Option ((List (View)×Unit)×Unit):=
 (nlp' p0 p1 p2 p3 p4 p5 p6 p7 l).bind fun y1=>
 (ni3' ((l,(),y1.1.1,(0:Int),()),((p0,p1,p2,p3,p4,p5,p6,p7,()),()))).bind fun y2=>
 some ((y2.1.1,()),())
noncomputable def nc3' (l out:List (Int)) (i:Int):Option (Sum (T'19×Unit) ((List (Int)×Unit)×Unit)):=
 bif (decide (i < ((List.length out:Nat):Int))) then
 bif (decide (i < ((List.length l:Nat):Int))) then
 bif (inB i (List.length l)) then
 bif (inB i (List.length out)) then
 some (Sum.inl ((l,(List.set out (Int.toNat i) (IntKind.i64.wrap (Int.tmod (List.getD l (Int.toNat i) (0:Int)) (5:Int)))),(IntKind.i64.wrap (i + (1:Int))),()),()))
 else
 none
 else
 none
 else
 some (Sum.inr ((out,()),()))
 else
 some (Sum.inr ((out,()),()))
noncomputable def nht':(T'19×Unit)→Option ((List (Int)×Unit)×Unit):=iter (fun x=>nc3' x.1.1 x.1.2.1 x.1.2.2.1) fuel
noncomputable def nbv' (p0:List (Int)) (p1 p2:List (Bool)) (p3:List (Entry)) (l:List (Int)):Option ((List (Int)×Unit)×Unit):=
 let z0:Int:=((List.length p3:Nat):Int)
 bif (((decide ((0:Int)≤z0))&&(decide (z0≤z0)))&&(decide (z0≤(2147483648:Int)))) then
 (nht' ((l,(List.replicate (Int.toNat z0) (0:Int)),(0:Int),()),())).bind fun y1=>
 some ((y1.1.1,()),())
 else
 none
noncomputable def nbu' (lo hi:Int) (s9:List (Int)) (s10 s11:Int):Option (Sum (T'20×Unit) ((Unit×Unit) ⊕ ((Bool×Unit)×Unit))):=
 bif (decide (s11 < s10)) then
 bif (inB s11 (List.length s9)) then
 let z0:Int:=(List.getD s9 (Int.toNat s11) (0:Int))
 bif (decide (z0 < lo)) then
 some (Sum.inr (Sum.inr ((false,()),())))
 else
 bif (decide (hi < z0)) then
 some (Sum.inr (Sum.inr ((false,()),())))
 else
 some (Sum.inl ((lo,hi,s9,s10,(IntKind.i64.wrap (s11 + (1:Int))),()),()))
 else
 none
 else
 some (Sum.inr (Sum.inl ((),())))
noncomputable def ne6':(T'20×Unit)→Option ((Unit×Unit) ⊕ ((Bool×Unit)×Unit)):=iter (fun x=>nbu' x.1.1 x.1.2.1 x.1.2.2.1 x.1.2.2.2.1 x.1.2.2.2.2.1) fuel
noncomputable def n9' (lo hi:Int) (l:List (Int)):Option ((Bool×Unit)×Unit):=
 (ne6' ((lo,hi,l,((List.length l:Nat):Int),(0:Int),()),())).bind fun y1=>
 (match y1 with
 | .inl y2=>
 some ((true,()),())
 | .inr y2=>
 some ((y2.1.1,()),()))
noncomputable def ng5' (p0 p1 p2 p3 p4 p5 p6 p7 p8 p9:Int):Option ((Bool×Unit)×Unit):=
 Option.bind ((n9' (1:Int) (10000:Int) [p0,p1,p2,p4,p5,p6,p7]).bind fun y1=>
 bif y1.1.1 then
 (n9' (0:Int) (10000:Int) [p3]).bind fun y2=>
 bif y2.1.1 then
 bif (decide (p6≤p7)) then
 (n9' (0:Int) (IntKind.i64.wrap (p9 - (1:Int))) [p8]).bind fun y3=>
 some ((y3.1.1,()),())
 else
 some ((false,()),())
 else
 some ((false,()),())
 else
 some ((false,()),())) fun y4=>
 some ((y4.1.1,()),())
noncomputable def nhb' (p0 p1 p2 p3:Int) (p4 p5 p6:Nat) (p7:List (Car)):Option ((Bool×Unit)×Unit):=
 Option.bind (bif (((FloatKind.format FloatKind.f64).order 0 p4)==some Ordering.lt) then
 bif (((FloatKind.format FloatKind.f64).order p4 p5)==some Ordering.lt) then
 bif (((FloatKind.format FloatKind.f64).order p5 p6)==some Ordering.lt) then
 some (((((FloatKind.format FloatKind.f64).order p6 9218868437227405311)==some Ordering.lt||((FloatKind.format FloatKind.f64).order p6 9218868437227405311)==some Ordering.eq),()),())
 else
 some ((false,()),())
 else
 some ((false,()),())
 else
 some ((false,()),())) fun y1=>
 some ((y1.1.1,()),())
noncomputable def nde' (p0:Bool) (s28:List (Car)) (s29 s30 p1 p2 p3 p4:Int) (p5 p6 p7:Nat) (p8:List (Car)):Option (Sum (T'21×(T'0×Unit)) ((Unit×Bool×Unit)×(T'0×Unit))):=
 bif (decide (s30 < s29)) then
 bif (inB s30 (List.length s28)) then
 let z0:Car:=(List.getD s28 (Int.toNat s30) (Car.mk (0:Int) (0:Int) (0:Int) (0:Int) (0:Int) (0:Int) (0:Int) (0:Int) (0:Int)))
 Option.bind (bif p0 then
 (ng5' z0.Deadline z0.Pulse z0.Quiet z0.Slack z0.Step z0.Travel z0.Dwell z0.Hold z0.Home p1).bind fun y1=>
 some (((),y1.1.1,s28,s29,s30,()),((p1,p2,p3,p4,p5,p6,p7,p8,()),()))
 else
 some (((),false,s28,s29,s30,()),((p1,p2,p3,p4,p5,p6,p7,p8,()),()))) fun y2=>
 some (Sum.inl (((),y2.1.2.1,y2.1.2.2.1,y2.1.2.2.2.1,(IntKind.i64.wrap (y2.1.2.2.2.2.1 + (1:Int))),()),(y2.2.1,())))
 else
 none
 else
 some (Sum.inr (((),p0,()),((p1,p2,p3,p4,p5,p6,p7,p8,()),())))
noncomputable def nfn':(T'21×(T'0×Unit))→Option ((Unit×Bool×Unit)×(T'0×Unit)):=iter (fun x=>nde' x.1.2.1 x.1.2.2.1 x.1.2.2.2.1 x.1.2.2.2.2.1 x.2.1.1 x.2.1.2.1 x.2.1.2.2.1 x.2.1.2.2.2.1 x.2.1.2.2.2.2.1 x.2.1.2.2.2.2.2.1 x.2.1.2.2.2.2.2.2.1 x.2.1.2.2.2.2.2.2.2.1) fuel
noncomputable def nce' (p0 p1 p2 p3:Int) (p4 p5 p6:Nat) (p7:List (Car)):Option ((Int×Unit)×Unit):=
 (n9' (2:Int) (32:Int) [p0]).bind fun y1=>
 bif (!y1.1.1) then
 some (((10:Int),()),())
 else
 (n9' (1:Int) (8:Int) [((List.length p7:Nat):Int)]).bind fun y2=>
 bif (!y2.1.1) then
 some (((11:Int),()),())
 else
 Option.bind ((n9' (1:Int) (16:Int) [p1]).bind fun y3=>
 bif y3.1.1 then
 (n9' (1:Int) (10000:Int) [p3]).bind fun y4=>
 some (((),y4.1.1,()),((p0,p1,p2,p3,p4,p5,p6,p7,()),()))
 else
 some (((),false,()),((p0,p1,p2,p3,p4,p5,p6,p7,()),()))) fun y5=>
 (nfn' (((),y5.1.2.1,y5.2.1.2.2.2.2.2.2.2.1,((List.length y5.2.1.2.2.2.2.2.2.2.1:Nat):Int),(0:Int),()),(y5.2.1,()))).bind fun y6=>
 bif (!y6.1.2.1) then
 some (((12:Int),()),())
 else
 (nhb' y6.2.1.1 y6.2.1.2.1 y6.2.1.2.2.1 y6.2.1.2.2.2.1 y6.2.1.2.2.2.2.1 y6.2.1.2.2.2.2.2.1 y6.2.1.2.2.2.2.2.2.1 y6.2.1.2.2.2.2.2.2.2.1).bind fun y7=>
 bif (!y7.1.1) then
 some (((13:Int),()),())
 else
 (n9' (IntKind.i64.wrap ((IntKind.i64.wrap ((18:Int) * ((List.length y6.2.1.2.2.2.2.2.2.2.1:Nat):Int))) + (24:Int))) (65536:Int) [y6.2.1.2.2.1]).bind fun y8=>
 bif (!y8.1.1) then
 some (((14:Int),()),())
 else
 some (((0:Int),()),())
noncomputable def nfp' (p0 p1 p2 p3:Int) (p4 p5 p6:Nat) (p7:List (Car)):Option ((Unit×Unit)×T'18):=
 (nce' p0 p1 p2 p3 p4 p5 p6 p7).bind fun y1=>
 bif (y1.1.1 != (0:Int)) then
 some (((),()),(((0:Int),(0:Int),()),()))
 else
 let z0:Int:=(IntKind.i64.wrap (p0 - (1:Int)))
 bif (decide ((0:Int)≤z0)) then
 let z1:Int:=(IntKind.u32.wrap ((IntKind.u32.wrap ((1:Int) * ((2:Int) ^ (Min.min (Int.toNat z0) (IntKind.bits IntKind.u32))))) - (1:Int)))
 some (((),()),((z1,(IntKind.u32.wrap (z1 * ((2:Int) ^ (Min.min (Int.toNat (1:Int)) (IntKind.bits IntKind.u32))))),()),()))
 else
 none
noncomputable def neb' (p0 p1 p2 p3:Int):Option ((Unit×Unit)×T'18):=
 some (((),()),(((IntKind.u32.wrap (stk p0 p2 (BitVec.toNat ((BitVec.ofInt (IntKind.bits IntKind.u32) p0) &&& (BitVec.ofInt (IntKind.bits IntKind.u32) p2))))),(IntKind.u32.wrap (stk p1 p3 (BitVec.toNat ((BitVec.ofInt (IntKind.bits IntKind.u32) p1) &&& (BitVec.ofInt (IntKind.bits IntKind.u32) p3))))),()),()))
noncomputable def ne2' (p0 p1 p2 p3:Int) (p4 p5 p6:Nat) (p7:List (Car)) (p8 p9 p10 p11:Bool) (p12 p13 p14 p15 p16 p17 p18 p19:Int):Option ((Unit×Unit)×T'18):=
 bif (!p9) then
 some (((),()),(((0:Int),(0:Int),()),()))
 else
 (nfp' p0 p1 p2 p3 p4 p5 p6 p7).bind fun y1=>
 (neb' p15 p16 y1.2.1.1 y1.2.1.2.1).bind fun y2=>
 some (((),()),(y2.2.1,()))
noncomputable def nfk' (p0 p1 p2 p3:Int):Option ((Unit×Unit)×T'18):=
 some (((),()),(((IntKind.u32.wrap (stk p0 p2 (BitVec.toNat ((BitVec.ofInt (IntKind.bits IntKind.u32) p0) &&& (~~~ (BitVec.ofInt (IntKind.bits IntKind.u32) p2)))))),(IntKind.u32.wrap (stk p1 p3 (BitVec.toNat ((BitVec.ofInt (IntKind.bits IntKind.u32) p1) &&& (~~~ (BitVec.ofInt (IntKind.bits IntKind.u32) p3)))))),()),()))
noncomputable def nen' (p0 p1 p2 p3:Int):Option ((Unit×Unit)×T'18):=
 some (((),()),(((IntKind.u32.wrap (stk p0 p2 (BitVec.toNat ((BitVec.ofInt (IntKind.bits IntKind.u32) p0) ||| (BitVec.ofInt (IntKind.bits IntKind.u32) p2))))),(IntKind.u32.wrap (stk p1 p3 (BitVec.toNat ((BitVec.ofInt (IntKind.bits IntKind.u32) p1) ||| (BitVec.ofInt (IntKind.bits IntKind.u32) p3))))),()),()))
noncomputable def nds' (p0:List (Calls)) (s32:List (View)) (s33 s34 p1 p2 p3 p4:Int) (p5 p6 p7:Nat) (p8:List (Car)) (p9:List (Calls)) (p10:List (Bool)) (p11 p12:Int) (p13:List (Calls)) (p14:List (Bool)) (p15 p16:Int):Option (Sum (T'23×T'24) ((Unit×Unit×Unit)×(T'22×T'22×Unit))):=
 bif (decide (s34 < s33)) then
 bif (inB s34 (List.length s32)) then
 let z0:View:=(List.getD s32 (Int.toNat s34) (View.mk false false false false (0:Int) (0:Int) (0:Int) (0:Int) (0:Int) (0:Int) (0:Int) (0:Int)))
 (ne2' p1 p2 p3 p4 p5 p6 p7 p8 z0.Ready z0.Serving z0.Legacy z0.Lost z0.Floor z0.Dir z0.Load z0.Shows_Up z0.Shows_Down z0.Stops_Car z0.Stops_Hall_Up z0.Stops_Hall_Down).bind fun y1=>
 (nfk' y1.2.1.1 y1.2.1.2.1 p15 p16).bind fun y2=>
 let z1:List (Calls):=[(Calls.mk y2.2.1.1 y2.2.1.2.1)]
 bif (Nat.ble ((List.length p13) + (List.length z1)) 2147483648) then
 bif (inB s34 (List.length p0)) then
 let z2:Calls:=(List.getD p0 (Int.toNat s34) (Calls.mk (0:Int) (0:Int)))
 (nfk' y2.2.1.1 y2.2.1.2.1 z2.Up z2.Down).bind fun y3=>
 let z3:List (Bool):=[(!((y3.2.1.1==(0:Int))&&((y3.2.1.2.1==(0:Int))&&true)))]
 bif (Nat.ble ((List.length p14) + (List.length z3)) 2147483648) then
 (nen' p15 p16 y2.2.1.1 y2.2.1.2.1).bind fun y4=>
 some (Sum.inl ((p0,(),(),(),s32,s33,(IntKind.i64.wrap (s34 + (1:Int))),()),((p1,p2,p3,p4,p5,p6,p7,p8,()),(p9,p10,p11,p12,()),((p13++z1),(p14++z3),y4.2.1.1,y4.2.1.2.1,()),())))
 else
 none
 else
 none
 else
 none
 else
 none
 else
 some (Sum.inr (((),(),()),((p9,p10,p11,p12,()),(p13,p14,p15,p16,()),())))
noncomputable def nf5':(T'23×T'24)→Option ((Unit×Unit×Unit)×(T'22×T'22×Unit)):=iter (fun x=>nds' x.1.1 x.1.2.2.2.2.1 x.1.2.2.2.2.2.1 x.1.2.2.2.2.2.2.1 x.2.1.1 x.2.1.2.1 x.2.1.2.2.1 x.2.1.2.2.2.1 x.2.1.2.2.2.2.1 x.2.1.2.2.2.2.2.1 x.2.1.2.2.2.2.2.2.1 x.2.1.2.2.2.2.2.2.2.1 x.2.2.1.1 x.2.2.1.2.1 x.2.2.1.2.2.1 x.2.2.1.2.2.2.1 x.2.2.2.1.1 x.2.2.2.1.2.1 x.2.2.2.1.2.2.1 x.2.2.2.1.2.2.2.1) fuel
noncomputable def nef' (p0 p1 p2 p3:Int) (p4 p5 p6:Nat) (p7:List (Car)) (p8:List (View)) (p9:List (Calls)):Option ((Unit×Int×Unit)×(T'22×Unit)):=
 (nce' p0 p1 p2 p3 p4 p5 p6 p7).bind fun y1=>
 bif (y1.1.1 != (0:Int)) then
 some (((),(1:Int),()),((([]:List (Calls)),([]:List (Bool)),(0:Int),(0:Int),()),()))
 else
 bif (((List.length p8:Nat):Int) != ((List.length p7:Nat):Int)) then
 some (((),(1:Int),()),((([]:List (Calls)),([]:List (Bool)),(0:Int),(0:Int),()),()))
 else
 bif (((List.length p9:Nat):Int) != ((List.length p7:Nat):Int)) then
 some (((),(1:Int),()),((([]:List (Calls)),([]:List (Bool)),(0:Int),(0:Int),()),()))
 else
 (nf5' ((p9,(),(),(),p8,((List.length p8:Nat):Int),(0:Int),()),((p0,p1,p2,p3,p4,p5,p6,p7,()),(([]:List (Calls)),([]:List (Bool)),(0:Int),(0:Int),()),(([]:List (Calls)),([]:List (Bool)),(0:Int),(0:Int),()),()))).bind fun y2=>
 some (((),(0:Int),()),(y2.2.2.1,()))
noncomputable def nf2' (p0 p1 dir:Int):Option ((Bool×Unit)×Unit):=
 Option.bind (bif (dir==(1:Int)) then
 (n9' (0:Int) (IntKind.i64.wrap (p0 - (2:Int))) [p1]).bind fun y1=>
 bif y1.1.1 then
 some ((true,()),())
 else
 bif (dir==(2:Int)) then
 (n9' (1:Int) (IntKind.i64.wrap (p0 - (1:Int))) [p1]).bind fun y2=>
 some ((y2.1.1,()),())
 else
 some ((false,()),())
 else
 bif (dir==(2:Int)) then
 (n9' (1:Int) (IntKind.i64.wrap (p0 - (1:Int))) [p1]).bind fun y3=>
 some ((y3.1.1,()),())
 else
 some ((false,()),())) fun y4=>
 some ((y4.1.1,()),())
noncomputable def neo' (p0 p1 p2 p3:Int) (p4 p5 p6:Nat) (p7:List (Car)) (p8 dir:Int):Option ((Bool×Unit)×Unit):=
 Option.bind ((nce' p0 p1 p2 p3 p4 p5 p6 p7).bind fun y1=>
 bif (y1.1.1==(0:Int)) then
 (nf2' p0 p8 dir).bind fun y2=>
 some ((y2.1.1,()),())
 else
 some ((false,()),())) fun y3=>
 some ((y3.1.1,()),())
noncomputable def ni8' (p0 p1 p2 p3:Int) (p4 p5 p6:Nat) (p7:List (Car)) (p8 p9 p10 p11:Int) (p12:Bool):Option ((Bool×Unit)×Unit):=
 Option.bind ((neo' p0 p1 p2 p3 p4 p5 p6 p7 p8 p9).bind fun y1=>
 bif y1.1.1 then
 bif (decide ((-2:Int)≤p10)) then
 bif (decide (p10 < ((List.length p7:Nat):Int))) then
 bif (decide ((0:Int)≤p11)) then
 some (((decide (p11≤(255:Int))),()),())
 else
 some ((false,()),())
 else
 some ((false,()),())
 else
 some ((false,()),())
 else
 some ((false,()),())) fun y2=>
 some ((y2.1.1,()),())
noncomputable def nh1' (x_1:Int):Option ((Bool×Unit)×Unit):=
 some (((x_1 != x_1),()),())
noncomputable def nep' (x_1 y:Int):Option ((Int×Unit)×Unit):=
 (nh1' x_1).bind fun y1=>
 (nh1' y).bind fun y2=>
 bif y1.1.1 then
 bif y2.1.1 then
 some (((0:Int),()),())
 else
 some (((-1:Int),()),())
 else
 bif y2.1.1 then
 some (((1:Int),()),())
 else
 bif (decide (x_1 < y)) then
 some (((-1:Int),()),())
 else
 bif (decide (y < x_1)) then
 some (((1:Int),()),())
 else
 some (((0:Int),()),())
noncomputable def ngl' (p0:Int) (s6:List (Int)) (s7 s8:Int):Option (Sum (T'25×Unit) (((Int×Unit)×Unit) ⊕ ((Int×Unit)×Unit))):=
 bif (decide (s8 < s7)) then
 bif (inB s8 (List.length s6)) then
 let z0:Int:=(List.getD s6 (Int.toNat s8) (0:Int))
 bif (z0 != p0) then
 some (Sum.inr (Sum.inr ((z0,()),())))
 else
 some (Sum.inl ((p0,s6,s7,(IntKind.i64.wrap (s8 + (1:Int))),()),()))
 else
 none
 else
 some (Sum.inr (Sum.inl ((p0,()),())))
noncomputable def nir':(T'25×Unit)→Option (((Int×Unit)×Unit) ⊕ ((Int×Unit)×Unit)):=iter (fun x=>ngl' x.1.1 x.1.2.1 x.1.2.2.1 x.1.2.2.2.1) fuel
noncomputable def nkv' (p0:List (Int)):Option ((Int×Unit)×Unit):=
 (nir' (((0:Int),p0,((List.length p0:Nat):Int),(0:Int),()),())).bind fun y1=>
 (match y1 with
 | .inl y2=>
 some ((y2.1.1,()),())
 | .inr y2=>
 some ((y2.1.1,()),()))
noncomputable def nfi' (p0 p1 p2 p3:Int) (p4:Bool) (p5 p6 p7 p8:Int) (p9:Bool):Option ((Int×Unit)×Unit):=
 (nep' p0 p5).bind fun y1=>
 (nep' p1 p6).bind fun y2=>
 (nkv' [y1.1.1,y2.1.1]).bind fun y3=>
 some ((y3.1.1,()),())
noncomputable def ndk' (s52:List (Entry)) (s53 s54 p0 p1 p2 p3:Int) (p4 p5 p6:Nat) (p7:List (Car)) (p8:List (Int)) (p9 p10:List (Bool)) (p11:List (Entry)):Option (Sum (T'27×(T'0×T'5×Unit)) ((Unit×Unit) ⊕ ((Bool×Unit)×Unit))):=
 bif (decide (s54 < s53)) then
 bif (inB s54 (List.length s52)) then
 let z0:Entry:=(List.getD s52 (Int.toNat s54) (Entry.mk (0:Int) (0:Int) (0:Int) (0:Int) false))
 Option.bind ((ni8' p0 p1 p2 p3 p4 p5 p6 p7 z0.Floor z0.Dir z0.Car z0.Moves z0.Moved).bind fun y1=>
 bif (!y1.1.1) then
 some (((),(),s52,s53,s54,true,()),((p0,p1,p2,p3,p4,p5,p6,p7,()),(p8,p9,p10,p11,()),()))
 else
 bif (decide ((0:Int) < s54)) then
 let z1:Int:=(IntKind.i64.wrap (s54 - (1:Int)))
 bif (inB z1 (List.length p11)) then
 let z2:Entry:=(List.getD p11 (Int.toNat z1) (Entry.mk (0:Int) (0:Int) (0:Int) (0:Int) false))
 (nfi' z2.Floor z2.Dir z2.Car z2.Moves z2.Moved z0.Floor z0.Dir z0.Car z0.Moves z0.Moved).bind fun y2=>
 some (((),(),s52,s53,s54,(decide ((0:Int)≤y2.1.1)),()),((p0,p1,p2,p3,p4,p5,p6,p7,()),(p8,p9,p10,p11,()),()))
 else
 none
 else
 some (((),(),s52,s53,s54,false,()),((p0,p1,p2,p3,p4,p5,p6,p7,()),(p8,p9,p10,p11,()),()))) fun y3=>
 bif y3.1.2.2.2.2.2.1 then
 some (Sum.inr (Sum.inr ((false,()),())))
 else
 some (Sum.inl (((),(),y3.1.2.2.1,y3.1.2.2.2.1,(IntKind.i64.wrap (y3.1.2.2.2.2.1 + (1:Int))),()),(y3.2.1,y3.2.2.1,())))
 else
 none
 else
 some (Sum.inr (Sum.inl ((),())))
noncomputable def nhy':(T'27×(T'0×T'5×Unit))→Option ((Unit×Unit) ⊕ ((Bool×Unit)×Unit)):=iter (fun x=>ndk' x.1.2.2.1 x.1.2.2.2.1 x.1.2.2.2.2.1 x.2.1.1 x.2.1.2.1 x.2.1.2.2.1 x.2.1.2.2.2.1 x.2.1.2.2.2.2.1 x.2.1.2.2.2.2.2.1 x.2.1.2.2.2.2.2.2.1 x.2.1.2.2.2.2.2.2.2.1 x.2.2.1.1 x.2.2.1.2.1 x.2.2.1.2.2.1 x.2.2.1.2.2.2.1) fuel
noncomputable def nee' (s38:List (Int)) (s39 s40 p0 p1 p2 p3:Int) (p4 p5 p6:Nat) (p7:List (Car)) (p8:List (Int)) (p9 p10:List (Bool)) (p11:List (Entry)):Option (Sum (T'26×(T'0×T'5×Unit)) (((Unit×Unit×Unit)×(T'0×T'5×Unit)) ⊕ ((Bool×Unit)×Unit))):=
 bif (decide (s40 < s39)) then
 bif (inB s40 (List.length s38)) then
 let z0:Int:=(List.getD s38 (Int.toNat s40) (0:Int))
 bif (decide (z0 < (0:Int))) then
 some (Sum.inr (Sum.inr ((false,()),())))
 else
 bif (decide ((4:Int) < z0)) then
 some (Sum.inr (Sum.inr ((false,()),())))
 else
 some (Sum.inl (((),(),s38,s39,(IntKind.i64.wrap (s40 + (1:Int))),()),((p0,p1,p2,p3,p4,p5,p6,p7,()),(p8,p9,p10,p11,()),())))
 else
 none
 else
 some (Sum.inr (Sum.inl (((),(),()),((p0,p1,p2,p3,p4,p5,p6,p7,()),(p8,p9,p10,p11,()),()))))
noncomputable def nhz':(T'26×(T'0×T'5×Unit))→Option (((Unit×Unit×Unit)×(T'0×T'5×Unit)) ⊕ ((Bool×Unit)×Unit)):=iter (fun x=>nee' x.1.2.2.1 x.1.2.2.2.1 x.1.2.2.2.2.1 x.2.1.1 x.2.1.2.1 x.2.1.2.2.1 x.2.1.2.2.2.1 x.2.1.2.2.2.2.1 x.2.1.2.2.2.2.2.1 x.2.1.2.2.2.2.2.2.1 x.2.1.2.2.2.2.2.2.2.1 x.2.2.1.1 x.2.2.1.2.1 x.2.2.1.2.2.1 x.2.2.1.2.2.2.1) fuel
noncomputable def ndw' (p0 p1 p2 p3:Int) (p4 p5 p6:Nat) (p7:List (Car)) (p8:List (Int)) (p9 p10:List (Bool)) (p11:List (Entry)):Option ((Bool×Unit)×Unit):=
 let z0:Int:=((List.length p7:Nat):Int)
 (nce' p0 p1 p2 p3 p4 p5 p6 p7).bind fun y1=>
 bif (y1.1.1 != (0:Int)) then
 some ((false,()),())
 else
 bif (((List.length p8:Nat):Int) != z0) then
 some ((false,()),())
 else
 bif (((List.length p9:Nat):Int) != z0) then
 some ((false,()),())
 else
 bif (((List.length p10:Nat):Int) != z0) then
 some ((false,()),())
 else
 (nhz' (((),(),p8,((List.length p8:Nat):Int),(0:Int),()),((p0,p1,p2,p3,p4,p5,p6,p7,()),(p8,p9,p10,p11,()),()))).bind fun y2=>
 (match y2 with
 | .inl y3=>
 (nhy' (((),(),y3.2.2.1.2.2.2.1,((List.length y3.2.2.1.2.2.2.1:Nat):Int),(0:Int),()),(y3.2.1,y3.2.2.1,()))).bind fun y4=>
 (match y4 with
 | .inl y5=>
 some ((true,()),())
 | .inr y5=>
 some ((y5.1.1,()),()))
 | .inr y3=>
 some ((y3.1.1,()),()))
noncomputable def neg' (n:Int):Option ((Bool×Unit)×Unit):=
 Option.bind (bif (decide (n < (0:Int))) then
 some ((true,()),())
 else
 some (((decide ((1000000:Int) < n)),()),())) fun y1=>
 some ((y1.1.1,()),())
noncomputable def nw' (s:List (Int)) (s7 s8:Int):Option (Sum (T'28×Unit) ((Unit×Unit) ⊕ ((Int×Unit)×Unit))):=
 bif (decide (s8 < s7)) then
 bif (inB s8 (List.length s)) then
 (neg' (List.getD s (Int.toNat s8) (0:Int))).bind fun y1=>
 bif y1.1.1 then
 some (Sum.inr (Sum.inr ((s8,()),())))
 else
 some (Sum.inl ((s,(),s7,(IntKind.i64.wrap (s8 + (1:Int))),()),()))
 else
 none
 else
 some (Sum.inr (Sum.inl ((),())))
noncomputable def nbe':(T'28×Unit)→Option ((Unit×Unit) ⊕ ((Int×Unit)×Unit)):=iter (fun x=>nw' x.1.1 x.1.2.2.1 x.1.2.2.2.1) fuel
noncomputable def nb1' (s:List (Int)):Option ((Int×Unit)×Unit):=
 (nbe' ((s,(),((List.length s:Nat):Int),(0:Int),()),())).bind fun y1=>
 (match y1 with
 | .inl y2=>
 some (((-1:Int),()),())
 | .inr y2=>
 some ((y2.1.1,()),()))
noncomputable def nbb' (s:List (Int)):Option ((Bool×Unit)×Unit):=
 (nb1' s).bind fun y1=>
 some (((decide ((0:Int)≤y1.1.1)),()),())
noncomputable def ne7' (p0:List (Int)) (p1 p2:List (Bool)) (p3:List (Entry)) (p4:List (Int)):Option ((Bool×Unit)×Unit):=
 Option.bind (bif (((List.length p4:Nat):Int)==((List.length p3:Nat):Int)) then
 (nbb' p4).bind fun y1=>
 some (((!y1.1.1),()),())
 else
 some ((false,()),())) fun y2=>
 some ((y2.1.1,()),())
noncomputable def ncf' (s:List (Int)):Option ((List (Int)×Unit)×Unit):=
 cloF s
noncomputable def nbt' (s:List (Bool)):Option ((List (Bool)×Unit)×Unit):=
 cloF s
noncomputable def nbq' (s:List (Entry)):Option ((List (Entry)×Unit)×Unit):=
 cloF s
noncomputable def nf4' (p0:List (Int)) (p1 p2:List (Bool)) (p3:List (Entry)):Option ((Unit×Unit)×(T'5×Unit)):=
 (ncf' p0).bind fun y1=>
 (nbt' p1).bind fun y2=>
 (nbt' p2).bind fun y3=>
 (nbq' p3).bind fun y4=>
 some (((),()),((y1.1.1,y2.1.1,y3.1.1,y4.1.1,()),()))
noncomputable def nj2' (n:Int):Option ((Unit×Unit)×(T'22×Unit)):=
 bif (((decide ((0:Int)≤n))&&(decide (n≤n)))&&(decide (n≤(2147483648:Int)))) then
 bif (((decide ((0:Int)≤n))&&(decide (n≤n)))&&(decide (n≤(2147483648:Int)))) then
 some (((),()),(((List.replicate (Int.toNat n) (Calls.mk (0:Int) (0:Int))),(List.replicate (Int.toNat n) false),(0:Int),(0:Int),()),()))
 else
 none
 else
 none
noncomputable def nhn' (p0 dir:Int):Option ((Unit×Unit)×T'18):=
 Option.bind (bif (decide ((0:Int)≤p0)) then
 some ((p0,dir,(),(decide (p0 < (32:Int))),()),(((0:Int),(0:Int),()),()))
 else
 some ((p0,dir,(),false,()),(((0:Int),(0:Int),()),()))) fun y1=>
 bif y1.1.2.2.2.1 then
 bif (y1.1.2.1==(1:Int)) then
 bif (decide ((0:Int)≤y1.1.1)) then
 some (((),()),(((IntKind.u32.wrap ((1:Int) * ((2:Int) ^ (Min.min (Int.toNat y1.1.1) (IntKind.bits IntKind.u32))))),(0:Int),()),()))
 else
 none
 else
 bif (y1.1.2.1==(2:Int)) then
 bif (decide ((0:Int)≤y1.1.1)) then
 some (((),()),(((0:Int),(IntKind.u32.wrap ((1:Int) * ((2:Int) ^ (Min.min (Int.toNat y1.1.1) (IntKind.bits IntKind.u32))))),()),()))
 else
 none
 else
 some (((),()),(((0:Int),(0:Int),()),()))
 else
 some (((),()),(((0:Int),(0:Int),()),()))
noncomputable def ndi' (p0 p1 p2 dir:Int):Option ((Bool×Unit)×Unit):=
 (nhn' p2 dir).bind fun y1=>
 (neb' p0 p1 y1.2.1.1 y1.2.1.2.1).bind fun y2=>
 some (((!((y2.2.1.1==(0:Int))&&((y2.2.1.2.1==(0:Int))&&true))),()),())
noncomputable def ndt' (l:List (Record)) (s38:List (Entry)) (s39 s40 p0 p1:Int):Option (Sum (T'32×T'18) ((List (Record)×Unit)×Unit)):=
 bif (decide (s40 < s39)) then
 bif (inB s40 (List.length s38)) then
 let z0:Entry:=(List.getD s38 (Int.toNat s40) (Entry.mk (0:Int) (0:Int) (0:Int) (0:Int) false))
 (ndi' p0 p1 z0.Floor z0.Dir).bind fun y1=>
 bif y1.1.1 then
 let z1:List (Record):=[(Record.mk (2:Int) z0.Floor z0.Dir (0:Int) (0:Int))]
 bif (Nat.ble ((List.length l) + (List.length z1)) 2147483648) then
 some (Sum.inl (((),(l++z1),s38,s39,(IntKind.i64.wrap (s40 + (1:Int))),()),((p0,p1,()),())))
 else
 none
 else
 some (Sum.inl (((),l,s38,s39,(IntKind.i64.wrap (s40 + (1:Int))),()),((p0,p1,()),())))
 else
 none
 else
 some (Sum.inr ((l,()),()))
noncomputable def nf6':(T'32×T'18)→Option ((List (Record)×Unit)×Unit):=iter (fun x=>ndt' x.1.2.1 x.1.2.2.1 x.1.2.2.2.1 x.1.2.2.2.2.1 x.2.1.1 x.2.1.2.1) fuel
noncomputable def ndp' (s25:List (View)) (s26 s27 p0 p1 p2 p3:Int) (p4 p5 p6:Nat) (p7:List (Car)) (p8:List (Int)) (p9 p10:List (Bool)) (p11:List (Entry)) (p12 p13:Int):Option (Sum (T'29×T'30) ((Unit×Unit×Unit)×T'31)):=
 bif (decide (s27 < s26)) then
 bif (inB s27 (List.length s25)) then
 let z0:View:=(List.getD s25 (Int.toNat s27) (View.mk false false false false (0:Int) (0:Int) (0:Int) (0:Int) (0:Int) (0:Int) (0:Int) (0:Int)))
 (ne2' p0 p1 p2 p3 p4 p5 p6 p7 z0.Ready z0.Serving z0.Legacy z0.Lost z0.Floor z0.Dir z0.Load z0.Shows_Up z0.Shows_Down z0.Stops_Car z0.Stops_Hall_Up z0.Stops_Hall_Down).bind fun y1=>
 (nen' p12 p13 y1.2.1.1 y1.2.1.2.1).bind fun y2=>
 some (Sum.inl (((),(),(),s25,s26,(IntKind.i64.wrap (s27 + (1:Int))),()),((p0,p1,p2,p3,p4,p5,p6,p7,()),(p8,p9,p10,p11,()),y2.2.1,())))
 else
 none
 else
 some (Sum.inr (((),(),()),((p8,p9,p10,p11,()),(p12,p13,()),())))
noncomputable def nf3':(T'29×T'30)→Option ((Unit×Unit×Unit)×T'31):=iter (fun x=>ndp' x.1.2.2.2.1 x.1.2.2.2.2.1 x.1.2.2.2.2.2.1 x.2.1.1 x.2.1.2.1 x.2.1.2.2.1 x.2.1.2.2.2.1 x.2.1.2.2.2.2.1 x.2.1.2.2.2.2.2.1 x.2.1.2.2.2.2.2.2.1 x.2.1.2.2.2.2.2.2.2.1 x.2.2.1.1 x.2.2.1.2.1 x.2.2.1.2.2.1 x.2.2.1.2.2.2.1 x.2.2.2.1.1 x.2.2.2.1.2.1) fuel
noncomputable def nhw' (p0 p1 p2 p3:Int) (p4 p5 p6:Nat) (p7:List (Car)) (p8:List (Int)) (p9 p10:List (Bool)) (p11:List (Entry)) (p12:List (View)):Option ((List (Record)×Unit)×Unit):=
 (ndw' p0 p1 p2 p3 p4 p5 p6 p7 p8 p9 p10 p11).bind fun y1=>
 bif (!y1.1.1) then
 some ((([]:List (Record)),()),())
 else
 bif (((List.length p12:Nat):Int) != ((List.length p7:Nat):Int)) then
 some ((([]:List (Record)),()),())
 else
 (nf3' (((),(),(),p12,((List.length p12:Nat):Int),(0:Int),()),((p0,p1,p2,p3,p4,p5,p6,p7,()),(p8,p9,p10,p11,()),((0:Int),(0:Int),()),()))).bind fun y2=>
 (nf6' (((),([]:List (Record)),y2.2.1.2.2.2.1,((List.length y2.2.1.2.2.2.1:Nat):Int),(0:Int),()),(y2.2.2.1,()))).bind fun y3=>
 some ((y3.1.1,()),())
noncomputable def nfr' (p0 p1 p2 p3:Int) (p4:Bool) (b0 b1:Int):Option ((Bool×Unit)×T'33):=
 Option.bind (bif (decide (b0 < p0)) then
 some ((true,()),((b0,()),(b1,()),()))
 else
 bif (p0==b0) then
 some (((decide (b1≤p1)),()),((b0,()),(b1,()),()))
 else
 some ((false,()),((b0,()),(b1,()),()))) fun y1=>
 some ((y1.1.1,()),((y1.2.1.1,()),(y1.2.2.1.1,()),()))
noncomputable def nn' (s:List (Entry)) (s7 s8 b0 b1:Int):Option (Sum (T'34×T'33) ((Unit×T'33) ⊕ ((Int×Unit)×T'33))):=
 bif (decide (s8 < s7)) then
 bif (inB s8 (List.length s)) then
 let z0:Entry:=(List.getD s (Int.toNat s8) (Entry.mk (0:Int) (0:Int) (0:Int) (0:Int) false))
 (nfr' z0.Floor z0.Dir z0.Car z0.Moves z0.Moved b0 b1).bind fun y1=>
 bif y1.1.1 then
 some (Sum.inr (Sum.inr ((s8,()),((y1.2.1.1,()),(y1.2.2.1.1,()),()))))
 else
 some (Sum.inl ((s,(),s7,(IntKind.i64.wrap (s8 + (1:Int))),()),((y1.2.1.1,()),(y1.2.2.1.1,()),())))
 else
 none
 else
 some (Sum.inr (Sum.inl ((),((b0,()),(b1,()),()))))
noncomputable def n1':(T'34×T'33)→Option ((Unit×T'33) ⊕ ((Int×Unit)×T'33)):=iter (fun x=>nn' x.1.1 x.1.2.2.1 x.1.2.2.2.1 x.2.1.1 x.2.2.1.1) fuel
noncomputable def nbk' (s:List (Entry)) (b0 b1:Int):Option ((Int×Unit)×T'33):=
 (n1' ((s,(),((List.length s:Nat):Int),(0:Int),()),((b0,()),(b1,()),()))).bind fun y1=>
 (match y1 with
 | .inl y2=>
 some (((-1:Int),()),((y2.2.1.1,()),(y2.2.2.1.1,()),()))
 | .inr y2=>
 some ((y2.1.1,()),((y2.2.1.1,()),(y2.2.2.1.1,()),())))
noncomputable def ng6' (p0:List (Int)) (p1 p2:List (Bool)) (p3:List (Entry)) (p4 dir:Int):Option ((Int×Bool×Unit)×Unit):=
 (nbk' p3 p4 dir).bind fun y1=>
 bif (decide (y1.1.1 < (0:Int))) then
 some ((((List.length p3:Nat):Int),false,()),())
 else
 Option.bind (bif (inB y1.1.1 (List.length p3)) then
 bif ((List.getD p3 (Int.toNat y1.1.1) (Entry.mk (0:Int) (0:Int) (0:Int) (0:Int) false)).Floor==y1.2.1.1) then
 bif (inB y1.1.1 (List.length p3)) then
 some ((y1.1.1,((List.getD p3 (Int.toNat y1.1.1) (Entry.mk (0:Int) (0:Int) (0:Int) (0:Int) false)).Dir==y1.2.2.1.1),()),())
 else
 none
 else
 some ((y1.1.1,false,()),())
 else
 none) fun y2=>
 some ((y2.1.1,y2.1.2.1,()),())
noncomputable def ndb' (s:List (Int)) (i j:Int):Option ((List (Int)×Unit)×Unit):=
 delF s i j
noncomputable def nc9' (s:List (Int)) (i:Int) (v:List (Int)):Option ((List (Int)×Unit)×Unit):=
 insF s i v
noncomputable def ncj' (n lo hi:Int):Option ((Bool×Unit)×Unit):=
 Option.bind (bif (decide (lo≤n)) then
 some (((decide (n≤hi)),()),())
 else
 some ((false,()),())) fun y1=>
 some ((y1.1.1,()),())
noncomputable def nin' (p0 p1 p2 p3:Int) (p4 p5 p6:Nat) (p7:List (Car)) (p8 p9 p10 p11 p12:Int):Option ((Bool×Unit)×Unit):=
 (nce' p0 p1 p2 p3 p4 p5 p6 p7).bind fun y1=>
 bif (y1.1.1 != (0:Int)) then
 some ((false,()),())
 else
 (neo' p0 p1 p2 p3 p4 p5 p6 p7 p9 p10).bind fun y2=>
 Option.bind (bif (p9==(0:Int)) then
 bif (p10==(0:Int)) then
 (ncj' p11 (0:Int) (IntKind.i64.wrap (((List.length p7:Nat):Int) - (1:Int)))).bind fun y3=>
 some (((),(),y2.1.1,y3.1.1,()),((p0,p1,p2,p3,p4,p5,p6,p7,()),(p8,p9,p10,p11,p12,()),()))
 else
 some (((),(),y2.1.1,false,()),((p0,p1,p2,p3,p4,p5,p6,p7,()),(p8,p9,p10,p11,p12,()),()))
 else
 some (((),(),y2.1.1,false,()),((p0,p1,p2,p3,p4,p5,p6,p7,()),(p8,p9,p10,p11,p12,()),()))) fun y4=>
 bif (y4.2.2.1.1==(1:Int)) then
 Option.bind (bif y4.1.2.2.1 then
 bif (y4.2.2.1.2.2.2.1==(0:Int)) then
 some (((y4.2.2.1.2.2.2.2.1==(0:Int)),()),())
 else
 some ((false,()),())
 else
 some ((false,()),())) fun y5=>
 some ((y5.1.1,()),())
 else
 bif (y4.2.2.1.1==(2:Int)) then
 Option.bind (bif y4.1.2.2.1 then
 bif (y4.2.2.1.2.2.2.1==(0:Int)) then
 some (((y4.2.2.1.2.2.2.2.1==(0:Int)),()),())
 else
 some ((false,()),())
 else
 some ((false,()),())) fun y6=>
 some ((y6.1.1,()),())
 else
 bif (y4.2.2.1.1==(3:Int)) then
 Option.bind (bif y4.1.2.2.1 then
 (ncj' y4.2.2.1.2.2.2.1 (-2:Int) (IntKind.i64.wrap (((List.length y4.2.1.2.2.2.2.2.2.2.1:Nat):Int) - (1:Int)))).bind fun y7=>
 bif y7.1.1 then
 some (((y4.2.2.1.2.2.2.2.1==(0:Int)),()),())
 else
 some ((false,()),())
 else
 some ((false,()),())) fun y8=>
 some ((y8.1.1,()),())
 else
 bif (y4.2.2.1.1==(7:Int)) then
 Option.bind (bif y4.1.2.2.1 then
 (ncj' y4.2.2.1.2.2.2.1 (0:Int) (1:Int)).bind fun y9=>
 bif y9.1.1 then
 (ncj' y4.2.2.1.2.2.2.2.1 (0:Int) (255:Int)).bind fun y10=>
 some ((y10.1.1,()),())
 else
 some ((false,()),())
 else
 some ((false,()),())) fun y11=>
 some ((y11.1.1,()),())
 else
 bif (y4.2.2.1.1==(4:Int)) then
 Option.bind (bif y4.1.2.2.2.1 then
 (ncj' y4.2.2.1.2.2.2.2.1 (0:Int) (4:Int)).bind fun y12=>
 some ((y12.1.1,()),())
 else
 some ((false,()),())) fun y13=>
 some ((y13.1.1,()),())
 else
 bif (y4.2.2.1.1==(5:Int)) then
 Option.bind (bif y4.1.2.2.2.1 then
 (ncj' y4.2.2.1.2.2.2.2.1 (0:Int) (1:Int)).bind fun y14=>
 some ((y14.1.1,()),())
 else
 some ((false,()),())) fun y15=>
 some ((y15.1.1,()),())
 else
 bif (y4.2.2.1.1==(6:Int)) then
 Option.bind (bif y4.1.2.2.2.1 then
 (ncj' y4.2.2.1.2.2.2.2.1 (0:Int) (1:Int)).bind fun y16=>
 some ((y16.1.1,()),())
 else
 some ((false,()),())) fun y17=>
 some ((y17.1.1,()),())
 else
 some ((false,()),())
noncomputable def nlg' (p0:List (Int)) (p1 p2:List (Bool)) (p3:List (Entry)):Option ((Unit×Unit)×(T'5×Unit)):=
 (ncf' p0).bind fun y1=>
 (nbt' p1).bind fun y2=>
 (nbt' p2).bind fun y3=>
 (nbq' p3).bind fun y4=>
 some (((),()),((y1.1.1,y2.1.1,y3.1.1,y4.1.1,()),()))
noncomputable def nv' (x_1:List (Entry)) (n i j p0 p1 p2 p3:Int) (p4:Bool):Option (Sum (T'35×(T'11×Unit)) (T'36×(T'11×Unit))):=
 bif (decide (i < j)) then
 let z0:Int:=(IntKind.i64.wrap (Int.fdiv (IntKind.u64.wrap (IntKind.i64.wrap (i + j))) ((2:Int) ^ (Min.min (Int.toNat (1:Int)) (IntKind.bits IntKind.u64)))))
 bif (inB z0 (List.length x_1)) then
 let z1:Entry:=(List.getD x_1 (Int.toNat z0) (Entry.mk (0:Int) (0:Int) (0:Int) (0:Int) false))
 (nfi' z1.Floor z1.Dir z1.Car z1.Moves z1.Moved p0 p1 p2 p3 p4).bind fun y1=>
 bif (decide (y1.1.1 < (0:Int))) then
 some (Sum.inl ((x_1,(),(),n,(IntKind.i64.wrap (z0 + (1:Int))),j,()),((p0,p1,p2,p3,p4,()),())))
 else
 some (Sum.inl ((x_1,(),(),n,i,z0,()),((p0,p1,p2,p3,p4,()),())))
 else
 none
 else
 some (Sum.inr ((x_1,(),(),n,i,()),((p0,p1,p2,p3,p4,()),())))
noncomputable def nt':(T'35×(T'11×Unit))→Option (T'36×(T'11×Unit)):=iter (fun x=>nv' x.1.1 x.1.2.2.2.1 x.1.2.2.2.2.1 x.1.2.2.2.2.2.1 x.2.1.1 x.2.1.2.1 x.2.1.2.2.1 x.2.1.2.2.2.1 x.2.1.2.2.2.2.1) fuel
noncomputable def n5' (x_1:List (Entry)) (p0 p1 p2 p3:Int) (p4:Bool):Option ((Int×Bool×Unit)×Unit):=
 let z0:Int:=((List.length x_1:Nat):Int)
 (nt' ((x_1,(),(),z0,(0:Int),z0,()),((p0,p1,p2,p3,p4,()),()))).bind fun y1=>
 Option.bind (bif (decide (y1.1.2.2.2.2.1 < y1.1.2.2.2.1)) then
 bif (inB y1.1.2.2.2.2.1 (List.length y1.1.1)) then
 let z1:Entry:=(List.getD y1.1.1 (Int.toNat y1.1.2.2.2.2.1) (Entry.mk (0:Int) (0:Int) (0:Int) (0:Int) false))
 (nfi' z1.Floor z1.Dir z1.Car z1.Moves z1.Moved y1.2.1.1 y1.2.1.2.1 y1.2.1.2.2.1 y1.2.1.2.2.2.1 y1.2.1.2.2.2.2.1).bind fun y2=>
 some ((y1.1.2.2.2.2.1,(y2.1.1==(0:Int)),()),())
 else
 none
 else
 some ((y1.1.2.2.2.2.1,false,()),())) fun y3=>
 some ((y3.1.1,y3.1.2.1,()),())
noncomputable def nmr' (p0:List (Int)) (p1 p2:List (Bool)) (p3:List (Entry)) (p4 dir:Int):Option ((Int×Bool×Unit)×Unit):=
 (n5' p3 p4 dir (0:Int) (0:Int) false).bind fun y1=>
 some ((y1.1.1,y1.1.2.1,()),())
noncomputable def ncp' (s:List (Entry)) (i:Int) (v:List (Entry)):Option ((List (Entry)×Unit)×Unit):=
 insF s i v
noncomputable def nco' (s:List (Entry)) (i j:Int):Option ((List (Entry)×Unit)×Unit):=
 delF s i j
noncomputable def nk1' (p0 p1 p2 p3 p4:Int) (p5:List (Int)) (p6 p7:List (Bool)) (p8:List (Entry)):Option (Unit×(T'5×Unit)):=
 (nmr' p5 p6 p7 p8 p1 p2).bind fun y1=>
 bif (p0==(4:Int)) then
 bif (inB p3 (List.length p5)) then
 some ((),(((List.set p5 (Int.toNat p3) p4),p6,p7,p8,()),()))
 else
 none
 else
 bif (p0==(5:Int)) then
 bif (inB p3 (List.length p6)) then
 some ((),((p5,(List.set p6 (Int.toNat p3) (p4==(1:Int))),p7,p8,()),()))
 else
 none
 else
 bif (p0==(6:Int)) then
 bif (inB p3 (List.length p7)) then
 some ((),((p5,p6,(List.set p7 (Int.toNat p3) (p4==(1:Int))),p8,()),()))
 else
 none
 else
 bif (p0==(1:Int)) then
 bif (!y1.1.2.1) then
 (ncp' p8 y1.1.1 [(Entry.mk p1 p2 (-1:Int) (0:Int) false)]).bind fun y2=>
 some ((),((p5,p6,p7,y2.1.1,()),()))
 else
 some ((),((p5,p6,p7,p8,()),()))
 else
 bif (p0==(2:Int)) then
 bif y1.1.2.1 then
 (nco' p8 y1.1.1 (IntKind.i64.wrap (y1.1.1 + (1:Int)))).bind fun y3=>
 some ((),((p5,p6,p7,y3.1.1,()),()))
 else
 some ((),((p5,p6,p7,p8,()),()))
 else
 bif (p0==(3:Int)) then
 bif y1.1.2.1 then
 bif (inB y1.1.1 (List.length p8)) then
 let z0:Nat:=(Int.toNat y1.1.1)
 let z1:Entry:=(List.getD p8 z0 (Entry.mk (0:Int) (0:Int) (0:Int) (0:Int) false))
 some ((),((p5,p6,p7,(List.set p8 z0 (Entry.mk z1.Floor z1.Dir p3 z1.Moves z1.Moved)),()),()))
 else
 none
 else
 some ((),((p5,p6,p7,p8,()),()))
 else
 bif (p0==(7:Int)) then
 bif y1.1.2.1 then
 bif (inB y1.1.1 (List.length p8)) then
 let z2:Nat:=(Int.toNat y1.1.1)
 let z3:Entry:=(List.getD p8 z2 (Entry.mk (0:Int) (0:Int) (0:Int) (0:Int) false))
 let z4:List (Entry):=(List.set p8 z2 (Entry.mk z3.Floor z3.Dir z3.Car p4 z3.Moved))
 bif (inB y1.1.1 (List.length z4)) then
 let z5:Nat:=(Int.toNat y1.1.1)
 let z6:Entry:=(List.getD z4 z5 (Entry.mk (0:Int) (0:Int) (0:Int) (0:Int) false))
 some ((),((p5,p6,p7,(List.set z4 z5 (Entry.mk z6.Floor z6.Dir z6.Car z6.Moves (p3==(1:Int)))),()),()))
 else
 none
 else
 none
 else
 some ((),((p5,p6,p7,p8,()),()))
 else
 some ((),((p5,p6,p7,p8,()),()))
noncomputable def nit' (p0 p1 p2 p3:Int) (p4 p5 p6:Nat) (p7:List (Car)) (p8:List (Int)) (p9 p10:List (Bool)) (p11:List (Entry)) (p12 p13 p14 p15 p16:Int):Option ((Unit×Int×Unit)×(T'5×Unit)):=
 (ndw' p0 p1 p2 p3 p4 p5 p6 p7 p8 p9 p10 p11).bind fun y1=>
 bif (!y1.1.1) then
 some (((),(1:Int),()),((([]:List (Int)),([]:List (Bool)),([]:List (Bool)),([]:List (Entry)),()),()))
 else
 (nin' p0 p1 p2 p3 p4 p5 p6 p7 p12 p13 p14 p15 p16).bind fun y2=>
 bif (!y2.1.1) then
 some (((),(1:Int),()),((([]:List (Int)),([]:List (Bool)),([]:List (Bool)),([]:List (Entry)),()),()))
 else
 (nlg' p8 p9 p10 p11).bind fun y3=>
 (nk1' p12 p13 p14 p15 p16 y3.2.1.1 y3.2.1.2.1 y3.2.1.2.2.1 y3.2.1.2.2.2.1).bind fun y4=>
 some (((),(0:Int),()),(y4.2.1,()))
noncomputable def nbs' (s10:List (Record)) (s11 s12:Int) (p0:List (Record)) (p1:List (Int)) (p2 p3:List (Bool)) (p4:List (Entry)) (p5:List (Int)) (p6:List (Calls)) (p7:List (Bool)) (p8 p9 p10 p11 p12 p13 p14 p15:Int) (p16 p17 p18:Nat) (p19:List (Car)):Option (Sum (T'38×(T'37×Unit)) (Unit×(T'37×Unit))):=
 bif (decide (s12 < s11)) then
 bif (inB s12 (List.length s10)) then
 let z0:Record:=(List.getD s10 (Int.toNat s12) (Record.mk (0:Int) (0:Int) (0:Int) (0:Int) (0:Int)))
 (ng6' p1 p2 p3 p4 z0.Floor z0.Dir).bind fun y1=>
 Option.bind (Option.bind (bif (z0.Kind==(2:Int)) then
 some (((),(),y1.1.1,y1.1.2.1,s10,s11,s12,y1.1.2.1,()),((z0.Kind,z0.Floor,z0.Dir,z0.Car,z0.Value,()),(p0,p1,p2,p3,p4,p5,p6,p7,p8,p9,p10,p11,p12,p13,p14,p15,p16,p17,p18,p19,()),()))
 else
 some (((),(),y1.1.1,y1.1.2.1,s10,s11,s12,false,()),((z0.Kind,z0.Floor,z0.Dir,z0.Car,z0.Value,()),(p0,p1,p2,p3,p4,p5,p6,p7,p8,p9,p10,p11,p12,p13,p14,p15,p16,p17,p18,p19,()),()))) fun y2=>
 bif y2.1.2.2.2.2.2.2.2.1 then
 (ndb' y2.2.2.1.2.2.2.2.2.1 y2.1.2.2.1 (IntKind.i64.wrap (y2.1.2.2.1 + (1:Int)))).bind fun y3=>
 some (((),(),y2.1.2.2.2.2.1,y2.1.2.2.2.2.2.1,y2.1.2.2.2.2.2.2.1,()),(y2.2.1,(y2.2.2.1.1,y2.2.2.1.2.1,y2.2.2.1.2.2.1,y2.2.2.1.2.2.2.1,y2.2.2.1.2.2.2.2.1,y3.1.1,y2.2.2.1.2.2.2.2.2.2.1,y2.2.2.1.2.2.2.2.2.2.2.1,y2.2.2.1.2.2.2.2.2.2.2.2.1,y2.2.2.1.2.2.2.2.2.2.2.2.2.1,y2.2.2.1.2.2.2.2.2.2.2.2.2.2.1,y2.2.2.1.2.2.2.2.2.2.2.2.2.2.2.1,y2.2.2.1.2.2.2.2.2.2.2.2.2.2.2.2.1,y2.2.2.1.2.2.2.2.2.2.2.2.2.2.2.2.2.1,y2.2.2.1.2.2.2.2.2.2.2.2.2.2.2.2.2.2.1,y2.2.2.1.2.2.2.2.2.2.2.2.2.2.2.2.2.2.2.1,y2.2.2.1.2.2.2.2.2.2.2.2.2.2.2.2.2.2.2.2.1,y2.2.2.1.2.2.2.2.2.2.2.2.2.2.2.2.2.2.2.2.2.1,y2.2.2.1.2.2.2.2.2.2.2.2.2.2.2.2.2.2.2.2.2.2.1,y2.2.2.1.2.2.2.2.2.2.2.2.2.2.2.2.2.2.2.2.2.2.2.1,()),()))
 else
 Option.bind (bif (y2.2.1.1==(1:Int)) then
 some (((),(),y2.1.2.2.1,y2.1.2.2.2.2.1,y2.1.2.2.2.2.2.1,y2.1.2.2.2.2.2.2.1,(!y2.1.2.2.2.1),()),(y2.2.1,y2.2.2.1,()))
 else
 some (((),(),y2.1.2.2.1,y2.1.2.2.2.2.1,y2.1.2.2.2.2.2.1,y2.1.2.2.2.2.2.2.1,false,()),(y2.2.1,y2.2.2.1,()))) fun y4=>
 bif y4.1.2.2.2.2.2.2.1 then
 (nc9' y4.2.2.1.2.2.2.2.2.1 y4.1.2.2.1 [(0:Int)]).bind fun y5=>
 some (((),(),y4.1.2.2.2.1,y4.1.2.2.2.2.1,y4.1.2.2.2.2.2.1,()),(y4.2.1,(y4.2.2.1.1,y4.2.2.1.2.1,y4.2.2.1.2.2.1,y4.2.2.1.2.2.2.1,y4.2.2.1.2.2.2.2.1,y5.1.1,y4.2.2.1.2.2.2.2.2.2.1,y4.2.2.1.2.2.2.2.2.2.2.1,y4.2.2.1.2.2.2.2.2.2.2.2.1,y4.2.2.1.2.2.2.2.2.2.2.2.2.1,y4.2.2.1.2.2.2.2.2.2.2.2.2.2.1,y4.2.2.1.2.2.2.2.2.2.2.2.2.2.2.1,y4.2.2.1.2.2.2.2.2.2.2.2.2.2.2.2.1,y4.2.2.1.2.2.2.2.2.2.2.2.2.2.2.2.2.1,y4.2.2.1.2.2.2.2.2.2.2.2.2.2.2.2.2.2.1,y4.2.2.1.2.2.2.2.2.2.2.2.2.2.2.2.2.2.2.1,y4.2.2.1.2.2.2.2.2.2.2.2.2.2.2.2.2.2.2.2.1,y4.2.2.1.2.2.2.2.2.2.2.2.2.2.2.2.2.2.2.2.2.1,y4.2.2.1.2.2.2.2.2.2.2.2.2.2.2.2.2.2.2.2.2.2.1,y4.2.2.1.2.2.2.2.2.2.2.2.2.2.2.2.2.2.2.2.2.2.2.1,()),()))
 else
 some (((),(),y4.1.2.2.2.1,y4.1.2.2.2.2.1,y4.1.2.2.2.2.2.1,()),(y4.2.1,y4.2.2.1,()))) fun y6=>
 (nit' y6.2.2.1.2.2.2.2.2.2.2.2.2.2.2.2.1 y6.2.2.1.2.2.2.2.2.2.2.2.2.2.2.2.2.1 y6.2.2.1.2.2.2.2.2.2.2.2.2.2.2.2.2.2.1 y6.2.2.1.2.2.2.2.2.2.2.2.2.2.2.2.2.2.2.1 y6.2.2.1.2.2.2.2.2.2.2.2.2.2.2.2.2.2.2.2.1 y6.2.2.1.2.2.2.2.2.2.2.2.2.2.2.2.2.2.2.2.2.1 y6.2.2.1.2.2.2.2.2.2.2.2.2.2.2.2.2.2.2.2.2.2.1 y6.2.2.1.2.2.2.2.2.2.2.2.2.2.2.2.2.2.2.2.2.2.2.1 y6.2.2.1.2.1 y6.2.2.1.2.2.1 y6.2.2.1.2.2.2.1 y6.2.2.1.2.2.2.2.1 y6.2.1.1 y6.2.1.2.1 y6.2.1.2.2.1 y6.2.1.2.2.2.1 y6.2.1.2.2.2.2.1).bind fun y7=>
 bif (y7.1.2.1==(0:Int)) then
 let z1:List (Record):=[(Record.mk y6.2.1.1 y6.2.1.2.1 y6.2.1.2.2.1 y6.2.1.2.2.2.1 y6.2.1.2.2.2.2.1)]
 bif (Nat.ble ((List.length y6.2.2.1.1) + (List.length z1)) 2147483648) then
 some (Sum.inl (((),y6.1.2.2.1,y6.1.2.2.2.1,(IntKind.i64.wrap (y6.1.2.2.2.2.1 + (1:Int))),()),(((y6.2.2.1.1++z1),y7.2.1.1,y7.2.1.2.1,y7.2.1.2.2.1,y7.2.1.2.2.2.1,y6.2.2.1.2.2.2.2.2.1,y6.2.2.1.2.2.2.2.2.2.1,y6.2.2.1.2.2.2.2.2.2.2.1,y6.2.2.1.2.2.2.2.2.2.2.2.1,y6.2.2.1.2.2.2.2.2.2.2.2.2.1,y6.2.2.1.2.2.2.2.2.2.2.2.2.2.1,y6.2.2.1.2.2.2.2.2.2.2.2.2.2.2.1,y6.2.2.1.2.2.2.2.2.2.2.2.2.2.2.2.1,y6.2.2.1.2.2.2.2.2.2.2.2.2.2.2.2.2.1,y6.2.2.1.2.2.2.2.2.2.2.2.2.2.2.2.2.2.1,y6.2.2.1.2.2.2.2.2.2.2.2.2.2.2.2.2.2.2.1,y6.2.2.1.2.2.2.2.2.2.2.2.2.2.2.2.2.2.2.2.1,y6.2.2.1.2.2.2.2.2.2.2.2.2.2.2.2.2.2.2.2.2.1,y6.2.2.1.2.2.2.2.2.2.2.2.2.2.2.2.2.2.2.2.2.2.1,y6.2.2.1.2.2.2.2.2.2.2.2.2.2.2.2.2.2.2.2.2.2.2.1,()),())))
 else
 none
 else
 some (Sum.inl (((),y6.1.2.2.1,y6.1.2.2.2.1,(IntKind.i64.wrap (y6.1.2.2.2.2.1 + (1:Int))),()),(y6.2.2.1,())))
 else
 none
 else
 some (Sum.inr ((),((p0,p1,p2,p3,p4,p5,p6,p7,p8,p9,p10,p11,p12,p13,p14,p15,p16,p17,p18,p19,()),())))
noncomputable def nb9':(T'38×(T'37×Unit))→Option (Unit×(T'37×Unit)):=iter (fun x=>nbs' x.1.2.1 x.1.2.2.1 x.1.2.2.2.1 x.2.1.1 x.2.1.2.1 x.2.1.2.2.1 x.2.1.2.2.2.1 x.2.1.2.2.2.2.1 x.2.1.2.2.2.2.2.1 x.2.1.2.2.2.2.2.2.1 x.2.1.2.2.2.2.2.2.2.1 x.2.1.2.2.2.2.2.2.2.2.1 x.2.1.2.2.2.2.2.2.2.2.2.1 x.2.1.2.2.2.2.2.2.2.2.2.2.1 x.2.1.2.2.2.2.2.2.2.2.2.2.2.1 x.2.1.2.2.2.2.2.2.2.2.2.2.2.2.1 x.2.1.2.2.2.2.2.2.2.2.2.2.2.2.2.1 x.2.1.2.2.2.2.2.2.2.2.2.2.2.2.2.2.1 x.2.1.2.2.2.2.2.2.2.2.2.2.2.2.2.2.2.1 x.2.1.2.2.2.2.2.2.2.2.2.2.2.2.2.2.2.2.1 x.2.1.2.2.2.2.2.2.2.2.2.2.2.2.2.2.2.2.2.1 x.2.1.2.2.2.2.2.2.2.2.2.2.2.2.2.2.2.2.2.2.1 x.2.1.2.2.2.2.2.2.2.2.2.2.2.2.2.2.2.2.2.2.2.1) fuel
noncomputable def nbl' (l p0:List (Record)) (p1:List (Int)) (p2 p3:List (Bool)) (p4:List (Entry)) (p5:List (Int)) (p6:List (Calls)) (p7:List (Bool)) (p8 p9 p10 p11 p12 p13 p14 p15:Int) (p16 p17 p18:Nat) (p19:List (Car)):Option (Unit×(T'37×Unit)):=
 (nb9' (((),l,((List.length l:Nat):Int),(0:Int),()),((p0,p1,p2,p3,p4,p5,p6,p7,p8,p9,p10,p11,p12,p13,p14,p15,p16,p17,p18,p19,()),()))).bind fun y1=>
 some ((),(y1.2.1,()))
noncomputable def ngt' (s6:List (Entry)) (s7 s8 p0 p1 p2 p3:Int):Option (Sum (T'27×T'39) ((Unit×Unit×Unit)×T'39)):=
 bif (decide (s8 < s7)) then
 bif (inB s8 (List.length s6)) then
 let z0:Entry:=(List.getD s6 (Int.toNat s8) (Entry.mk (0:Int) (0:Int) (0:Int) (0:Int) false))
 (nhn' z0.Floor z0.Dir).bind fun y1=>
 (nen' p2 p3 y1.2.1.1 y1.2.1.2.1).bind fun y2=>
 some (Sum.inl (((),(),s6,s7,(IntKind.i64.wrap (s8 + (1:Int))),()),((p0,p1,()),y2.2.1,())))
 else
 none
 else
 some (Sum.inr (((),(),()),((p0,p1,()),(p2,p3,()),())))
noncomputable def nkp':(T'27×T'39)→Option ((Unit×Unit×Unit)×T'39):=iter (fun x=>ngt' x.1.2.2.1 x.1.2.2.2.1 x.1.2.2.2.2.1 x.2.1.1 x.2.1.2.1 x.2.2.1.1 x.2.2.1.2.1) fuel
noncomputable def nm0' (l:List (Entry)):Option ((Unit×Unit)×T'18):=
 (nkp' (((),(),l,((List.length l:Nat):Int),(0:Int),()),(((0:Int),(0:Int),()),((0:Int),(0:Int),()),()))).bind fun y1=>
 some (((),()),(y1.2.2.1,()))
noncomputable def nkw' (p0:List (Int)) (p1 p2:List (Bool)) (p3:List (Entry)):Option ((Unit×Unit)×T'18):=
 (nm0' p3).bind fun y1=>
 some (((),()),(y1.2.1,()))
noncomputable def nj7' (p0 p1:Int):Option ((List (Entry)×Unit)×Unit):=
 lstF (fun f d=>ndi' p0 p1 f d) (fun f d=>Entry.mk f d (-1) 0 false)
noncomputable def nm2' (p0 p1 p2 p3:Int) (p4 p5 p6:Nat) (p7:List (Car)) (p8:List (Int)) (p9 p10:List (Bool)) (p11:List (Entry)):Option ((Bool×Unit)×Unit):=
 Option.bind ((ndw' p0 p1 p2 p3 p4 p5 p6 p7 p8 p9 p10 p11).bind fun y1=>
 bif y1.1.1 then
 some (((decide ((IntKind.i64.wrap ((IntKind.i64.wrap ((18:Int) * (IntKind.i64.wrap ((IntKind.i64.wrap (((List.length p7:Nat):Int) + ((List.length p11:Nat):Int))) + (1:Int))))) + (6:Int)))≤p2)),()),())
 else
 some ((false,()),())) fun y2=>
 some ((y2.1.1,()),())
noncomputable def nbi' (s17:List (Entry)) (s18 s19:Int) (p0:List (Record)) (p1:List (Int)) (p2 p3:List (Bool)) (p4:List (Entry)) (p5:List (Int)) (p6:List (Calls)) (p7:List (Bool)) (p8 p9 p10 p11 p12 p13 p14 p15:Int) (p16 p17 p18:Nat) (p19:List (Car)):Option (Sum (T'40×(T'37×Unit)) (Unit×(T'37×Unit))):=
 bif (decide (s19 < s18)) then
 bif (inB s19 (List.length s17)) then
 let z0:Entry:=(List.getD s17 (Int.toNat s19) (Entry.mk (0:Int) (0:Int) (0:Int) (0:Int) false))
 (nm2' p12 p13 p14 p15 p16 p17 p18 p19 p1 p2 p3 p4).bind fun y1=>
 bif y1.1.1 then
 (nbl' [(Record.mk (1:Int) z0.Floor z0.Dir (0:Int) (0:Int))] p0 p1 p2 p3 p4 p5 p6 p7 p8 p9 p10 p11 p12 p13 p14 p15 p16 p17 p18 p19).bind fun y2=>
 some (Sum.inl (((),s17,s18,(IntKind.i64.wrap (s19 + (1:Int))),()),(y2.2.1,())))
 else
 (nhn' z0.Floor z0.Dir).bind fun y3=>
 (nen' p10 p11 y3.2.1.1 y3.2.1.2.1).bind fun y4=>
 some (Sum.inl (((),s17,s18,(IntKind.i64.wrap (s19 + (1:Int))),()),((p0,p1,p2,p3,p4,p5,p6,p7,p8,p9,y4.2.1.1,y4.2.1.2.1,p12,p13,p14,p15,p16,p17,p18,p19,()),())))
 else
 none
 else
 some (Sum.inr ((),((p0,p1,p2,p3,p4,p5,p6,p7,p8,p9,p10,p11,p12,p13,p14,p15,p16,p17,p18,p19,()),())))
noncomputable def nch':(T'40×(T'37×Unit))→Option (Unit×(T'37×Unit)):=iter (fun x=>nbi' x.1.2.1 x.1.2.2.1 x.1.2.2.2.1 x.2.1.1 x.2.1.2.1 x.2.1.2.2.1 x.2.1.2.2.2.1 x.2.1.2.2.2.2.1 x.2.1.2.2.2.2.2.1 x.2.1.2.2.2.2.2.2.1 x.2.1.2.2.2.2.2.2.2.1 x.2.1.2.2.2.2.2.2.2.2.1 x.2.1.2.2.2.2.2.2.2.2.2.1 x.2.1.2.2.2.2.2.2.2.2.2.2.1 x.2.1.2.2.2.2.2.2.2.2.2.2.2.1 x.2.1.2.2.2.2.2.2.2.2.2.2.2.2.1 x.2.1.2.2.2.2.2.2.2.2.2.2.2.2.2.1 x.2.1.2.2.2.2.2.2.2.2.2.2.2.2.2.2.1 x.2.1.2.2.2.2.2.2.2.2.2.2.2.2.2.2.2.1 x.2.1.2.2.2.2.2.2.2.2.2.2.2.2.2.2.2.2.1 x.2.1.2.2.2.2.2.2.2.2.2.2.2.2.2.2.2.2.2.1 x.2.1.2.2.2.2.2.2.2.2.2.2.2.2.2.2.2.2.2.2.1 x.2.1.2.2.2.2.2.2.2.2.2.2.2.2.2.2.2.2.2.2.2.1) fuel
noncomputable def nck' (p0 p1 p2 p3:Int) (p4:List (Record)) (p5:List (Int)) (p6 p7:List (Bool)) (p8:List (Entry)) (p9:List (Int)) (p10:List (Calls)) (p11:List (Bool)) (p12 p13 p14 p15 p16 p17 p18 p19:Int) (p20 p21 p22:Nat) (p23:List (Car)):Option (Unit×(T'37×Unit)):=
 (nfp' p16 p17 p18 p19 p20 p21 p22 p23).bind fun y1=>
 (neb' p0 p1 y1.2.1.1 y1.2.1.2.1).bind fun y2=>
 (nfk' y2.2.1.1 y2.2.1.2.1 p2 p3).bind fun y3=>
 (nj7' y3.2.1.1 y3.2.1.2.1).bind fun y4=>
 (nch' (((),y4.1.1,((List.length y4.1.1:Nat):Int),(0:Int),()),((p4,p5,p6,p7,p8,p9,p10,p11,p12,p13,p14,p15,p16,p17,p18,p19,p20,p21,p22,p23,()),()))).bind fun y5=>
 some ((),(y5.2.1,()))
noncomputable def nhv' (n:Int):Option ((Bool×Unit)×Unit):=
 Option.bind (bif (decide (n < (0:Int))) then
 some ((true,()),())
 else
 some (((decide ((1000000:Int) < n)),()),())) fun y1=>
 some ((y1.1.1,()),())
noncomputable def nz' (s:List (Int)) (s7 s8:Int):Option (Sum (T'28×Unit) ((Unit×Unit) ⊕ ((Int×Unit)×Unit))):=
 bif (decide (s8 < s7)) then
 bif (inB s8 (List.length s)) then
 (nhv' (List.getD s (Int.toNat s8) (0:Int))).bind fun y1=>
 bif y1.1.1 then
 some (Sum.inr (Sum.inr ((s8,()),())))
 else
 some (Sum.inl ((s,(),s7,(IntKind.i64.wrap (s8 + (1:Int))),()),()))
 else
 none
 else
 some (Sum.inr (Sum.inl ((),())))
noncomputable def nbo':(T'28×Unit)→Option ((Unit×Unit) ⊕ ((Int×Unit)×Unit)):=iter (fun x=>nz' x.1.1 x.1.2.2.1 x.1.2.2.2.1) fuel
noncomputable def ncg' (s:List (Int)):Option ((Int×Unit)×Unit):=
 (nbo' ((s,(),((List.length s:Nat):Int),(0:Int),()),())).bind fun y1=>
 (match y1 with
 | .inl y2=>
 some (((-1:Int),()),())
 | .inr y2=>
 some ((y2.1.1,()),()))
noncomputable def nbm' (s:List (Int)):Option ((Bool×Unit)×Unit):=
 (ncg' s).bind fun y1=>
 some (((decide ((0:Int)≤y1.1.1)),()),())
noncomputable def nft' (p0:Int):Option ((Bool×Unit)×Unit):=
 Option.bind (bif (decide ((2:Int)≤p0)) then
 some (((decide (p0≤(32:Int))),()),())
 else
 some ((false,()),())) fun y1=>
 some ((y1.1.1,()),())
noncomputable def njc' (p0 p1 dir:Int):Option ((Bool×Unit)×Unit):=
 Option.bind (bif (dir==(1:Int)) then
 bif (decide ((0:Int)≤p1)) then
 bif (decide (p1 < (IntKind.i64.wrap (p0 - (1:Int))))) then
 some ((true,()),())
 else
 bif (dir==(2:Int)) then
 bif (decide ((0:Int) < p1)) then
 some (((decide (p1 < p0)),()),())
 else
 some ((false,()),())
 else
 some ((false,()),())
 else
 bif (dir==(2:Int)) then
 bif (decide ((0:Int) < p1)) then
 some (((decide (p1 < p0)),()),())
 else
 some ((false,()),())
 else
 some ((false,()),())
 else
 bif (dir==(2:Int)) then
 bif (decide ((0:Int) < p1)) then
 some (((decide (p1 < p0)),()),())
 else
 some ((false,()),())
 else
 some ((false,()),())) fun y1=>
 some ((y1.1.1,()),())
noncomputable def ngg' (p0 p1 p2 p3:Int):Option ((Unit×Unit)×T'41):=
 bif (decide ((0:Int)≤p0)) then
 let z0:Int:=(IntKind.u32.wrap ((IntKind.u32.wrap ((1:Int) * ((2:Int) ^ (Min.min (Int.toNat p0) (IntKind.bits IntKind.u32))))) - (1:Int)))
 (neb' p2 p3 (Int.fdiv z0 ((2:Int) ^ (Min.min (Int.toNat (1:Int)) (IntKind.bits IntKind.u32)))) (IntKind.u32.wrap (stk z0 (1:Int) (BitVec.toNat ((BitVec.ofInt (IntKind.bits IntKind.u32) z0) &&& (~~~ (BitVec.ofInt (IntKind.bits IntKind.u32) (1:Int)))))))).bind fun y1=>
 some (((),()),(((IntKind.u32.wrap (stk p1 z0 (BitVec.toNat ((BitVec.ofInt (IntKind.bits IntKind.u32) p1) &&& (BitVec.ofInt (IntKind.bits IntKind.u32) z0))))),y1.2.1.1,y1.2.1.2.1,()),()))
 else
 none
noncomputable def nc8' (x_1:Int):Option ((Int×Unit)×Unit):=
 bif (x_1==(0:Int)) then
 some (((32:Int),()),())
 else
 let z0:Int:=(IntKind.u32.wrap ((0:Int) - x_1))
 let z1:Int:=(Int.fdiv (IntKind.u32.wrap ((IntKind.u32.wrap (stk x_1 z0 (BitVec.toNat ((BitVec.ofInt (IntKind.bits IntKind.u32) x_1) &&& (BitVec.ofInt (IntKind.bits IntKind.u32) z0))))) * (125613361:Int))) ((2:Int) ^ (Min.min (Int.toNat (27:Int)) (IntKind.bits IntKind.u32))))
 bif (inB z1 32) then
 some (((IntKind.i64.wrap (List.getD [(0:Int),(1:Int),(28:Int),(2:Int),(29:Int),(14:Int),(24:Int),(3:Int),(30:Int),(22:Int),(20:Int),(15:Int),(25:Int),(17:Int),(4:Int),(8:Int),(31:Int),(27:Int),(13:Int),(23:Int),(21:Int),(19:Int),(16:Int),(7:Int),(26:Int),(12:Int),(18:Int),(6:Int),(11:Int),(5:Int),(10:Int),(9:Int)] (Int.toNat z1) (0:Int))),()),())
 else
 none
noncomputable def nh7' (x_1:Int):Option ((Int×Unit)×Unit):=
 Option.bind (bif (decide ((65536:Int)≤x_1)) then
 some (((Int.fdiv x_1 ((2:Int) ^ (Min.min (Int.toNat (16:Int)) (IntKind.bits IntKind.u32)))),(16:Int),()),())
 else
 some ((x_1,(0:Int),()),())) fun y1=>
 Option.bind (bif (decide ((256:Int)≤y1.1.1)) then
 some (((Int.fdiv y1.1.1 ((2:Int) ^ (Min.min (Int.toNat (8:Int)) (IntKind.bits IntKind.u32)))),(IntKind.i64.wrap (y1.1.2.1 + (8:Int))),()),())
 else
 some ((y1.1.1,y1.1.2.1,()),())) fun y2=>
 let z0:Int:=(IntKind.u8.wrap y2.1.1)
 bif (inB z0 (ByteArray.size (ByteArray.mk (Array.mk [0,1,2,2,3,3,3,3,4,4,4,4,4,4,4,4,5,5,5,5,5,5,5,5,5,5,5,5,5,5,5,5,6,6,6,6,6,6,6,6,6,6,6,6,6,6,6,6,6,6,6,6,6,6,6,6,6,6,6,6,6,6,6,6,7,7,7,7,7,7,7,7,7,7,7,7,7,7,7,7,7,7,7,7,7,7,7,7,7,7,7,7,7,7,7,7,7,7,7,7,7,7,7,7,7,7,7,7,7,7,7,7,7,7,7,7,7,7,7,7,7,7,7,7,7,7,7,7,8,8,8,8,8,8,8,8,8,8,8,8,8,8,8,8,8,8,8,8,8,8,8,8,8,8,8,8,8,8,8,8,8,8,8,8,8,8,8,8,8,8,8,8,8,8,8,8,8,8,8,8,8,8,8,8,8,8,8,8,8,8,8,8,8,8,8,8,8,8,8,8,8,8,8,8,8,8,8,8,8,8,8,8,8,8,8,8,8,8,8,8,8,8,8,8,8,8,8,8,8,8,8,8,8,8,8,8,8,8,8,8,8,8,8,8,8,8,8,8,8,8,8,8,8,8,8,8])))) then
 some (((IntKind.i64.wrap (y2.1.2.1 + (IntKind.i64.wrap (nnr' (ByteArray.mk (Array.mk [0,1,2,2,3,3,3,3,4,4,4,4,4,4,4,4,5,5,5,5,5,5,5,5,5,5,5,5,5,5,5,5,6,6,6,6,6,6,6,6,6,6,6,6,6,6,6,6,6,6,6,6,6,6,6,6,6,6,6,6,6,6,6,6,7,7,7,7,7,7,7,7,7,7,7,7,7,7,7,7,7,7,7,7,7,7,7,7,7,7,7,7,7,7,7,7,7,7,7,7,7,7,7,7,7,7,7,7,7,7,7,7,7,7,7,7,7,7,7,7,7,7,7,7,7,7,7,7,8,8,8,8,8,8,8,8,8,8,8,8,8,8,8,8,8,8,8,8,8,8,8,8,8,8,8,8,8,8,8,8,8,8,8,8,8,8,8,8,8,8,8,8,8,8,8,8,8,8,8,8,8,8,8,8,8,8,8,8,8,8,8,8,8,8,8,8,8,8,8,8,8,8,8,8,8,8,8,8,8,8,8,8,8,8,8,8,8,8,8,8,8,8,8,8,8,8,8,8,8,8,8,8,8,8,8,8,8,8,8,8,8,8,8,8,8,8,8,8,8,8,8,8,8,8,8,8])) (Int.toNat z0))))),()),())
 else
 none
noncomputable def ncm' (n p0:Int) (s13:List (Int)) (s14 s15 b0 b1:Int):Option (Sum (T'20×T'33) ((Int×Unit)×T'33)):=
 bif (decide (s15 < s14)) then
 bif (inB s15 (List.length s13)) then
 let z0:Int:=(List.getD s13 (Int.toNat s15) (0:Int))
 let z1:Int:=(IntKind.i64.wrap (z0 - p0))
 let z2:Int:=(IntKind.i64.wrap (p0 - z0))
 some (Sum.inl (((IntKind.i64.wrap (n + (bif (decide (z1 < z2)) then z2 else z1))),z0,s13,s14,(IntKind.i64.wrap (s15 + (1:Int))),()),((b0,()),(b1,()),())))
 else
 none
 else
 some (Sum.inr ((n,()),((b0,()),(b1,()),())))
noncomputable def nd7':(T'20×T'33)→Option ((Int×Unit)×T'33):=iter (fun x=>ncm' x.1.1 x.1.2.1 x.1.2.2.1 x.1.2.2.2.1 x.1.2.2.2.2.1 x.2.1.1 x.2.2.1.1) fuel
noncomputable def nx' (p0:List (Int)) (b0 b1:Int):Option ((Int×Unit)×T'33):=
 let z0:List (Int):=[b1]
 bif (Nat.ble ((List.length p0) + (List.length z0)) 2147483648) then
 let z1:List (Int):=(p0++z0)
 (nd7' (((0:Int),b0,z1,((List.length z1:Nat):Int),(0:Int),()),((b0,()),(b1,()),()))).bind fun y1=>
 some ((y1.1.1,()),((y1.2.1.1,()),(y1.2.2.1.1,()),()))
 else
 none
noncomputable def nd6' (p0 p1 p2 p3 p4 p5 p6 dir:Int):Option ((Int×Unit)×Unit):=
 (nft' p0).bind fun y1=>
 bif (!y1.1.1) then
 some (((-1:Int),()),())
 else
 bif (decide (p1 < (0:Int))) then
 some (((-1:Int),()),())
 else
 bif (decide (p0≤p1)) then
 some (((-1:Int),()),())
 else
 bif (decide (p2 < (0:Int))) then
 some (((-1:Int),()),())
 else
 bif (decide ((2:Int) < p2)) then
 some (((-1:Int),()),())
 else
 (njc' p0 p6 dir).bind fun y2=>
 bif (!y2.1.1) then
 some (((-1:Int),()),())
 else
 (ngg' p0 p3 p4 p5).bind fun y3=>
 let z0:Int:=(IntKind.u32.wrap (stk y3.2.1.1 y3.2.1.2.1 (BitVec.toNat ((BitVec.ofInt (IntKind.bits IntKind.u32) y3.2.1.1) ||| (BitVec.ofInt (IntKind.bits IntKind.u32) y3.2.1.2.1)))))
 let z1:Int:=(IntKind.u32.wrap (stk z0 y3.2.1.2.2.1 (BitVec.toNat ((BitVec.ofInt (IntKind.bits IntKind.u32) z0) ||| (BitVec.ofInt (IntKind.bits IntKind.u32) y3.2.1.2.2.1)))))
 bif (decide ((0:Int)≤p1)) then
 let z2:Int:=(IntKind.u32.wrap ((1:Int) * ((2:Int) ^ (Min.min (Int.toNat p1) (IntKind.bits IntKind.u32)))))
 let z3:Int:=(IntKind.u32.wrap (stk z1 z2 (BitVec.toNat ((BitVec.ofInt (IntKind.bits IntKind.u32) z1) ||| (BitVec.ofInt (IntKind.bits IntKind.u32) z2)))))
 bif (decide ((0:Int)≤p6)) then
 let z4:Int:=(IntKind.u32.wrap ((1:Int) * ((2:Int) ^ (Min.min (Int.toNat p6) (IntKind.bits IntKind.u32)))))
 let z5:Int:=(IntKind.u32.wrap (stk z3 z4 (BitVec.toNat ((BitVec.ofInt (IntKind.bits IntKind.u32) z3) ||| (BitVec.ofInt (IntKind.bits IntKind.u32) z4)))))
 (nc8' z5).bind fun y4=>
 (nh7' z5).bind fun y5=>
 let z6:Int:=(IntKind.i64.wrap (y5.1.1 - (1:Int)))
 Option.bind (bif (p2==(1:Int)) then
 bif (decide (p1≤p6)) then
 some ((p2,dir,y4.1.1,z6,(),true,()),((p1,()),(p6,()),()))
 else
 bif (p2==(2:Int)) then
 some ((p2,dir,y4.1.1,z6,(),(decide (p6≤p1)),()),((p1,()),(p6,()),()))
 else
 some ((p2,dir,y4.1.1,z6,(),false,()),((p1,()),(p6,()),()))
 else
 bif (p2==(2:Int)) then
 some ((p2,dir,y4.1.1,z6,(),(decide (p6≤p1)),()),((p1,()),(p6,()),()))
 else
 some ((p2,dir,y4.1.1,z6,(),false,()),((p1,()),(p6,()),()))) fun y6=>
 Option.bind (bif (y6.1.1==(0:Int)) then
 some ((y6.1.1,y6.1.2.1,y6.1.2.2.1,y6.1.2.2.2.1,(),true,()),((y6.2.1.1,()),(y6.2.2.1.1,()),()))
 else
 bif (y6.1.1==y6.1.2.1) then
 some ((y6.1.1,y6.1.2.1,y6.1.2.2.1,y6.1.2.2.2.1,(),y6.1.2.2.2.2.2.1,()),((y6.2.1.1,()),(y6.2.2.1.1,()),()))
 else
 some ((y6.1.1,y6.1.2.1,y6.1.2.2.1,y6.1.2.2.2.1,(),false,()),((y6.2.1.1,()),(y6.2.2.1.1,()),()))) fun y7=>
 bif y7.1.2.2.2.2.2.1 then
 (nx' [] y7.2.1.1 y7.2.2.1.1).bind fun y8=>
 some ((y8.1.1,()),())
 else
 Option.bind (bif (y7.1.1 != y7.1.2.1) then
 some ((y7.1.1,y7.1.2.1,y7.1.2.2.1,y7.1.2.2.2.1,(),(y7.1.1==(1:Int)),()),((y7.2.1.1,()),(y7.2.2.1.1,()),()))
 else
 some ((y7.1.1,y7.1.2.1,y7.1.2.2.1,y7.1.2.2.2.1,(),false,()),((y7.2.1.1,()),(y7.2.2.1.1,()),()))) fun y9=>
 bif y9.1.2.2.2.2.2.1 then
 (nx' [y9.1.2.2.2.1] y9.2.1.1 y9.2.2.1.1).bind fun y10=>
 some ((y10.1.1,()),())
 else
 bif (y9.1.1 != y9.1.2.1) then
 (nx' [y9.1.2.2.1] y9.2.1.1 y9.2.2.1.1).bind fun y11=>
 some ((y11.1.1,()),())
 else
 bif (y9.1.1==(1:Int)) then
 (nx' [y9.1.2.2.2.1,y9.1.2.2.1] y9.2.1.1 y9.2.2.1.1).bind fun y12=>
 some ((y12.1.1,()),())
 else
 (nx' [y9.1.2.2.1,y9.1.2.2.2.1] y9.2.1.1 y9.2.2.1.1).bind fun y13=>
 some ((y13.1.1,()),())
 else
 none
 else
 none
noncomputable def ncv' (x_1:Int):Option ((Int×Unit)×Unit):=
 let z0:Int:=(Int.fdiv x_1 ((2:Int) ^ (Min.min (Int.toNat (24:Int)) (IntKind.bits IntKind.u32))))
 bif (inB z0 (ByteArray.size (ByteArray.mk (Array.mk [0,1,1,2,1,2,2,3,1,2,2,3,2,3,3,4,1,2,2,3,2,3,3,4,2,3,3,4,3,4,4,5,1,2,2,3,2,3,3,4,2,3,3,4,3,4,4,5,2,3,3,4,3,4,4,5,3,4,4,5,4,5,5,6,1,2,2,3,2,3,3,4,2,3,3,4,3,4,4,5,2,3,3,4,3,4,4,5,3,4,4,5,4,5,5,6,2,3,3,4,3,4,4,5,3,4,4,5,4,5,5,6,3,4,4,5,4,5,5,6,4,5,5,6,5,6,6,7,1,2,2,3,2,3,3,4,2,3,3,4,3,4,4,5,2,3,3,4,3,4,4,5,3,4,4,5,4,5,5,6,2,3,3,4,3,4,4,5,3,4,4,5,4,5,5,6,3,4,4,5,4,5,5,6,4,5,5,6,5,6,6,7,2,3,3,4,3,4,4,5,3,4,4,5,4,5,5,6,3,4,4,5,4,5,5,6,4,5,5,6,5,6,6,7,3,4,4,5,4,5,5,6,4,5,5,6,5,6,6,7,4,5,5,6,5,6,6,7,5,6,6,7,6,7,7,8])))) then
 let z1:Int:=(Int.fdiv x_1 ((2:Int) ^ (Min.min (Int.toNat (16:Int)) (IntKind.bits IntKind.u32))))
 let z2:Int:=(IntKind.u32.wrap (stk z1 (255:Int) (BitVec.toNat ((BitVec.ofInt (IntKind.bits IntKind.u32) z1) &&& (BitVec.ofInt (IntKind.bits IntKind.u32) (255:Int))))))
 bif (inB z2 (ByteArray.size (ByteArray.mk (Array.mk [0,1,1,2,1,2,2,3,1,2,2,3,2,3,3,4,1,2,2,3,2,3,3,4,2,3,3,4,3,4,4,5,1,2,2,3,2,3,3,4,2,3,3,4,3,4,4,5,2,3,3,4,3,4,4,5,3,4,4,5,4,5,5,6,1,2,2,3,2,3,3,4,2,3,3,4,3,4,4,5,2,3,3,4,3,4,4,5,3,4,4,5,4,5,5,6,2,3,3,4,3,4,4,5,3,4,4,5,4,5,5,6,3,4,4,5,4,5,5,6,4,5,5,6,5,6,6,7,1,2,2,3,2,3,3,4,2,3,3,4,3,4,4,5,2,3,3,4,3,4,4,5,3,4,4,5,4,5,5,6,2,3,3,4,3,4,4,5,3,4,4,5,4,5,5,6,3,4,4,5,4,5,5,6,4,5,5,6,5,6,6,7,2,3,3,4,3,4,4,5,3,4,4,5,4,5,5,6,3,4,4,5,4,5,5,6,4,5,5,6,5,6,6,7,3,4,4,5,4,5,5,6,4,5,5,6,5,6,6,7,4,5,5,6,5,6,6,7,5,6,6,7,6,7,7,8])))) then
 let z3:Int:=(Int.fdiv x_1 ((2:Int) ^ (Min.min (Int.toNat (8:Int)) (IntKind.bits IntKind.u32))))
 let z4:Int:=(IntKind.u32.wrap (stk z3 (255:Int) (BitVec.toNat ((BitVec.ofInt (IntKind.bits IntKind.u32) z3) &&& (BitVec.ofInt (IntKind.bits IntKind.u32) (255:Int))))))
 bif (inB z4 (ByteArray.size (ByteArray.mk (Array.mk [0,1,1,2,1,2,2,3,1,2,2,3,2,3,3,4,1,2,2,3,2,3,3,4,2,3,3,4,3,4,4,5,1,2,2,3,2,3,3,4,2,3,3,4,3,4,4,5,2,3,3,4,3,4,4,5,3,4,4,5,4,5,5,6,1,2,2,3,2,3,3,4,2,3,3,4,3,4,4,5,2,3,3,4,3,4,4,5,3,4,4,5,4,5,5,6,2,3,3,4,3,4,4,5,3,4,4,5,4,5,5,6,3,4,4,5,4,5,5,6,4,5,5,6,5,6,6,7,1,2,2,3,2,3,3,4,2,3,3,4,3,4,4,5,2,3,3,4,3,4,4,5,3,4,4,5,4,5,5,6,2,3,3,4,3,4,4,5,3,4,4,5,4,5,5,6,3,4,4,5,4,5,5,6,4,5,5,6,5,6,6,7,2,3,3,4,3,4,4,5,3,4,4,5,4,5,5,6,3,4,4,5,4,5,5,6,4,5,5,6,5,6,6,7,3,4,4,5,4,5,5,6,4,5,5,6,5,6,6,7,4,5,5,6,5,6,6,7,5,6,6,7,6,7,7,8])))) then
 let z5:Int:=(IntKind.u32.wrap (stk x_1 (255:Int) (BitVec.toNat ((BitVec.ofInt (IntKind.bits IntKind.u32) x_1) &&& (BitVec.ofInt (IntKind.bits IntKind.u32) (255:Int))))))
 bif (inB z5 (ByteArray.size (ByteArray.mk (Array.mk [0,1,1,2,1,2,2,3,1,2,2,3,2,3,3,4,1,2,2,3,2,3,3,4,2,3,3,4,3,4,4,5,1,2,2,3,2,3,3,4,2,3,3,4,3,4,4,5,2,3,3,4,3,4,4,5,3,4,4,5,4,5,5,6,1,2,2,3,2,3,3,4,2,3,3,4,3,4,4,5,2,3,3,4,3,4,4,5,3,4,4,5,4,5,5,6,2,3,3,4,3,4,4,5,3,4,4,5,4,5,5,6,3,4,4,5,4,5,5,6,4,5,5,6,5,6,6,7,1,2,2,3,2,3,3,4,2,3,3,4,3,4,4,5,2,3,3,4,3,4,4,5,3,4,4,5,4,5,5,6,2,3,3,4,3,4,4,5,3,4,4,5,4,5,5,6,3,4,4,5,4,5,5,6,4,5,5,6,5,6,6,7,2,3,3,4,3,4,4,5,3,4,4,5,4,5,5,6,3,4,4,5,4,5,5,6,4,5,5,6,5,6,6,7,3,4,4,5,4,5,5,6,4,5,5,6,5,6,6,7,4,5,5,6,5,6,6,7,5,6,6,7,6,7,7,8])))) then
 some (((IntKind.i64.wrap (IntKind.u8.wrap ((IntKind.u8.wrap ((IntKind.u8.wrap ((nnr' (ByteArray.mk (Array.mk [0,1,1,2,1,2,2,3,1,2,2,3,2,3,3,4,1,2,2,3,2,3,3,4,2,3,3,4,3,4,4,5,1,2,2,3,2,3,3,4,2,3,3,4,3,4,4,5,2,3,3,4,3,4,4,5,3,4,4,5,4,5,5,6,1,2,2,3,2,3,3,4,2,3,3,4,3,4,4,5,2,3,3,4,3,4,4,5,3,4,4,5,4,5,5,6,2,3,3,4,3,4,4,5,3,4,4,5,4,5,5,6,3,4,4,5,4,5,5,6,4,5,5,6,5,6,6,7,1,2,2,3,2,3,3,4,2,3,3,4,3,4,4,5,2,3,3,4,3,4,4,5,3,4,4,5,4,5,5,6,2,3,3,4,3,4,4,5,3,4,4,5,4,5,5,6,3,4,4,5,4,5,5,6,4,5,5,6,5,6,6,7,2,3,3,4,3,4,4,5,3,4,4,5,4,5,5,6,3,4,4,5,4,5,5,6,4,5,5,6,5,6,6,7,3,4,4,5,4,5,5,6,4,5,5,6,5,6,6,7,4,5,5,6,5,6,6,7,5,6,6,7,6,7,7,8])) (Int.toNat z0)) + (nnr' (ByteArray.mk (Array.mk [0,1,1,2,1,2,2,3,1,2,2,3,2,3,3,4,1,2,2,3,2,3,3,4,2,3,3,4,3,4,4,5,1,2,2,3,2,3,3,4,2,3,3,4,3,4,4,5,2,3,3,4,3,4,4,5,3,4,4,5,4,5,5,6,1,2,2,3,2,3,3,4,2,3,3,4,3,4,4,5,2,3,3,4,3,4,4,5,3,4,4,5,4,5,5,6,2,3,3,4,3,4,4,5,3,4,4,5,4,5,5,6,3,4,4,5,4,5,5,6,4,5,5,6,5,6,6,7,1,2,2,3,2,3,3,4,2,3,3,4,3,4,4,5,2,3,3,4,3,4,4,5,3,4,4,5,4,5,5,6,2,3,3,4,3,4,4,5,3,4,4,5,4,5,5,6,3,4,4,5,4,5,5,6,4,5,5,6,5,6,6,7,2,3,3,4,3,4,4,5,3,4,4,5,4,5,5,6,3,4,4,5,4,5,5,6,4,5,5,6,5,6,6,7,3,4,4,5,4,5,5,6,4,5,5,6,5,6,6,7,4,5,5,6,5,6,6,7,5,6,6,7,6,7,7,8])) (Int.toNat z2)))) + (nnr' (ByteArray.mk (Array.mk [0,1,1,2,1,2,2,3,1,2,2,3,2,3,3,4,1,2,2,3,2,3,3,4,2,3,3,4,3,4,4,5,1,2,2,3,2,3,3,4,2,3,3,4,3,4,4,5,2,3,3,4,3,4,4,5,3,4,4,5,4,5,5,6,1,2,2,3,2,3,3,4,2,3,3,4,3,4,4,5,2,3,3,4,3,4,4,5,3,4,4,5,4,5,5,6,2,3,3,4,3,4,4,5,3,4,4,5,4,5,5,6,3,4,4,5,4,5,5,6,4,5,5,6,5,6,6,7,1,2,2,3,2,3,3,4,2,3,3,4,3,4,4,5,2,3,3,4,3,4,4,5,3,4,4,5,4,5,5,6,2,3,3,4,3,4,4,5,3,4,4,5,4,5,5,6,3,4,4,5,4,5,5,6,4,5,5,6,5,6,6,7,2,3,3,4,3,4,4,5,3,4,4,5,4,5,5,6,3,4,4,5,4,5,5,6,4,5,5,6,5,6,6,7,3,4,4,5,4,5,5,6,4,5,5,6,5,6,6,7,4,5,5,6,5,6,6,7,5,6,6,7,6,7,7,8])) (Int.toNat z4)))) + (nnr' (ByteArray.mk (Array.mk [0,1,1,2,1,2,2,3,1,2,2,3,2,3,3,4,1,2,2,3,2,3,3,4,2,3,3,4,3,4,4,5,1,2,2,3,2,3,3,4,2,3,3,4,3,4,4,5,2,3,3,4,3,4,4,5,3,4,4,5,4,5,5,6,1,2,2,3,2,3,3,4,2,3,3,4,3,4,4,5,2,3,3,4,3,4,4,5,3,4,4,5,4,5,5,6,2,3,3,4,3,4,4,5,3,4,4,5,4,5,5,6,3,4,4,5,4,5,5,6,4,5,5,6,5,6,6,7,1,2,2,3,2,3,3,4,2,3,3,4,3,4,4,5,2,3,3,4,3,4,4,5,3,4,4,5,4,5,5,6,2,3,3,4,3,4,4,5,3,4,4,5,4,5,5,6,3,4,4,5,4,5,5,6,4,5,5,6,5,6,6,7,2,3,3,4,3,4,4,5,3,4,4,5,4,5,5,6,3,4,4,5,4,5,5,6,4,5,5,6,5,6,6,7,3,4,4,5,4,5,5,6,4,5,5,6,5,6,6,7,4,5,5,6,5,6,6,7,5,6,6,7,6,7,7,8])) (Int.toNat z5))))),()),())
 else
 none
 else
 none
 else
 none
 else
 none
noncomputable def nmd' (p0 p1:Int):Option ((Int×Unit)×Unit):=
 (ncv' p0).bind fun y1=>
 (ncv' p1).bind fun y2=>
 some (((IntKind.i64.wrap (y1.1.1 + y2.1.1)),()),())
noncomputable def nge' (p0 p1 p2 p3:Int):Option ((Int×Unit)×Unit):=
 (nft' p0).bind fun y1=>
 bif (!y1.1.1) then
 some (((0:Int),()),())
 else
 (ngg' p0 p1 p2 p3).bind fun y2=>
 (ncv' y2.2.1.1).bind fun y3=>
 (nmd' y2.2.1.2.1 y2.2.1.2.2.1).bind fun y4=>
 some (((IntKind.i64.wrap (y3.1.1 + y4.1.1)),()),())
noncomputable def ndj' (p0 p1 p2 p3:Int) (p4 p5 p6:Nat) (p7:List (Car)) (car:Int) (p8 p9 p10 p11:Bool) (p12 p13 p14 p15 p16 p17 p18 p19 p20 dir:Int):Option ((Int×Unit)×Unit):=
 (nce' p0 p1 p2 p3 p4 p5 p6 p7).bind fun y1=>
 bif (y1.1.1 != (0:Int)) then
 some (((1000000:Int),()),())
 else
 bif (decide (car < (0:Int))) then
 some (((1000000:Int),()),())
 else
 bif (decide (((List.length p7:Nat):Int)≤car)) then
 some (((1000000:Int),()),())
 else
 Option.bind (bif (p13==(3:Int)) then
 some ((car,p20,dir,(),(),(0:Int),()),((p0,p1,p2,p3,p4,p5,p6,p7,()),(p8,p9,p10,p11,p12,p13,p14,p15,p16,p17,p18,p19,()),()))
 else
 some ((car,p20,dir,(),(),p13,()),((p0,p1,p2,p3,p4,p5,p6,p7,()),(p8,p9,p10,p11,p12,p13,p14,p15,p16,p17,p18,p19,()),()))) fun y2=>
 (nd6' y2.2.1.1 y2.2.2.1.2.2.2.2.1 y2.1.2.2.2.2.2.1 y2.2.2.1.2.2.2.2.2.2.2.2.2.1 y2.2.2.1.2.2.2.2.2.2.2.2.2.2.1 y2.2.2.1.2.2.2.2.2.2.2.2.2.2.2.1 y2.1.2.1 y2.1.2.2.1).bind fun y3=>
 bif (decide (y3.1.1 < (0:Int))) then
 some (((1000000:Int),()),())
 else
 bif (inB y2.1.1 (List.length y2.2.1.2.2.2.2.2.2.2.1)) then
 let z0:Car:=(List.getD y2.2.1.2.2.2.2.2.2.2.1 (Int.toNat y2.1.1) (Car.mk (0:Int) (0:Int) (0:Int) (0:Int) (0:Int) (0:Int) (0:Int) (0:Int) (0:Int)))
 (nge' y2.2.1.1 y2.2.2.1.2.2.2.2.2.2.2.2.2.1 y2.2.2.1.2.2.2.2.2.2.2.2.2.2.1 y2.2.2.1.2.2.2.2.2.2.2.2.2.2.2.1).bind fun y4=>
 let z1:Int:=(IntKind.i64.wrap ((IntKind.i64.wrap (y3.1.1 * z0.Step)) + (IntKind.i64.wrap (y4.1.1 * (IntKind.i64.wrap ((IntKind.i64.wrap ((2:Int) * z0.Travel)) + z0.Dwell))))))
 some (((bif (decide ((1000000:Int) < z1)) then (1000000:Int) else z1),()),())
 else
 none
noncomputable def nel' (p0 p1 p2 p3:Bool) (p4 p5 p6 p7 p8 p9 p10 p11:Int):Option ((Bool×Unit)×Unit):=
 Option.bind (bif (p6==(3:Int)) then
 some ((true,()),())
 else
 some (((p6==(4:Int)),()),())) fun y1=>
 some ((y1.1.1,()),())
noncomputable def ne8' (p0 p1 p2 p3:Int) (p4 p5 p6:Nat) (p7:List (Car)) (p8:List (View)) (car p9 dir:Int):Option ((Unit×Unit)×T'18):=
 bif (inB car (List.length p8)) then
 let z0:View:=(List.getD p8 (Int.toNat car) (View.mk false false false false (0:Int) (0:Int) (0:Int) (0:Int) (0:Int) (0:Int) (0:Int) (0:Int)))
 (ndj' p0 p1 p2 p3 p4 p5 p6 p7 car z0.Ready z0.Serving z0.Legacy z0.Lost z0.Floor z0.Dir z0.Load z0.Shows_Up z0.Shows_Down z0.Stops_Car z0.Stops_Hall_Up z0.Stops_Hall_Down p9 dir).bind fun y1=>
 bif (inB car (List.length p8)) then
 let z1:View:=(List.getD p8 (Int.toNat car) (View.mk false false false false (0:Int) (0:Int) (0:Int) (0:Int) (0:Int) (0:Int) (0:Int) (0:Int)))
 (nel' z1.Ready z1.Serving z1.Legacy z1.Lost z1.Floor z1.Dir z1.Load z1.Shows_Up z1.Shows_Down z1.Stops_Car z1.Stops_Hall_Up z1.Stops_Hall_Down).bind fun y2=>
 bif y2.1.1 then
 some (((),()),(((1:Int),y1.1.1,()),()))
 else
 some (((),()),(((0:Int),y1.1.1,()),()))
 else
 none
 else
 none
noncomputable def nfs' (p0 p1 p2 p3:Int):Option ((Bool×Unit)×Unit):=
 bif ((p0==p2)&&((p1==p3)&&true)) then
 some ((false,()),())
 else
 Option.bind (bif (decide (p0 < p2)) then
 some ((true,()),())
 else
 bif (p0==p2) then
 some (((decide (p1 < p3)),()),())
 else
 some ((false,()),())) fun y1=>
 some ((y1.1.1,()),())
noncomputable def ndq' (p0:List (View)) (p1 dir p2 p3:Int) (s28:List (View)) (s29 s30 p4 p5 p6 p7:Int) (p8 p9 p10:Nat) (p11:List (Car)) (p12 p13:Int):Option (Sum (T'42×T'43) ((Int×Unit)×Unit)):=
 bif (decide (s30 < s29)) then
 bif (inB s30 (List.length s28)) then
 bif (!(List.getD s28 (Int.toNat s30) (View.mk false false false false (0:Int) (0:Int) (0:Int) (0:Int) (0:Int) (0:Int) (0:Int) (0:Int))).Ready) then
 some (Sum.inl ((p0,p1,dir,p2,(),p3,(),s28,s29,(IntKind.i64.wrap (s30 + (1:Int))),()),((p4,p5,p6,p7,p8,p9,p10,p11,()),(p12,p13,()),())))
 else
 bif (s30==p2) then
 some (Sum.inl ((p0,p1,dir,p2,(),p3,(),s28,s29,(IntKind.i64.wrap (s30 + (1:Int))),()),((p4,p5,p6,p7,p8,p9,p10,p11,()),(p12,p13,()),())))
 else
 (ne8' p4 p5 p6 p7 p8 p9 p10 p11 p0 s30 p1 dir).bind fun y1=>
 Option.bind (bif (p3==(-1:Int)) then
 some ((p0,p1,dir,p2,(),p3,(),s30,(),s28,s29,s30,true,()),((p4,p5,p6,p7,p8,p9,p10,p11,()),(p12,p13,()),y1.2.1,()))
 else
 (nfs' y1.2.1.1 y1.2.1.2.1 p12 p13).bind fun y2=>
 some ((p0,p1,dir,p2,(),p3,(),s30,(),s28,s29,s30,y2.1.1,()),((p4,p5,p6,p7,p8,p9,p10,p11,()),(p12,p13,()),y1.2.1,()))) fun y3=>
 bif y3.1.2.2.2.2.2.2.2.2.2.2.2.2.1 then
 some (Sum.inl ((y3.1.1,y3.1.2.1,y3.1.2.2.1,y3.1.2.2.2.1,(),y3.1.2.2.2.2.2.2.2.1,(),y3.1.2.2.2.2.2.2.2.2.2.1,y3.1.2.2.2.2.2.2.2.2.2.2.1,(IntKind.i64.wrap (y3.1.2.2.2.2.2.2.2.2.2.2.2.1 + (1:Int))),()),(y3.2.1,y3.2.2.2.1,())))
 else
 some (Sum.inl ((y3.1.1,y3.1.2.1,y3.1.2.2.1,y3.1.2.2.2.1,(),y3.1.2.2.2.2.2.1,(),y3.1.2.2.2.2.2.2.2.2.2.1,y3.1.2.2.2.2.2.2.2.2.2.2.1,(IntKind.i64.wrap (y3.1.2.2.2.2.2.2.2.2.2.2.2.1 + (1:Int))),()),(y3.2.1,y3.2.2.1,())))
 else
 none
 else
 some (Sum.inr ((p3,()),()))
noncomputable def nf7':(T'42×T'43)→Option ((Int×Unit)×Unit):=iter (fun x=>ndq' x.1.1 x.1.2.1 x.1.2.2.1 x.1.2.2.2.1 x.1.2.2.2.2.2.1 x.1.2.2.2.2.2.2.2.1 x.1.2.2.2.2.2.2.2.2.1 x.1.2.2.2.2.2.2.2.2.2.1 x.2.1.1 x.2.1.2.1 x.2.1.2.2.1 x.2.1.2.2.2.1 x.2.1.2.2.2.2.1 x.2.1.2.2.2.2.2.1 x.2.1.2.2.2.2.2.2.1 x.2.1.2.2.2.2.2.2.2.1 x.2.2.1.1 x.2.2.1.2.1) fuel
noncomputable def ned' (p0 p1 p2 p3:Int) (p4 p5 p6:Nat) (p7:List (Car)) (p8:List (View)) (p9 dir p10:Int):Option ((Int×Unit)×Unit):=
 (nce' p0 p1 p2 p3 p4 p5 p6 p7).bind fun y1=>
 bif (y1.1.1 != (0:Int)) then
 some (((-1:Int),()),())
 else
 bif (((List.length p8:Nat):Int) != ((List.length p7:Nat):Int)) then
 some (((-1:Int),()),())
 else
 (nf7' ((p8,p9,dir,p10,(),(-1:Int),(),p8,((List.length p8:Nat):Int),(0:Int),()),((p0,p1,p2,p3,p4,p5,p6,p7,()),((0:Int),(0:Int),()),()))).bind fun y2=>
 some ((y2.1.1,()),())
noncomputable def nd9' (p0 p1 p2 p3:Int) (p4 p5 p6:Nat) (p7:List (Car)) (p8:List (View)) (p9 p10 p11 p12:Int) (p13:Bool) (p14:Int):Option ((Int×Unit)×Unit):=
 (ned' p0 p1 p2 p3 p4 p5 p6 p7 p8 p9 p10 p11).bind fun y1=>
 bif (y1.1.1==(-1:Int)) then
 some ((y1.1.1,()),())
 else
 bif (inB p11 (List.length p8)) then
 let z0:View:=(List.getD p8 (Int.toNat p11) (View.mk false false false false (0:Int) (0:Int) (0:Int) (0:Int) (0:Int) (0:Int) (0:Int) (0:Int)))
 Option.bind (bif z0.Legacy then
 bif (p14==(0:Int)) then
 (ne8' p0 p1 p2 p3 p4 p5 p6 p7 p8 y1.1.1 p9 p10).bind fun y2=>
 (ne8' p0 p1 p2 p3 p4 p5 p6 p7 p8 p11 p9 p10).bind fun y3=>
 (nfs' y2.2.1.1 y2.2.1.2.1 y3.2.1.1 y3.2.1.2.1).bind fun y4=>
 some (((),y1.1.1,(),y4.1.1,()),((p0,p1,p2,p3,p4,p5,p6,p7,p8,()),(z0.Ready,z0.Serving,z0.Legacy,z0.Lost,z0.Floor,z0.Dir,z0.Load,z0.Shows_Up,z0.Shows_Down,z0.Stops_Car,z0.Stops_Hall_Up,z0.Stops_Hall_Down,()),()))
 else
 some (((),y1.1.1,(),false,()),((p0,p1,p2,p3,p4,p5,p6,p7,p8,()),(z0.Ready,z0.Serving,z0.Legacy,z0.Lost,z0.Floor,z0.Dir,z0.Load,z0.Shows_Up,z0.Shows_Down,z0.Stops_Car,z0.Stops_Hall_Up,z0.Stops_Hall_Down,()),()))
 else
 some (((),y1.1.1,(),false,()),((p0,p1,p2,p3,p4,p5,p6,p7,p8,()),(z0.Ready,z0.Serving,z0.Legacy,z0.Lost,z0.Floor,z0.Dir,z0.Load,z0.Shows_Up,z0.Shows_Down,z0.Stops_Car,z0.Stops_Hall_Up,z0.Stops_Hall_Down,()),()))) fun y5=>
 Option.bind (bif y5.1.2.2.2.1 then
 some ((y5.1.2.1,true,()),())
 else
 bif (!y5.2.2.1.2.2.1) then
 (nel' y5.2.2.1.1 y5.2.2.1.2.1 y5.2.2.1.2.2.1 y5.2.2.1.2.2.2.1 y5.2.2.1.2.2.2.2.1 y5.2.2.1.2.2.2.2.2.1 y5.2.2.1.2.2.2.2.2.2.1 y5.2.2.1.2.2.2.2.2.2.2.1 y5.2.2.1.2.2.2.2.2.2.2.2.1 y5.2.2.1.2.2.2.2.2.2.2.2.2.1 y5.2.2.1.2.2.2.2.2.2.2.2.2.2.1 y5.2.2.1.2.2.2.2.2.2.2.2.2.2.2.1).bind fun y6=>
 bif y6.1.1 then
 bif (inB y5.1.2.1 (List.length y5.2.1.2.2.2.2.2.2.2.2.1)) then
 let z1:View:=(List.getD y5.2.1.2.2.2.2.2.2.2.2.1 (Int.toNat y5.1.2.1) (View.mk false false false false (0:Int) (0:Int) (0:Int) (0:Int) (0:Int) (0:Int) (0:Int) (0:Int)))
 (nel' z1.Ready z1.Serving z1.Legacy z1.Lost z1.Floor z1.Dir z1.Load z1.Shows_Up z1.Shows_Down z1.Stops_Car z1.Stops_Hall_Up z1.Stops_Hall_Down).bind fun y7=>
 some ((y5.1.2.1,(!y7.1.1),()),())
 else
 none
 else
 some ((y5.1.2.1,false,()),())
 else
 some ((y5.1.2.1,false,()),())) fun y8=>
 bif y8.1.2.1 then
 some ((y8.1.1,()),())
 else
 some (((-1:Int),()),())
 else
 none
noncomputable def ndx' (p0 p1 p2 p3:Int) (p4 p5 p6:Nat) (p7:List (Car)) (p8:List (View)) (p9 p10 p11 p12:Int) (p13:Bool) (p14:Int):Option ((Unit×Unit)×(T'11×Unit)):=
 let z0:Int:=((List.length p7:Nat):Int)
 bif (p11==(-2:Int)) then
 some (((),()),((p9,p10,p11,p12,p13,()),()))
 else
 bif (p11==(-1:Int)) then
 (ned' p0 p1 p2 p3 p4 p5 p6 p7 p8 p9 p10 (-1:Int)).bind fun y1=>
 some (((),()),((p9,p10,y1.1.1,p12,p13,()),()))
 else
 Option.bind (bif (inB p11 (List.length p8)) then
 bif (List.getD p8 (Int.toNat p11) (View.mk false false false false (0:Int) (0:Int) (0:Int) (0:Int) (0:Int) (0:Int) (0:Int) (0:Int))).Lost then
 some ((p14,(),(),(),z0,(decide (z0 < p12)),()),((p0,p1,p2,p3,p4,p5,p6,p7,p8,()),(p9,p10,p11,p12,p13,()),((0:Int),(0:Int),(0:Int),(0:Int),false,()),()))
 else
 some ((p14,(),(),(),z0,false,()),((p0,p1,p2,p3,p4,p5,p6,p7,p8,()),(p9,p10,p11,p12,p13,()),((0:Int),(0:Int),(0:Int),(0:Int),false,()),()))
 else
 none) fun y2=>
 bif y2.1.2.2.2.2.2.1 then
 some (((),()),((y2.2.2.1.1,y2.2.2.1.2.1,(-2:Int),y2.2.2.1.2.2.2.1,y2.2.2.1.2.2.2.2.1,()),()))
 else
 bif (inB y2.2.2.1.2.2.1 (List.length y2.2.1.2.2.2.2.2.2.2.2.1)) then
 bif (List.getD y2.2.1.2.2.2.2.2.2.2.2.1 (Int.toNat y2.2.2.1.2.2.1) (View.mk false false false false (0:Int) (0:Int) (0:Int) (0:Int) (0:Int) (0:Int) (0:Int) (0:Int))).Lost then
 (ned' y2.2.1.1 y2.2.1.2.1 y2.2.1.2.2.1 y2.2.1.2.2.2.1 y2.2.1.2.2.2.2.1 y2.2.1.2.2.2.2.2.1 y2.2.1.2.2.2.2.2.2.1 y2.2.1.2.2.2.2.2.2.2.1 y2.2.1.2.2.2.2.2.2.2.2.1 y2.2.2.1.1 y2.2.2.1.2.1 y2.2.2.1.2.2.1).bind fun y3=>
 some (((),()),((y2.2.2.1.1,y2.2.2.1.2.1,y3.1.1,(IntKind.i64.wrap (y2.2.2.1.2.2.2.1 + (1:Int))),y2.2.2.1.2.2.2.2.1,()),()))
 else
 Option.bind (bif (!y2.2.2.1.2.2.2.2.1) then
 some ((y2.1.1,(),(),(),(decide (y2.2.2.1.2.2.2.1≤y2.1.2.2.2.2.1)),()),(y2.2.1,y2.2.2.1,y2.2.2.2.1,()))
 else
 some ((y2.1.1,(),(),(),false,()),(y2.2.1,y2.2.2.1,y2.2.2.2.1,()))) fun y4=>
 bif y4.1.2.2.2.2.1 then
 (nd9' y4.2.1.1 y4.2.1.2.1 y4.2.1.2.2.1 y4.2.1.2.2.2.1 y4.2.1.2.2.2.2.1 y4.2.1.2.2.2.2.2.1 y4.2.1.2.2.2.2.2.2.1 y4.2.1.2.2.2.2.2.2.2.1 y4.2.1.2.2.2.2.2.2.2.2.1 y4.2.2.1.1 y4.2.2.1.2.1 y4.2.2.1.2.2.1 y4.2.2.1.2.2.2.1 y4.2.2.1.2.2.2.2.1 y4.1.1).bind fun y5=>
 bif (y5.1.1 != (-1:Int)) then
 some (((),()),((y4.2.2.1.1,y4.2.2.1.2.1,y5.1.1,(IntKind.i64.wrap (y4.2.2.1.2.2.2.1 + (1:Int))),true,()),()))
 else
 some (((),()),(y4.2.2.1,()))
 else
 some (((),()),(y4.2.2.1,()))
 else
 none
noncomputable def ng8' (p0 p1 p2 p3:Int) (p4:Bool) (p5 p6 p7 p8:Int) (p9:Bool):Option ((List (Record)×Unit)×Unit):=
 Option.bind (Option.bind (bif (p3 != p8) then
 some (((),(),([]:List (Record)),true,()),((p0,p1,p2,p3,p4,()),(p5,p6,p7,p8,p9,()),()))
 else
 some (((),(),([]:List (Record)),(!(p4==p9)),()),((p0,p1,p2,p3,p4,()),(p5,p6,p7,p8,p9,()),()))) fun y1=>
 bif y1.1.2.2.2.1 then
 bif y1.2.2.1.2.2.2.2.1 then
 let z0:List (Record):=[(Record.mk (7:Int) y1.2.2.1.1 y1.2.2.1.2.1 (1:Int) y1.2.2.1.2.2.2.1)]
 bif (Nat.ble ((List.length y1.1.2.2.1) + (List.length z0)) 2147483648) then
 some (((),(),(y1.1.2.2.1++z0),()),(y1.2.1,y1.2.2.1,()))
 else
 none
 else
 let z1:List (Record):=[(Record.mk (7:Int) y1.2.2.1.1 y1.2.2.1.2.1 (0:Int) y1.2.2.1.2.2.2.1)]
 bif (Nat.ble ((List.length y1.1.2.2.1) + (List.length z1)) 2147483648) then
 some (((),(),(y1.1.2.2.1++z1),()),(y1.2.1,y1.2.2.1,()))
 else
 none
 else
 some (((),(),y1.1.2.2.1,()),(y1.2.1,y1.2.2.1,()))) fun y2=>
 bif (y2.2.1.2.2.1 != y2.2.2.1.2.2.1) then
 let z2:List (Record):=[(Record.mk (3:Int) y2.2.2.1.1 y2.2.2.1.2.1 y2.2.2.1.2.2.1 (0:Int))]
 bif (Nat.ble ((List.length y2.1.2.2.1) + (List.length z2)) 2147483648) then
 some (((y2.1.2.2.1++z2),()),())
 else
 none
 else
 some ((y2.1.2.2.1,()),())
noncomputable def nek' (p0:List (Int)) (p1:List (View)) (l:List (Record)) (p2:List (Int)) (s48:List (Entry)) (s49 s50 p3 p4 p5 p6:Int) (p7 p8 p9:Nat) (p10:List (Car)) (p11 p12 p13 p14:Int) (p15 p16 p17:Nat) (p18:List (Car)) (p19:List (View)):Option (Sum (T'45×(T'0×T'46×Unit)) (T'47×Unit)):=
 bif (decide (s50 < s49)) then
 bif (inB s50 (List.length s48)) then
 let z0:Entry:=(List.getD s48 (Int.toNat s50) (Entry.mk (0:Int) (0:Int) (0:Int) (0:Int) false))
 bif (inB s50 (List.length p0)) then
 (ndx' p11 p12 p13 p14 p15 p16 p17 p18 p19 z0.Floor z0.Dir z0.Car z0.Moves z0.Moved (List.getD p0 (Int.toNat s50) (0:Int))).bind fun y1=>
 (ng8' z0.Floor z0.Dir z0.Car z0.Moves z0.Moved y1.2.1.1 y1.2.1.2.1 y1.2.1.2.2.1 y1.2.1.2.2.2.1 y1.2.1.2.2.2.2.1).bind fun y2=>
 bif (Nat.ble ((List.length l) + (List.length y2.1.1)) 2147483648) then
 let z1:List (Record):=(l++y2.1.1)
 bif (inB s50 (List.length p0)) then
 let z2:Int:=(IntKind.i64.wrap ((List.getD p0 (Int.toNat s50) (0:Int)) - (1:Int)))
 bif (inB s50 (List.length p2)) then
 let z3:List (Int):=(List.set p2 (Int.toNat s50) (bif (decide (z2 < (0:Int))) then (0:Int) else z2))
 Option.bind (bif (y1.2.1.2.2.1 != z0.Car) then
 some ((p0,p1,(),(),z1,z3,s50,(),(),s48,s49,s50,(decide ((0:Int)≤y1.2.1.2.2.1)),()),((p3,p4,p5,p6,p7,p8,p9,p10,()),(p11,p12,p13,p14,p15,p16,p17,p18,p19,()),(z0.Floor,z0.Dir,z0.Car,z0.Moves,z0.Moved,()),y1.2.1,()))
 else
 some ((p0,p1,(),(),z1,z3,s50,(),(),s48,s49,s50,false,()),((p3,p4,p5,p6,p7,p8,p9,p10,()),(p11,p12,p13,p14,p15,p16,p17,p18,p19,()),(z0.Floor,z0.Dir,z0.Car,z0.Moves,z0.Moved,()),y1.2.1,()))) fun y3=>
 bif y3.1.2.2.2.2.2.2.2.2.2.2.2.2.1 then
 bif (inB y3.2.2.2.2.1.2.2.1 (List.length y3.1.2.1)) then
 let z4:View:=(List.getD y3.1.2.1 (Int.toNat y3.2.2.2.2.1.2.2.1) (View.mk false false false false (0:Int) (0:Int) (0:Int) (0:Int) (0:Int) (0:Int) (0:Int) (0:Int)))
 (ndj' y3.2.1.1 y3.2.1.2.1 y3.2.1.2.2.1 y3.2.1.2.2.2.1 y3.2.1.2.2.2.2.1 y3.2.1.2.2.2.2.2.1 y3.2.1.2.2.2.2.2.2.1 y3.2.1.2.2.2.2.2.2.2.1 y3.2.2.2.2.1.2.2.1 z4.Ready z4.Serving z4.Legacy z4.Lost z4.Floor z4.Dir z4.Load z4.Shows_Up z4.Shows_Down z4.Stops_Car z4.Stops_Hall_Up z4.Stops_Hall_Down y3.2.2.2.1.1 y3.2.2.2.1.2.1).bind fun y4=>
 bif (inB y3.2.2.2.2.1.2.2.1 (List.length y3.2.1.2.2.2.2.2.2.2.1)) then
 let z5:Int:=(IntKind.i64.wrap (y4.1.1 + (List.getD y3.2.1.2.2.2.2.2.2.2.1 (Int.toNat y3.2.2.2.2.1.2.2.1) (Car.mk (0:Int) (0:Int) (0:Int) (0:Int) (0:Int) (0:Int) (0:Int) (0:Int) (0:Int))).Slack))
 bif (inB y3.1.2.2.2.2.2.2.1 (List.length y3.1.2.2.2.2.2.1)) then
 some (Sum.inl ((y3.1.1,y3.1.2.1,(),(),y3.1.2.2.2.2.1,(List.set y3.1.2.2.2.2.2.1 (Int.toNat y3.1.2.2.2.2.2.2.1) (bif (decide ((1000000:Int) < z5)) then (1000000:Int) else z5)),y3.1.2.2.2.2.2.2.2.2.2.1,y3.1.2.2.2.2.2.2.2.2.2.2.1,(IntKind.i64.wrap (y3.1.2.2.2.2.2.2.2.2.2.2.2.1 + (1:Int))),()),(y3.2.1,y3.2.2.1,())))
 else
 none
 else
 none
 else
 none
 else
 some (Sum.inl ((y3.1.1,y3.1.2.1,(),(),y3.1.2.2.2.2.1,y3.1.2.2.2.2.2.1,y3.1.2.2.2.2.2.2.2.2.2.1,y3.1.2.2.2.2.2.2.2.2.2.2.1,(IntKind.i64.wrap (y3.1.2.2.2.2.2.2.2.2.2.2.2.1 + (1:Int))),()),(y3.2.1,y3.2.2.1,())))
 else
 none
 else
 none
 else
 none
 else
 none
 else
 none
 else
 some (Sum.inr ((l,p2,()),()))
noncomputable def nhs':(T'45×(T'0×T'46×Unit))→Option (T'47×Unit):=iter (fun x=>nek' x.1.1 x.1.2.1 x.1.2.2.2.2.1 x.1.2.2.2.2.2.1 x.1.2.2.2.2.2.2.1 x.1.2.2.2.2.2.2.2.1 x.1.2.2.2.2.2.2.2.2.1 x.2.1.1 x.2.1.2.1 x.2.1.2.2.1 x.2.1.2.2.2.1 x.2.1.2.2.2.2.1 x.2.1.2.2.2.2.2.1 x.2.1.2.2.2.2.2.2.1 x.2.1.2.2.2.2.2.2.2.1 x.2.2.1.1 x.2.2.1.2.1 x.2.2.1.2.2.1 x.2.2.1.2.2.2.1 x.2.2.1.2.2.2.2.1 x.2.2.1.2.2.2.2.2.1 x.2.2.1.2.2.2.2.2.2.1 x.2.2.1.2.2.2.2.2.2.2.1 x.2.2.1.2.2.2.2.2.2.2.2.1) fuel
noncomputable def nfe' (p0 p1 p2 p3:Int) (p4 p5 p6:Nat) (p7:List (Car)) (p8:List (Int)) (p9 p10:List (Bool)) (p11:List (Entry)) (p12:List (Int)) (p13:List (View)):Option (T'44×Unit):=
 (ndw' p0 p1 p2 p3 p4 p5 p6 p7 p8 p9 p10 p11).bind fun y1=>
 bif (!y1.1.1) then
 some ((([]:List (Record)),([]:List (Int)),(1:Int),()),())
 else
 bif (((List.length p12:Nat):Int) != ((List.length p11:Nat):Int)) then
 some ((([]:List (Record)),([]:List (Int)),(1:Int),()),())
 else
 bif (((List.length p13:Nat):Int) != ((List.length p7:Nat):Int)) then
 some ((([]:List (Record)),([]:List (Int)),(1:Int),()),())
 else
 (nbm' p12).bind fun y2=>
 bif y2.1.1 then
 some ((([]:List (Record)),([]:List (Int)),(1:Int),()),())
 else
 let z0:Int:=((List.length p12:Nat):Int)
 bif (((decide ((0:Int)≤z0))&&(decide (z0≤z0)))&&(decide (z0≤(2147483648:Int)))) then
 (nhs' ((p12,p13,(),(),([]:List (Record)),(List.replicate (Int.toNat z0) (0:Int)),p11,((List.length p11:Nat):Int),(0:Int),()),((p0,p1,p2,p3,p4,p5,p6,p7,()),(p0,p1,p2,p3,p4,p5,p6,p7,p13,()),()))).bind fun y3=>
 some ((y3.1.1,y3.1.2.1,(0:Int),()),())
 else
 none
noncomputable def nu' (p0 p1 p2 p3:Int) (p4 p5 p6:Nat) (p7:List (Car)) (p8:List (Int)) (p9 p10:List (Bool)) (p11:List (Entry)) (p12:List (Int)) (p13:List (View)) (p14:List (Calls)) (p15 p16:Int) (p17:Bool):Option ((Unit×Int×Unit)×(T'48×Unit)):=
 (nef' p0 p1 p2 p3 p4 p5 p6 p7 p13 p14).bind fun y1=>
 bif (y1.1.2.1 != (0:Int)) then
 some (((),(1:Int),()),((([]:List (Record)),([]:List (Int)),([]:List (Bool)),([]:List (Bool)),([]:List (Entry)),([]:List (Int)),([]:List (Calls)),([]:List (Bool)),(0:Int),(0:Int),(0:Int),(0:Int),()),()))
 else
 (ndw' p0 p1 p2 p3 p4 p5 p6 p7 p8 p9 p10 p11).bind fun y2=>
 bif (!y2.1.1) then
 some (((),(1:Int),()),((([]:List (Record)),([]:List (Int)),([]:List (Bool)),([]:List (Bool)),([]:List (Entry)),([]:List (Int)),([]:List (Calls)),([]:List (Bool)),(0:Int),(0:Int),(0:Int),(0:Int),()),()))
 else
 (ne7' p8 p9 p10 p11 p12).bind fun y3=>
 bif (!y3.1.1) then
 some (((),(1:Int),()),((([]:List (Record)),([]:List (Int)),([]:List (Bool)),([]:List (Bool)),([]:List (Entry)),([]:List (Int)),([]:List (Calls)),([]:List (Bool)),(0:Int),(0:Int),(0:Int),(0:Int),()),()))
 else
 (nf4' p8 p9 p10 p11).bind fun y4=>
 (ncf' p12).bind fun y5=>
 (nj2' ((List.length p13:Nat):Int)).bind fun y6=>
 Option.bind (bif p17 then
 (nhw' p0 p1 p2 p3 p4 p5 p6 p7 p8 p9 p10 p11 p13).bind fun y7=>
 (nbl' y7.1.1 [] y4.2.1.1 y4.2.1.2.1 y4.2.1.2.2.1 y4.2.1.2.2.2.1 y5.1.1 y1.2.1.1 y1.2.1.2.1 y1.2.1.2.2.1 y1.2.1.2.2.2.1 (0:Int) (0:Int) p0 p1 p2 p3 p4 p5 p6 p7).bind fun y8=>
 (nkw' p8 p9 p10 p11).bind fun y9=>
 (nck' p15 p16 y9.2.1.1 y9.2.1.2.1 y8.2.1.1 y8.2.1.2.1 y8.2.1.2.2.1 y8.2.1.2.2.2.1 y8.2.1.2.2.2.2.1 y8.2.1.2.2.2.2.2.1 y8.2.1.2.2.2.2.2.2.1 y8.2.1.2.2.2.2.2.2.2.1 y8.2.1.2.2.2.2.2.2.2.2.1 y8.2.1.2.2.2.2.2.2.2.2.2.1 y8.2.1.2.2.2.2.2.2.2.2.2.2.1 y8.2.1.2.2.2.2.2.2.2.2.2.2.2.1 y8.2.1.2.2.2.2.2.2.2.2.2.2.2.2.1 y8.2.1.2.2.2.2.2.2.2.2.2.2.2.2.2.1 y8.2.1.2.2.2.2.2.2.2.2.2.2.2.2.2.2.1 y8.2.1.2.2.2.2.2.2.2.2.2.2.2.2.2.2.2.1 y8.2.1.2.2.2.2.2.2.2.2.2.2.2.2.2.2.2.2.1 y8.2.1.2.2.2.2.2.2.2.2.2.2.2.2.2.2.2.2.2.1 y8.2.1.2.2.2.2.2.2.2.2.2.2.2.2.2.2.2.2.2.2.1 y8.2.1.2.2.2.2.2.2.2.2.2.2.2.2.2.2.2.2.2.2.2.1).bind fun y10=>
 some ((p13,(),(),(),()),((p0,p1,p2,p3,p4,p5,p6,p7,()),(([]:List (Record)),([]:List (Int)),([]:List (Bool)),([]:List (Bool)),([]:List (Entry)),([]:List (Int)),([]:List (Calls)),([]:List (Bool)),(0:Int),(0:Int),(0:Int),(0:Int),()),y10.2.1,()))
 else
 some ((p13,(),(),(),()),((p0,p1,p2,p3,p4,p5,p6,p7,()),(([]:List (Record)),([]:List (Int)),([]:List (Bool)),([]:List (Bool)),([]:List (Entry)),([]:List (Int)),([]:List (Calls)),([]:List (Bool)),(0:Int),(0:Int),(0:Int),(0:Int),()),(([]:List (Record)),y4.2.1.1,y4.2.1.2.1,y4.2.1.2.2.1,y4.2.1.2.2.2.1,y5.1.1,y6.2.1.1,y6.2.1.2.1,y6.2.1.2.2.1,y6.2.1.2.2.2.1,(0:Int),(0:Int),p0,p1,p2,p3,p4,p5,p6,p7,()),()))) fun y11=>
 (nfe' y11.2.1.1 y11.2.1.2.1 y11.2.1.2.2.1 y11.2.1.2.2.2.1 y11.2.1.2.2.2.2.1 y11.2.1.2.2.2.2.2.1 y11.2.1.2.2.2.2.2.2.1 y11.2.1.2.2.2.2.2.2.2.1 y11.2.2.2.1.2.1 y11.2.2.2.1.2.2.1 y11.2.2.2.1.2.2.2.1 y11.2.2.2.1.2.2.2.2.1 y11.2.2.2.1.2.2.2.2.2.1 y11.1.1).bind fun y12=>
 (nbl' y12.1.1 y11.2.2.2.1.1 y11.2.2.2.1.2.1 y11.2.2.2.1.2.2.1 y11.2.2.2.1.2.2.2.1 y11.2.2.2.1.2.2.2.2.1 y11.2.2.2.1.2.2.2.2.2.1 y11.2.2.2.1.2.2.2.2.2.2.1 y11.2.2.2.1.2.2.2.2.2.2.2.1 y11.2.2.2.1.2.2.2.2.2.2.2.2.1 y11.2.2.2.1.2.2.2.2.2.2.2.2.2.1 y11.2.2.2.1.2.2.2.2.2.2.2.2.2.2.1 y11.2.2.2.1.2.2.2.2.2.2.2.2.2.2.2.1 y11.2.2.2.1.2.2.2.2.2.2.2.2.2.2.2.2.1 y11.2.2.2.1.2.2.2.2.2.2.2.2.2.2.2.2.2.1 y11.2.2.2.1.2.2.2.2.2.2.2.2.2.2.2.2.2.2.1 y11.2.2.2.1.2.2.2.2.2.2.2.2.2.2.2.2.2.2.2.1 y11.2.2.2.1.2.2.2.2.2.2.2.2.2.2.2.2.2.2.2.2.1 y11.2.2.2.1.2.2.2.2.2.2.2.2.2.2.2.2.2.2.2.2.2.1 y11.2.2.2.1.2.2.2.2.2.2.2.2.2.2.2.2.2.2.2.2.2.2.1 y11.2.2.2.1.2.2.2.2.2.2.2.2.2.2.2.2.2.2.2.2.2.2.2.1).bind fun y13=>
 some (((),(0:Int),()),((y13.2.1.1,y13.2.1.2.1,y13.2.1.2.2.1,y13.2.1.2.2.2.1,y13.2.1.2.2.2.2.1,y12.1.2.1,y13.2.1.2.2.2.2.2.2.1,y13.2.1.2.2.2.2.2.2.2.1,y13.2.1.2.2.2.2.2.2.2.2.1,y13.2.1.2.2.2.2.2.2.2.2.2.1,y13.2.1.2.2.2.2.2.2.2.2.2.2.1,y13.2.1.2.2.2.2.2.2.2.2.2.2.2.1,()),()))
noncomputable def nd5' (p0:List (Int)) (i:Int) (p1:List (Int)) (p2 p3:List (Bool)) (p4:List (Entry)):Option (Sum (T'49×(T'5×Unit)) ((T'50×(T'5×Unit)) ⊕ ((Bool×Unit)×Unit))):=
 bif (decide (i < ((List.length p0:Nat):Int))) then
 bif (inB i (List.length p0)) then
 bif (decide ((List.getD p0 (Int.toNat i) (0:Int)) < (0:Int))) then
 some (Sum.inr (Sum.inr ((false,()),())))
 else
 bif (inB i (List.length p0)) then
 bif (decide ((1000000:Int) < (List.getD p0 (Int.toNat i) (0:Int)))) then
 some (Sum.inr (Sum.inr ((false,()),())))
 else
 some (Sum.inl ((p0,(),(IntKind.i64.wrap (i + (1:Int))),()),((p1,p2,p3,p4,()),())))
 else
 none
 else
 none
 else
 some (Sum.inr (Sum.inl ((p0,(),()),((p1,p2,p3,p4,()),()))))
noncomputable def ng7':(T'49×(T'5×Unit))→Option ((T'50×(T'5×Unit)) ⊕ ((Bool×Unit)×Unit)):=iter (fun x=>nd5' x.1.1 x.1.2.2.1 x.2.1.1 x.2.1.2.1 x.2.1.2.2.1 x.2.1.2.2.2.1) fuel
noncomputable def ngm' (p0:List (Int)) (p1 p2:List (Bool)) (p3:List (Entry)) (p4:List (Int)):Option ((Bool×Unit)×Unit):=
 (ng7' ((p4,(),(0:Int),()),((p0,p1,p2,p3,()),()))).bind fun y1=>
 (match y1 with
 | .inl y2=>
 some (((((List.length y2.1.1:Nat):Int)==((List.length y2.2.1.2.2.2.1:Nat):Int)),()),())
 | .inr y2=>
 some ((y2.1.1,()),()))
noncomputable def ngf' (f p0 p1 p2 p3:Int) (p4 p5 p6:Nat) (p7:List (Car)) (p8 p9 p10 p11:Int):Option (Sum (T'51×T'52) ((Unit×Unit×Unit)×T'39)):=
 bif (decide (f < (32:Int))) then
 Option.bind ((ne4' p0 p1 p2 p3 p4 p5 p6 p7 f (1:Int)).bind fun y1=>
 bif y1.1.1 then
 let z0:Int:=(IntKind.u64.wrap f)
 bif (decide ((0:Int)≤z0)) then
 let z1:Int:=(IntKind.u32.wrap ((1:Int) * ((2:Int) ^ (Min.min (Int.toNat z0) (IntKind.bits IntKind.u32)))))
 some (((),(),(),f,()),((p0,p1,p2,p3,p4,p5,p6,p7,()),(p8,p9,()),((IntKind.u32.wrap (stk p10 z1 (BitVec.toNat ((BitVec.ofInt (IntKind.bits IntKind.u32) p10) ||| (BitVec.ofInt (IntKind.bits IntKind.u32) z1))))),p11,()),()))
 else
 none
 else
 some (((),(),(),f,()),((p0,p1,p2,p3,p4,p5,p6,p7,()),(p8,p9,()),(p10,p11,()),()))) fun y2=>
 (ne4' y2.2.1.1 y2.2.1.2.1 y2.2.1.2.2.1 y2.2.1.2.2.2.1 y2.2.1.2.2.2.2.1 y2.2.1.2.2.2.2.2.1 y2.2.1.2.2.2.2.2.2.1 y2.2.1.2.2.2.2.2.2.2.1 y2.1.2.2.2.1 (2:Int)).bind fun y3=>
 bif y3.1.1 then
 let z2:Int:=(IntKind.u64.wrap y2.1.2.2.2.1)
 bif (decide ((0:Int)≤z2)) then
 let z3:Int:=(IntKind.u32.wrap ((1:Int) * ((2:Int) ^ (Min.min (Int.toNat z2) (IntKind.bits IntKind.u32)))))
 some (Sum.inl (((),(),(),(IntKind.i64.wrap (y2.1.2.2.2.1 + (1:Int))),()),(y2.2.1,y2.2.2.1,(y2.2.2.2.1.1,(IntKind.u32.wrap (stk y2.2.2.2.1.2.1 z3 (BitVec.toNat ((BitVec.ofInt (IntKind.bits IntKind.u32) y2.2.2.2.1.2.1) ||| (BitVec.ofInt (IntKind.bits IntKind.u32) z3))))),()),())))
 else
 none
 else
 some (Sum.inl (((),(),(),(IntKind.i64.wrap (y2.1.2.2.2.1 + (1:Int))),()),(y2.2.1,y2.2.2.1,y2.2.2.2.1,())))
 else
 some (Sum.inr (((),(),()),((p8,p9,()),(p10,p11,()),())))
noncomputable def nj5':(T'51×T'52)→Option ((Unit×Unit×Unit)×T'39):=iter (fun x=>ngf' x.1.2.2.2.1 x.2.1.1 x.2.1.2.1 x.2.1.2.2.1 x.2.1.2.2.2.1 x.2.1.2.2.2.2.1 x.2.1.2.2.2.2.2.1 x.2.1.2.2.2.2.2.2.1 x.2.1.2.2.2.2.2.2.2.1 x.2.2.1.1 x.2.2.1.2.1 x.2.2.2.1.1 x.2.2.2.1.2.1) fuel
noncomputable def nj8' (p0 p1 p2 p3:Int) (p4 p5 p6:Nat) (p7:List (Car)):Option ((Unit×Unit)×T'18):=
 (nj5' (((),(),(),(0:Int),()),((p0,p1,p2,p3,p4,p5,p6,p7,()),((0:Int),(0:Int),()),((0:Int),(0:Int),()),()))).bind fun y1=>
 some (((),()),(y1.2.2.1,()))
noncomputable def nku' (p0 p1 p2 p3:Int):Option ((Unit×Unit)×T'18):=
 some (((),()),(((IntKind.u32.wrap (stk p0 p2 (BitVec.toNat ((BitVec.ofInt (IntKind.bits IntKind.u32) p0) &&& (BitVec.ofInt (IntKind.bits IntKind.u32) p2))))),(IntKind.u32.wrap (stk p1 p3 (BitVec.toNat ((BitVec.ofInt (IntKind.bits IntKind.u32) p1) &&& (BitVec.ofInt (IntKind.bits IntKind.u32) p3))))),()),()))
noncomputable def nia' (p0 p1 p2 p3:Int) (p4 p5 p6:Nat) (p7:List (Car)) (p8 p9 p10 p11:Bool) (p12 p13 p14 p15 p16 p17 p18 p19:Int):Option ((Unit×Unit)×T'18):=
 bif (!p9) then
 some (((),()),(((0:Int),(0:Int),()),()))
 else
 (nj8' p0 p1 p2 p3 p4 p5 p6 p7).bind fun y1=>
 (nku' p15 p16 y1.2.1.1 y1.2.1.2.1).bind fun y2=>
 some (((),()),(y2.2.1,()))
noncomputable def ni0' (p0 p1 p2 p3:Int):Option ((Unit×Unit)×T'18):=
 some (((),()),(((IntKind.u32.wrap (stk p0 p2 (BitVec.toNat ((BitVec.ofInt (IntKind.bits IntKind.u32) p0) &&& (~~~ (BitVec.ofInt (IntKind.bits IntKind.u32) p2)))))),(IntKind.u32.wrap (stk p1 p3 (BitVec.toNat ((BitVec.ofInt (IntKind.bits IntKind.u32) p1) &&& (~~~ (BitVec.ofInt (IntKind.bits IntKind.u32) p3)))))),()),()))
noncomputable def nhp' (p0 p1 p2 p3:Int):Option ((Unit×Unit)×T'18):=
 some (((),()),(((IntKind.u32.wrap (stk p0 p2 (BitVec.toNat ((BitVec.ofInt (IntKind.bits IntKind.u32) p0) ||| (BitVec.ofInt (IntKind.bits IntKind.u32) p2))))),(IntKind.u32.wrap (stk p1 p3 (BitVec.toNat ((BitVec.ofInt (IntKind.bits IntKind.u32) p1) ||| (BitVec.ofInt (IntKind.bits IntKind.u32) p3))))),()),()))
noncomputable def ne9' (p0:List (View)) (p1:List (Calls)) (i p2 p3 p4 p5:Int) (p6 p7 p8:Nat) (p9:List (Car)) (p10:List (Calls)) (p11:List (Bool)) (p12 p13:Int) (p14:List (Calls)) (p15:List (Bool)) (p16 p17:Int):Option (Sum (T'53×T'24) ((Unit×Unit×Unit)×(T'22×T'22×Unit))):=
 bif (decide (i < ((List.length p0:Nat):Int))) then
 bif (inB i (List.length p0)) then
 let z0:View:=(List.getD p0 (Int.toNat i) (View.mk false false false false (0:Int) (0:Int) (0:Int) (0:Int) (0:Int) (0:Int) (0:Int) (0:Int)))
 (nia' p2 p3 p4 p5 p6 p7 p8 p9 z0.Ready z0.Serving z0.Legacy z0.Lost z0.Floor z0.Dir z0.Load z0.Shows_Up z0.Shows_Down z0.Stops_Car z0.Stops_Hall_Up z0.Stops_Hall_Down).bind fun y1=>
 (ni0' y1.2.1.1 y1.2.1.2.1 p16 p17).bind fun y2=>
 let z1:List (Calls):=[(Calls.mk y2.2.1.1 y2.2.1.2.1)]
 bif (Nat.ble ((List.length p14) + (List.length z1)) 2147483648) then
 bif (inB i (List.length p1)) then
 let z2:Calls:=(List.getD p1 (Int.toNat i) (Calls.mk (0:Int) (0:Int)))
 (ni0' y2.2.1.1 y2.2.1.2.1 z2.Up z2.Down).bind fun y3=>
 let z3:List (Bool):=[(!((y3.2.1.1==(0:Int))&&((y3.2.1.2.1==(0:Int))&&true)))]
 bif (Nat.ble ((List.length p15) + (List.length z3)) 2147483648) then
 (nhp' p16 p17 y2.2.1.1 y2.2.1.2.1).bind fun y4=>
 some (Sum.inl ((p0,p1,(),(),(),(IntKind.i64.wrap (i + (1:Int))),()),((p2,p3,p4,p5,p6,p7,p8,p9,()),(p10,p11,p12,p13,()),((p14++z1),(p15++z3),y4.2.1.1,y4.2.1.2.1,()),())))
 else
 none
 else
 none
 else
 none
 else
 none
 else
 some (Sum.inr (((),(),()),((p10,p11,p12,p13,()),(p14,p15,p16,p17,()),())))
noncomputable def njj':(T'53×T'24)→Option ((Unit×Unit×Unit)×(T'22×T'22×Unit)):=iter (fun x=>ne9' x.1.1 x.1.2.1 x.1.2.2.2.2.2.1 x.2.1.1 x.2.1.2.1 x.2.1.2.2.1 x.2.1.2.2.2.1 x.2.1.2.2.2.2.1 x.2.1.2.2.2.2.2.1 x.2.1.2.2.2.2.2.2.1 x.2.1.2.2.2.2.2.2.2.1 x.2.2.1.1 x.2.2.1.2.1 x.2.2.1.2.2.1 x.2.2.1.2.2.2.1 x.2.2.2.1.1 x.2.2.2.1.2.1 x.2.2.2.1.2.2.1 x.2.2.2.1.2.2.2.1) fuel
noncomputable def nlo' (p0 p1 p2 p3:Int) (p4 p5 p6:Nat) (p7:List (Car)) (p8:List (View)) (p9:List (Calls)):Option ((Unit×Int×Unit)×(T'22×Unit)):=
 (ndh' p0 p1 p2 p3 p4 p5 p6 p7).bind fun y1=>
 bif (y1.1.1 != (0:Int)) then
 some (((),(1:Int),()),((([]:List (Calls)),([]:List (Bool)),(0:Int),(0:Int),()),()))
 else
 bif (((List.length p8:Nat):Int) != ((List.length p7:Nat):Int)) then
 some (((),(1:Int),()),((([]:List (Calls)),([]:List (Bool)),(0:Int),(0:Int),()),()))
 else
 bif (((List.length p9:Nat):Int) != ((List.length p7:Nat):Int)) then
 some (((),(1:Int),()),((([]:List (Calls)),([]:List (Bool)),(0:Int),(0:Int),()),()))
 else
 (njj' ((p8,p9,(),(),(),(0:Int),()),((p0,p1,p2,p3,p4,p5,p6,p7,()),(([]:List (Calls)),([]:List (Bool)),(0:Int),(0:Int),()),(([]:List (Calls)),([]:List (Bool)),(0:Int),(0:Int),()),()))).bind fun y2=>
 some (((),(0:Int),()),(y2.2.2.1,()))
noncomputable def njo' (p0 p1 p2 dir:Int):Option ((Bool×Unit)×Unit):=
 bif (decide (p2 < (0:Int))) then
 some ((false,()),())
 else
 bif (decide ((31:Int) < p2)) then
 some ((false,()),())
 else
 Option.bind (bif (dir==(1:Int)) then
 let z0:Int:=(IntKind.u64.wrap p2)
 bif (decide ((0:Int)≤z0)) then
 let z1:Int:=(Int.fdiv p0 ((2:Int) ^ (Min.min (Int.toNat z0) (IntKind.bits IntKind.u32))))
 bif ((IntKind.u32.wrap (stk z1 (1:Int) (BitVec.toNat ((BitVec.ofInt (IntKind.bits IntKind.u32) z1) &&& (BitVec.ofInt (IntKind.bits IntKind.u32) (1:Int))))))==(1:Int)) then
 some ((true,()),())
 else
 bif (dir==(2:Int)) then
 let z2:Int:=(IntKind.u64.wrap p2)
 bif (decide ((0:Int)≤z2)) then
 let z3:Int:=(Int.fdiv p1 ((2:Int) ^ (Min.min (Int.toNat z2) (IntKind.bits IntKind.u32))))
 some ((((IntKind.u32.wrap (stk z3 (1:Int) (BitVec.toNat ((BitVec.ofInt (IntKind.bits IntKind.u32) z3) &&& (BitVec.ofInt (IntKind.bits IntKind.u32) (1:Int))))))==(1:Int)),()),())
 else
 none
 else
 some ((false,()),())
 else
 none
 else
 bif (dir==(2:Int)) then
 let z4:Int:=(IntKind.u64.wrap p2)
 bif (decide ((0:Int)≤z4)) then
 let z5:Int:=(Int.fdiv p1 ((2:Int) ^ (Min.min (Int.toNat z4) (IntKind.bits IntKind.u32))))
 some ((((IntKind.u32.wrap (stk z5 (1:Int) (BitVec.toNat ((BitVec.ofInt (IntKind.bits IntKind.u32) z5) &&& (BitVec.ofInt (IntKind.bits IntKind.u32) (1:Int))))))==(1:Int)),()),())
 else
 none
 else
 some ((false,()),())) fun y1=>
 some ((y1.1.1,()),())
noncomputable def nff' (p0:List (View)) (out:List (Record)) (i k p1 p2 p3 p4:Int) (p5 p6 p7:Nat) (p8:List (Car)) (p9:List (Int)) (p10 p11:List (Bool)) (p12:List (Entry)) (p13 p14 p15 p16:Int) (p17:Bool):Option (Sum (T'55×(T'0×T'5×T'11×Unit)) (T'54×(T'0×T'5×Unit))):=
 bif (decide (k < ((List.length p0:Nat):Int))) then
 bif (inB k (List.length p0)) then
 let z0:View:=(List.getD p0 (Int.toNat k) (View.mk false false false false (0:Int) (0:Int) (0:Int) (0:Int) (0:Int) (0:Int) (0:Int) (0:Int)))
 (nia' p1 p2 p3 p4 p5 p6 p7 p8 z0.Ready z0.Serving z0.Legacy z0.Lost z0.Floor z0.Dir z0.Load z0.Shows_Up z0.Shows_Down z0.Stops_Car z0.Stops_Hall_Up z0.Stops_Hall_Down).bind fun y1=>
 (njo' y1.2.1.1 y1.2.1.2.1 p13 p14).bind fun y2=>
 bif y2.1.1 then
 let z1:List (Record):=[(Record.mk (2:Int) p13 p14 (0:Int) (0:Int))]
 bif (Nat.ble ((List.length out) + (List.length z1)) 2147483648) then
 some (Sum.inr ((p0,(),(),(out++z1),i,()),((p1,p2,p3,p4,p5,p6,p7,p8,()),(p9,p10,p11,p12,()),())))
 else
 none
 else
 some (Sum.inl ((p0,(),(),out,i,(),(IntKind.i64.wrap (k + (1:Int))),()),((p1,p2,p3,p4,p5,p6,p7,p8,()),(p9,p10,p11,p12,()),(p13,p14,p15,p16,p17,()),())))
 else
 none
 else
 some (Sum.inr ((p0,(),(),out,i,()),((p1,p2,p3,p4,p5,p6,p7,p8,()),(p9,p10,p11,p12,()),())))
noncomputable def nje':(T'55×(T'0×T'5×T'11×Unit))→Option (T'54×(T'0×T'5×Unit)):=iter (fun x=>nff' x.1.1 x.1.2.2.2.1 x.1.2.2.2.2.1 x.1.2.2.2.2.2.2.1 x.2.1.1 x.2.1.2.1 x.2.1.2.2.1 x.2.1.2.2.2.1 x.2.1.2.2.2.2.1 x.2.1.2.2.2.2.2.1 x.2.1.2.2.2.2.2.2.1 x.2.1.2.2.2.2.2.2.2.1 x.2.2.1.1 x.2.2.1.2.1 x.2.2.1.2.2.1 x.2.2.1.2.2.2.1 x.2.2.2.1.1 x.2.2.2.1.2.1 x.2.2.2.1.2.2.1 x.2.2.2.1.2.2.2.1 x.2.2.2.1.2.2.2.2.1) fuel
noncomputable def nfc' (p0:List (View)) (out:List (Record)) (i p1 p2 p3 p4:Int) (p5 p6 p7:Nat) (p8:List (Car)) (p9:List (Int)) (p10 p11:List (Bool)) (p12:List (Entry)):Option (Sum (T'54×(T'0×T'5×Unit)) ((List (Record)×Unit)×Unit)):=
 bif (decide (i < ((List.length p12:Nat):Int))) then
 bif (inB i (List.length p12)) then
 let z0:Entry:=(List.getD p12 (Int.toNat i) (Entry.mk (0:Int) (0:Int) (0:Int) (0:Int) false))
 (nje' ((p0,(),(),out,i,(),(0:Int),()),((p1,p2,p3,p4,p5,p6,p7,p8,()),(p9,p10,p11,p12,()),(z0.Floor,z0.Dir,z0.Car,z0.Moves,z0.Moved,()),()))).bind fun y1=>
 some (Sum.inl ((y1.1.1,(),(),y1.1.2.2.2.1,(IntKind.i64.wrap (y1.1.2.2.2.2.1 + (1:Int))),()),(y1.2.1,y1.2.2.1,())))
 else
 none
 else
 some (Sum.inr ((out,()),()))
noncomputable def njf':(T'54×(T'0×T'5×Unit))→Option ((List (Record)×Unit)×Unit):=iter (fun x=>nfc' x.1.1 x.1.2.2.2.1 x.1.2.2.2.2.1 x.2.1.1 x.2.1.2.1 x.2.1.2.2.1 x.2.1.2.2.2.1 x.2.1.2.2.2.2.1 x.2.1.2.2.2.2.2.1 x.2.1.2.2.2.2.2.2.1 x.2.1.2.2.2.2.2.2.2.1 x.2.2.1.1 x.2.2.1.2.1 x.2.2.1.2.2.1 x.2.2.1.2.2.2.1) fuel
noncomputable def nlh' (p0 p1 p2 p3:Int) (p4 p5 p6:Nat) (p7:List (Car)) (p8:List (Int)) (p9 p10:List (Bool)) (p11:List (Entry)) (p12:List (View)):Option ((List (Record)×Unit)×Unit):=
 (ndv' p0 p1 p2 p3 p4 p5 p6 p7 p8 p9 p10 p11).bind fun y1=>
 bif (!y1.1.1) then
 some ((([]:List (Record)),()),())
 else
 bif (((List.length p12:Nat):Int) != ((List.length p7:Nat):Int)) then
 some ((([]:List (Record)),()),())
 else
 (njf' ((p12,(),(),([]:List (Record)),(0:Int),()),((p0,p1,p2,p3,p4,p5,p6,p7,()),(p8,p9,p10,p11,()),()))).bind fun y2=>
 some ((y2.1.1,()),())
noncomputable def ndd' (l:List (Record)) (i p0 p1 p2 p3:Int) (p4 p5 p6:Nat) (p7:List (Car)) (p8:List (Int)) (p9 p10:List (Bool)) (p11:List (Entry)) (p12:List (Int)) (p13 p14:List (Bool)) (p15:List (Entry)):Option (Sum (T'56×(T'0×T'5×T'5×Unit)) (((Unit×Unit×Unit)×(T'5×T'5×Unit)) ⊕ ((Unit×Int×Unit)×(T'5×Unit)))):=
 bif (decide (i < ((List.length l:Nat):Int))) then
 bif (inB i (List.length l)) then
 let z0:Record:=(List.getD l (Int.toNat i) (Record.mk (0:Int) (0:Int) (0:Int) (0:Int) (0:Int)))
 (niw' p0 p1 p2 p3 p4 p5 p6 p7 p8 p9 p10 p11 z0.Kind z0.Floor z0.Dir z0.Car z0.Value).bind fun y1=>
 bif (y1.1.2.1 != (0:Int)) then
 some (Sum.inr (Sum.inr (((),y1.1.2.1,()),((([]:List (Int)),([]:List (Bool)),([]:List (Bool)),([]:List (Entry)),()),()))))
 else
 some (Sum.inl ((l,(),(),(),(IntKind.i64.wrap (i + (1:Int))),()),((p0,p1,p2,p3,p4,p5,p6,p7,()),y1.2.1,(p12,p13,p14,p15,()),())))
 else
 none
 else
 some (Sum.inr (Sum.inl (((),(),()),((p8,p9,p10,p11,()),(p12,p13,p14,p15,()),()))))
noncomputable def ngw':(T'56×(T'0×T'5×T'5×Unit))→Option (((Unit×Unit×Unit)×(T'5×T'5×Unit)) ⊕ ((Unit×Int×Unit)×(T'5×Unit))):=iter (fun x=>ndd' x.1.1 x.1.2.2.2.2.1 x.2.1.1 x.2.1.2.1 x.2.1.2.2.1 x.2.1.2.2.2.1 x.2.1.2.2.2.2.1 x.2.1.2.2.2.2.2.1 x.2.1.2.2.2.2.2.2.1 x.2.1.2.2.2.2.2.2.2.1 x.2.2.1.1 x.2.2.1.2.1 x.2.2.1.2.2.1 x.2.2.1.2.2.2.1 x.2.2.2.1.1 x.2.2.2.1.2.1 x.2.2.2.1.2.2.1 x.2.2.2.1.2.2.2.1) fuel
noncomputable def nkz' (p0 p1 p2 p3:Int) (p4 p5 p6:Nat) (p7:List (Car)) (p8:List (Int)) (p9 p10:List (Bool)) (p11:List (Entry)) (l:List (Record)):Option ((Unit×Int×Unit)×(T'5×Unit)):=
 (ngw' ((l,(),(),(),(0:Int),()),((p0,p1,p2,p3,p4,p5,p6,p7,()),(p8,p9,p10,p11,()),(([]:List (Int)),([]:List (Bool)),([]:List (Bool)),([]:List (Entry)),()),()))).bind fun y1=>
 (match y1 with
 | .inl y2=>
 some (((),(0:Int),()),(y2.2.1,()))
 | .inr y2=>
 some (((),y2.1.2.1,()),(y2.2.1,())))
noncomputable def nk0' (p0:List (Int)) (p1 p2:List (Bool)) (p3:List (Entry)) (p4:List (Int)) (p5 dir:Int):Option ((Int×Unit)×Unit):=
 (nil' p0 p1 p2 p3 p5 dir).bind fun y1=>
 bif (decide ((0:Int)≤y1.1.1)) then
 bif (inB y1.1.1 (List.length p4)) then
 some (((List.getD p4 (Int.toNat y1.1.1) (0:Int)),()),())
 else
 none
 else
 some (((0:Int),()),())
noncomputable def nfh' (p0 out:List (Int)) (i:Int) (p1:List (Int)) (p2 p3:List (Bool)) (p4:List (Entry)) (p5:List (Int)) (p6 p7:List (Bool)) (p8:List (Entry)):Option (Sum (T'57×(T'5×T'5×Unit)) ((List (Int)×Unit)×Unit)):=
 bif (decide (i < ((List.length p8:Nat):Int))) then
 bif (inB i (List.length p8)) then
 bif (inB i (List.length p8)) then
 (nk0' p1 p2 p3 p4 p0 (List.getD p8 (Int.toNat i) (Entry.mk (0:Int) (0:Int) (0:Int) (0:Int) false)).Floor (List.getD p8 (Int.toNat i) (Entry.mk (0:Int) (0:Int) (0:Int) (0:Int) false)).Dir).bind fun y1=>
 let z0:List (Int):=[y1.1.1]
 bif (Nat.ble ((List.length out) + (List.length z0)) 2147483648) then
 some (Sum.inl ((p0,(),(),(out++z0),(IntKind.i64.wrap (i + (1:Int))),()),((p1,p2,p3,p4,()),(p5,p6,p7,p8,()),())))
 else
 none
 else
 none
 else
 none
 else
 some (Sum.inr ((out,()),()))
noncomputable def ni6':(T'57×(T'5×T'5×Unit))→Option ((List (Int)×Unit)×Unit):=iter (fun x=>nfh' x.1.1 x.1.2.2.2.1 x.1.2.2.2.2.1 x.2.1.1 x.2.1.2.1 x.2.1.2.2.1 x.2.1.2.2.2.1 x.2.2.1.1 x.2.2.1.2.1 x.2.2.1.2.2.1 x.2.2.1.2.2.2.1) fuel
noncomputable def nls' (p0:List (Int)) (p1 p2:List (Bool)) (p3:List (Entry)) (p4 p5:List (Int)) (p6 p7:List (Bool)) (p8:List (Entry)):Option ((List (Int)×Unit)×Unit):=
 (ni6' ((p4,(),(),([]:List (Int)),(0:Int),()),((p0,p1,p2,p3,()),(p5,p6,p7,p8,()),()))).bind fun y1=>
 some ((y1.1.1,()),())
noncomputable def nfv' (p0 p1 p2 p3:Int) (p4 p5 p6:Nat) (p7:List (Car)) (p8:List (Record)) (p9:List (Int)) (p10 p11:List (Bool)) (p12:List (Entry)) (p13:List (Int)) (p14:List (Calls)) (p15:List (Bool)) (p16 p17 p18 p19:Int) (l:List (Record)):Option ((Unit×Unit)×(T'48×Unit)):=
 (nkz' p0 p1 p2 p3 p4 p5 p6 p7 p9 p10 p11 p12 l).bind fun y1=>
 (nls' p9 p10 p11 p12 p13 y1.2.1.1 y1.2.1.2.1 y1.2.1.2.2.1 y1.2.1.2.2.2.1).bind fun y2=>
 bif (Nat.ble ((List.length ([]:List (Record))) + (List.length p8)) 2147483648) then
 let z0:List (Record):=(([]:List (Record))++p8)
 bif (Nat.ble ((List.length z0) + (List.length l)) 2147483648) then
 some (((),()),(((z0++l),y1.2.1.1,y1.2.1.2.1,y1.2.1.2.2.1,y1.2.1.2.2.2.1,y2.1.1,p14,p15,p16,p17,p18,p19,()),()))
 else
 none
 else
 none
noncomputable def nkk' (out:List (Entry)) (f d p0 p1:Int):Option (Sum (T'40×T'18) (T'58×T'18)):=
 bif (decide (d≤(2:Int))) then
 (njo' p0 p1 f d).bind fun y1=>
 bif y1.1.1 then
 let z0:List (Entry):=[(Entry.mk f d (-1:Int) (0:Int) false)]
 bif (Nat.ble ((List.length out) + (List.length z0)) 2147483648) then
 some (Sum.inl (((),(out++z0),f,(IntKind.i64.wrap (d + (1:Int))),()),((p0,p1,()),())))
 else
 none
 else
 some (Sum.inl (((),out,f,(IntKind.i64.wrap (d + (1:Int))),()),((p0,p1,()),())))
 else
 some (Sum.inr (((),out,f,()),((p0,p1,()),())))
noncomputable def nko':(T'40×T'18)→Option (T'58×T'18):=iter (fun x=>nkk' x.1.2.1 x.1.2.2.1 x.1.2.2.2.1 x.2.1.1 x.2.1.2.1) fuel
noncomputable def nks' (out:List (Entry)) (f p0 p1:Int):Option (Sum (T'58×T'18) ((List (Entry)×Unit)×Unit)):=
 bif (decide (f < (32:Int))) then
 (nko' (((),out,f,(1:Int),()),((p0,p1,()),()))).bind fun y1=>
 some (Sum.inl (((),y1.1.2.1,(IntKind.i64.wrap (y1.1.2.2.1 + (1:Int))),()),(y1.2.1,())))
 else
 some (Sum.inr ((out,()),()))
noncomputable def nkm':(T'58×T'18)→Option ((List (Entry)×Unit)×Unit):=iter (fun x=>nks' x.1.2.1 x.1.2.2.1 x.2.1.1 x.2.1.2.1) fuel
noncomputable def nmx' (p0 p1:Int):Option ((List (Entry)×Unit)×Unit):=
 (nkm' (((),([]:List (Entry)),(0:Int),()),((p0,p1,()),()))).bind fun y1=>
 some ((y1.1.1,()),())
noncomputable def nmn' (p0 p1 p2 p3:Int) (p4 p5 p6:Nat) (p7:List (Car)) (p8:List (Int)) (p9 p10:List (Bool)) (p11:List (Entry)):Option ((Bool×Unit)×Unit):=
 Option.bind ((ndv' p0 p1 p2 p3 p4 p5 p6 p7 p8 p9 p10 p11).bind fun y1=>
 bif y1.1.1 then
 some (((decide ((IntKind.i64.wrap ((IntKind.i64.wrap ((18:Int) * (IntKind.i64.wrap ((IntKind.i64.wrap (((List.length p7:Nat):Int) + ((List.length p11:Nat):Int))) + (1:Int))))) + (6:Int)))≤p2)),()),())
 else
 some ((false,()),())) fun y2=>
 some ((y2.1.1,()),())
noncomputable def nim' (p0 p1 p2 p3:Bool) (p4 p5 p6 p7 p8 p9 p10 p11:Int):Option ((Bool×Unit)×Unit):=
 Option.bind (bif (p6==(3:Int)) then
 some ((true,()),())
 else
 some (((p6==(4:Int)),()),())) fun y1=>
 some ((y1.1.1,()),())
end Go.Ovl
