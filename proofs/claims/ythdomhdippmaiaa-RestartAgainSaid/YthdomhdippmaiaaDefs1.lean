/- What each function of the program comes to: part 1. -/
import Derived.Test.YthdomhdippmaiaaTy
namespace Go.Ovl
open Go Go.Ab
set_option maxRecDepth 100000
@[reducible] def T'0 : Type := (Int × Int × Int × Int × Nat × Nat × Nat × List (Car) × Unit)
@[reducible] def T'1 : Type := (Int × Int × Unit × Unit × Int × Unit)
@[reducible] def T'2 : Type := (Unit × Unit × List (Int) × Int × Unit)
@[reducible] def T'3 : Type := (Int × Int × Int × Int × Int × Int × Int × Int × Int × Unit)
@[reducible] def T'4 : Type := (Unit × Bool × Int × Unit)
@[reducible] def T'5 : Type := (List (Int) × List (Bool) × List (Bool) × List (Entry) × Unit)
@[reducible] def T'6 : Type := (List (Int) × Int × List (Record) × Int × Int × Int × Unit)
@[reducible] def T'7 : Type := (Unit × Unit × Int × Int × Unit)
@[reducible] def T'8 : Type := (Unit × Unit × Int × Unit)
@[reducible] def T'9 : Type := (Int × Int × Unit × Int × Unit)
@[reducible] def T'10 : Type := (List (Entry) × Unit × List (Entry) × Bool × Int × Unit)
@[reducible] def T'11 : Type := (Int × Int × Int × Int × Bool × Unit)
@[reducible] def T'12 : Type := (Unit × List (Entry) × Bool × Unit)
@[reducible] def T'13 : Type := (Unit × Unit × Unit × List (Record) × Int × Unit)
@[reducible] def T'14 : Type := (Unit × List (Record) × Int × Unit)
@[reducible] def T'15 : Type := (Unit × List (Record) × Unit)
@[reducible] def T'16 : Type := (ByteArray × Int × Int × Unit)
@[reducible] def T'17 : Type := (ByteArray × Int × Int × Int × Unit)
@[reducible] def T'18 : Type := (List (Record) × Unit × ByteArray × Int × Unit)
@[reducible] def T'19 : Type := (Int × Int × List (Int) × Int × Int × Unit)
@[reducible] def T'20 : Type := (Unit × Bool × List (Car) × Int × Int × Unit)
@[reducible] def T'21 : Type := (ByteArray × Int × Int × Int × Int × Unit)
@[reducible] def T'22 : Type := (Int × Int × Int × Int × Int × Unit)
@[reducible] def T'23 : Type := (List (Record) × Int × Unit)
@[reducible] def T'24 : Type := (ByteArray × Unit × List (Record) × Int × Unit)
@[reducible] def T'25 : Type := (Int × List (Int) × Int × Int × Unit)
@[reducible] def T'26 : Type := (List (Entry) × Unit × Unit × Int × Int × Int × Unit)
@[reducible] def T'27 : Type := (List (Entry) × Unit × Unit × Int × Int × Unit)
@[reducible] def T'28 : Type := (Unit × Unit × List (Record) × Int × Int × Unit)
@[reducible] def T'29 : Type := (Unit × Unit × List (Int) × Int × Int × Unit)
@[reducible] def T'30 : Type := (Unit × Unit × List (Entry) × Int × Int × Unit)
@[reducible] def T'31 : Type := ((List (Record) × Unit) × (Int × Unit) × Unit)
@[reducible] def T'32 : Type := ((List (Record) × Unit) × T'11 × Unit)
@[reducible] def T'33 : Type := (T'5 × (List (Record) × Unit) × Unit)
@[reducible] def T'34 : Type := (Unit × List (Entry) × Int × Int × Unit)
@[reducible] def T'35 : Type := ((List (Record) × Unit) × Unit)
@[reducible] def T'36 : Type := (Unit × List (Int) × Unit)
@[reducible] def T'37 : Type := (ByteArray × ByteArray × Int × Unit)
@[reducible] def T'38 : Type := (T'37 × (Int × Unit) × Unit)
@[reducible] def T'39 : Type := (Int × Unit × Unit × Unit × Unit × List (Record) × Int × Int × Unit)
@[reducible] def T'40 : Type := (T'0 × T'37 × T'37 × T'36 × Unit)
@[reducible] def T'41 : Type := (Int × Unit × Unit × Unit × Unit × Unit)
@[reducible] def T'42 : Type := (Int × Int × Int × List (Duty) × Int × Bool × Unit)
@[reducible] def T'43 : Type := (List (Int) × List (Bool) × List (Bool) × List (Entry) × ByteArray × ByteArray × Int × List (Debounced) × List (Belief) × List (NewCar) × List (Loaded) × List (Int) × List (Calls) × Int × Int × Int × Unit)
@[reducible] def T'44 : Type := (Unit × Unit × Unit × Unit × Int × Int × Unit)
@[reducible] def T'45 : Type := (T'0 × T'5 × T'43 × T'43 × Unit)
@[reducible] def T'46 : Type := (Unit × Unit × Unit × Unit × Unit)
@[reducible] def T'47 : Type := (Unit × Unit × Unit × List (Entry) × Int × Int × Unit)
@[reducible] def T'48 : Type := (T'0 × T'43 × T'43 × Unit)
@[reducible] def T'49 : Type := (List (Calls) × List (Calls) × Int × Unit)
@[reducible] def T'50 : Type := (List (Int) × List (Int) × Int × Unit)
@[reducible] def T'51 : Type := (List (Debounced) × List (Debounced) × Int × Int × Unit)
@[reducible] def T'52 : Type := (List (Duty) × List (Duty) × Int × Int × Unit)
@[reducible] def T'53 : Type := (List (Belief) × Unit × List (Belief) × Int × Int × Unit)
@[reducible] def T'54 : Type := (List (NewCar) × List (NewCar) × Int × Int × Unit)
@[reducible] def T'55 : Type := (List (Loaded) × List (Loaded) × Int × Int × Unit)
@[reducible] def T'56 : Type := (List (Calls) × List (Calls) × Int × Int × Unit)
@[reducible] def T'57 : Type := (List (Int) × List (Int) × Int × Int × Unit)
@[reducible] def T'58 : Type := (List (Bool) × List (Bool) × Int × Int × Unit)
@[reducible] def T'59 : Type := (List (Entry) × List (Entry) × Int × Int × Unit)
@[reducible] def T'60 : Type := (T'0 × T'37 × T'5 × T'22 × Int × Unit)
noncomputable def nd3' (floors cars i b4_Floors b4_Debounce b4_Room b4_Park : Int) (b4_Empty b4_Full b4_Over : Nat) (b4_Cars : List (Car)) (b_Floors b_Debounce b_Room b_Park : Int) (b_Empty b_Full b_Over : Nat) (b_Cars : List (Car)) : Option (Sum (T'1 × (T'0 × T'0 × Unit)) ((Unit × Unit × Unit) × (T'0 × T'0 × Unit))) :=
 bif (decide (i < cars)) then
 bif (floors != (0 : Int)) then
 let z0 : List (Car) := [(Car.mk (100 : Int) (2 : Int) (6 : Int) (5 : Int) (4 : Int) (2 : Int) (3 : Int) (10 : Int) (Int.tmod i floors))]
 bif (Nat.ble ((List.length b_Cars) + (List.length z0)) 2147483648) then
 some (Sum.inl ((floors, cars, (), (), (IntKind.i64.wrap (i + (1 : Int))), ()), ((b4_Floors, b4_Debounce, b4_Room, b4_Park, b4_Empty, b4_Full, b4_Over, b4_Cars, ()), (b_Floors, b_Debounce, b_Room, b_Park, b_Empty, b_Full, b_Over, (b_Cars ++ z0), ()), ())))
 else
 none
 else
 none
 else
 some (Sum.inr (((), (), ()), ((b4_Floors, b4_Debounce, b4_Room, b4_Park, b4_Empty, b4_Full, b4_Over, b4_Cars, ()), (b_Floors, b_Debounce, b_Room, b_Park, b_Empty, b_Full, b_Over, b_Cars, ()), ())))
noncomputable def nfu' : (T'1 × (T'0 × T'0 × Unit)) → Option ((Unit × Unit × Unit) × (T'0 × T'0 × Unit)) := iter (fun x => nd3' x.1.1 x.1.2.1 x.1.2.2.2.2.1 x.2.1.1 x.2.1.2.1 x.2.1.2.2.1 x.2.1.2.2.2.1 x.2.1.2.2.2.2.1 x.2.1.2.2.2.2.2.1 x.2.1.2.2.2.2.2.2.1 x.2.1.2.2.2.2.2.2.2.1 x.2.2.1.1 x.2.2.1.2.1 x.2.2.1.2.2.1 x.2.2.1.2.2.2.1 x.2.2.1.2.2.2.2.1 x.2.2.1.2.2.2.2.2.1 x.2.2.1.2.2.2.2.2.2.1 x.2.2.1.2.2.2.2.2.2.2.1) fuel
noncomputable def nic' (floors cars : Int) : Option ((Unit × Unit) × (T'0 × Unit)) :=
 (nfu' ((floors, cars, (), (), (0 : Int), ()), (((0 : Int), (0 : Int), (0 : Int), (0 : Int), 0, 0, 0, ([] : List (Car)), ()), (floors, (1 : Int), (4000 : Int), (30 : Int), 4591870180066957722, 4605380978949069210, 4607632778762754458, ([] : List (Car)), ()), ()))).bind fun y1 =>
 some (((), ()), ((y1.2.2.1.1, y1.2.2.1.2.1, y1.2.2.1.2.2.1, y1.2.2.1.2.2.2.1, y1.2.2.1.2.2.2.2.1, y1.2.2.1.2.2.2.2.2.1, y1.2.2.1.2.2.2.2.2.2.1, y1.2.2.1.2.2.2.2.2.2.2.1, ()), ()))
noncomputable def nbr' (n room : Int) : Option ((Unit × Unit) × (T'0 × Unit)) :=
 (nic' (IntKind.i64.wrap ((2 : Int) + (IntKind.i64.wrap (Int.tmod n (7 : Int))))) (IntKind.i64.wrap ((1 : Int) + (IntKind.i64.wrap (Int.tmod (IntKind.u8.wrap (Int.tdiv n (7 : Int))) (3 : Int)))))).bind fun y1 =>
 some (((), ()), ((y1.2.1.1, y1.2.1.2.1, (IntKind.i64.wrap ((IntKind.i64.wrap ((IntKind.i64.wrap ((18 : Int) * ((List.length y1.2.1.2.2.2.2.2.2.2.1 : Nat) : Int))) + (24 : Int))) + (IntKind.i64.wrap room))), y1.2.1.2.2.2.1, y1.2.1.2.2.2.2.1, y1.2.1.2.2.2.2.2.1, y1.2.1.2.2.2.2.2.2.1, y1.2.1.2.2.2.2.2.2.2.1, ()), ()))
noncomputable def ndi' (n lo hi : Int) : Option ((Bool × Unit) × Unit) :=
 Option.bind (bif (decide (lo ≤ n)) then
 some (((decide (n ≤ hi)), ()), ())
 else
 some ((false, ()), ())) fun y1 =>
 some ((y1.1.1, ()), ())
noncomputable def ndd' (l : List (Int)) (i b_Floors b_Debounce b_Room b_Park : Int) (b_Empty b_Full b_Over : Nat) (b_Cars : List (Car)) (c_Deadline c_Pulse c_Quiet c_Slack c_Step c_Travel c_Dwell c_Hold c_Home : Int) : Option (Sum (T'2 × (T'0 × T'3 × Unit)) (((Unit × Unit × Unit) × (T'0 × T'3 × Unit)) ⊕ ((Bool × Unit) × Unit))) :=
 bif (decide (i < (7 : Int))) then
 bif (inB i (List.length l)) then
 (ndi' (List.getD l (Int.toNat i) (0 : Int)) (1 : Int) (10000 : Int)).bind fun y1 =>
 bif (!y1.1.1) then
 some (Sum.inr (Sum.inr ((false, ()), ())))
 else
 some (Sum.inl (((), (), l, (IntKind.i64.wrap (i + (1 : Int))), ()), ((b_Floors, b_Debounce, b_Room, b_Park, b_Empty, b_Full, b_Over, b_Cars, ()), (c_Deadline, c_Pulse, c_Quiet, c_Slack, c_Step, c_Travel, c_Dwell, c_Hold, c_Home, ()), ())))
 else
 none
 else
 some (Sum.inr (Sum.inl (((), (), ()), ((b_Floors, b_Debounce, b_Room, b_Park, b_Empty, b_Full, b_Over, b_Cars, ()), (c_Deadline, c_Pulse, c_Quiet, c_Slack, c_Step, c_Travel, c_Dwell, c_Hold, c_Home, ()), ()))))
noncomputable def nhw' : (T'2 × (T'0 × T'3 × Unit)) → Option (((Unit × Unit × Unit) × (T'0 × T'3 × Unit)) ⊕ ((Bool × Unit) × Unit)) := iter (fun x => ndd' x.1.2.2.1 x.1.2.2.2.1 x.2.1.1 x.2.1.2.1 x.2.1.2.2.1 x.2.1.2.2.2.1 x.2.1.2.2.2.2.1 x.2.1.2.2.2.2.2.1 x.2.1.2.2.2.2.2.2.1 x.2.1.2.2.2.2.2.2.2.1 x.2.2.1.1 x.2.2.1.2.1 x.2.2.1.2.2.1 x.2.2.1.2.2.2.1 x.2.2.1.2.2.2.2.1 x.2.2.1.2.2.2.2.2.1 x.2.2.1.2.2.2.2.2.2.1 x.2.2.1.2.2.2.2.2.2.2.1 x.2.2.1.2.2.2.2.2.2.2.2.1) fuel
noncomputable def njn' (b_Floors b_Debounce b_Room b_Park : Int) (b_Empty b_Full b_Over : Nat) (b_Cars : List (Car)) (c_Deadline c_Pulse c_Quiet c_Slack c_Step c_Travel c_Dwell c_Hold c_Home : Int) : Option ((Bool × Unit) × Unit) :=
 bif (decide (c_Slack < (0 : Int))) then
 some ((false, ()), ())
 else
 bif (decide ((10000 : Int) < c_Slack)) then
 some ((false, ()), ())
 else
 (nhw' (((), (), [c_Deadline, c_Pulse, c_Quiet, c_Step, c_Travel, c_Dwell, c_Hold, (IntKind.i64.wrap (c_Slack + (1 : Int)))], (0 : Int), ()), ((b_Floors, b_Debounce, b_Room, b_Park, b_Empty, b_Full, b_Over, b_Cars, ()), (c_Deadline, c_Pulse, c_Quiet, c_Slack, c_Step, c_Travel, c_Dwell, c_Hold, c_Home, ()), ()))).bind fun y1 =>
 (match y1 with
 | .inl y2 =>
 Option.bind (bif (decide (y2.2.2.1.2.2.2.2.2.2.1 ≤ y2.2.2.1.2.2.2.2.2.2.2.1)) then
 (ndi' y2.2.2.1.2.2.2.2.2.2.2.2.1 (0 : Int) (IntKind.i64.wrap (y2.2.1.1 - (1 : Int)))).bind fun y3 =>
 some ((y3.1.1, ()), ())
 else
 some ((false, ()), ())) fun y4 =>
 some ((y4.1.1, ()), ())
 | .inr y2 =>
 some ((y2.1.1, ()), ()))
noncomputable def neh' (ok : Bool) (i b_Floors b_Debounce b_Room b_Park : Int) (b_Empty b_Full b_Over : Nat) (b_Cars : List (Car)) : Option (Sum (T'4 × (T'0 × Unit)) ((Unit × Bool × Unit) × (T'0 × Unit))) :=
 bif (decide (i < ((List.length b_Cars : Nat) : Int))) then
 Option.bind (bif ok then
 bif (inB i (List.length b_Cars)) then
 let z0 : Car := (List.getD b_Cars (Int.toNat i) (Car.mk (0 : Int) (0 : Int) (0 : Int) (0 : Int) (0 : Int) (0 : Int) (0 : Int) (0 : Int) (0 : Int)))
 (njn' b_Floors b_Debounce b_Room b_Park b_Empty b_Full b_Over b_Cars z0.Deadline z0.Pulse z0.Quiet z0.Slack z0.Step z0.Travel z0.Dwell z0.Hold z0.Home).bind fun y1 =>
 some (((), y1.1.1, i, ()), ((b_Floors, b_Debounce, b_Room, b_Park, b_Empty, b_Full, b_Over, b_Cars, ()), ()))
 else
 none
 else
 some (((), false, i, ()), ((b_Floors, b_Debounce, b_Room, b_Park, b_Empty, b_Full, b_Over, b_Cars, ()), ()))) fun y2 =>
 some (Sum.inl (((), y2.1.2.1, (IntKind.i64.wrap (y2.1.2.2.1 + (1 : Int))), ()), ((y2.2.1.1, y2.2.1.2.1, y2.2.1.2.2.1, y2.2.1.2.2.2.1, y2.2.1.2.2.2.2.1, y2.2.1.2.2.2.2.2.1, y2.2.1.2.2.2.2.2.2.1, y2.2.1.2.2.2.2.2.2.2.1, ()), ())))
 else
 some (Sum.inr (((), ok, ()), ((b_Floors, b_Debounce, b_Room, b_Park, b_Empty, b_Full, b_Over, b_Cars, ()), ())))
noncomputable def nhy' : (T'4 × (T'0 × Unit)) → Option ((Unit × Bool × Unit) × (T'0 × Unit)) := iter (fun x => neh' x.1.2.1 x.1.2.2.1 x.2.1.1 x.2.1.2.1 x.2.1.2.2.1 x.2.1.2.2.2.1 x.2.1.2.2.2.2.1 x.2.1.2.2.2.2.2.1 x.2.1.2.2.2.2.2.2.1 x.2.1.2.2.2.2.2.2.2.1) fuel
noncomputable def ne1' (b_Floors b_Debounce b_Room b_Park : Int) (b_Empty b_Full b_Over : Nat) (b_Cars : List (Car)) : Option ((Int × Unit) × Unit) :=
 (ndi' b_Floors (2 : Int) (32 : Int)).bind fun y1 =>
 bif (!y1.1.1) then
 some (((10 : Int), ()), ())
 else
 (ndi' ((List.length b_Cars : Nat) : Int) (1 : Int) (8 : Int)).bind fun y2 =>
 bif (!y2.1.1) then
 some (((11 : Int), ()), ())
 else
 Option.bind ((ndi' b_Debounce (1 : Int) (16 : Int)).bind fun y3 =>
 bif y3.1.1 then
 (ndi' b_Park (1 : Int) (10000 : Int)).bind fun y4 =>
 some (((), y4.1.1, ()), ((b_Floors, b_Debounce, b_Room, b_Park, b_Empty, b_Full, b_Over, b_Cars, ()), ()))
 else
 some (((), false, ()), ((b_Floors, b_Debounce, b_Room, b_Park, b_Empty, b_Full, b_Over, b_Cars, ()), ()))) fun y5 =>
 (nhy' (((), y5.1.2.1, (0 : Int), ()), ((y5.2.1.1, y5.2.1.2.1, y5.2.1.2.2.1, y5.2.1.2.2.2.1, y5.2.1.2.2.2.2.1, y5.2.1.2.2.2.2.2.1, y5.2.1.2.2.2.2.2.2.1, y5.2.1.2.2.2.2.2.2.2.1, ()), ()))).bind fun y6 =>
 bif (!y6.1.2.1) then
 some (((12 : Int), ()), ())
 else
 bif (((FloatKind.format FloatKind.f64).order 0 y6.2.1.2.2.2.2.1) == some Ordering.lt) then
 bif (((FloatKind.format FloatKind.f64).order y6.2.1.2.2.2.2.1 y6.2.1.2.2.2.2.2.1) == some Ordering.lt) then
 bif (((FloatKind.format FloatKind.f64).order y6.2.1.2.2.2.2.2.1 y6.2.1.2.2.2.2.2.2.1) == some Ordering.lt) then
 bif (!(((FloatKind.format FloatKind.f64).order y6.2.1.2.2.2.2.2.2.1 9218868437227405311) == some Ordering.lt || ((FloatKind.format FloatKind.f64).order y6.2.1.2.2.2.2.2.2.1 9218868437227405311) == some Ordering.eq)) then
 some (((13 : Int), ()), ())
 else
 (ndi' y6.2.1.2.2.1 (IntKind.i64.wrap ((IntKind.i64.wrap ((18 : Int) * ((List.length y6.2.1.2.2.2.2.2.2.2.1 : Nat) : Int))) + (24 : Int))) (65536 : Int)).bind fun y7 =>
 bif (!y7.1.1) then
 some (((14 : Int), ()), ())
 else
 some (((0 : Int), ()), ())
 else
 some (((13 : Int), ()), ())
 else
 some (((13 : Int), ()), ())
 else
 some (((13 : Int), ()), ())
noncomputable def nhz' (b_Floors b_Debounce b_Room b_Park : Int) (b_Empty b_Full b_Over : Nat) (b_Cars : List (Car)) : Option ((Unit × Unit) × (T'5 × Unit)) :=
 (ne1' b_Floors b_Debounce b_Room b_Park b_Empty b_Full b_Over b_Cars).bind fun y1 =>
 bif (y1.1.1 != (0 : Int)) then
 some (((), ()), ((([] : List (Int)), ([] : List (Bool)), ([] : List (Bool)), ([] : List (Entry)), ()), ()))
 else
 let z0 : Int := ((List.length b_Cars : Nat) : Int)
 bif (((decide ((0 : Int) ≤ z0)) && (decide (z0 ≤ z0))) && (decide (z0 ≤ (2147483648 : Int)))) then
 bif (((decide ((0 : Int) ≤ z0)) && (decide (z0 ≤ z0))) && (decide (z0 ≤ (2147483648 : Int)))) then
 bif (((decide ((0 : Int) ≤ z0)) && (decide (z0 ≤ z0))) && (decide (z0 ≤ (2147483648 : Int)))) then
 some (((), ()), (((List.replicate (Int.toNat z0) (0 : Int)), (List.replicate (Int.toNat z0) false), (List.replicate (Int.toNat z0) false), ([] : List (Entry)), ()), ()))
 else
 none
 else
 none
 else
 none
noncomputable def nc4' (l : List (Int)) (most : Int) (out : List (Record)) (f c i : Int) : Option (Sum (T'6 × Unit) ((List (Record) × Unit) × Unit)) :=
 bif (decide ((IntKind.i64.wrap (i + (1 : Int))) < ((List.length l : Nat) : Int))) then
 bif (decide (((List.length out : Nat) : Int) < most)) then
 bif (inB i (List.length l)) then
 let z0 : Int := (IntKind.i64.wrap (List.getD l (Int.toNat i) (0 : Int)))
 let z1 : Int := (IntKind.i64.wrap (i + (1 : Int)))
 bif (inB z1 (List.length l)) then
 let z2 : Int := (IntKind.i64.wrap (List.getD l (Int.toNat z1) (0 : Int)))
 let z3 : Int := (IntKind.i64.wrap ((1 : Int) + (Int.tmod z0 (7 : Int))))
 Option.bind (bif (z3 == (4 : Int)) then
 bif (c != (0 : Int)) then
 some ((l, most, out, f, c, i, z0, (), ()), ((z3, (0 : Int), (0 : Int), (Int.tmod (IntKind.i64.wrap (Int.tdiv z0 (7 : Int))) c), (Int.tmod z2 (5 : Int)), ()), ()))
 else
 none
 else
 bif (z3 == (5 : Int)) then
 bif (c != (0 : Int)) then
 some ((l, most, out, f, c, i, z0, (), ()), ((z3, (0 : Int), (0 : Int), (Int.tmod (IntKind.i64.wrap (Int.tdiv z0 (7 : Int))) c), (Int.tmod z2 (2 : Int)), ()), ()))
 else
 none
 else
 bif (z3 == (6 : Int)) then
 bif (c != (0 : Int)) then
 some ((l, most, out, f, c, i, z0, (), ()), ((z3, (0 : Int), (0 : Int), (Int.tmod (IntKind.i64.wrap (Int.tdiv z0 (7 : Int))) c), (Int.tmod z2 (2 : Int)), ()), ()))
 else
 none
 else
 let z4 : Int := (IntKind.i64.wrap ((1 : Int) + (Int.tmod z2 (2 : Int))))
 let z5 : Int := (IntKind.i64.wrap (f - (1 : Int)))
 bif (z5 != (0 : Int)) then
 let z6 : Int := (Int.tmod (IntKind.i64.wrap (Int.tdiv z2 (2 : Int))) z5)
 bif (z4 == (2 : Int)) then
 some ((l, most, out, f, c, i, z0, (), ()), ((z3, (IntKind.i64.wrap (z6 + (1 : Int))), z4, (0 : Int), (0 : Int), ()), ()))
 else
 some ((l, most, out, f, c, i, z0, (), ()), ((z3, z6, z4, (0 : Int), (0 : Int), ()), ()))
 else
 none) fun y1 =>
 Option.bind (bif (y1.2.1.1 == (3 : Int)) then
 let z7 : Int := (IntKind.i64.wrap (y1.1.2.2.2.2.1 + (2 : Int)))
 bif (z7 != (0 : Int)) then
 some ((y1.1.1, y1.1.2.1, y1.1.2.2.1, y1.1.2.2.2.1, y1.1.2.2.2.2.1, y1.1.2.2.2.2.2.1, y1.1.2.2.2.2.2.2.1, (), ()), ((y1.2.1.1, y1.2.1.2.1, y1.2.1.2.2.1, (IntKind.i64.wrap ((Int.tmod (IntKind.i64.wrap (Int.tdiv y1.1.2.2.2.2.2.2.1 (7 : Int))) z7) - (2 : Int))), y1.2.1.2.2.2.2.1, ()), ()))
 else
 none
 else
 some ((y1.1.1, y1.1.2.1, y1.1.2.2.1, y1.1.2.2.2.1, y1.1.2.2.2.2.1, y1.1.2.2.2.2.2.1, y1.1.2.2.2.2.2.2.1, (), ()), ((y1.2.1.1, y1.2.1.2.1, y1.2.1.2.2.1, y1.2.1.2.2.2.1, y1.2.1.2.2.2.2.1, ()), ()))) fun y2 =>
 bif (y2.2.1.1 == (7 : Int)) then
 let z8 : List (Record) := [(Record.mk y2.2.1.1 y2.2.1.2.1 y2.2.1.2.2.1 (Int.tmod (IntKind.i64.wrap (Int.tdiv y2.1.2.2.2.2.2.2.1 (7 : Int))) (2 : Int)) (IntKind.i64.wrap (Int.tdiv y2.1.2.2.2.2.2.2.1 (14 : Int))))]
 bif (Nat.ble ((List.length y2.1.2.2.1) + (List.length z8)) 2147483648) then
 some (Sum.inl ((y2.1.1, y2.1.2.1, (y2.1.2.2.1 ++ z8), y2.1.2.2.2.1, y2.1.2.2.2.2.1, (IntKind.i64.wrap (y2.1.2.2.2.2.2.1 + (2 : Int))), ()), ()))
 else
 none
 else
 let z9 : List (Record) := [(Record.mk y2.2.1.1 y2.2.1.2.1 y2.2.1.2.2.1 y2.2.1.2.2.2.1 y2.2.1.2.2.2.2.1)]
 bif (Nat.ble ((List.length y2.1.2.2.1) + (List.length z9)) 2147483648) then
 some (Sum.inl ((y2.1.1, y2.1.2.1, (y2.1.2.2.1 ++ z9), y2.1.2.2.2.1, y2.1.2.2.2.2.1, (IntKind.i64.wrap (y2.1.2.2.2.2.2.1 + (2 : Int))), ()), ()))
 else
 none
 else
 none
 else
 none
 else
 some (Sum.inr ((out, ()), ()))
 else
 some (Sum.inr ((out, ()), ()))
noncomputable def ngu' : (T'6 × Unit) → Option ((List (Record) × Unit) × Unit) := iter (fun x => nc4' x.1.1 x.1.2.1 x.1.2.2.1 x.1.2.2.2.1 x.1.2.2.2.2.1 x.1.2.2.2.2.2.1) fuel
noncomputable def nhr' (b_Floors b_Debounce b_Room b_Park : Int) (b_Empty b_Full b_Over : Nat) (b_Cars : List (Car)) (l : List (Int)) (most : Int) : Option ((List (Record) × Unit) × Unit) :=
 (ngu' ((l, most, ([] : List (Record)), b_Floors, ((List.length b_Cars : Nat) : Int), (0 : Int), ()), ())).bind fun y1 =>
 some ((y1.1.1, ()), ())
noncomputable def ngy' (b_Floors b_Debounce b_Room b_Park : Int) (b_Empty b_Full b_Over : Nat) (b_Cars : List (Car)) (floor dir : Int) : Option ((Bool × Unit) × Unit) :=
 (ne1' b_Floors b_Debounce b_Room b_Park b_Empty b_Full b_Over b_Cars).bind fun y1 =>
 bif (y1.1.1 != (0 : Int)) then
 some ((false, ()), ())
 else
 Option.bind (bif (dir == (1 : Int)) then
 (ndi' floor (0 : Int) (IntKind.i64.wrap (b_Floors - (2 : Int)))).bind fun y2 =>
 bif y2.1.1 then
 some ((true, ()), ())
 else
 bif (dir == (2 : Int)) then
 (ndi' floor (1 : Int) (IntKind.i64.wrap (b_Floors - (1 : Int)))).bind fun y3 =>
 some ((y3.1.1, ()), ())
 else
 some ((false, ()), ())
 else
 bif (dir == (2 : Int)) then
 (ndi' floor (1 : Int) (IntKind.i64.wrap (b_Floors - (1 : Int)))).bind fun y4 =>
 some ((y4.1.1, ()), ())
 else
 some ((false, ()), ())) fun y5 =>
 some ((y5.1.1, ()), ())
noncomputable def ni4' (a_Floor a_Dir a_Car a_Moves : Int) (a_Moved : Bool) (b_Floor b_Dir b_Car b_Moves : Int) (b_Moved : Bool) : Option ((Bool × Unit) × Unit) :=
 Option.bind (bif (decide (a_Floor < b_Floor)) then
 some ((true, ()), ())
 else
 bif (a_Floor == b_Floor) then
 some (((decide (a_Dir < b_Dir)), ()), ())
 else
 some ((false, ()), ())) fun y1 =>
 some ((y1.1.1, ()), ())
noncomputable def nc8' (n i b_Floors b_Debounce b_Room b_Park : Int) (b_Empty b_Full b_Over : Nat) (b_Cars : List (Car)) (m_Phases : List (Int)) (m_Flags m_Leaving : List (Bool)) (m_Entries : List (Entry)) : Option (Sum (T'7 × (T'0 × T'5 × Unit)) ((Unit × Unit) ⊕ ((Bool × Unit) × Unit))) :=
 bif (decide (i < ((List.length m_Entries : Nat) : Int))) then
 bif (inB i (List.length m_Entries)) then
 let z0 : Entry := (List.getD m_Entries (Int.toNat i) (Entry.mk (0 : Int) (0 : Int) (0 : Int) (0 : Int) false))
 Option.bind ((ngy' b_Floors b_Debounce b_Room b_Park b_Empty b_Full b_Over b_Cars z0.Floor z0.Dir).bind fun y1 =>
 bif (!y1.1.1) then
 some (((), (), n, i, true, ()), ((b_Floors, b_Debounce, b_Room, b_Park, b_Empty, b_Full, b_Over, b_Cars, ()), (m_Phases, m_Flags, m_Leaving, m_Entries, ()), ()))
 else
 bif (decide (z0.Car < (-2 : Int))) then
 some (((), (), n, i, true, ()), ((b_Floors, b_Debounce, b_Room, b_Park, b_Empty, b_Full, b_Over, b_Cars, ()), (m_Phases, m_Flags, m_Leaving, m_Entries, ()), ()))
 else
 bif (decide (n ≤ z0.Car)) then
 some (((), (), n, i, true, ()), ((b_Floors, b_Debounce, b_Room, b_Park, b_Empty, b_Full, b_Over, b_Cars, ()), (m_Phases, m_Flags, m_Leaving, m_Entries, ()), ()))
 else
 bif (decide (z0.Moves < (0 : Int))) then
 some (((), (), n, i, true, ()), ((b_Floors, b_Debounce, b_Room, b_Park, b_Empty, b_Full, b_Over, b_Cars, ()), (m_Phases, m_Flags, m_Leaving, m_Entries, ()), ()))
 else
 bif (decide ((255 : Int) < z0.Moves)) then
 some (((), (), n, i, true, ()), ((b_Floors, b_Debounce, b_Room, b_Park, b_Empty, b_Full, b_Over, b_Cars, ()), (m_Phases, m_Flags, m_Leaving, m_Entries, ()), ()))
 else
 bif (decide ((0 : Int) < i)) then
 let z1 : Int := (IntKind.i64.wrap (i - (1 : Int)))
 bif (inB z1 (List.length m_Entries)) then
 let z2 : Entry := (List.getD m_Entries (Int.toNat z1) (Entry.mk (0 : Int) (0 : Int) (0 : Int) (0 : Int) false))
 (ni4' z2.Floor z2.Dir z2.Car z2.Moves z2.Moved z0.Floor z0.Dir z0.Car z0.Moves z0.Moved).bind fun y2 =>
 some (((), (), n, i, (!y2.1.1), ()), ((b_Floors, b_Debounce, b_Room, b_Park, b_Empty, b_Full, b_Over, b_Cars, ()), (m_Phases, m_Flags, m_Leaving, m_Entries, ()), ()))
 else
 none
 else
 some (((), (), n, i, false, ()), ((b_Floors, b_Debounce, b_Room, b_Park, b_Empty, b_Full, b_Over, b_Cars, ()), (m_Phases, m_Flags, m_Leaving, m_Entries, ()), ()))) fun y3 =>
 bif y3.1.2.2.2.2.1 then
 some (Sum.inr (Sum.inr ((false, ()), ())))
 else
 some (Sum.inl (((), (), y3.1.2.2.1, (IntKind.i64.wrap (y3.1.2.2.2.1 + (1 : Int))), ()), ((y3.2.1.1, y3.2.1.2.1, y3.2.1.2.2.1, y3.2.1.2.2.2.1, y3.2.1.2.2.2.2.1, y3.2.1.2.2.2.2.2.1, y3.2.1.2.2.2.2.2.2.1, y3.2.1.2.2.2.2.2.2.2.1, ()), (y3.2.2.1.1, y3.2.2.1.2.1, y3.2.2.1.2.2.1, y3.2.2.1.2.2.2.1, ()), ())))
 else
 none
 else
 some (Sum.inr (Sum.inl ((), ())))
noncomputable def ngn' : (T'7 × (T'0 × T'5 × Unit)) → Option ((Unit × Unit) ⊕ ((Bool × Unit) × Unit)) := iter (fun x => nc8' x.1.2.2.1 x.1.2.2.2.1 x.2.1.1 x.2.1.2.1 x.2.1.2.2.1 x.2.1.2.2.2.1 x.2.1.2.2.2.2.1 x.2.1.2.2.2.2.2.1 x.2.1.2.2.2.2.2.2.1 x.2.1.2.2.2.2.2.2.2.1 x.2.2.1.1 x.2.2.1.2.1 x.2.2.1.2.2.1 x.2.2.1.2.2.2.1) fuel
noncomputable def ndv' (n i b_Floors b_Debounce b_Room b_Park : Int) (b_Empty b_Full b_Over : Nat) (b_Cars : List (Car)) (m_Phases : List (Int)) (m_Flags m_Leaving : List (Bool)) (m_Entries : List (Entry)) : Option (Sum (T'7 × (T'0 × T'5 × Unit)) ((T'8 × (T'0 × T'5 × Unit)) ⊕ ((Bool × Unit) × Unit))) :=
 bif (decide (i < n)) then
 bif (inB i (List.length m_Phases)) then
 bif (decide ((List.getD m_Phases (Int.toNat i) (0 : Int)) < (0 : Int))) then
 some (Sum.inr (Sum.inr ((false, ()), ())))
 else
 bif (inB i (List.length m_Phases)) then
 bif (decide ((4 : Int) < (List.getD m_Phases (Int.toNat i) (0 : Int)))) then
 some (Sum.inr (Sum.inr ((false, ()), ())))
 else
 some (Sum.inl (((), (), n, (IntKind.i64.wrap (i + (1 : Int))), ()), ((b_Floors, b_Debounce, b_Room, b_Park, b_Empty, b_Full, b_Over, b_Cars, ()), (m_Phases, m_Flags, m_Leaving, m_Entries, ()), ())))
 else
 none
 else
 none
 else
 some (Sum.inr (Sum.inl (((), (), n, ()), ((b_Floors, b_Debounce, b_Room, b_Park, b_Empty, b_Full, b_Over, b_Cars, ()), (m_Phases, m_Flags, m_Leaving, m_Entries, ()), ()))))
noncomputable def ngk' : (T'7 × (T'0 × T'5 × Unit)) → Option ((T'8 × (T'0 × T'5 × Unit)) ⊕ ((Bool × Unit) × Unit)) := iter (fun x => ndv' x.1.2.2.1 x.1.2.2.2.1 x.2.1.1 x.2.1.2.1 x.2.1.2.2.1 x.2.1.2.2.2.1 x.2.1.2.2.2.2.1 x.2.1.2.2.2.2.2.1 x.2.1.2.2.2.2.2.2.1 x.2.1.2.2.2.2.2.2.2.1 x.2.2.1.1 x.2.2.1.2.1 x.2.2.1.2.2.1 x.2.2.1.2.2.2.1) fuel
noncomputable def nf7' (b_Floors b_Debounce b_Room b_Park : Int) (b_Empty b_Full b_Over : Nat) (b_Cars : List (Car)) (m_Phases : List (Int)) (m_Flags m_Leaving : List (Bool)) (m_Entries : List (Entry)) : Option ((Bool × Unit) × Unit) :=
 let z0 : Int := ((List.length b_Cars : Nat) : Int)
 (ne1' b_Floors b_Debounce b_Room b_Park b_Empty b_Full b_Over b_Cars).bind fun y1 =>
 bif (y1.1.1 != (0 : Int)) then
 some ((false, ()), ())
 else
 bif (((List.length m_Phases : Nat) : Int) != z0) then
 some ((false, ()), ())
 else
 bif (((List.length m_Flags : Nat) : Int) != z0) then
 some ((false, ()), ())
 else
 bif (((List.length m_Leaving : Nat) : Int) != z0) then
 some ((false, ()), ())
 else
 (ngk' (((), (), z0, (0 : Int), ()), ((b_Floors, b_Debounce, b_Room, b_Park, b_Empty, b_Full, b_Over, b_Cars, ()), (m_Phases, m_Flags, m_Leaving, m_Entries, ()), ()))).bind fun y2 =>
 (match y2 with
 | .inl y3 =>
 (ngn' (((), (), y3.1.2.2.1, (0 : Int), ()), ((y3.2.1.1, y3.2.1.2.1, y3.2.1.2.2.1, y3.2.1.2.2.2.1, y3.2.1.2.2.2.2.1, y3.2.1.2.2.2.2.2.1, y3.2.1.2.2.2.2.2.2.1, y3.2.1.2.2.2.2.2.2.2.1, ()), (y3.2.2.1.1, y3.2.2.1.2.1, y3.2.2.1.2.2.1, y3.2.2.1.2.2.2.1, ()), ()))).bind fun y4 =>
 (match y4 with
 | .inl y5 =>
 some ((true, ()), ())
 | .inr y5 =>
 some ((y5.1.1, ()), ()))
 | .inr y3 =>
 some ((y3.1.1, ()), ()))
noncomputable def ne0' (n lo hi : Int) : Option ((Bool × Unit) × Unit) :=
 Option.bind (bif (decide (lo ≤ n)) then
 some (((decide (n ≤ hi)), ()), ())
 else
 some ((false, ()), ())) fun y1 =>
 some ((y1.1.1, ()), ())
noncomputable def nhi' (b_Floors b_Debounce b_Room b_Park : Int) (b_Empty b_Full b_Over : Nat) (b_Cars : List (Car)) (r_Kind r_Floor r_Dir r_Car r_Value : Int) : Option ((Bool × Unit) × Unit) :=
 (ne1' b_Floors b_Debounce b_Room b_Park b_Empty b_Full b_Over b_Cars).bind fun y1 =>
 bif (y1.1.1 != (0 : Int)) then
 some ((false, ()), ())
 else
 (ngy' b_Floors b_Debounce b_Room b_Park b_Empty b_Full b_Over b_Cars r_Floor r_Dir).bind fun y2 =>
 Option.bind ((ne0' r_Car (0 : Int) (IntKind.i64.wrap (((List.length b_Cars : Nat) : Int) - (1 : Int)))).bind fun y3 =>
 bif y3.1.1 then
 bif (r_Floor == (0 : Int)) then
 some (((), (), y2.1.1, (r_Dir == (0 : Int)), ()), ((b_Floors, b_Debounce, b_Room, b_Park, b_Empty, b_Full, b_Over, b_Cars, ()), (r_Kind, r_Floor, r_Dir, r_Car, r_Value, ()), ()))
 else
 some (((), (), y2.1.1, false, ()), ((b_Floors, b_Debounce, b_Room, b_Park, b_Empty, b_Full, b_Over, b_Cars, ()), (r_Kind, r_Floor, r_Dir, r_Car, r_Value, ()), ()))
 else
 some (((), (), y2.1.1, false, ()), ((b_Floors, b_Debounce, b_Room, b_Park, b_Empty, b_Full, b_Over, b_Cars, ()), (r_Kind, r_Floor, r_Dir, r_Car, r_Value, ()), ()))) fun y4 =>
 bif (y4.2.2.1.1 == (1 : Int)) then
 Option.bind (bif y4.1.2.2.1 then
 bif (y4.2.2.1.2.2.2.1 == (0 : Int)) then
 some (((y4.2.2.1.2.2.2.2.1 == (0 : Int)), ()), ())
 else
 some ((false, ()), ())
 else
 some ((false, ()), ())) fun y5 =>
 some ((y5.1.1, ()), ())
 else
 bif (y4.2.2.1.1 == (2 : Int)) then
 Option.bind (bif y4.1.2.2.1 then
 bif (y4.2.2.1.2.2.2.1 == (0 : Int)) then
 some (((y4.2.2.1.2.2.2.2.1 == (0 : Int)), ()), ())
 else
 some ((false, ()), ())
 else
 some ((false, ()), ())) fun y6 =>
 some ((y6.1.1, ()), ())
 else
 bif (y4.2.2.1.1 == (3 : Int)) then
 Option.bind (bif y4.1.2.2.1 then
 (ne0' y4.2.2.1.2.2.2.1 (-2 : Int) (IntKind.i64.wrap (((List.length y4.2.1.2.2.2.2.2.2.2.1 : Nat) : Int) - (1 : Int)))).bind fun y7 =>
 bif y7.1.1 then
 some (((y4.2.2.1.2.2.2.2.1 == (0 : Int)), ()), ())
 else
 some ((false, ()), ())
 else
 some ((false, ()), ())) fun y8 =>
 some ((y8.1.1, ()), ())
 else
 bif (y4.2.2.1.1 == (4 : Int)) then
 Option.bind (bif y4.1.2.2.2.1 then
 (ne0' y4.2.2.1.2.2.2.2.1 (0 : Int) (4 : Int)).bind fun y9 =>
 some ((y9.1.1, ()), ())
 else
 some ((false, ()), ())) fun y10 =>
 some ((y10.1.1, ()), ())
 else
 bif (y4.2.2.1.1 == (5 : Int)) then
 Option.bind (bif y4.1.2.2.2.1 then
 (ne0' y4.2.2.1.2.2.2.2.1 (0 : Int) (1 : Int)).bind fun y11 =>
 some ((y11.1.1, ()), ())
 else
 some ((false, ()), ())) fun y12 =>
 some ((y12.1.1, ()), ())
 else
 bif (y4.2.2.1.1 == (6 : Int)) then
 Option.bind (bif y4.1.2.2.2.1 then
 (ne0' y4.2.2.1.2.2.2.2.1 (0 : Int) (1 : Int)).bind fun y13 =>
 some ((y13.1.1, ()), ())
 else
 some ((false, ()), ())) fun y14 =>
 some ((y14.1.1, ()), ())
 else
 bif (y4.2.2.1.1 == (7 : Int)) then
 Option.bind (bif y4.1.2.2.1 then
 (ne0' y4.2.2.1.2.2.2.1 (0 : Int) (1 : Int)).bind fun y15 =>
 bif y15.1.1 then
 (ne0' y4.2.2.1.2.2.2.2.1 (0 : Int) (255 : Int)).bind fun y16 =>
 some ((y16.1.1, ()), ())
 else
 some ((false, ()), ())
 else
 some ((false, ()), ())) fun y17 =>
 some ((y17.1.1, ()), ())
 else
 some ((false, ()), ())
noncomputable def nfh' (floor dir i : Int) (m_Phases : List (Int)) (m_Flags m_Leaving : List (Bool)) (m_Entries : List (Entry)) : Option (Sum (T'9 × (T'5 × Unit)) ((Unit × Unit) ⊕ ((Int × Unit) × Unit))) :=
 bif (decide (i < ((List.length m_Entries : Nat) : Int))) then
 Option.bind (bif (inB i (List.length m_Entries)) then
 bif ((List.getD m_Entries (Int.toNat i) (Entry.mk (0 : Int) (0 : Int) (0 : Int) (0 : Int) false)).Floor == floor) then
 bif (inB i (List.length m_Entries)) then
 some ((floor, dir, (), i, ((List.getD m_Entries (Int.toNat i) (Entry.mk (0 : Int) (0 : Int) (0 : Int) (0 : Int) false)).Dir == dir), ()), ((m_Phases, m_Flags, m_Leaving, m_Entries, ()), ()))
 else
 none
 else
 some ((floor, dir, (), i, false, ()), ((m_Phases, m_Flags, m_Leaving, m_Entries, ()), ()))
 else
 none) fun y1 =>
 bif y1.1.2.2.2.2.1 then
 some (Sum.inr (Sum.inr ((y1.1.2.2.2.1, ()), ())))
 else
 some (Sum.inl ((y1.1.1, y1.1.2.1, (), (IntKind.i64.wrap (y1.1.2.2.2.1 + (1 : Int))), ()), ((y1.2.1.1, y1.2.1.2.1, y1.2.1.2.2.1, y1.2.1.2.2.2.1, ()), ())))
 else
 some (Sum.inr (Sum.inl ((), ())))
noncomputable def ni0' : (T'9 × (T'5 × Unit)) → Option ((Unit × Unit) ⊕ ((Int × Unit) × Unit)) := iter (fun x => nfh' x.1.1 x.1.2.1 x.1.2.2.2.1 x.2.1.1 x.2.1.2.1 x.2.1.2.2.1 x.2.1.2.2.2.1) fuel
noncomputable def nkm' (m_Phases : List (Int)) (m_Flags m_Leaving : List (Bool)) (m_Entries : List (Entry)) (floor dir : Int) : Option ((Int × Unit) × Unit) :=
 (ni0' ((floor, dir, (), (0 : Int), ()), ((m_Phases, m_Flags, m_Leaving, m_Entries, ()), ()))).bind fun y1 =>
 (match y1 with
 | .inl y2 =>
 some (((-1 : Int), ()), ())
 | .inr y2 =>
 some ((y2.1.1, ()), ()))
noncomputable def ndr' (l out : List (Entry)) (done : Bool) (i e_Floor e_Dir e_Car e_Moves : Int) (e_Moved : Bool) : Option (Sum (T'10 × (T'11 × Unit)) (T'12 × (T'11 × Unit))) :=
 bif (decide (i < ((List.length l : Nat) : Int))) then
 Option.bind (Option.bind (bif (!done) then
 bif (inB i (List.length l)) then
 let z0 : Entry := (List.getD l (Int.toNat i) (Entry.mk (0 : Int) (0 : Int) (0 : Int) (0 : Int) false))
 (ni4' e_Floor e_Dir e_Car e_Moves e_Moved z0.Floor z0.Dir z0.Car z0.Moves z0.Moved).bind fun y1 =>
 some ((l, (), out, done, i, y1.1.1, ()), ((e_Floor, e_Dir, e_Car, e_Moves, e_Moved, ()), ()))
 else
 none
 else
 some ((l, (), out, done, i, false, ()), ((e_Floor, e_Dir, e_Car, e_Moves, e_Moved, ()), ()))) fun y2 =>
 bif y2.1.2.2.2.2.2.1 then
 let z1 : List (Entry) := [(Entry.mk y2.2.1.1 y2.2.1.2.1 y2.2.1.2.2.1 y2.2.1.2.2.2.1 y2.2.1.2.2.2.2.1)]
 bif (Nat.ble ((List.length y2.1.2.2.1) + (List.length z1)) 2147483648) then
 some ((y2.1.1, (), (y2.1.2.2.1 ++ z1), true, y2.1.2.2.2.2.1, ()), ((y2.2.1.1, y2.2.1.2.1, y2.2.1.2.2.1, y2.2.1.2.2.2.1, y2.2.1.2.2.2.2.1, ()), ()))
 else
 none
 else
 some ((y2.1.1, (), y2.1.2.2.1, y2.1.2.2.2.1, y2.1.2.2.2.2.1, ()), ((y2.2.1.1, y2.2.1.2.1, y2.2.1.2.2.1, y2.2.1.2.2.2.1, y2.2.1.2.2.2.2.1, ()), ()))) fun y3 =>
 bif (inB y3.1.2.2.2.2.1 (List.length y3.1.1)) then
 let z2 : Entry := (List.getD y3.1.1 (Int.toNat y3.1.2.2.2.2.1) (Entry.mk (0 : Int) (0 : Int) (0 : Int) (0 : Int) false))
 let z3 : List (Entry) := [(Entry.mk z2.Floor z2.Dir z2.Car z2.Moves z2.Moved)]
 bif (Nat.ble ((List.length y3.1.2.2.1) + (List.length z3)) 2147483648) then
 some (Sum.inl ((y3.1.1, (), (y3.1.2.2.1 ++ z3), y3.1.2.2.2.1, (IntKind.i64.wrap (y3.1.2.2.2.2.1 + (1 : Int))), ()), ((y3.2.1.1, y3.2.1.2.1, y3.2.1.2.2.1, y3.2.1.2.2.2.1, y3.2.1.2.2.2.2.1, ()), ())))
 else
 none
 else
 none
 else
 some (Sum.inr (((), out, done, ()), ((e_Floor, e_Dir, e_Car, e_Moves, e_Moved, ()), ())))
noncomputable def ngs' : (T'10 × (T'11 × Unit)) → Option (T'12 × (T'11 × Unit)) := iter (fun x => ndr' x.1.1 x.1.2.2.1 x.1.2.2.2.1 x.1.2.2.2.2.1 x.2.1.1 x.2.1.2.1 x.2.1.2.2.1 x.2.1.2.2.2.1 x.2.1.2.2.2.2.1) fuel
noncomputable def nhx' (l : List (Entry)) (e_Floor e_Dir e_Car e_Moves : Int) (e_Moved : Bool) : Option ((List (Entry) × Unit) × Unit) :=
 (ngs' ((l, (), ([] : List (Entry)), false, (0 : Int), ()), ((e_Floor, e_Dir, e_Car, e_Moves, e_Moved, ()), ()))).bind fun y1 =>
 bif (!y1.1.2.2.1) then
 let z0 : List (Entry) := [(Entry.mk y1.2.1.1 y1.2.1.2.1 y1.2.1.2.2.1 y1.2.1.2.2.2.1 y1.2.1.2.2.2.2.1)]
 bif (Nat.ble ((List.length y1.1.2.1) + (List.length z0)) 2147483648) then
 some (((y1.1.2.1 ++ z0), ()), ())
 else
 none
 else
 some ((y1.1.2.1, ()), ())
noncomputable def njo' (b_Floors b_Debounce b_Room b_Park : Int) (b_Empty b_Full b_Over : Nat) (b_Cars : List (Car)) (m_Phases : List (Int)) (m_Flags m_Leaving : List (Bool)) (m_Entries : List (Entry)) (r_Kind r_Floor r_Dir r_Car r_Value : Int) : Option ((Unit × Int × Unit) × (T'5 × Unit)) :=
 (nf7' b_Floors b_Debounce b_Room b_Park b_Empty b_Full b_Over b_Cars m_Phases m_Flags m_Leaving m_Entries).bind fun y1 =>
 bif (!y1.1.1) then
 some (((), (1 : Int), ()), ((([] : List (Int)), ([] : List (Bool)), ([] : List (Bool)), ([] : List (Entry)), ()), ()))
 else
 (nhi' b_Floors b_Debounce b_Room b_Park b_Empty b_Full b_Over b_Cars r_Kind r_Floor r_Dir r_Car r_Value).bind fun y2 =>
 bif (!y2.1.1) then
 some (((), (1 : Int), ()), ((([] : List (Int)), ([] : List (Bool)), ([] : List (Bool)), ([] : List (Entry)), ()), ()))
 else
 bif (Nat.ble ((List.length ([] : List (Int))) + (List.length m_Phases)) 2147483648) then
 let z0 : List (Int) := (([] : List (Int)) ++ m_Phases)
 bif (Nat.ble ((List.length ([] : List (Bool))) + (List.length m_Flags)) 2147483648) then
 let z1 : List (Bool) := (([] : List (Bool)) ++ m_Flags)
 bif (Nat.ble ((List.length ([] : List (Bool))) + (List.length m_Leaving)) 2147483648) then
 let z2 : List (Bool) := (([] : List (Bool)) ++ m_Leaving)
 bif (Nat.ble ((List.length ([] : List (Entry))) + (List.length m_Entries)) 2147483648) then
 let z3 : List (Entry) := (([] : List (Entry)) ++ m_Entries)
 (nkm' z0 z1 z2 z3 r_Floor r_Dir).bind fun y3 =>
 bif (r_Kind == (4 : Int)) then
 bif (inB r_Car (List.length z0)) then
 some (((), (0 : Int), ()), (((List.set z0 (Int.toNat r_Car) r_Value), z1, z2, z3, ()), ()))
 else
 none
 else
 bif (r_Kind == (5 : Int)) then
 bif (inB r_Car (List.length z1)) then
 some (((), (0 : Int), ()), ((z0, (List.set z1 (Int.toNat r_Car) (r_Value == (1 : Int))), z2, z3, ()), ()))
 else
 none
 else
 bif (r_Kind == (6 : Int)) then
 bif (inB r_Car (List.length z2)) then
 some (((), (0 : Int), ()), ((z0, z1, (List.set z2 (Int.toNat r_Car) (r_Value == (1 : Int))), z3, ()), ()))
 else
 none
 else
 Option.bind (bif (r_Kind == (1 : Int)) then
 some (((), (), (), y3.1.1, (decide (y3.1.1 < (0 : Int))), ()), ((z0, z1, z2, z3, ()), (r_Kind, r_Floor, r_Dir, r_Car, r_Value, ()), (([] : List (Int)), ([] : List (Bool)), ([] : List (Bool)), ([] : List (Entry)), ()), ()))
 else
 some (((), (), (), y3.1.1, false, ()), ((z0, z1, z2, z3, ()), (r_Kind, r_Floor, r_Dir, r_Car, r_Value, ()), (([] : List (Int)), ([] : List (Bool)), ([] : List (Bool)), ([] : List (Entry)), ()), ()))) fun y4 =>
 bif y4.1.2.2.2.2.1 then
 (nhx' y4.2.1.2.2.2.1 y4.2.2.1.2.1 y4.2.2.1.2.2.1 (-1 : Int) (0 : Int) false).bind fun y5 =>
 some (((), (0 : Int), ()), ((y4.2.1.1, y4.2.1.2.1, y4.2.1.2.2.1, y5.1.1, ()), ()))
 else
 bif (decide (y4.1.2.2.2.1 < (0 : Int))) then
 some (((), (0 : Int), ()), ((y4.2.1.1, y4.2.1.2.1, y4.2.1.2.2.1, y4.2.1.2.2.2.1, ()), ()))
 else
 bif (y4.2.2.1.1 == (2 : Int)) then
 Option.bind (some (((), (), y4.1.2.2.2.1, ()), ((y4.2.1.1, y4.2.1.2.1, y4.2.1.2.2.1, y4.2.1.2.2.2.1, ()), (y4.2.2.2.1.1, y4.2.2.2.1.2.1, y4.2.2.2.1.2.2.1, y4.2.2.2.1.2.2.2.1, ()), ()))) fun y6 =>
 bif ((decide ((0 : Int) ≤ y6.1.2.2.1)) && (decide (y6.1.2.2.1 ≤ (((List.length y6.2.1.2.2.2.1) : Nat) : Int)))) then
 let z4 : List (Entry) := (List.drop 0 (List.take (Int.toNat y6.1.2.2.1) y6.2.1.2.2.2.1))
 bif (Nat.ble ((List.length ([] : List (Entry))) + (List.length z4)) 2147483648) then
 let z5 : List (Entry) := (([] : List (Entry)) ++ z4)
 let z6 : Int := (IntKind.i64.wrap (y6.1.2.2.1 + (1 : Int)))
 bif ((decide ((0 : Int) ≤ z6)) && (decide (z6 ≤ (((List.length y6.2.1.2.2.2.1) : Nat) : Int)))) then
 let z7 : List (Entry) := (List.drop (Int.toNat z6) (List.take (List.length y6.2.1.2.2.2.1) y6.2.1.2.2.2.1))
 bif (Nat.ble ((List.length z5) + (List.length z7)) 2147483648) then
 some (((), (0 : Int), ()), ((y6.2.1.1, y6.2.1.2.1, y6.2.1.2.2.1, (z5 ++ z7), ()), ()))
 else
 none
 else
 none
 else
 none
 else
 none
 else
 bif (y4.2.2.1.1 == (3 : Int)) then
 bif (inB y4.1.2.2.2.1 (List.length y4.2.1.2.2.2.1)) then
 let z8 : Nat := (Int.toNat y4.1.2.2.2.1)
 let z9 : Entry := (List.getD y4.2.1.2.2.2.1 z8 (Entry.mk (0 : Int) (0 : Int) (0 : Int) (0 : Int) false))
 some (((), (0 : Int), ()), ((y4.2.1.1, y4.2.1.2.1, y4.2.1.2.2.1, (List.set y4.2.1.2.2.2.1 z8 (Entry.mk z9.Floor z9.Dir y4.2.2.1.2.2.2.1 z9.Moves z9.Moved)), ()), ()))
 else
 none
 else
 bif (y4.2.2.1.1 == (7 : Int)) then
 bif (inB y4.1.2.2.2.1 (List.length y4.2.1.2.2.2.1)) then
 let z10 : Nat := (Int.toNat y4.1.2.2.2.1)
 let z11 : Entry := (List.getD y4.2.1.2.2.2.1 z10 (Entry.mk (0 : Int) (0 : Int) (0 : Int) (0 : Int) false))
 let z12 : List (Entry) := (List.set y4.2.1.2.2.2.1 z10 (Entry.mk z11.Floor z11.Dir z11.Car y4.2.2.1.2.2.2.2.1 z11.Moved))
 bif (inB y4.1.2.2.2.1 (List.length z12)) then
 let z13 : Nat := (Int.toNat y4.1.2.2.2.1)
 let z14 : Entry := (List.getD z12 z13 (Entry.mk (0 : Int) (0 : Int) (0 : Int) (0 : Int) false))
 some (((), (0 : Int), ()), ((y4.2.1.1, y4.2.1.2.1, y4.2.1.2.2.1, (List.set z12 z13 (Entry.mk z14.Floor z14.Dir z14.Car z14.Moves (y4.2.2.1.2.2.2.1 == (1 : Int)))), ()), ()))
 else
 none
 else
 none
 else
 some (((), (0 : Int), ()), ((y4.2.1.1, y4.2.1.2.1, y4.2.1.2.2.1, y4.2.1.2.2.2.1, ()), ()))
 else
 none
 else
 none
 else
 none
 else
 none
noncomputable def ned' (x_1 : List (Record)) (i b_Floors b_Debounce b_Room b_Park : Int) (b_Empty b_Full b_Over : Nat) (b_Cars : List (Car)) (b4_Phases : List (Int)) (b4_Flags b4_Leaving : List (Bool)) (b4_Entries : List (Entry)) (m_Phases : List (Int)) (m_Flags m_Leaving : List (Bool)) (m_Entries : List (Entry)) : Option (Sum (T'13 × (T'0 × T'5 × T'5 × Unit)) ((Unit × Unit × Unit) × (T'5 × T'5 × Unit))) :=
 bif (decide (i < ((List.length x_1 : Nat) : Int))) then
 bif (inB i (List.length x_1)) then
 let z0 : Record := (List.getD x_1 (Int.toNat i) (Record.mk (0 : Int) (0 : Int) (0 : Int) (0 : Int) (0 : Int)))
 (njo' b_Floors b_Debounce b_Room b_Park b_Empty b_Full b_Over b_Cars m_Phases m_Flags m_Leaving m_Entries z0.Kind z0.Floor z0.Dir z0.Car z0.Value).bind fun y1 =>
 some (Sum.inl (((), (), (), x_1, (IntKind.i64.wrap (i + (1 : Int))), ()), ((b_Floors, b_Debounce, b_Room, b_Park, b_Empty, b_Full, b_Over, b_Cars, ()), (b4_Phases, b4_Flags, b4_Leaving, b4_Entries, ()), (y1.2.1.1, y1.2.1.2.1, y1.2.1.2.2.1, y1.2.1.2.2.2.1, ()), ())))
 else
 none
 else
 some (Sum.inr (((), (), ()), ((b4_Phases, b4_Flags, b4_Leaving, b4_Entries, ()), (m_Phases, m_Flags, m_Leaving, m_Entries, ()), ())))
noncomputable def nhu' : (T'13 × (T'0 × T'5 × T'5 × Unit)) → Option ((Unit × Unit × Unit) × (T'5 × T'5 × Unit)) := iter (fun x => ned' x.1.2.2.2.1 x.1.2.2.2.2.1 x.2.1.1 x.2.1.2.1 x.2.1.2.2.1 x.2.1.2.2.2.1 x.2.1.2.2.2.2.1 x.2.1.2.2.2.2.2.1 x.2.1.2.2.2.2.2.2.1 x.2.1.2.2.2.2.2.2.2.1 x.2.2.1.1 x.2.2.1.2.1 x.2.2.1.2.2.1 x.2.2.1.2.2.2.1 x.2.2.2.1.1 x.2.2.2.1.2.1 x.2.2.2.1.2.2.1 x.2.2.2.1.2.2.2.1) fuel
noncomputable def nhm' (b_Floors b_Debounce b_Room b_Park : Int) (b_Empty b_Full b_Over : Nat) (b_Cars : List (Car)) (l : List (Int)) : Option ((Unit × Unit) × (T'5 × Unit)) :=
 (nhz' b_Floors b_Debounce b_Room b_Park b_Empty b_Full b_Over b_Cars).bind fun y1 =>
 (nhr' b_Floors b_Debounce b_Room b_Park b_Empty b_Full b_Over b_Cars l (60 : Int)).bind fun y2 =>
 (nhu' (((), (), (), y2.1.1, (0 : Int), ()), ((b_Floors, b_Debounce, b_Room, b_Park, b_Empty, b_Full, b_Over, b_Cars, ()), (([] : List (Int)), ([] : List (Bool)), ([] : List (Bool)), ([] : List (Entry)), ()), (y1.2.1.1, y1.2.1.2.1, y1.2.1.2.2.1, y1.2.1.2.2.2.1, ()), ()))).bind fun y3 =>
 some (((), ()), ((y3.2.2.1.1, y3.2.2.1.2.1, y3.2.2.1.2.2.1, y3.2.2.1.2.2.2.1, ()), ()))
noncomputable def nh8' (b : Bool) : Option ((Int × Unit) × Unit) :=
 bif b then
 some (((1 : Int), ()), ())
 else
 some (((0 : Int), ()), ())
noncomputable def ndk' (out : List (Record)) (i : Int) (m_Phases : List (Int)) (m_Flags m_Leaving : List (Bool)) (m_Entries : List (Entry)) : Option (Sum (T'14 × (T'5 × Unit)) ((List (Record) × Unit) × Unit)) :=
 bif (decide (i < ((List.length m_Entries : Nat) : Int))) then
 bif (inB i (List.length m_Entries)) then
 let z0 : Entry := (List.getD m_Entries (Int.toNat i) (Entry.mk (0 : Int) (0 : Int) (0 : Int) (0 : Int) false))
 (nh8' z0.Moved).bind fun y1 =>
 let z1 : List (Record) := [(Record.mk (1 : Int) z0.Floor z0.Dir (0 : Int) (0 : Int)), (Record.mk (3 : Int) z0.Floor z0.Dir z0.Car (0 : Int)), (Record.mk (7 : Int) z0.Floor z0.Dir y1.1.1 z0.Moves)]
 bif (Nat.ble ((List.length out) + (List.length z1)) 2147483648) then
 some (Sum.inl (((), (out ++ z1), (IntKind.i64.wrap (i + (1 : Int))), ()), ((m_Phases, m_Flags, m_Leaving, m_Entries, ()), ())))
 else
 none
 else
 none
 else
 some (Sum.inr ((out, ()), ()))
noncomputable def nfy' : (T'14 × (T'5 × Unit)) → Option ((List (Record) × Unit) × Unit) := iter (fun x => ndk' x.1.2.1 x.1.2.2.1 x.2.1.1 x.2.1.2.1 x.2.1.2.2.1 x.2.1.2.2.2.1) fuel
noncomputable def ndm' (out : List (Record)) (i : Int) (m_Phases : List (Int)) (m_Flags m_Leaving : List (Bool)) (m_Entries : List (Entry)) : Option (Sum (T'14 × (T'5 × Unit)) (T'15 × (T'5 × Unit))) :=
 bif (decide (i < ((List.length m_Phases : Nat) : Int))) then
 bif (inB i (List.length m_Phases)) then
 bif (inB i (List.length m_Flags)) then
 (nh8' (List.getD m_Flags (Int.toNat i) false)).bind fun y1 =>
 bif (inB i (List.length m_Leaving)) then
 (nh8' (List.getD m_Leaving (Int.toNat i) false)).bind fun y2 =>
 let z0 : List (Record) := [(Record.mk (4 : Int) (0 : Int) (0 : Int) i (List.getD m_Phases (Int.toNat i) (0 : Int))), (Record.mk (5 : Int) (0 : Int) (0 : Int) i y1.1.1), (Record.mk (6 : Int) (0 : Int) (0 : Int) i y2.1.1)]
 bif (Nat.ble ((List.length out) + (List.length z0)) 2147483648) then
 some (Sum.inl (((), (out ++ z0), (IntKind.i64.wrap (i + (1 : Int))), ()), ((m_Phases, m_Flags, m_Leaving, m_Entries, ()), ())))
 else
 none
 else
 none
 else
 none
 else
 none
 else
 some (Sum.inr (((), out, ()), ((m_Phases, m_Flags, m_Leaving, m_Entries, ()), ())))
noncomputable def nfx' : (T'14 × (T'5 × Unit)) → Option (T'15 × (T'5 × Unit)) := iter (fun x => ndm' x.1.2.1 x.1.2.2.1 x.2.1.1 x.2.1.2.1 x.2.1.2.2.1 x.2.1.2.2.2.1) fuel
noncomputable def nfn' (b_Floors b_Debounce b_Room b_Park : Int) (b_Empty b_Full b_Over : Nat) (b_Cars : List (Car)) (m_Phases : List (Int)) (m_Flags m_Leaving : List (Bool)) (m_Entries : List (Entry)) : Option ((List (Record) × Unit) × Unit) :=
 (nf7' b_Floors b_Debounce b_Room b_Park b_Empty b_Full b_Over b_Cars m_Phases m_Flags m_Leaving m_Entries).bind fun y1 =>
 bif (!y1.1.1) then
 some ((([] : List (Record)), ()), ())
 else
 (nfx' (((), ([] : List (Record)), (0 : Int), ()), ((m_Phases, m_Flags, m_Leaving, m_Entries, ()), ()))).bind fun y2 =>
 (nfy' (((), y2.1.2.1, (0 : Int), ()), ((y2.2.1.1, y2.2.1.2.1, y2.2.1.2.2.1, y2.2.1.2.2.2.1, ()), ()))).bind fun y3 =>
 some ((y3.1.1, ()), ())
noncomputable def nif' (s : ByteArray) (r i k : Int) : Option (Sum (T'17 × Unit) (T'16 × Unit)) :=
 bif (decide (k < (8 : Int))) then
 let z0 : Int := (Int.tmod (IntKind.i64.wrap (r * (2 : Int))) (256 : Int))
 bif (decide ((128 : Int) ≤ r)) then
 some (Sum.inl ((s, (IntKind.i64.wrap (stk z0 (7 : Int) (BitVec.toNat ((BitVec.ofInt (IntKind.bits IntKind.i64) z0) ^^^ (BitVec.ofInt (IntKind.bits IntKind.i64) (7 : Int)))))), i, (IntKind.i64.wrap (k + (1 : Int))), ()), ()))
 else
 some (Sum.inl ((s, z0, i, (IntKind.i64.wrap (k + (1 : Int))), ()), ()))
 else
 some (Sum.inr ((s, r, i, ()), ()))
noncomputable def nix' : (T'17 × Unit) → Option (T'16 × Unit) := iter (fun x => nif' x.1.1 x.1.2.1 x.1.2.2.1 x.1.2.2.2.1) fuel
noncomputable def nff' (s : ByteArray) (r i : Int) : Option (Sum (T'16 × Unit) ((Int × Unit) × Unit)) :=
 bif (decide (i < ((ByteArray.size s : Nat) : Int))) then
 bif (inB i (ByteArray.size s)) then
 let z0 : Int := (IntKind.i64.wrap (nf8' s (Int.toNat i)))
 (nix' ((s, (IntKind.i64.wrap (stk r z0 (BitVec.toNat ((BitVec.ofInt (IntKind.bits IntKind.i64) r) ^^^ (BitVec.ofInt (IntKind.bits IntKind.i64) z0))))), i, (0 : Int), ()), ())).bind fun y1 =>
 some (Sum.inl ((y1.1.1, y1.1.2.1, (IntKind.i64.wrap (y1.1.2.2.1 + (1 : Int))), ()), ()))
 else
 none
 else
 some (Sum.inr ((r, ()), ()))
noncomputable def niz' : (T'16 × Unit) → Option ((Int × Unit) × Unit) := iter (fun x => nff' x.1.1 x.1.2.1 x.1.2.2.1) fuel
noncomputable def nkr' (s : ByteArray) : Option ((Int × Unit) × Unit) :=
 (niz' ((s, (0 : Int), (0 : Int), ()), ())).bind fun y1 =>
 some (((IntKind.u8.wrap y1.1.1), ()), ())
noncomputable def nip' (b_Floors b_Debounce b_Room b_Park : Int) (b_Empty b_Full b_Over : Nat) (b_Cars : List (Car)) (r_Kind r_Floor r_Dir r_Car r_Value : Int) : Option ((ByteArray × Int × Unit) × Unit) :=
 (nhi' b_Floors b_Debounce b_Room b_Park b_Empty b_Full b_Over b_Cars r_Kind r_Floor r_Dir r_Car r_Value).bind fun y1 =>
 bif (!y1.1.1) then
 some (((ByteArray.mk (Array.mk [])), (1 : Int), ()), ())
 else
 let z0 : ByteArray := (textU [(IntKind.u8.wrap r_Kind), (IntKind.u8.wrap r_Floor), (IntKind.u8.wrap r_Dir), (IntKind.u8.wrap (IntKind.i64.wrap (r_Car + (2 : Int)))), (IntKind.u8.wrap r_Value)])
 (nkr' z0).bind fun y2 =>
 let z1 : ByteArray := (textU [y2.1.1])
 bif (Nat.ble ((ByteArray.size z0) + (ByteArray.size z1)) 4611686018427387904) then
 some (((z0 ++ z1), (0 : Int), ()), ())
 else
 none
noncomputable def neg' (l : List (Record)) (s : ByteArray) (i b_Floors b_Debounce b_Room b_Park : Int) (b_Empty b_Full b_Over : Nat) (b_Cars : List (Car)) : Option (Sum (T'18 × (T'0 × Unit)) ((ByteArray × Unit) × Unit)) :=
 bif (decide (i < ((List.length l : Nat) : Int))) then
 bif (inB i (List.length l)) then
 let z0 : Record := (List.getD l (Int.toNat i) (Record.mk (0 : Int) (0 : Int) (0 : Int) (0 : Int) (0 : Int)))
 (nip' b_Floors b_Debounce b_Room b_Park b_Empty b_Full b_Over b_Cars z0.Kind z0.Floor z0.Dir z0.Car z0.Value).bind fun y1 =>
 bif (Nat.ble ((ByteArray.size s) + (ByteArray.size y1.1.1)) 4611686018427387904) then
 some (Sum.inl ((l, (), (s ++ y1.1.1), (IntKind.i64.wrap (i + (1 : Int))), ()), ((b_Floors, b_Debounce, b_Room, b_Park, b_Empty, b_Full, b_Over, b_Cars, ()), ())))
 else
 none
 else
 none
 else
 some (Sum.inr ((s, ()), ()))
noncomputable def nhp' : (T'18 × (T'0 × Unit)) → Option ((ByteArray × Unit) × Unit) := iter (fun x => neg' x.1.1 x.1.2.2.1 x.1.2.2.2.1 x.2.1.1 x.2.1.2.1 x.2.1.2.2.1 x.2.1.2.2.2.1 x.2.1.2.2.2.2.1 x.2.1.2.2.2.2.2.1 x.2.1.2.2.2.2.2.2.1 x.2.1.2.2.2.2.2.2.2.1) fuel
noncomputable def nhf' (b_Floors b_Debounce b_Room b_Park : Int) (b_Empty b_Full b_Over : Nat) (b_Cars : List (Car)) (l : List (Record)) : Option ((ByteArray × Unit) × Unit) :=
 (nhp' ((l, (), (ByteArray.mk (Array.mk [])), (0 : Int), ()), ((b_Floors, b_Debounce, b_Room, b_Park, b_Empty, b_Full, b_Over, b_Cars, ()), ()))).bind fun y1 =>
 some ((y1.1.1, ()), ())
noncomputable def nbi' (lo hi : Int) (s9 : List (Int)) (s10 s11 : Int) : Option (Sum (T'19 × Unit) ((Unit × Unit) ⊕ ((Bool × Unit) × Unit))) :=
 bif (decide (s11 < s10)) then
 bif (inB s11 (List.length s9)) then
 let z0 : Int := (List.getD s9 (Int.toNat s11) (0 : Int))
 bif (decide (z0 < lo)) then
 some (Sum.inr (Sum.inr ((false, ()), ())))
 else
 bif (decide (hi < z0)) then
 some (Sum.inr (Sum.inr ((false, ()), ())))
 else
 some (Sum.inl ((lo, hi, s9, s10, (IntKind.i64.wrap (s11 + (1 : Int))), ()), ()))
 else
 none
 else
 some (Sum.inr (Sum.inl ((), ())))
noncomputable def neb' : (T'19 × Unit) → Option ((Unit × Unit) ⊕ ((Bool × Unit) × Unit)) := iter (fun x => nbi' x.1.1 x.1.2.1 x.1.2.2.1 x.1.2.2.2.1 x.1.2.2.2.2.1) fuel
noncomputable def n3' (lo hi : Int) (l : List (Int)) : Option ((Bool × Unit) × Unit) :=
 (neb' ((lo, hi, l, ((List.length l : Nat) : Int), (0 : Int), ()), ())).bind fun y1 =>
 (match y1 with
 | .inl y2 =>
 some ((true, ()), ())
 | .inr y2 =>
 some ((y2.1.1, ()), ()))
noncomputable def nf4' (c_Deadline c_Pulse c_Quiet c_Slack c_Step c_Travel c_Dwell c_Hold c_Home floors : Int) : Option ((Bool × Unit) × Unit) :=
 Option.bind ((n3' (1 : Int) (10000 : Int) [c_Deadline, c_Pulse, c_Quiet, c_Step, c_Travel, c_Dwell, c_Hold]).bind fun y1 =>
 bif y1.1.1 then
 (n3' (0 : Int) (10000 : Int) [c_Slack]).bind fun y2 =>
 bif y2.1.1 then
 bif (decide (c_Dwell ≤ c_Hold)) then
 (n3' (0 : Int) (IntKind.i64.wrap (floors - (1 : Int))) [c_Home]).bind fun y3 =>
 some ((y3.1.1, ()), ())
 else
 some ((false, ()), ())
 else
 some ((false, ()), ())
 else
 some ((false, ()), ())) fun y4 =>
 some ((y4.1.1, ()), ())
noncomputable def nf2' (b_Floors b_Debounce b_Room b_Park : Int) (b_Empty b_Full b_Over : Nat) (b_Cars : List (Car)) : Option ((Bool × Unit) × Unit) :=
 Option.bind (bif (((FloatKind.format FloatKind.f64).order 0 b_Empty) == some Ordering.lt) then
 bif (((FloatKind.format FloatKind.f64).order b_Empty b_Full) == some Ordering.lt) then
 bif (((FloatKind.format FloatKind.f64).order b_Full b_Over) == some Ordering.lt) then
 some (((((FloatKind.format FloatKind.f64).order b_Over 9218868437227405311) == some Ordering.lt || ((FloatKind.format FloatKind.f64).order b_Over 9218868437227405311) == some Ordering.eq), ()), ())
 else
 some ((false, ()), ())
 else
 some ((false, ()), ())
 else
 some ((false, ()), ())) fun y1 =>
 some ((y1.1.1, ()), ())
noncomputable def ncv' (good : Bool) (s28 : List (Car)) (s29 s30 b_Floors b_Debounce b_Room b_Park : Int) (b_Empty b_Full b_Over : Nat) (b_Cars : List (Car)) : Option (Sum (T'20 × (T'0 × Unit)) ((Unit × Bool × Unit) × (T'0 × Unit))) :=
 bif (decide (s30 < s29)) then
 bif (inB s30 (List.length s28)) then
 let z0 : Car := (List.getD s28 (Int.toNat s30) (Car.mk (0 : Int) (0 : Int) (0 : Int) (0 : Int) (0 : Int) (0 : Int) (0 : Int) (0 : Int) (0 : Int)))
 Option.bind (bif good then
 (nf4' z0.Deadline z0.Pulse z0.Quiet z0.Slack z0.Step z0.Travel z0.Dwell z0.Hold z0.Home b_Floors).bind fun y1 =>
 some (((), y1.1.1, s28, s29, s30, ()), ((b_Floors, b_Debounce, b_Room, b_Park, b_Empty, b_Full, b_Over, b_Cars, ()), ()))
 else
 some (((), false, s28, s29, s30, ()), ((b_Floors, b_Debounce, b_Room, b_Park, b_Empty, b_Full, b_Over, b_Cars, ()), ()))) fun y2 =>
 some (Sum.inl (((), y2.1.2.1, y2.1.2.2.1, y2.1.2.2.2.1, (IntKind.i64.wrap (y2.1.2.2.2.2.1 + (1 : Int))), ()), ((y2.2.1.1, y2.2.1.2.1, y2.2.1.2.2.1, y2.2.1.2.2.2.1, y2.2.1.2.2.2.2.1, y2.2.1.2.2.2.2.2.1, y2.2.1.2.2.2.2.2.2.1, y2.2.1.2.2.2.2.2.2.2.1, ()), ())))
 else
 none
 else
 some (Sum.inr (((), good, ()), ((b_Floors, b_Debounce, b_Room, b_Park, b_Empty, b_Full, b_Over, b_Cars, ()), ())))
noncomputable def nev' : (T'20 × (T'0 × Unit)) → Option ((Unit × Bool × Unit) × (T'0 × Unit)) := iter (fun x => ncv' x.1.2.1 x.1.2.2.1 x.1.2.2.2.1 x.1.2.2.2.2.1 x.2.1.1 x.2.1.2.1 x.2.1.2.2.1 x.2.1.2.2.2.1 x.2.1.2.2.2.2.1 x.2.1.2.2.2.2.2.1 x.2.1.2.2.2.2.2.2.1 x.2.1.2.2.2.2.2.2.2.1) fuel
noncomputable def ncb' (b_Floors b_Debounce b_Room b_Park : Int) (b_Empty b_Full b_Over : Nat) (b_Cars : List (Car)) : Option ((Int × Unit) × Unit) :=
 (n3' (2 : Int) (32 : Int) [b_Floors]).bind fun y1 =>
 bif (!y1.1.1) then
 some (((10 : Int), ()), ())
 else
 (n3' (1 : Int) (8 : Int) [((List.length b_Cars : Nat) : Int)]).bind fun y2 =>
 bif (!y2.1.1) then
 some (((11 : Int), ()), ())
 else
 Option.bind ((n3' (1 : Int) (16 : Int) [b_Debounce]).bind fun y3 =>
 bif y3.1.1 then
 (n3' (1 : Int) (10000 : Int) [b_Park]).bind fun y4 =>
 some (((), y4.1.1, ()), ((b_Floors, b_Debounce, b_Room, b_Park, b_Empty, b_Full, b_Over, b_Cars, ()), ()))
 else
 some (((), false, ()), ((b_Floors, b_Debounce, b_Room, b_Park, b_Empty, b_Full, b_Over, b_Cars, ()), ()))) fun y5 =>
 (nev' (((), y5.1.2.1, y5.2.1.2.2.2.2.2.2.2.1, ((List.length y5.2.1.2.2.2.2.2.2.2.1 : Nat) : Int), (0 : Int), ()), ((y5.2.1.1, y5.2.1.2.1, y5.2.1.2.2.1, y5.2.1.2.2.2.1, y5.2.1.2.2.2.2.1, y5.2.1.2.2.2.2.2.1, y5.2.1.2.2.2.2.2.2.1, y5.2.1.2.2.2.2.2.2.2.1, ()), ()))).bind fun y6 =>
 bif (!y6.1.2.1) then
 some (((12 : Int), ()), ())
 else
 (nf2' y6.2.1.1 y6.2.1.2.1 y6.2.1.2.2.1 y6.2.1.2.2.2.1 y6.2.1.2.2.2.2.1 y6.2.1.2.2.2.2.2.1 y6.2.1.2.2.2.2.2.2.1 y6.2.1.2.2.2.2.2.2.2.1).bind fun y7 =>
 bif (!y7.1.1) then
 some (((13 : Int), ()), ())
 else
 (n3' (IntKind.i64.wrap ((IntKind.i64.wrap ((18 : Int) * ((List.length y6.2.1.2.2.2.2.2.2.2.1 : Nat) : Int))) + (24 : Int))) (65536 : Int) [y6.2.1.2.2.1]).bind fun y8 =>
 bif (!y8.1.1) then
 some (((14 : Int), ()), ())
 else
 some (((0 : Int), ()), ())
noncomputable def nef' (b_Floors b_Debounce b_Room b_Park : Int) (b_Empty b_Full b_Over : Nat) (b_Cars : List (Car)) : Option ((Unit × Unit) × (T'5 × Unit)) :=
 (ncb' b_Floors b_Debounce b_Room b_Park b_Empty b_Full b_Over b_Cars).bind fun y1 =>
 bif (y1.1.1 != (0 : Int)) then
 some (((), ()), ((([] : List (Int)), ([] : List (Bool)), ([] : List (Bool)), ([] : List (Entry)), ()), ()))
 else
 let z0 : Int := ((List.length b_Cars : Nat) : Int)
 bif (((decide ((0 : Int) ≤ z0)) && (decide (z0 ≤ z0))) && (decide (z0 ≤ (2147483648 : Int)))) then
 bif (((decide ((0 : Int) ≤ z0)) && (decide (z0 ≤ z0))) && (decide (z0 ≤ (2147483648 : Int)))) then
 bif (((decide ((0 : Int) ≤ z0)) && (decide (z0 ≤ z0))) && (decide (z0 ≤ (2147483648 : Int)))) then
 some (((), ()), (((List.replicate (Int.toNat z0) (0 : Int)), (List.replicate (Int.toNat z0) false), (List.replicate (Int.toNat z0) false), ([] : List (Entry)), ()), ()))
 else
 none
 else
 none
 else
 none
noncomputable def ney' (s_Halves_0 s_Halves_1 : ByteArray) (s_Select : Int) : Option ((ByteArray × Unit) × Unit) :=
 bif (s_Select == (1 : Int)) then
 some ((s_Halves_1, ()), ())
 else
 some ((s_Halves_0, ()), ())
noncomputable def niv' (s : ByteArray) (r s7 s8 s16 : Int) : Option (Sum (T'21 × Unit) (T'17 × Unit)) :=
 bif (decide (s16 < (8 : Int))) then
 let z0 : Int := (IntKind.u8.wrap (r * ((2 : Int) ^ (Min.min (Int.toNat (1 : Int)) (IntKind.bits IntKind.u8)))))
 let z1 : Int := (IntKind.u8.wrap ((Int.fdiv r ((2 : Int) ^ (Min.min (Int.toNat (7 : Int)) (IntKind.bits IntKind.u8)))) * (7 : Int)))
 some (Sum.inl ((s, (IntKind.u8.wrap (stk z0 z1 (BitVec.toNat ((BitVec.ofInt (IntKind.bits IntKind.u8) z0) ^^^ (BitVec.ofInt (IntKind.bits IntKind.u8) z1))))), s7, s8, (IntKind.i64.wrap (s16 + (1 : Int))), ()), ()))
 else
 some (Sum.inr ((s, r, s7, s8, ()), ()))
noncomputable def nii' : (T'21 × Unit) → Option (T'17 × Unit) := iter (fun x => niv' x.1.1 x.1.2.1 x.1.2.2.1 x.1.2.2.2.1 x.1.2.2.2.2.1) fuel
noncomputable def ne8' (s : ByteArray) (r s7 s8 : Int) : Option (Sum (T'17 × Unit) ((Int × Unit) × Unit)) :=
 bif (decide (s8 < s7)) then
 bif (inB s8 (ByteArray.size s)) then
 let z0 : Int := (nf8' s (Int.toNat s8))
 (nii' ((s, (IntKind.u8.wrap (stk r z0 (BitVec.toNat ((BitVec.ofInt (IntKind.bits IntKind.u8) r) ^^^ (BitVec.ofInt (IntKind.bits IntKind.u8) z0))))), s7, s8, (0 : Int), ()), ())).bind fun y1 =>
 some (Sum.inl ((y1.1.1, y1.1.2.1, y1.1.2.2.1, (IntKind.i64.wrap (y1.1.2.2.2.1 + (1 : Int))), ()), ()))
 else
 none
 else
 some (Sum.inr ((r, ()), ()))
noncomputable def nit' : (T'17 × Unit) → Option ((Int × Unit) × Unit) := iter (fun x => ne8' x.1.1 x.1.2.1 x.1.2.2.1 x.1.2.2.2.1) fuel
noncomputable def ni7' (s : ByteArray) : Option ((Int × Unit) × Unit) :=
 (nit' ((s, (0 : Int), ((ByteArray.size s : Nat) : Int), (0 : Int), ()), ())).bind fun y1 =>
 some ((y1.1.1, ()), ())
noncomputable def ne6' (floors floor dir : Int) : Option ((Bool × Unit) × Unit) :=
 Option.bind (bif (dir == (1 : Int)) then
 (n3' (0 : Int) (IntKind.i64.wrap (floors - (2 : Int))) [floor]).bind fun y1 =>
 bif y1.1.1 then
 some ((true, ()), ())
 else
 bif (dir == (2 : Int)) then
 (n3' (1 : Int) (IntKind.i64.wrap (floors - (1 : Int))) [floor]).bind fun y2 =>
 some ((y2.1.1, ()), ())
 else
 some ((false, ()), ())
 else
 bif (dir == (2 : Int)) then
 (n3' (1 : Int) (IntKind.i64.wrap (floors - (1 : Int))) [floor]).bind fun y3 =>
 some ((y3.1.1, ()), ())
 else
 some ((false, ()), ())) fun y4 =>
 some ((y4.1.1, ()), ())
noncomputable def ndy' (b_Floors b_Debounce b_Room b_Park : Int) (b_Empty b_Full b_Over : Nat) (b_Cars : List (Car)) (floor dir : Int) : Option ((Bool × Unit) × Unit) :=
 Option.bind ((ncb' b_Floors b_Debounce b_Room b_Park b_Empty b_Full b_Over b_Cars).bind fun y1 =>
 bif (y1.1.1 == (0 : Int)) then
 (ne6' b_Floors floor dir).bind fun y2 =>
 some ((y2.1.1, ()), ())
 else
 some ((false, ()), ())) fun y3 =>
 some ((y3.1.1, ()), ())
noncomputable def nb9' (n lo hi : Int) : Option ((Bool × Unit) × Unit) :=
 Option.bind (bif (decide (lo ≤ n)) then
 some (((decide (n ≤ hi)), ()), ())
 else
 some ((false, ()), ())) fun y1 =>
 some ((y1.1.1, ()), ())
noncomputable def nd1' (b_Floors b_Debounce b_Room b_Park : Int) (b_Empty b_Full b_Over : Nat) (b_Cars : List (Car)) (r_Kind r_Floor r_Dir r_Car r_Value : Int) : Option ((Bool × Unit) × Unit) :=
 (ncb' b_Floors b_Debounce b_Room b_Park b_Empty b_Full b_Over b_Cars).bind fun y1 =>
 bif (y1.1.1 != (0 : Int)) then
 some ((false, ()), ())
 else
 (ndy' b_Floors b_Debounce b_Room b_Park b_Empty b_Full b_Over b_Cars r_Floor r_Dir).bind fun y2 =>
 Option.bind (bif (r_Floor == (0 : Int)) then
 bif (r_Dir == (0 : Int)) then
 (nb9' r_Car (0 : Int) (IntKind.i64.wrap (((List.length b_Cars : Nat) : Int) - (1 : Int)))).bind fun y3 =>
 some (((), (), y2.1.1, y3.1.1, ()), ((b_Floors, b_Debounce, b_Room, b_Park, b_Empty, b_Full, b_Over, b_Cars, ()), (r_Kind, r_Floor, r_Dir, r_Car, r_Value, ()), ()))
 else
 some (((), (), y2.1.1, false, ()), ((b_Floors, b_Debounce, b_Room, b_Park, b_Empty, b_Full, b_Over, b_Cars, ()), (r_Kind, r_Floor, r_Dir, r_Car, r_Value, ()), ()))
 else
 some (((), (), y2.1.1, false, ()), ((b_Floors, b_Debounce, b_Room, b_Park, b_Empty, b_Full, b_Over, b_Cars, ()), (r_Kind, r_Floor, r_Dir, r_Car, r_Value, ()), ()))) fun y4 =>
 bif (y4.2.2.1.1 == (1 : Int)) then
 Option.bind (bif y4.1.2.2.1 then
 bif (y4.2.2.1.2.2.2.1 == (0 : Int)) then
 some (((y4.2.2.1.2.2.2.2.1 == (0 : Int)), ()), ())
 else
 some ((false, ()), ())
 else
 some ((false, ()), ())) fun y5 =>
 some ((y5.1.1, ()), ())
 else
 bif (y4.2.2.1.1 == (2 : Int)) then
 Option.bind (bif y4.1.2.2.1 then
 bif (y4.2.2.1.2.2.2.1 == (0 : Int)) then
 some (((y4.2.2.1.2.2.2.2.1 == (0 : Int)), ()), ())
 else
 some ((false, ()), ())
 else
 some ((false, ()), ())) fun y6 =>
 some ((y6.1.1, ()), ())
 else
 bif (y4.2.2.1.1 == (3 : Int)) then
 Option.bind (bif y4.1.2.2.1 then
 (nb9' y4.2.2.1.2.2.2.1 (-2 : Int) (IntKind.i64.wrap (((List.length y4.2.1.2.2.2.2.2.2.2.1 : Nat) : Int) - (1 : Int)))).bind fun y7 =>
 bif y7.1.1 then
 some (((y4.2.2.1.2.2.2.2.1 == (0 : Int)), ()), ())
 else
 some ((false, ()), ())
 else
 some ((false, ()), ())) fun y8 =>
 some ((y8.1.1, ()), ())
 else
 bif (y4.2.2.1.1 == (7 : Int)) then
 Option.bind (bif y4.1.2.2.1 then
 (nb9' y4.2.2.1.2.2.2.1 (0 : Int) (1 : Int)).bind fun y9 =>
 bif y9.1.1 then
 (nb9' y4.2.2.1.2.2.2.2.1 (0 : Int) (255 : Int)).bind fun y10 =>
 some ((y10.1.1, ()), ())
 else
 some ((false, ()), ())
 else
 some ((false, ()), ())) fun y11 =>
 some ((y11.1.1, ()), ())
 else
 bif (y4.2.2.1.1 == (4 : Int)) then
 Option.bind (bif y4.1.2.2.2.1 then
 (nb9' y4.2.2.1.2.2.2.2.1 (0 : Int) (4 : Int)).bind fun y12 =>
 some ((y12.1.1, ()), ())
 else
 some ((false, ()), ())) fun y13 =>
 some ((y13.1.1, ()), ())
 else
 bif (y4.2.2.1.1 == (5 : Int)) then
 Option.bind (bif y4.1.2.2.2.1 then
 (nb9' y4.2.2.1.2.2.2.2.1 (0 : Int) (1 : Int)).bind fun y14 =>
 some ((y14.1.1, ()), ())
 else
 some ((false, ()), ())) fun y15 =>
 some ((y15.1.1, ()), ())
 else
 bif (y4.2.2.1.1 == (6 : Int)) then
 Option.bind (bif y4.1.2.2.2.1 then
 (nb9' y4.2.2.1.2.2.2.2.1 (0 : Int) (1 : Int)).bind fun y16 =>
 some ((y16.1.1, ()), ())
 else
 some ((false, ()), ())) fun y17 =>
 some ((y17.1.1, ()), ())
 else
 some ((false, ()), ())
noncomputable def ngt' (b_Floors b_Debounce b_Room b_Park : Int) (b_Empty b_Full b_Over : Nat) (b_Cars : List (Car)) (s : ByteArray) : Option ((Unit × Int × Unit) × (T'22 × Unit)) :=
 (ncb' b_Floors b_Debounce b_Room b_Park b_Empty b_Full b_Over b_Cars).bind fun y1 =>
 bif (y1.1.1 != (0 : Int)) then
 some (((), (1 : Int), ()), (((0 : Int), (0 : Int), (0 : Int), (0 : Int), (0 : Int), ()), ()))
 else
 bif (((ByteArray.size s : Nat) : Int) != (6 : Int)) then
 some (((), (4 : Int), ()), (((0 : Int), (0 : Int), (0 : Int), (0 : Int), (0 : Int), ()), ()))
 else
 bif (decide ((5 : Int) ≤ (((ByteArray.size s) : Nat) : Int))) then
 (ni7' (ByteArray.extract s 0 5)).bind fun y2 =>
 bif (inB (5 : Int) (ByteArray.size s)) then
 bif (y2.1.1 != (nf8' s (Int.toNat (5 : Int)))) then
 some (((), (5 : Int), ()), (((0 : Int), (0 : Int), (0 : Int), (0 : Int), (0 : Int), ()), ()))
 else
 bif (inB (0 : Int) (ByteArray.size s)) then
 let z0 : Int := (IntKind.i64.wrap (nf8' s (Int.toNat (0 : Int))))
 bif (inB (1 : Int) (ByteArray.size s)) then
 let z1 : Int := (IntKind.i64.wrap (nf8' s (Int.toNat (1 : Int))))
 bif (inB (2 : Int) (ByteArray.size s)) then
 let z2 : Int := (IntKind.i64.wrap (nf8' s (Int.toNat (2 : Int))))
 bif (inB (3 : Int) (ByteArray.size s)) then
 let z3 : Int := (IntKind.i64.wrap ((IntKind.i64.wrap (nf8' s (Int.toNat (3 : Int)))) - (2 : Int)))
 bif (inB (4 : Int) (ByteArray.size s)) then
 let z4 : Int := (IntKind.i64.wrap (nf8' s (Int.toNat (4 : Int))))
 (nd1' b_Floors b_Debounce b_Room b_Park b_Empty b_Full b_Over b_Cars z0 z1 z2 z3 z4).bind fun y3 =>
 bif (!y3.1.1) then
 some (((), (9 : Int), ()), (((0 : Int), (0 : Int), (0 : Int), (0 : Int), (0 : Int), ()), ()))
 else
 some (((), (0 : Int), ()), ((z0, z1, z2, z3, z4, ()), ()))
 else
 none
 else
 none
 else
 none
 else
 none
 else
 none
 else
 none
 else
 none
noncomputable def ncp' (s : ByteArray) (l : List (Record)) (at_1 b_Floors b_Debounce b_Room b_Park : Int) (b_Empty b_Full b_Over : Nat) (b_Cars : List (Car)) : Option (Sum (T'24 × (T'0 × Unit)) (T'23 × Unit)) :=
 bif (decide ((IntKind.i64.wrap (at_1 + (6 : Int))) ≤ ((ByteArray.size s : Nat) : Int))) then
 let z0 : Int := (IntKind.i64.wrap (at_1 + (6 : Int)))
 bif ((decide ((0 : Int) ≤ z0)) && (decide (z0 ≤ (((ByteArray.size s) : Nat) : Int)))) then
 bif ((decide ((0 : Int) ≤ at_1)) && (decide (at_1 ≤ (((Int.toNat z0) : Nat) : Int)))) then
 (ngt' b_Floors b_Debounce b_Room b_Park b_Empty b_Full b_Over b_Cars (ByteArray.extract s (Int.toNat at_1) (Int.toNat z0))).bind fun y1 =>
 bif (y1.1.2.1 != (0 : Int)) then
 some (Sum.inr ((l, at_1, ()), ()))
 else
 let z1 : List (Record) := [(Record.mk y1.2.1.1 y1.2.1.2.1 y1.2.1.2.2.1 y1.2.1.2.2.2.1 y1.2.1.2.2.2.2.1)]
 bif (Nat.ble ((List.length l) + (List.length z1)) 2147483648) then
 some (Sum.inl ((s, (), (l ++ z1), (IntKind.i64.wrap (at_1 + (6 : Int))), ()), ((b_Floors, b_Debounce, b_Room, b_Park, b_Empty, b_Full, b_Over, b_Cars, ()), ())))
 else
 none
 else
 none
 else
 none
 else
 some (Sum.inr ((l, at_1, ()), ()))
noncomputable def ngr' : (T'24 × (T'0 × Unit)) → Option (T'23 × Unit) := iter (fun x => ncp' x.1.1 x.1.2.2.1 x.1.2.2.2.1 x.2.1.1 x.2.1.2.1 x.2.1.2.2.1 x.2.1.2.2.2.1 x.2.1.2.2.2.2.1 x.2.1.2.2.2.2.2.1 x.2.1.2.2.2.2.2.2.1 x.2.1.2.2.2.2.2.2.2.1) fuel
noncomputable def nhq' (b_Floors b_Debounce b_Room b_Park : Int) (b_Empty b_Full b_Over : Nat) (b_Cars : List (Car)) (s : ByteArray) : Option (T'23 × Unit) :=
 (ngr' ((s, (), ([] : List (Record)), (0 : Int), ()), ((b_Floors, b_Debounce, b_Room, b_Park, b_Empty, b_Full, b_Over, b_Cars, ()), ()))).bind fun y1 =>
 some ((y1.1.1, y1.1.2.1, ()), ())
noncomputable def ngo' (x_1 : Int) : Option ((Bool × Unit) × Unit) :=
 some (((x_1 != x_1), ()), ())
noncomputable def nd0' (x_1 y : Int) : Option ((Int × Unit) × Unit) :=
 (ngo' x_1).bind fun y1 =>
 (ngo' y).bind fun y2 =>
 bif y1.1.1 then
 bif y2.1.1 then
 some (((0 : Int), ()), ())
 else
 some (((-1 : Int), ()), ())
 else
 bif y2.1.1 then
 some (((1 : Int), ()), ())
 else
 bif (decide (x_1 < y)) then
 some (((-1 : Int), ()), ())
 else
 bif (decide (y < x_1)) then
 some (((1 : Int), ()), ())
 else
 some (((0 : Int), ()), ())
noncomputable def nfl' (zero : Int) (s6 : List (Int)) (s7 s8 : Int) : Option (Sum (T'25 × Unit) (((Int × Unit) × Unit) ⊕ ((Int × Unit) × Unit))) :=
 bif (decide (s8 < s7)) then
 bif (inB s8 (List.length s6)) then
 let z0 : Int := (List.getD s6 (Int.toNat s8) (0 : Int))
 bif (z0 != zero) then
 some (Sum.inr (Sum.inr ((z0, ()), ())))
 else
 some (Sum.inl ((zero, s6, s7, (IntKind.i64.wrap (s8 + (1 : Int))), ()), ()))
 else
 none
 else
 some (Sum.inr (Sum.inl ((zero, ()), ())))
noncomputable def ng7' : (T'25 × Unit) → Option (((Int × Unit) × Unit) ⊕ ((Int × Unit) × Unit)) := iter (fun x => nfl' x.1.1 x.1.2.1 x.1.2.2.1 x.1.2.2.2.1) fuel
noncomputable def nio' (vals : List (Int)) : Option ((Int × Unit) × Unit) :=
 (ng7' (((0 : Int), vals, ((List.length vals : Nat) : Int), (0 : Int), ()), ())).bind fun y1 =>
 (match y1 with
 | .inl y2 =>
 some ((y2.1.1, ()), ())
 | .inr y2 =>
 some ((y2.1.1, ()), ()))
noncomputable def nek' (a_Floor a_Dir a_Car a_Moves : Int) (a_Moved : Bool) (b_Floor b_Dir b_Car b_Moves : Int) (b_Moved : Bool) : Option ((Int × Unit) × Unit) :=
 (nd0' a_Floor b_Floor).bind fun y1 =>
 (nd0' a_Dir b_Dir).bind fun y2 =>
 (nio' [y1.1.1, y2.1.1]).bind fun y3 =>
 some ((y3.1.1, ()), ())
noncomputable def np' (x_1 : List (Entry)) (n i j target_Floor target_Dir target_Car target_Moves : Int) (target_Moved : Bool) : Option (Sum (T'26 × (T'11 × Unit)) (T'27 × (T'11 × Unit))) :=
 bif (decide (i < j)) then
 let z0 : Int := (IntKind.i64.wrap (Int.fdiv (IntKind.u64.wrap (IntKind.i64.wrap (i + j))) ((2 : Int) ^ (Min.min (Int.toNat (1 : Int)) (IntKind.bits IntKind.u64)))))
 bif (inB z0 (List.length x_1)) then
 let z1 : Entry := (List.getD x_1 (Int.toNat z0) (Entry.mk (0 : Int) (0 : Int) (0 : Int) (0 : Int) false))
 (nek' z1.Floor z1.Dir z1.Car z1.Moves z1.Moved target_Floor target_Dir target_Car target_Moves target_Moved).bind fun y1 =>
 bif (decide (y1.1.1 < (0 : Int))) then
 some (Sum.inl ((x_1, (), (), n, (IntKind.i64.wrap (z0 + (1 : Int))), j, ()), ((target_Floor, target_Dir, target_Car, target_Moves, target_Moved, ()), ())))
 else
 some (Sum.inl ((x_1, (), (), n, i, z0, ()), ((target_Floor, target_Dir, target_Car, target_Moves, target_Moved, ()), ())))
 else
 none
 else
 some (Sum.inr ((x_1, (), (), n, i, ()), ((target_Floor, target_Dir, target_Car, target_Moves, target_Moved, ()), ())))
noncomputable def no' : (T'26 × (T'11 × Unit)) → Option (T'27 × (T'11 × Unit)) := iter (fun x => np' x.1.1 x.1.2.2.2.1 x.1.2.2.2.2.1 x.1.2.2.2.2.2.1 x.2.1.1 x.2.1.2.1 x.2.1.2.2.1 x.2.1.2.2.2.1 x.2.1.2.2.2.2.1) fuel
noncomputable def nx' (x_1 : List (Entry)) (target_Floor target_Dir target_Car target_Moves : Int) (target_Moved : Bool) : Option ((Int × Bool × Unit) × Unit) :=
 let z0 : Int := ((List.length x_1 : Nat) : Int)
 (no' ((x_1, (), (), z0, (0 : Int), z0, ()), ((target_Floor, target_Dir, target_Car, target_Moves, target_Moved, ()), ()))).bind fun y1 =>
 Option.bind (bif (decide (y1.1.2.2.2.2.1 < y1.1.2.2.2.1)) then
 bif (inB y1.1.2.2.2.2.1 (List.length y1.1.1)) then
 let z1 : Entry := (List.getD y1.1.1 (Int.toNat y1.1.2.2.2.2.1) (Entry.mk (0 : Int) (0 : Int) (0 : Int) (0 : Int) false))
 (nek' z1.Floor z1.Dir z1.Car z1.Moves z1.Moved y1.2.1.1 y1.2.1.2.1 y1.2.1.2.2.1 y1.2.1.2.2.2.1 y1.2.1.2.2.2.2.1).bind fun y2 =>
 some ((y1.1.2.2.2.2.1, (y2.1.1 == (0 : Int)), ()), ())
 else
 none
 else
 some ((y1.1.2.2.2.2.1, false, ()), ())) fun y3 =>
 some ((y3.1.1, y3.1.2.1, ()), ())
noncomputable def niy' (m_Phases : List (Int)) (m_Flags m_Leaving : List (Bool)) (m_Entries : List (Entry)) (floor dir : Int) : Option ((Int × Bool × Unit) × Unit) :=
 (nx' m_Entries floor dir (0 : Int) (0 : Int) false).bind fun y1 =>
 some ((y1.1.1, y1.1.2.1, ()), ())
noncomputable def ncd' (s : List (Entry)) (i : Int) (v : List (Entry)) : Option ((List (Entry) × Unit) × Unit) :=
 insF s i v
noncomputable def nce' (s : List (Entry)) (i j : Int) : Option ((List (Entry) × Unit) × Unit) :=
 delF s i j
noncomputable def ngx' (r_Kind r_Floor r_Dir r_Car r_Value : Int) (m_Phases : List (Int)) (m_Flags m_Leaving : List (Bool)) (m_Entries : List (Entry)) : Option (Unit × (T'5 × Unit)) :=
 (niy' m_Phases m_Flags m_Leaving m_Entries r_Floor r_Dir).bind fun y1 =>
 bif (r_Kind == (4 : Int)) then
 bif (inB r_Car (List.length m_Phases)) then
 some ((), (((List.set m_Phases (Int.toNat r_Car) r_Value), m_Flags, m_Leaving, m_Entries, ()), ()))
 else
 none
 else
 bif (r_Kind == (5 : Int)) then
 bif (inB r_Car (List.length m_Flags)) then
 some ((), ((m_Phases, (List.set m_Flags (Int.toNat r_Car) (r_Value == (1 : Int))), m_Leaving, m_Entries, ()), ()))
 else
 none
 else
 bif (r_Kind == (6 : Int)) then
 bif (inB r_Car (List.length m_Leaving)) then
 some ((), ((m_Phases, m_Flags, (List.set m_Leaving (Int.toNat r_Car) (r_Value == (1 : Int))), m_Entries, ()), ()))
 else
 none
 else
 bif (r_Kind == (1 : Int)) then
 bif (!y1.1.2.1) then
 (ncd' m_Entries y1.1.1 [(Entry.mk r_Floor r_Dir (-1 : Int) (0 : Int) false)]).bind fun y2 =>
 some ((), ((m_Phases, m_Flags, m_Leaving, y2.1.1, ()), ()))
 else
 some ((), ((m_Phases, m_Flags, m_Leaving, m_Entries, ()), ()))
 else
 bif (r_Kind == (2 : Int)) then
 bif y1.1.2.1 then
 (nce' m_Entries y1.1.1 (IntKind.i64.wrap (y1.1.1 + (1 : Int)))).bind fun y3 =>
 some ((), ((m_Phases, m_Flags, m_Leaving, y3.1.1, ()), ()))
 else
 some ((), ((m_Phases, m_Flags, m_Leaving, m_Entries, ()), ()))
 else
 bif (r_Kind == (3 : Int)) then
 bif y1.1.2.1 then
 bif (inB y1.1.1 (List.length m_Entries)) then
 let z0 : Nat := (Int.toNat y1.1.1)
 let z1 : Entry := (List.getD m_Entries z0 (Entry.mk (0 : Int) (0 : Int) (0 : Int) (0 : Int) false))
 some ((), ((m_Phases, m_Flags, m_Leaving, (List.set m_Entries z0 (Entry.mk z1.Floor z1.Dir r_Car z1.Moves z1.Moved)), ()), ()))
 else
 none
 else
 some ((), ((m_Phases, m_Flags, m_Leaving, m_Entries, ()), ()))
 else
 bif (r_Kind == (7 : Int)) then
 bif y1.1.2.1 then
 bif (inB y1.1.1 (List.length m_Entries)) then
 let z2 : Nat := (Int.toNat y1.1.1)
 let z3 : Entry := (List.getD m_Entries z2 (Entry.mk (0 : Int) (0 : Int) (0 : Int) (0 : Int) false))
 let z4 : List (Entry) := (List.set m_Entries z2 (Entry.mk z3.Floor z3.Dir z3.Car r_Value z3.Moved))
 bif (inB y1.1.1 (List.length z4)) then
 let z5 : Nat := (Int.toNat y1.1.1)
 let z6 : Entry := (List.getD z4 z5 (Entry.mk (0 : Int) (0 : Int) (0 : Int) (0 : Int) false))
 some ((), ((m_Phases, m_Flags, m_Leaving, (List.set z4 z5 (Entry.mk z6.Floor z6.Dir z6.Car z6.Moves (r_Car == (1 : Int)))), ()), ()))
 else
 none
 else
 none
 else
 some ((), ((m_Phases, m_Flags, m_Leaving, m_Entries, ()), ()))
 else
 some ((), ((m_Phases, m_Flags, m_Leaving, m_Entries, ()), ()))
noncomputable def nd5' (s19 : List (Record)) (s20 s21 : Int) (b4_Phases : List (Int)) (b4_Flags b4_Leaving : List (Bool)) (b4_Entries : List (Entry)) (m_Phases : List (Int)) (m_Flags m_Leaving : List (Bool)) (m_Entries : List (Entry)) : Option (Sum (T'28 × (T'5 × T'5 × Unit)) ((Unit × Unit × Unit) × (T'5 × T'5 × Unit))) :=
 bif (decide (s21 < s20)) then
 bif (inB s21 (List.length s19)) then
 let z0 : Record := (List.getD s19 (Int.toNat s21) (Record.mk (0 : Int) (0 : Int) (0 : Int) (0 : Int) (0 : Int)))
 (ngx' z0.Kind z0.Floor z0.Dir z0.Car z0.Value m_Phases m_Flags m_Leaving m_Entries).bind fun y1 =>
 some (Sum.inl (((), (), s19, s20, (IntKind.i64.wrap (s21 + (1 : Int))), ()), ((b4_Phases, b4_Flags, b4_Leaving, b4_Entries, ()), (y1.2.1.1, y1.2.1.2.1, y1.2.1.2.2.1, y1.2.1.2.2.2.1, ()), ())))
 else
 none
 else
 some (Sum.inr (((), (), ()), ((b4_Phases, b4_Flags, b4_Leaving, b4_Entries, ()), (m_Phases, m_Flags, m_Leaving, m_Entries, ()), ())))
noncomputable def nhd' : (T'28 × (T'5 × T'5 × Unit)) → Option ((Unit × Unit × Unit) × (T'5 × T'5 × Unit)) := iter (fun x => nd5' x.1.2.2.1 x.1.2.2.2.1 x.1.2.2.2.2.1 x.2.1.1 x.2.1.2.1 x.2.1.2.2.1 x.2.1.2.2.2.1 x.2.2.1.1 x.2.2.1.2.1 x.2.2.1.2.2.1 x.2.2.1.2.2.2.1) fuel
noncomputable def nfm' (b_Floors b_Debounce b_Room b_Park : Int) (b_Empty b_Full b_Over : Nat) (b_Cars : List (Car)) (s_Halves_0 s_Halves_1 : ByteArray) (s_Select : Int) : Option ((Unit × Unit) × (T'5 × Unit)) :=
 (nef' b_Floors b_Debounce b_Room b_Park b_Empty b_Full b_Over b_Cars).bind fun y1 =>
 (ney' s_Halves_0 s_Halves_1 s_Select).bind fun y2 =>
 (nhq' b_Floors b_Debounce b_Room b_Park b_Empty b_Full b_Over b_Cars y2.1.1).bind fun y3 =>
 (nhd' (((), (), y3.1.1, ((List.length y3.1.1 : Nat) : Int), (0 : Int), ()), ((([] : List (Int)), ([] : List (Bool)), ([] : List (Bool)), ([] : List (Entry)), ()), (y1.2.1.1, y1.2.1.2.1, y1.2.1.2.2.1, y1.2.1.2.2.2.1, ()), ()))).bind fun y4 =>
 some (((), ()), ((y4.2.2.1.1, y4.2.2.1.2.1, y4.2.2.1.2.2.1, y4.2.2.1.2.2.2.1, ()), ()))
noncomputable def ncm' (room : Int) (s_Halves_0 s_Halves_1 : ByteArray) (s_Select : Int) : Option ((Bool × Unit) × Unit) :=
 Option.bind (bif (decide ((1 : Int) ≤ room)) then
 bif (decide (room ≤ (65536 : Int))) then
 bif (decide (((ByteArray.size s_Halves_0 : Nat) : Int) ≤ room)) then
 bif (decide (((ByteArray.size s_Halves_1 : Nat) : Int) ≤ room)) then
 bif (s_Select == (0 : Int)) then
 some ((true, ()), ())
 else
 some (((s_Select == (1 : Int)), ()), ())
 else
 some ((false, ()), ())
 else
 some ((false, ()), ())
 else
 some ((false, ()), ())
 else
 some ((false, ()), ())) fun y1 =>
 some ((y1.1.1, ()), ())
noncomputable def nho' (b_Floors b_Debounce b_Room b_Park : Int) (b_Empty b_Full b_Over : Nat) (b_Cars : List (Car)) (e_Floor e_Dir e_Car e_Moves : Int) (e_Moved : Bool) : Option ((Bool × Unit) × Unit) :=
 Option.bind ((ndy' b_Floors b_Debounce b_Room b_Park b_Empty b_Full b_Over b_Cars e_Floor e_Dir).bind fun y1 =>
 bif y1.1.1 then
 bif (decide ((-2 : Int) ≤ e_Car)) then
 bif (decide (e_Car < ((List.length b_Cars : Nat) : Int))) then
 bif (decide ((0 : Int) ≤ e_Moves)) then
 some (((decide (e_Moves ≤ (255 : Int))), ()), ())
 else
 some ((false, ()), ())
 else
 some ((false, ()), ())
 else
 some ((false, ()), ())
 else
 some ((false, ()), ())) fun y2 =>
 some ((y2.1.1, ()), ())
noncomputable def nc2' (s52 : List (Entry)) (s53 s54 b_Floors b_Debounce b_Room b_Park : Int) (b_Empty b_Full b_Over : Nat) (b_Cars : List (Car)) (m_Phases : List (Int)) (m_Flags m_Leaving : List (Bool)) (m_Entries : List (Entry)) : Option (Sum (T'30 × (T'0 × T'5 × Unit)) ((Unit × Unit) ⊕ ((Bool × Unit) × Unit))) :=
 bif (decide (s54 < s53)) then
 bif (inB s54 (List.length s52)) then
 let z0 : Entry := (List.getD s52 (Int.toNat s54) (Entry.mk (0 : Int) (0 : Int) (0 : Int) (0 : Int) false))
 Option.bind ((nho' b_Floors b_Debounce b_Room b_Park b_Empty b_Full b_Over b_Cars z0.Floor z0.Dir z0.Car z0.Moves z0.Moved).bind fun y1 =>
 bif (!y1.1.1) then
 some (((), (), s52, s53, s54, true, ()), ((b_Floors, b_Debounce, b_Room, b_Park, b_Empty, b_Full, b_Over, b_Cars, ()), (m_Phases, m_Flags, m_Leaving, m_Entries, ()), ()))
 else
 bif (decide ((0 : Int) < s54)) then
 let z1 : Int := (IntKind.i64.wrap (s54 - (1 : Int)))
 bif (inB z1 (List.length m_Entries)) then
 let z2 : Entry := (List.getD m_Entries (Int.toNat z1) (Entry.mk (0 : Int) (0 : Int) (0 : Int) (0 : Int) false))
 (nek' z2.Floor z2.Dir z2.Car z2.Moves z2.Moved z0.Floor z0.Dir z0.Car z0.Moves z0.Moved).bind fun y2 =>
 some (((), (), s52, s53, s54, (decide ((0 : Int) ≤ y2.1.1)), ()), ((b_Floors, b_Debounce, b_Room, b_Park, b_Empty, b_Full, b_Over, b_Cars, ()), (m_Phases, m_Flags, m_Leaving, m_Entries, ()), ()))
 else
 none
 else
 some (((), (), s52, s53, s54, false, ()), ((b_Floors, b_Debounce, b_Room, b_Park, b_Empty, b_Full, b_Over, b_Cars, ()), (m_Phases, m_Flags, m_Leaving, m_Entries, ()), ()))) fun y3 =>
 bif y3.1.2.2.2.2.2.1 then
 some (Sum.inr (Sum.inr ((false, ()), ())))
 else
 some (Sum.inl (((), (), y3.1.2.2.1, y3.1.2.2.2.1, (IntKind.i64.wrap (y3.1.2.2.2.2.1 + (1 : Int))), ()), ((y3.2.1.1, y3.2.1.2.1, y3.2.1.2.2.1, y3.2.1.2.2.2.1, y3.2.1.2.2.2.2.1, y3.2.1.2.2.2.2.2.1, y3.2.1.2.2.2.2.2.2.1, y3.2.1.2.2.2.2.2.2.2.1, ()), (y3.2.2.1.1, y3.2.2.1.2.1, y3.2.2.1.2.2.1, y3.2.2.1.2.2.2.1, ()), ())))
 else
 none
 else
 some (Sum.inr (Sum.inl ((), ())))
noncomputable def ngp' : (T'30 × (T'0 × T'5 × Unit)) → Option ((Unit × Unit) ⊕ ((Bool × Unit) × Unit)) := iter (fun x => nc2' x.1.2.2.1 x.1.2.2.2.1 x.1.2.2.2.2.1 x.2.1.1 x.2.1.2.1 x.2.1.2.2.1 x.2.1.2.2.2.1 x.2.1.2.2.2.2.1 x.2.1.2.2.2.2.2.1 x.2.1.2.2.2.2.2.2.1 x.2.1.2.2.2.2.2.2.2.1 x.2.2.1.1 x.2.2.1.2.1 x.2.2.1.2.2.1 x.2.2.1.2.2.2.1) fuel
noncomputable def nds' (s38 : List (Int)) (s39 s40 b_Floors b_Debounce b_Room b_Park : Int) (b_Empty b_Full b_Over : Nat) (b_Cars : List (Car)) (m_Phases : List (Int)) (m_Flags m_Leaving : List (Bool)) (m_Entries : List (Entry)) : Option (Sum (T'29 × (T'0 × T'5 × Unit)) (((Unit × Unit × Unit) × (T'0 × T'5 × Unit)) ⊕ ((Bool × Unit) × Unit))) :=
 bif (decide (s40 < s39)) then
 bif (inB s40 (List.length s38)) then
 let z0 : Int := (List.getD s38 (Int.toNat s40) (0 : Int))
 bif (decide (z0 < (0 : Int))) then
 some (Sum.inr (Sum.inr ((false, ()), ())))
 else
 bif (decide ((4 : Int) < z0)) then
 some (Sum.inr (Sum.inr ((false, ()), ())))
 else
 some (Sum.inl (((), (), s38, s39, (IntKind.i64.wrap (s40 + (1 : Int))), ()), ((b_Floors, b_Debounce, b_Room, b_Park, b_Empty, b_Full, b_Over, b_Cars, ()), (m_Phases, m_Flags, m_Leaving, m_Entries, ()), ())))
 else
 none
 else
 some (Sum.inr (Sum.inl (((), (), ()), ((b_Floors, b_Debounce, b_Room, b_Park, b_Empty, b_Full, b_Over, b_Cars, ()), (m_Phases, m_Flags, m_Leaving, m_Entries, ()), ()))))
noncomputable def ngv' : (T'29 × (T'0 × T'5 × Unit)) → Option (((Unit × Unit × Unit) × (T'0 × T'5 × Unit)) ⊕ ((Bool × Unit) × Unit)) := iter (fun x => nds' x.1.2.2.1 x.1.2.2.2.1 x.1.2.2.2.2.1 x.2.1.1 x.2.1.2.1 x.2.1.2.2.1 x.2.1.2.2.2.1 x.2.1.2.2.2.2.1 x.2.1.2.2.2.2.2.1 x.2.1.2.2.2.2.2.2.1 x.2.1.2.2.2.2.2.2.2.1 x.2.2.1.1 x.2.2.1.2.1 x.2.2.1.2.2.1 x.2.2.1.2.2.2.1) fuel
noncomputable def nde' (b_Floors b_Debounce b_Room b_Park : Int) (b_Empty b_Full b_Over : Nat) (b_Cars : List (Car)) (m_Phases : List (Int)) (m_Flags m_Leaving : List (Bool)) (m_Entries : List (Entry)) : Option ((Bool × Unit) × Unit) :=
 let z0 : Int := ((List.length b_Cars : Nat) : Int)
 (ncb' b_Floors b_Debounce b_Room b_Park b_Empty b_Full b_Over b_Cars).bind fun y1 =>
 bif (y1.1.1 != (0 : Int)) then
 some ((false, ()), ())
 else
 bif (((List.length m_Phases : Nat) : Int) != z0) then
 some ((false, ()), ())
 else
 bif (((List.length m_Flags : Nat) : Int) != z0) then
 some ((false, ()), ())
 else
 bif (((List.length m_Leaving : Nat) : Int) != z0) then
 some ((false, ()), ())
 else
 (ngv' (((), (), m_Phases, ((List.length m_Phases : Nat) : Int), (0 : Int), ()), ((b_Floors, b_Debounce, b_Room, b_Park, b_Empty, b_Full, b_Over, b_Cars, ()), (m_Phases, m_Flags, m_Leaving, m_Entries, ()), ()))).bind fun y2 =>
 (match y2 with
 | .inl y3 =>
 (ngp' (((), (), y3.2.2.1.2.2.2.1, ((List.length y3.2.2.1.2.2.2.1 : Nat) : Int), (0 : Int), ()), ((y3.2.1.1, y3.2.1.2.1, y3.2.1.2.2.1, y3.2.1.2.2.2.1, y3.2.1.2.2.2.2.1, y3.2.1.2.2.2.2.2.1, y3.2.1.2.2.2.2.2.2.1, y3.2.1.2.2.2.2.2.2.2.1, ()), (y3.2.2.1.1, y3.2.2.1.2.1, y3.2.2.1.2.2.1, y3.2.2.1.2.2.2.1, ()), ()))).bind fun y4 =>
 (match y4 with
 | .inl y5 =>
 some ((true, ()), ())
 | .inr y5 =>
 some ((y5.1.1, ()), ()))
 | .inr y3 =>
 some ((y3.1.1, ()), ()))
noncomputable def nea' (kind value : Int) (b0 : List (Record)) (b1 : Int) : Option (Unit × T'31) :=
 let z0 : List (Record) := [(Record.mk kind (0 : Int) (0 : Int) b1 value)]
 bif (Nat.ble ((List.length b0) + (List.length z0)) 2147483648) then
 some ((), (((b0 ++ z0), ()), (b1, ()), ()))
 else
 none
noncomputable def nfe' (on_1 : Bool) : Option ((Int × Unit) × Unit) :=
 bif on_1 then
 some (((1 : Int), ()), ())
 else
 some (((0 : Int), ()), ())
noncomputable def nd7' (kind car value : Int) (b0 : List (Record)) (b1_Floor b1_Dir b1_Car b1_Moves : Int) (b1_Moved : Bool) : Option (Unit × T'32) :=
 let z0 : List (Record) := [(Record.mk kind b1_Floor b1_Dir car value)]
 bif (Nat.ble ((List.length b0) + (List.length z0)) 2147483648) then
 some ((), (((b0 ++ z0), ()), (b1_Floor, b1_Dir, b1_Car, b1_Moves, b1_Moved, ()), ()))
 else
 none
noncomputable def ndg' (s47 : List (Entry)) (s48 s49 : Int) (l : List (Record)) : Option (Sum (T'34 × T'35) ((Unit × Unit) × T'35)) :=
 bif (decide (s49 < s48)) then
 bif (inB s49 (List.length s47)) then
 let z0 : Entry := (List.getD s47 (Int.toNat s49) (Entry.mk (0 : Int) (0 : Int) (0 : Int) (0 : Int) false))
 (nd7' (1 : Int) (0 : Int) (0 : Int) l z0.Floor z0.Dir z0.Car z0.Moves z0.Moved).bind fun y1 =>
 (nd7' (3 : Int) y1.2.2.1.2.2.1 (0 : Int) y1.2.1.1 y1.2.2.1.1 y1.2.2.1.2.1 y1.2.2.1.2.2.1 y1.2.2.1.2.2.2.1 y1.2.2.1.2.2.2.2.1).bind fun y2 =>
 (nfe' y2.2.2.1.2.2.2.2.1).bind fun y3 =>
 (nd7' (7 : Int) y3.1.1 y2.2.2.1.2.2.2.1 y2.2.1.1 y2.2.2.1.1 y2.2.2.1.2.1 y2.2.2.1.2.2.1 y2.2.2.1.2.2.2.1 y2.2.2.1.2.2.2.2.1).bind fun y4 =>
 some (Sum.inl (((), s47, s48, (IntKind.i64.wrap (s49 + (1 : Int))), ()), ((y4.2.1.1, ()), ())))
 else
 none
 else
 some (Sum.inr (((), ()), ((l, ()), ())))
noncomputable def nf5' : (T'34 × T'35) → Option ((Unit × Unit) × T'35) := iter (fun x => ndg' x.1.2.1 x.1.2.2.1 x.1.2.2.2.1 x.2.1.1) fuel
noncomputable def ndj' (s17 s18 : Int) (m_Phases : List (Int)) (m_Flags m_Leaving : List (Bool)) (m_Entries : List (Entry)) (l : List (Record)) : Option (Sum (T'7 × T'33) ((Unit × Unit × Unit) × T'33)) :=
 bif (decide (s18 < s17)) then
 bif (inB s18 (List.length m_Phases)) then
 (nea' (4 : Int) (List.getD m_Phases (Int.toNat s18) (0 : Int)) l s18).bind fun y1 =>
 bif (inB y1.2.2.1.1 (List.length m_Flags)) then
 (nfe' (List.getD m_Flags (Int.toNat y1.2.2.1.1) false)).bind fun y2 =>
 (nea' (5 : Int) y2.1.1 y1.2.1.1 y1.2.2.1.1).bind fun y3 =>
 bif (inB y3.2.2.1.1 (List.length m_Leaving)) then
 (nfe' (List.getD m_Leaving (Int.toNat y3.2.2.1.1) false)).bind fun y4 =>
 (nea' (6 : Int) y4.1.1 y3.2.1.1 y3.2.2.1.1).bind fun y5 =>
 some (Sum.inl (((), (), s17, (IntKind.i64.wrap (s18 + (1 : Int))), ()), ((m_Phases, m_Flags, m_Leaving, m_Entries, ()), (y5.2.1.1, ()), ())))
 else
 none
 else
 none
 else
 none
 else
 some (Sum.inr (((), (), ()), ((m_Phases, m_Flags, m_Leaving, m_Entries, ()), (l, ()), ())))
noncomputable def nfw' : (T'7 × T'33) → Option ((Unit × Unit × Unit) × T'33) := iter (fun x => ndj' x.1.2.2.1 x.1.2.2.2.1 x.2.1.1 x.2.1.2.1 x.2.1.2.2.1 x.2.1.2.2.2.1 x.2.2.1.1) fuel
noncomputable def nhb' (b_Floors b_Debounce b_Room b_Park : Int) (b_Empty b_Full b_Over : Nat) (b_Cars : List (Car)) (m_Phases : List (Int)) (m_Flags m_Leaving : List (Bool)) (m_Entries : List (Entry)) : Option ((List (Record) × Unit) × Unit) :=
 (nde' b_Floors b_Debounce b_Room b_Park b_Empty b_Full b_Over b_Cars m_Phases m_Flags m_Leaving m_Entries).bind fun y1 =>
 bif (!y1.1.1) then
 some ((([] : List (Record)), ()), ())
 else
 (nfw' (((), (), ((List.length m_Phases : Nat) : Int), (0 : Int), ()), ((m_Phases, m_Flags, m_Leaving, m_Entries, ()), (([] : List (Record)), ()), ()))).bind fun y2 =>
 (nf5' (((), y2.2.1.2.2.2.1, ((List.length y2.2.1.2.2.2.1 : Nat) : Int), (0 : Int), ()), ((y2.2.2.1.1, ()), ()))).bind fun y3 =>
 some ((y3.2.1.1, ()), ())
noncomputable def nex' (b_Floors b_Debounce b_Room b_Park : Int) (b_Empty b_Full b_Over : Nat) (b_Cars : List (Car)) (r_Kind r_Floor r_Dir r_Car r_Value : Int) : Option ((ByteArray × Int × Unit) × Unit) :=
 (nd1' b_Floors b_Debounce b_Room b_Park b_Empty b_Full b_Over b_Cars r_Kind r_Floor r_Dir r_Car r_Value).bind fun y1 =>
 bif (!y1.1.1) then
 some (((ByteArray.mk (Array.mk [])), (1 : Int), ()), ())
 else
 let z0 : ByteArray := (textU [(IntKind.u8.wrap r_Kind), (IntKind.u8.wrap r_Floor), (IntKind.u8.wrap r_Dir), (IntKind.u8.wrap (IntKind.i64.wrap (r_Car + (2 : Int)))), (IntKind.u8.wrap r_Value)])
 (ni7' z0).bind fun y2 =>
 let z1 : ByteArray := (textU [y2.1.1])
 bif (Nat.ble ((ByteArray.size z0) + (ByteArray.size z1)) 4611686018427387904) then
 some (((z0 ++ z1), (0 : Int), ()), ())
 else
 none
noncomputable def nck' (s : ByteArray) (b_buf : List (Int)) : Option ((Int × Unit × Unit) × (T'36 × Unit)) :=
 wsF (fun b => (b.toNat : Int)) s b_buf
noncomputable def nec' (room : Int) (s_Halves_0 s_Halves_1 : ByteArray) (s_Select half budget : Int) : Option ((Int × Unit) × Unit) :=
 (ncm' room s_Halves_0 s_Halves_1 s_Select).bind fun y1 =>
 bif (!y1.1.1) then
 some (((1 : Int), ()), ())
 else
 Option.bind (bif (half != (0 : Int)) then
 some ((budget, (half != (1 : Int)), ()), ())
 else
 some ((budget, false, ()), ())) fun y2 =>
 bif y2.1.2.1 then
 some (((2 : Int), ()), ())
 else
 bif (decide (y2.1.1 < (0 : Int))) then
 some (((2 : Int), ()), ())
 else
 some (((0 : Int), ()), ())
noncomputable def nid' (s_Halves_0 s_Halves_1 : ByteArray) (s_Select b1 : Int) : Option (Unit × T'38) :=
 bif (inB b1 2) then
 let z0 : Nat := (Int.toNat b1)
 some ((), (((bif (Nat.beq z0 0) then (ByteArray.mk (Array.mk [])) else s_Halves_0), (bif (Nat.beq z0 1) then (ByteArray.mk (Array.mk [])) else s_Halves_1), s_Select, ()), (b1, ()), ()))
 else
 none
noncomputable def ndw' (room : Int) (s_Halves_0 s_Halves_1 : ByteArray) (s_Select half budget b0 : Int) : Option ((Unit × Int × Int × Unit) × T'38) :=
 (nec' room s_Halves_0 s_Halves_1 s_Select half budget).bind fun y1 =>
 bif (y1.1.1 != (0 : Int)) then
 some (((), (0 : Int), y1.1.1, ()), (((ByteArray.mk (Array.mk [])), (ByteArray.mk (Array.mk [])), (0 : Int), ()), (b0, ()), ()))
 else
 bif (budget == (0 : Int)) then
 some (((), (0 : Int), (8 : Int), ()), ((s_Halves_0, s_Halves_1, s_Select, ()), (b0, ()), ()))
 else
 (nid' s_Halves_0 s_Halves_1 s_Select b0).bind fun y2 =>
 some (((), (IntKind.i64.wrap (budget - (1 : Int))), (0 : Int), ()), ((y2.2.1.1, y2.2.1.2.1, y2.2.1.2.2.1, ()), (y2.2.2.1.1, ()), ()))
noncomputable def nht' (room : Int) (s_Halves_0 s_Halves_1 : ByteArray) (s_Select half budget : Int) : Option ((Unit × Int × Int × Unit) × (T'37 × Unit)) :=
 (ndw' room s_Halves_0 s_Halves_1 s_Select half budget half).bind fun y1 =>
 some (((), y1.1.2.1, y1.1.2.2.1, ()), ((y1.2.1.1, y1.2.1.2.1, y1.2.1.2.2.1, ()), ()))
noncomputable def nc3' (b_buf : List (Int)) : Option ((ByteArray × Unit) × (T'36 × Unit)) :=
 bif someL b_buf && List.all b_buf (fun n => decide (0 ≤ n) && decide (n < 256)) then some ((textU b_buf, ()), (((), b_buf, ()), ())) else none
noncomputable def nee' (room : Int) (s_Halves_0 s_Halves_1 : ByteArray) (s_Select half : Int) (data : ByteArray) (budget : Int) : Option ((Unit × Int × Int × Unit) × (T'37 × Unit)) :=
 (nec' room s_Halves_0 s_Halves_1 s_Select half budget).bind fun y1 =>
 bif (y1.1.1 != (0 : Int)) then
 some (((), (0 : Int), y1.1.1, ()), (((ByteArray.mk (Array.mk [])), (ByteArray.mk (Array.mk [])), (0 : Int), ()), ()))
 else
 bif (inB half 2) then
 bif (decide ((IntKind.i64.wrap (room - ((ByteArray.size (List.getD [s_Halves_0, s_Halves_1] (Int.toNat half) (ByteArray.mk (Array.mk []))) : Nat) : Int))) < ((ByteArray.size data : Nat) : Int))) then
 some (((), (0 : Int), (7 : Int), ()), (((ByteArray.mk (Array.mk [])), (ByteArray.mk (Array.mk [])), (0 : Int), ()), ()))
 else
 bif (decide (budget < ((ByteArray.size data : Nat) : Int))) then
 bif (inB half 2) then
 let z0 : ByteArray := (List.getD [s_Halves_0, s_Halves_1] (Int.toNat half) (ByteArray.mk (Array.mk [])))
 bif ((decide ((0 : Int) ≤ budget)) && (decide (budget ≤ (((ByteArray.size data) : Nat) : Int)))) then
 let z1 : ByteArray := (ByteArray.extract data 0 (Int.toNat budget))
 bif (Nat.ble ((ByteArray.size z0) + (ByteArray.size z1)) 4611686018427387904) then
 let z2 : ByteArray := (z0 ++ z1)
 bif (inB half 2) then
 let z3 : Nat := (Int.toNat half)
 some (((), (0 : Int), (8 : Int), ()), (((bif (Nat.beq z3 0) then z2 else s_Halves_0), (bif (Nat.beq z3 1) then z2 else s_Halves_1), s_Select, ()), ()))
 else
 none
 else
 none
 else
 none
 else
 none
 else
 bif (inB half 2) then
 let z4 : ByteArray := (List.getD [s_Halves_0, s_Halves_1] (Int.toNat half) (ByteArray.mk (Array.mk [])))
 bif (Nat.ble ((ByteArray.size z4) + (ByteArray.size data)) 4611686018427387904) then
 let z5 : ByteArray := (z4 ++ data)
 bif (inB half 2) then
 let z6 : Nat := (Int.toNat half)
 some (((), (IntKind.i64.wrap (budget - ((ByteArray.size data : Nat) : Int))), (0 : Int), ()), (((bif (Nat.beq z6 0) then z5 else s_Halves_0), (bif (Nat.beq z6 1) then z5 else s_Halves_1), s_Select, ()), ()))
 else
 none
 else
 none
 else
 none
 else
 none
noncomputable def nh2' (s_Halves_0 s_Halves_1 : ByteArray) (s_Select b1 : Int) : Option (Unit × T'38) :=
 some ((), ((s_Halves_0, s_Halves_1, b1, ()), (b1, ()), ()))
noncomputable def ndo' (room : Int) (s_Halves_0 s_Halves_1 : ByteArray) (s_Select half budget b0 : Int) : Option ((Unit × Int × Int × Unit) × T'38) :=
 (nec' room s_Halves_0 s_Halves_1 s_Select half budget).bind fun y1 =>
 bif (y1.1.1 != (0 : Int)) then
 some (((), (0 : Int), y1.1.1, ()), (((ByteArray.mk (Array.mk [])), (ByteArray.mk (Array.mk [])), (0 : Int), ()), (b0, ()), ()))
 else
 bif (budget == (0 : Int)) then
 some (((), (0 : Int), (8 : Int), ()), ((s_Halves_0, s_Halves_1, s_Select, ()), (b0, ()), ()))
 else
 (nh2' s_Halves_0 s_Halves_1 s_Select b0).bind fun y2 =>
 some (((), (IntKind.i64.wrap (budget - (1 : Int))), (0 : Int), ()), ((y2.2.1.1, y2.2.1.2.1, y2.2.1.2.2.1, ()), (y2.2.2.1.1, ()), ()))
noncomputable def nhc' (room : Int) (s_Halves_0 s_Halves_1 : ByteArray) (s_Select half budget : Int) : Option ((Unit × Int × Int × Unit) × (T'37 × Unit)) :=
 (ndo' room s_Halves_0 s_Halves_1 s_Select half budget half).bind fun y1 =>
 some (((), y1.1.2.1, y1.1.2.2.1, ()), ((y1.2.1.1, y1.2.1.2.1, y1.2.1.2.2.1, ()), ()))
noncomputable def ndt' (budget : Int) (s36 : List (Record)) (s37 s38 b_Floors b_Debounce b_Room b_Park : Int) (b_Empty b_Full b_Over : Nat) (b_Cars : List (Car)) (s_Halves_0 s_Halves_1 : ByteArray) (s_Select : Int) (b8_Halves_0 b8_Halves_1 : ByteArray) (b8_Select : Int) (text_buf : List (Int)) : Option (Sum (T'39 × T'40) (T'41 × T'40)) :=
 bif (decide (s38 < s37)) then
 bif (inB s38 (List.length s36)) then
 let z0 : Record := (List.getD s36 (Int.toNat s38) (Record.mk (0 : Int) (0 : Int) (0 : Int) (0 : Int) (0 : Int)))
 (nex' b_Floors b_Debounce b_Room b_Park b_Empty b_Full b_Over b_Cars z0.Kind z0.Floor z0.Dir z0.Car z0.Value).bind fun y1 =>
 (nck' y1.1.1 text_buf).bind fun y2 =>
 some (Sum.inl ((budget, (), (), (), (), s36, s37, (IntKind.i64.wrap (s38 + (1 : Int))), ()), ((b_Floors, b_Debounce, b_Room, b_Park, b_Empty, b_Full, b_Over, b_Cars, ()), (s_Halves_0, s_Halves_1, s_Select, ()), (b8_Halves_0, b8_Halves_1, b8_Select, ()), ((), y2.2.1.2.1, ()), ())))
 else
 none
 else
 some (Sum.inr ((budget, (), (), (), (), ()), ((b_Floors, b_Debounce, b_Room, b_Park, b_Empty, b_Full, b_Over, b_Cars, ()), (s_Halves_0, s_Halves_1, s_Select, ()), (b8_Halves_0, b8_Halves_1, b8_Select, ()), ((), text_buf, ()), ())))
noncomputable def ngl' : (T'39 × T'40) → Option (T'41 × T'40) := iter (fun x => ndt' x.1.1 x.1.2.2.2.2.2.1 x.1.2.2.2.2.2.2.1 x.1.2.2.2.2.2.2.2.1 x.2.1.1 x.2.1.2.1 x.2.1.2.2.1 x.2.1.2.2.2.1 x.2.1.2.2.2.2.1 x.2.1.2.2.2.2.2.1 x.2.1.2.2.2.2.2.2.1 x.2.1.2.2.2.2.2.2.2.1 x.2.2.1.1 x.2.2.1.2.1 x.2.2.1.2.2.1 x.2.2.2.1.1 x.2.2.2.1.2.1 x.2.2.2.1.2.2.1 x.2.2.2.2.1.2.1) fuel
noncomputable def ngb' (b_Floors b_Debounce b_Room b_Park : Int) (b_Empty b_Full b_Over : Nat) (b_Cars : List (Car)) (s_Halves_0 s_Halves_1 : ByteArray) (s_Select : Int) (m_Phases : List (Int)) (m_Flags m_Leaving : List (Bool)) (m_Entries : List (Entry)) (budget : Int) : Option ((Unit × Int × Int × Unit) × (T'37 × Unit)) :=
 (ncm' b_Room s_Halves_0 s_Halves_1 s_Select).bind fun y1 =>
 bif (!y1.1.1) then
 some (((), (0 : Int), (1 : Int), ()), (((ByteArray.mk (Array.mk [])), (ByteArray.mk (Array.mk [])), (0 : Int), ()), ()))
 else
 bif (decide (budget < (0 : Int))) then
 some (((), (0 : Int), (1 : Int), ()), (((ByteArray.mk (Array.mk [])), (ByteArray.mk (Array.mk [])), (0 : Int), ()), ()))
 else
 (nde' b_Floors b_Debounce b_Room b_Park b_Empty b_Full b_Over b_Cars m_Phases m_Flags m_Leaving m_Entries).bind fun y2 =>
 bif (!y2.1.1) then
 some (((), (0 : Int), (1 : Int), ()), (((ByteArray.mk (Array.mk [])), (ByteArray.mk (Array.mk [])), (0 : Int), ()), ()))
 else
 (nhb' b_Floors b_Debounce b_Room b_Park b_Empty b_Full b_Over b_Cars m_Phases m_Flags m_Leaving m_Entries).bind fun y3 =>
 (ngl' ((budget, (), (), (), (), y3.1.1, ((List.length y3.1.1 : Nat) : Int), (0 : Int), ()), ((b_Floors, b_Debounce, b_Room, b_Park, b_Empty, b_Full, b_Over, b_Cars, ()), (s_Halves_0, s_Halves_1, s_Select, ()), ((ByteArray.mk (Array.mk [])), (ByteArray.mk (Array.mk [])), (0 : Int), ()), ((), ([] : List (Int)), ()), ()))).bind fun y4 =>
 let z0 : Int := (IntKind.i64.wrap ((1 : Int) - y4.2.2.1.2.2.1))
 (nht' y4.2.1.2.2.1 y4.2.2.1.1 y4.2.2.1.2.1 y4.2.2.1.2.2.1 z0 y4.1.1).bind fun y5 =>
 Option.bind (bif (y5.1.2.2.1 == (0 : Int)) then
 (nc3' y4.2.2.2.2.1.2.1).bind fun y6 =>
 (nee' y4.2.1.2.2.1 y5.2.1.1 y5.2.1.2.1 y5.2.1.2.2.1 z0 y6.1.1 y5.1.2.1).bind fun y7 =>
 some ((y7.1.2.1, (), (), (), z0, y7.1.2.2.1, ()), ((y4.2.1.1, y4.2.1.2.1, y4.2.1.2.2.1, y4.2.1.2.2.2.1, y4.2.1.2.2.2.2.1, y4.2.1.2.2.2.2.2.1, y4.2.1.2.2.2.2.2.2.1, y4.2.1.2.2.2.2.2.2.2.1, ()), (y7.2.1.1, y7.2.1.2.1, y7.2.1.2.2.1, ()), (y4.2.2.2.1.1, y4.2.2.2.1.2.1, y4.2.2.2.1.2.2.1, ()), ()))
 else
 some ((y5.1.2.1, (), (), (), z0, y5.1.2.2.1, ()), ((y4.2.1.1, y4.2.1.2.1, y4.2.1.2.2.1, y4.2.1.2.2.2.1, y4.2.1.2.2.2.2.1, y4.2.1.2.2.2.2.2.1, y4.2.1.2.2.2.2.2.2.1, y4.2.1.2.2.2.2.2.2.2.1, ()), (y5.2.1.1, y5.2.1.2.1, y5.2.1.2.2.1, ()), (y4.2.2.2.1.1, y4.2.2.2.1.2.1, y4.2.2.2.1.2.2.1, ()), ()))) fun y8 =>
 bif (y8.1.2.2.2.2.2.1 == (0 : Int)) then
 (nhc' y8.2.1.2.2.1 y8.2.2.1.1 y8.2.2.1.2.1 y8.2.2.1.2.2.1 y8.1.2.2.2.2.1 y8.1.1).bind fun y9 =>
 some (((), y9.1.2.1, y9.1.2.2.1, ()), ((y9.2.1.1, y9.2.1.2.1, y9.2.1.2.2.1, ()), ()))
 else
 some (((), y8.1.1, y8.1.2.2.2.2.2.1, ()), ((y8.2.2.1.1, y8.2.2.1.2.1, y8.2.2.1.2.2.1, ()), ()))
noncomputable def nhv' (b_Floors b_Debounce b_Room b_Park : Int) (b_Empty b_Full b_Over : Nat) (b_Cars : List (Car)) (s_Halves_0 s_Halves_1 : ByteArray) (s_Select budget : Int) : Option (T'7 × (T'37 × T'5 × Unit)) :=
 (nfm' b_Floors b_Debounce b_Room b_Park b_Empty b_Full b_Over b_Cars s_Halves_0 s_Halves_1 s_Select).bind fun y1 =>
 (ngb' b_Floors b_Debounce b_Room b_Park b_Empty b_Full b_Over b_Cars s_Halves_0 s_Halves_1 s_Select y1.2.1.1 y1.2.1.2.1 y1.2.1.2.2.1 y1.2.1.2.2.2.1 budget).bind fun y2 =>
 bif (y2.1.2.2.1 != (0 : Int)) then
 some (((), (), (0 : Int), y2.1.2.2.1, ()), ((y2.2.1.1, y2.2.1.2.1, y2.2.1.2.2.1, ()), (([] : List (Int)), ([] : List (Bool)), ([] : List (Bool)), ([] : List (Entry)), ()), ()))
 else
 some (((), (), y2.1.2.1, (0 : Int), ()), ((y2.2.1.1, y2.2.1.2.1, y2.2.1.2.2.1, ()), (y1.2.1.1, y1.2.1.2.1, y1.2.1.2.2.1, y1.2.1.2.2.2.1, ()), ()))
noncomputable def nfk' (b_Floors b_Debounce b_Room b_Park : Int) (b_Empty b_Full b_Over : Nat) (b_Cars : List (Car)) (m_Phases : List (Int)) (m_Flags m_Leaving : List (Bool)) (m_Entries : List (Entry)) : Option ((Bool × Unit) × Unit) :=
 Option.bind ((nde' b_Floors b_Debounce b_Room b_Park b_Empty b_Full b_Over b_Cars m_Phases m_Flags m_Leaving m_Entries).bind fun y1 =>
 bif y1.1.1 then
 some (((decide ((IntKind.i64.wrap ((IntKind.i64.wrap ((18 : Int) * (IntKind.i64.wrap (((List.length b_Cars : Nat) : Int) + ((List.length m_Entries : Nat) : Int))))) + (6 : Int))) ≤ b_Room)), ()), ())
 else
 some ((false, ()), ())) fun y2 =>
 some ((y2.1.1, ()), ())
noncomputable def ncz' (s : List (Int)) : Option ((List (Int) × Unit) × Unit) :=
 cloF s
noncomputable def nbw' (s : List (Bool)) : Option ((List (Bool) × Unit) × Unit) :=
 cloF s
noncomputable def nbz' (s : List (Entry)) : Option ((List (Entry) × Unit) × Unit) :=
 cloF s
noncomputable def nf3' (m_Phases : List (Int)) (m_Flags m_Leaving : List (Bool)) (m_Entries : List (Entry)) : Option ((Unit × Unit) × (T'5 × Unit)) :=
 (ncz' m_Phases).bind fun y1 =>
 (nbw' m_Flags).bind fun y2 =>
 (nbw' m_Leaving).bind fun y3 =>
 (nbz' m_Entries).bind fun y4 =>
 some (((), ()), ((y1.1.1, y2.1.1, y3.1.1, y4.1.1, ()), ()))
noncomputable def nfr'  : Option ((Unit × Unit) × (T'42 × Unit)) :=
 some (((), ()), (((-1 : Int), (0 : Int), (0 : Int), ([] : List (Duty)), (0 : Int), false, ()), ()))
noncomputable def ndc' (s53 : List (Entry)) (s54 s55 b_Floors b_Debounce b_Room b_Park : Int) (b_Empty b_Full b_Over : Nat) (b_Cars : List (Car)) (b6_Image_Phases : List (Int)) (b6_Image_Flags b6_Image_Leaving : List (Bool)) (b6_Image_Entries : List (Entry)) (b6_Store_Halves_0 b6_Store_Halves_1 : ByteArray) (b6_Store_Select : Int) (b6_Contacts : List (Debounced)) (b6_Beliefs : List (Belief)) (b6_Cars : List (NewCar)) (b6_Loads : List (Loaded)) (b6_Expect : List (Int)) (b6_Lit : List (Calls)) (b6_Tick b6_Faults b6_Refused : Int) (out_Image_Phases : List (Int)) (out_Image_Flags out_Image_Leaving : List (Bool)) (out_Image_Entries : List (Entry)) (out_Store_Halves_0 out_Store_Halves_1 : ByteArray) (out_Store_Select : Int) (out_Contacts : List (Debounced)) (out_Beliefs : List (Belief)) (out_Cars : List (NewCar)) (out_Loads : List (Loaded)) (out_Expect : List (Int)) (out_Lit : List (Calls)) (out_Tick out_Faults out_Refused : Int) : Option (Sum (T'47 × T'48) ((Unit × Unit × Unit) × (T'43 × T'43 × Unit))) :=
 bif (decide (s55 < s54)) then
 bif (inB s55 (List.length s53)) then
 let z0 : Entry := (List.getD s53 (Int.toNat s55) (Entry.mk (0 : Int) (0 : Int) (0 : Int) (0 : Int) false))
 Option.bind (bif (decide ((0 : Int) ≤ z0.Car)) then
 bif (inB z0.Car (List.length b_Cars)) then
 some (((), (), (), (List.getD b_Cars (Int.toNat z0.Car) (Car.mk (0 : Int) (0 : Int) (0 : Int) (0 : Int) (0 : Int) (0 : Int) (0 : Int) (0 : Int) (0 : Int))).Deadline, s53, s54, s55, ()), ((b_Floors, b_Debounce, b_Room, b_Park, b_Empty, b_Full, b_Over, b_Cars, ()), (b6_Image_Phases, b6_Image_Flags, b6_Image_Leaving, b6_Image_Entries, b6_Store_Halves_0, b6_Store_Halves_1, b6_Store_Select, b6_Contacts, b6_Beliefs, b6_Cars, b6_Loads, b6_Expect, b6_Lit, b6_Tick, b6_Faults, b6_Refused, ()), (out_Image_Phases, out_Image_Flags, out_Image_Leaving, out_Image_Entries, out_Store_Halves_0, out_Store_Halves_1, out_Store_Select, out_Contacts, out_Beliefs, out_Cars, out_Loads, out_Expect, out_Lit, out_Tick, out_Faults, out_Refused, ()), ()))
 else
 none
 else
 some (((), (), (), (0 : Int), s53, s54, s55, ()), ((b_Floors, b_Debounce, b_Room, b_Park, b_Empty, b_Full, b_Over, b_Cars, ()), (b6_Image_Phases, b6_Image_Flags, b6_Image_Leaving, b6_Image_Entries, b6_Store_Halves_0, b6_Store_Halves_1, b6_Store_Select, b6_Contacts, b6_Beliefs, b6_Cars, b6_Loads, b6_Expect, b6_Lit, b6_Tick, b6_Faults, b6_Refused, ()), (out_Image_Phases, out_Image_Flags, out_Image_Leaving, out_Image_Entries, out_Store_Halves_0, out_Store_Halves_1, out_Store_Select, out_Contacts, out_Beliefs, out_Cars, out_Loads, out_Expect, out_Lit, out_Tick, out_Faults, out_Refused, ()), ()))) fun y1 =>
 let z1 : List (Int) := [y1.1.2.2.2.1]
 bif (Nat.ble ((List.length y1.2.2.2.1.2.2.2.2.2.2.2.2.2.2.2.1) + (List.length z1)) 2147483648) then
 some (Sum.inl (((), (), (), y1.1.2.2.2.2.1, y1.1.2.2.2.2.2.1, (IntKind.i64.wrap (y1.1.2.2.2.2.2.2.1 + (1 : Int))), ()), ((y1.2.1.1, y1.2.1.2.1, y1.2.1.2.2.1, y1.2.1.2.2.2.1, y1.2.1.2.2.2.2.1, y1.2.1.2.2.2.2.2.1, y1.2.1.2.2.2.2.2.2.1, y1.2.1.2.2.2.2.2.2.2.1, ()), (y1.2.2.1.1, y1.2.2.1.2.1, y1.2.2.1.2.2.1, y1.2.2.1.2.2.2.1, y1.2.2.1.2.2.2.2.1, y1.2.2.1.2.2.2.2.2.1, y1.2.2.1.2.2.2.2.2.2.1, y1.2.2.1.2.2.2.2.2.2.2.1, y1.2.2.1.2.2.2.2.2.2.2.2.1, y1.2.2.1.2.2.2.2.2.2.2.2.2.1, y1.2.2.1.2.2.2.2.2.2.2.2.2.2.1, y1.2.2.1.2.2.2.2.2.2.2.2.2.2.2.1, y1.2.2.1.2.2.2.2.2.2.2.2.2.2.2.2.1, y1.2.2.1.2.2.2.2.2.2.2.2.2.2.2.2.2.1, y1.2.2.1.2.2.2.2.2.2.2.2.2.2.2.2.2.2.1, y1.2.2.1.2.2.2.2.2.2.2.2.2.2.2.2.2.2.2.1, ()), (y1.2.2.2.1.1, y1.2.2.2.1.2.1, y1.2.2.2.1.2.2.1, y1.2.2.2.1.2.2.2.1, y1.2.2.2.1.2.2.2.2.1, y1.2.2.2.1.2.2.2.2.2.1, y1.2.2.2.1.2.2.2.2.2.2.1, y1.2.2.2.1.2.2.2.2.2.2.2.1, y1.2.2.2.1.2.2.2.2.2.2.2.2.1, y1.2.2.2.1.2.2.2.2.2.2.2.2.2.1, y1.2.2.2.1.2.2.2.2.2.2.2.2.2.2.1, (y1.2.2.2.1.2.2.2.2.2.2.2.2.2.2.2.1 ++ z1), y1.2.2.2.1.2.2.2.2.2.2.2.2.2.2.2.2.1, y1.2.2.2.1.2.2.2.2.2.2.2.2.2.2.2.2.2.1, y1.2.2.2.1.2.2.2.2.2.2.2.2.2.2.2.2.2.2.1, y1.2.2.2.1.2.2.2.2.2.2.2.2.2.2.2.2.2.2.2.1, ()), ())))
 else
 none
 else
 none
 else
 some (Sum.inr (((), (), ()), ((b6_Image_Phases, b6_Image_Flags, b6_Image_Leaving, b6_Image_Entries, b6_Store_Halves_0, b6_Store_Halves_1, b6_Store_Select, b6_Contacts, b6_Beliefs, b6_Cars, b6_Loads, b6_Expect, b6_Lit, b6_Tick, b6_Faults, b6_Refused, ()), (out_Image_Phases, out_Image_Flags, out_Image_Leaving, out_Image_Entries, out_Store_Halves_0, out_Store_Halves_1, out_Store_Select, out_Contacts, out_Beliefs, out_Cars, out_Loads, out_Expect, out_Lit, out_Tick, out_Faults, out_Refused, ()), ())))
noncomputable def ndx' : (T'47 × T'48) → Option ((Unit × Unit × Unit) × (T'43 × T'43 × Unit)) := iter (fun x => ndc' x.1.2.2.2.1 x.1.2.2.2.2.1 x.1.2.2.2.2.2.1 x.2.1.1 x.2.1.2.1 x.2.1.2.2.1 x.2.1.2.2.2.1 x.2.1.2.2.2.2.1 x.2.1.2.2.2.2.2.1 x.2.1.2.2.2.2.2.2.1 x.2.1.2.2.2.2.2.2.2.1 x.2.2.1.1 x.2.2.1.2.1 x.2.2.1.2.2.1 x.2.2.1.2.2.2.1 x.2.2.1.2.2.2.2.1 x.2.2.1.2.2.2.2.2.1 x.2.2.1.2.2.2.2.2.2.1 x.2.2.1.2.2.2.2.2.2.2.1 x.2.2.1.2.2.2.2.2.2.2.2.1 x.2.2.1.2.2.2.2.2.2.2.2.2.1 x.2.2.1.2.2.2.2.2.2.2.2.2.2.1 x.2.2.1.2.2.2.2.2.2.2.2.2.2.2.1 x.2.2.1.2.2.2.2.2.2.2.2.2.2.2.2.1 x.2.2.1.2.2.2.2.2.2.2.2.2.2.2.2.2.1 x.2.2.1.2.2.2.2.2.2.2.2.2.2.2.2.2.2.1 x.2.2.1.2.2.2.2.2.2.2.2.2.2.2.2.2.2.2.1 x.2.2.2.1.1 x.2.2.2.1.2.1 x.2.2.2.1.2.2.1 x.2.2.2.1.2.2.2.1 x.2.2.2.1.2.2.2.2.1 x.2.2.2.1.2.2.2.2.2.1 x.2.2.2.1.2.2.2.2.2.2.1 x.2.2.2.1.2.2.2.2.2.2.2.1 x.2.2.2.1.2.2.2.2.2.2.2.2.1 x.2.2.2.1.2.2.2.2.2.2.2.2.2.1 x.2.2.2.1.2.2.2.2.2.2.2.2.2.2.1 x.2.2.2.1.2.2.2.2.2.2.2.2.2.2.2.1 x.2.2.2.1.2.2.2.2.2.2.2.2.2.2.2.2.1 x.2.2.2.1.2.2.2.2.2.2.2.2.2.2.2.2.2.1 x.2.2.2.1.2.2.2.2.2.2.2.2.2.2.2.2.2.2.1 x.2.2.2.1.2.2.2.2.2.2.2.2.2.2.2.2.2.2.2.1) fuel
noncomputable def nc9' (s42 s43 b_Floors b_Debounce b_Room b_Park : Int) (b_Empty b_Full b_Over : Nat) (b_Cars : List (Car)) (m_Phases : List (Int)) (m_Flags m_Leaving : List (Bool)) (m_Entries : List (Entry)) (b6_Image_Phases : List (Int)) (b6_Image_Flags b6_Image_Leaving : List (Bool)) (b6_Image_Entries : List (Entry)) (b6_Store_Halves_0 b6_Store_Halves_1 : ByteArray) (b6_Store_Select : Int) (b6_Contacts : List (Debounced)) (b6_Beliefs : List (Belief)) (b6_Cars : List (NewCar)) (b6_Loads : List (Loaded)) (b6_Expect : List (Int)) (b6_Lit : List (Calls)) (b6_Tick b6_Faults b6_Refused : Int) (out_Image_Phases : List (Int)) (out_Image_Flags out_Image_Leaving : List (Bool)) (out_Image_Entries : List (Entry)) (out_Store_Halves_0 out_Store_Halves_1 : ByteArray) (out_Store_Select : Int) (out_Contacts : List (Debounced)) (out_Beliefs : List (Belief)) (out_Cars : List (NewCar)) (out_Loads : List (Loaded)) (out_Expect : List (Int)) (out_Lit : List (Calls)) (out_Tick out_Faults out_Refused : Int) : Option (Sum (T'44 × T'45) (T'46 × T'45)) :=
 bif (decide (s43 < s42)) then
 (nfr').bind fun y1 =>
 let z0 : List (Belief) := [(Belief.mk y1.2.1.1 y1.2.1.2.1 y1.2.1.2.2.1 y1.2.1.2.2.2.1 y1.2.1.2.2.2.2.1 y1.2.1.2.2.2.2.2.1)]
 bif (Nat.ble ((List.length out_Beliefs) + (List.length z0)) 2147483648) then
 some (Sum.inl (((), (), (), (), s42, (IntKind.i64.wrap (s43 + (1 : Int))), ()), ((b_Floors, b_Debounce, b_Room, b_Park, b_Empty, b_Full, b_Over, b_Cars, ()), (m_Phases, m_Flags, m_Leaving, m_Entries, ()), (b6_Image_Phases, b6_Image_Flags, b6_Image_Leaving, b6_Image_Entries, b6_Store_Halves_0, b6_Store_Halves_1, b6_Store_Select, b6_Contacts, b6_Beliefs, b6_Cars, b6_Loads, b6_Expect, b6_Lit, b6_Tick, b6_Faults, b6_Refused, ()), (out_Image_Phases, out_Image_Flags, out_Image_Leaving, out_Image_Entries, out_Store_Halves_0, out_Store_Halves_1, out_Store_Select, out_Contacts, (out_Beliefs ++ z0), out_Cars, out_Loads, out_Expect, out_Lit, out_Tick, out_Faults, out_Refused, ()), ())))
 else
 none
 else
 some (Sum.inr (((), (), (), (), ()), ((b_Floors, b_Debounce, b_Room, b_Park, b_Empty, b_Full, b_Over, b_Cars, ()), (m_Phases, m_Flags, m_Leaving, m_Entries, ()), (b6_Image_Phases, b6_Image_Flags, b6_Image_Leaving, b6_Image_Entries, b6_Store_Halves_0, b6_Store_Halves_1, b6_Store_Select, b6_Contacts, b6_Beliefs, b6_Cars, b6_Loads, b6_Expect, b6_Lit, b6_Tick, b6_Faults, b6_Refused, ()), (out_Image_Phases, out_Image_Flags, out_Image_Leaving, out_Image_Entries, out_Store_Halves_0, out_Store_Halves_1, out_Store_Select, out_Contacts, out_Beliefs, out_Cars, out_Loads, out_Expect, out_Lit, out_Tick, out_Faults, out_Refused, ()), ())))
noncomputable def ndz' : (T'44 × T'45) → Option (T'46 × T'45) := iter (fun x => nc9' x.1.2.2.2.2.1 x.1.2.2.2.2.2.1 x.2.1.1 x.2.1.2.1 x.2.1.2.2.1 x.2.1.2.2.2.1 x.2.1.2.2.2.2.1 x.2.1.2.2.2.2.2.1 x.2.1.2.2.2.2.2.2.1 x.2.1.2.2.2.2.2.2.2.1 x.2.2.1.1 x.2.2.1.2.1 x.2.2.1.2.2.1 x.2.2.1.2.2.2.1 x.2.2.2.1.1 x.2.2.2.1.2.1 x.2.2.2.1.2.2.1 x.2.2.2.1.2.2.2.1 x.2.2.2.1.2.2.2.2.1 x.2.2.2.1.2.2.2.2.2.1 x.2.2.2.1.2.2.2.2.2.2.1 x.2.2.2.1.2.2.2.2.2.2.2.1 x.2.2.2.1.2.2.2.2.2.2.2.2.1 x.2.2.2.1.2.2.2.2.2.2.2.2.2.1 x.2.2.2.1.2.2.2.2.2.2.2.2.2.2.1 x.2.2.2.1.2.2.2.2.2.2.2.2.2.2.2.1 x.2.2.2.1.2.2.2.2.2.2.2.2.2.2.2.2.1 x.2.2.2.1.2.2.2.2.2.2.2.2.2.2.2.2.2.1 x.2.2.2.1.2.2.2.2.2.2.2.2.2.2.2.2.2.2.1 x.2.2.2.1.2.2.2.2.2.2.2.2.2.2.2.2.2.2.2.1 x.2.2.2.2.1.1 x.2.2.2.2.1.2.1 x.2.2.2.2.1.2.2.1 x.2.2.2.2.1.2.2.2.1 x.2.2.2.2.1.2.2.2.2.1 x.2.2.2.2.1.2.2.2.2.2.1 x.2.2.2.2.1.2.2.2.2.2.2.1 x.2.2.2.2.1.2.2.2.2.2.2.2.1 x.2.2.2.2.1.2.2.2.2.2.2.2.2.1 x.2.2.2.2.1.2.2.2.2.2.2.2.2.2.1 x.2.2.2.2.1.2.2.2.2.2.2.2.2.2.2.1 x.2.2.2.2.1.2.2.2.2.2.2.2.2.2.2.2.1 x.2.2.2.2.1.2.2.2.2.2.2.2.2.2.2.2.2.1 x.2.2.2.2.1.2.2.2.2.2.2.2.2.2.2.2.2.2.1 x.2.2.2.2.1.2.2.2.2.2.2.2.2.2.2.2.2.2.2.1 x.2.2.2.2.1.2.2.2.2.2.2.2.2.2.2.2.2.2.2.2.1) fuel
noncomputable def ngm' (b_Floors b_Debounce b_Room b_Park : Int) (b_Empty b_Full b_Over : Nat) (b_Cars : List (Car)) (m_Phases : List (Int)) (m_Flags m_Leaving : List (Bool)) (m_Entries : List (Entry)) (s_Halves_0 s_Halves_1 : ByteArray) (s_Select : Int) : Option ((Unit × Int × Unit) × (T'43 × Unit)) :=
 (nfk' b_Floors b_Debounce b_Room b_Park b_Empty b_Full b_Over b_Cars m_Phases m_Flags m_Leaving m_Entries).bind fun y1 =>
 bif (!y1.1.1) then
 some (((), (1 : Int), ()), ((([] : List (Int)), ([] : List (Bool)), ([] : List (Bool)), ([] : List (Entry)), (ByteArray.mk (Array.mk [])), (ByteArray.mk (Array.mk [])), (0 : Int), ([] : List (Debounced)), ([] : List (Belief)), ([] : List (NewCar)), ([] : List (Loaded)), ([] : List (Int)), ([] : List (Calls)), (0 : Int), (0 : Int), (0 : Int), ()), ()))
 else
 (ncm' b_Room s_Halves_0 s_Halves_1 s_Select).bind fun y2 =>
 bif (!y2.1.1) then
 some (((), (1 : Int), ()), ((([] : List (Int)), ([] : List (Bool)), ([] : List (Bool)), ([] : List (Entry)), (ByteArray.mk (Array.mk [])), (ByteArray.mk (Array.mk [])), (0 : Int), ([] : List (Debounced)), ([] : List (Belief)), ([] : List (NewCar)), ([] : List (Loaded)), ([] : List (Int)), ([] : List (Calls)), (0 : Int), (0 : Int), (0 : Int), ()), ()))
 else
 let z0 : Int := ((List.length b_Cars : Nat) : Int)
 (nf3' m_Phases m_Flags m_Leaving m_Entries).bind fun y3 =>
 bif (((decide ((0 : Int) ≤ z0)) && (decide (z0 ≤ z0))) && (decide (z0 ≤ (2147483648 : Int)))) then
 bif (((decide ((0 : Int) ≤ z0)) && (decide (z0 ≤ z0))) && (decide (z0 ≤ (2147483648 : Int)))) then
 bif (((decide ((0 : Int) ≤ z0)) && (decide (z0 ≤ z0))) && (decide (z0 ≤ (2147483648 : Int)))) then
 bif (((decide ((0 : Int) ≤ z0)) && (decide (z0 ≤ z0))) && (decide (z0 ≤ (2147483648 : Int)))) then
 (ndz' (((), (), (), (), ((List.length b_Cars : Nat) : Int), (0 : Int), ()), ((b_Floors, b_Debounce, b_Room, b_Park, b_Empty, b_Full, b_Over, b_Cars, ()), (m_Phases, m_Flags, m_Leaving, m_Entries, ()), (([] : List (Int)), ([] : List (Bool)), ([] : List (Bool)), ([] : List (Entry)), (ByteArray.mk (Array.mk [])), (ByteArray.mk (Array.mk [])), (0 : Int), ([] : List (Debounced)), ([] : List (Belief)), ([] : List (NewCar)), ([] : List (Loaded)), ([] : List (Int)), ([] : List (Calls)), (0 : Int), (0 : Int), (0 : Int), ()), (y3.2.1.1, y3.2.1.2.1, y3.2.1.2.2.1, y3.2.1.2.2.2.1, s_Halves_0, s_Halves_1, s_Select, (List.replicate (Int.toNat z0) (Debounced.mk (0 : Int) false false false false (0 : Int) (0 : Int) (0 : Int) (0 : Int) (0 : Int) (0 : Int) (0 : Int) (0 : Int) (0 : Int) (0 : Int) (0 : Int) (0 : Int) (0 : Int) (0 : Int) (0 : Int) (0 : Int) (0 : Int) (0 : Int) (0 : Int) (0 : Int) (0 : Int) (0 : Int) (0 : Int) (0 : Int) (0 : Int) (0 : Int) (0 : Int) (0 : Int) (0 : Int) (0 : Int) (0 : Int) (0 : Int) (0 : Int) (0 : Int) (0 : Int) (0 : Int))), ([] : List (Belief)), (List.replicate (Int.toNat z0) (NewCar.mk (0 : Int) (0 : Int) (0 : Int) (0 : Int) (0 : Int) false (0 : Int) (0 : Int) (0 : Int) (0 : Int) (0 : Int) (0 : Int) (0 : Int) false)), (List.replicate (Int.toNat z0) (Loaded.mk (0 : Int))), ([] : List (Int)), (List.replicate (Int.toNat z0) (Calls.mk (0 : Int) (0 : Int))), (0 : Int), (0 : Int), (0 : Int), ()), ()))).bind fun y4 =>
 (ndx' (((), (), (), y4.2.2.1.2.2.2.1, ((List.length y4.2.2.1.2.2.2.1 : Nat) : Int), (0 : Int), ()), ((y4.2.1.1, y4.2.1.2.1, y4.2.1.2.2.1, y4.2.1.2.2.2.1, y4.2.1.2.2.2.2.1, y4.2.1.2.2.2.2.2.1, y4.2.1.2.2.2.2.2.2.1, y4.2.1.2.2.2.2.2.2.2.1, ()), (y4.2.2.2.1.1, y4.2.2.2.1.2.1, y4.2.2.2.1.2.2.1, y4.2.2.2.1.2.2.2.1, y4.2.2.2.1.2.2.2.2.1, y4.2.2.2.1.2.2.2.2.2.1, y4.2.2.2.1.2.2.2.2.2.2.1, y4.2.2.2.1.2.2.2.2.2.2.2.1, y4.2.2.2.1.2.2.2.2.2.2.2.2.1, y4.2.2.2.1.2.2.2.2.2.2.2.2.2.1, y4.2.2.2.1.2.2.2.2.2.2.2.2.2.2.1, y4.2.2.2.1.2.2.2.2.2.2.2.2.2.2.2.1, y4.2.2.2.1.2.2.2.2.2.2.2.2.2.2.2.2.1, y4.2.2.2.1.2.2.2.2.2.2.2.2.2.2.2.2.2.1, y4.2.2.2.1.2.2.2.2.2.2.2.2.2.2.2.2.2.2.1, y4.2.2.2.1.2.2.2.2.2.2.2.2.2.2.2.2.2.2.2.1, ()), (y4.2.2.2.2.1.1, y4.2.2.2.2.1.2.1, y4.2.2.2.2.1.2.2.1, y4.2.2.2.2.1.2.2.2.1, y4.2.2.2.2.1.2.2.2.2.1, y4.2.2.2.2.1.2.2.2.2.2.1, y4.2.2.2.2.1.2.2.2.2.2.2.1, y4.2.2.2.2.1.2.2.2.2.2.2.2.1, y4.2.2.2.2.1.2.2.2.2.2.2.2.2.1, y4.2.2.2.2.1.2.2.2.2.2.2.2.2.2.1, y4.2.2.2.2.1.2.2.2.2.2.2.2.2.2.2.1, y4.2.2.2.2.1.2.2.2.2.2.2.2.2.2.2.2.1, y4.2.2.2.2.1.2.2.2.2.2.2.2.2.2.2.2.2.1, y4.2.2.2.2.1.2.2.2.2.2.2.2.2.2.2.2.2.2.1, y4.2.2.2.2.1.2.2.2.2.2.2.2.2.2.2.2.2.2.2.1, y4.2.2.2.2.1.2.2.2.2.2.2.2.2.2.2.2.2.2.2.2.1, ()), ()))).bind fun y5 =>
 some (((), (0 : Int), ()), ((y5.2.2.1.1, y5.2.2.1.2.1, y5.2.2.1.2.2.1, y5.2.2.1.2.2.2.1, y5.2.2.1.2.2.2.2.1, y5.2.2.1.2.2.2.2.2.1, y5.2.2.1.2.2.2.2.2.2.1, y5.2.2.1.2.2.2.2.2.2.2.1, y5.2.2.1.2.2.2.2.2.2.2.2.1, y5.2.2.1.2.2.2.2.2.2.2.2.2.1, y5.2.2.1.2.2.2.2.2.2.2.2.2.2.1, y5.2.2.1.2.2.2.2.2.2.2.2.2.2.2.1, y5.2.2.1.2.2.2.2.2.2.2.2.2.2.2.2.1, y5.2.2.1.2.2.2.2.2.2.2.2.2.2.2.2.2.1, y5.2.2.1.2.2.2.2.2.2.2.2.2.2.2.2.2.2.1, y5.2.2.1.2.2.2.2.2.2.2.2.2.2.2.2.2.2.2.1, ()), ()))
 else
 none
 else
 none
 else
 none
 else
 none
noncomputable def nbe' (b_Floors b_Debounce b_Room b_Park : Int) (b_Empty b_Full b_Over : Nat) (b_Cars : List (Car)) (s_Halves_0 s_Halves_1 : ByteArray) (s_Select budget : Int) : Option ((Unit × Int × Int × Unit) × (T'43 × Unit)) :=
 (nhv' b_Floors b_Debounce b_Room b_Park b_Empty b_Full b_Over b_Cars s_Halves_0 s_Halves_1 s_Select budget).bind fun y1 =>
 bif (y1.1.2.2.2.1 != (0 : Int)) then
 some (((), (0 : Int), y1.1.2.2.2.1, ()), ((([] : List (Int)), ([] : List (Bool)), ([] : List (Bool)), ([] : List (Entry)), y1.2.1.1, y1.2.1.2.1, y1.2.1.2.2.1, ([] : List (Debounced)), ([] : List (Belief)), ([] : List (NewCar)), ([] : List (Loaded)), ([] : List (Int)), ([] : List (Calls)), (0 : Int), (0 : Int), (0 : Int), ()), ()))
 else
 Option.bind (some (((), (), (), (), y1.1.2.2.1, ()), ((b_Floors, b_Debounce, b_Room, b_Park, b_Empty, b_Full, b_Over, b_Cars, ()), (y1.2.1.1, y1.2.1.2.1, y1.2.1.2.2.1, ()), (([] : List (Int)), ([] : List (Bool)), ([] : List (Bool)), ([] : List (Entry)), (ByteArray.mk (Array.mk [])), (ByteArray.mk (Array.mk [])), (0 : Int), ([] : List (Debounced)), ([] : List (Belief)), ([] : List (NewCar)), ([] : List (Loaded)), ([] : List (Int)), ([] : List (Calls)), (0 : Int), (0 : Int), (0 : Int), ()), (y1.2.2.1.1, y1.2.2.1.2.1, y1.2.2.1.2.2.1, y1.2.2.1.2.2.2.1, ()), ()))) fun y2 =>
 (ngm' y2.2.1.1 y2.2.1.2.1 y2.2.1.2.2.1 y2.2.1.2.2.2.1 y2.2.1.2.2.2.2.1 y2.2.1.2.2.2.2.2.1 y2.2.1.2.2.2.2.2.2.1 y2.2.1.2.2.2.2.2.2.2.1 y2.2.2.2.2.1.1 y2.2.2.2.2.1.2.1 y2.2.2.2.2.1.2.2.1 y2.2.2.2.2.1.2.2.2.1 y2.2.2.1.1 y2.2.2.1.2.1 y2.2.2.1.2.2.1).bind fun y3 =>
 bif (y3.1.2.1 != (0 : Int)) then
 some (((), (0 : Int), y3.1.2.1, ()), ((([] : List (Int)), ([] : List (Bool)), ([] : List (Bool)), ([] : List (Entry)), (ByteArray.mk (Array.mk [])), (ByteArray.mk (Array.mk [])), (0 : Int), ([] : List (Debounced)), ([] : List (Belief)), ([] : List (NewCar)), ([] : List (Loaded)), ([] : List (Int)), ([] : List (Calls)), (0 : Int), (0 : Int), (0 : Int), ()), ()))
 else
 some (((), y2.1.2.2.2.2.1, (0 : Int), ()), ((y3.2.1.1, y3.2.1.2.1, y3.2.1.2.2.1, y3.2.1.2.2.2.1, y3.2.1.2.2.2.2.1, y3.2.1.2.2.2.2.2.1, y3.2.1.2.2.2.2.2.2.1, y3.2.1.2.2.2.2.2.2.2.1, y3.2.1.2.2.2.2.2.2.2.2.1, y3.2.1.2.2.2.2.2.2.2.2.2.1, y3.2.1.2.2.2.2.2.2.2.2.2.2.1, y3.2.1.2.2.2.2.2.2.2.2.2.2.2.1, y3.2.1.2.2.2.2.2.2.2.2.2.2.2.2.1, y3.2.1.2.2.2.2.2.2.2.2.2.2.2.2.2.1, y3.2.1.2.2.2.2.2.2.2.2.2.2.2.2.2.2.1, y3.2.1.2.2.2.2.2.2.2.2.2.2.2.2.2.2.2.1, ()), ()))
noncomputable def nfa' (i : Int) (a_Phases : List (Int)) (a_Flags a_Leaving : List (Bool)) (a_Entries : List (Entry)) (b_Phases : List (Int)) (b_Flags b_Leaving : List (Bool)) (b_Entries : List (Entry)) : Option (Sum (T'8 × (T'5 × T'5 × Unit)) ((Unit × Unit) ⊕ ((Bool × Unit) × Unit))) :=
 bif (decide (i < ((List.length a_Entries : Nat) : Int))) then
 bif (inB i (List.length a_Entries)) then
 let z0 : Entry := (List.getD a_Entries (Int.toNat i) (Entry.mk (0 : Int) (0 : Int) (0 : Int) (0 : Int) false))
 bif (inB i (List.length b_Entries)) then
 let z1 : Entry := (List.getD b_Entries (Int.toNat i) (Entry.mk (0 : Int) (0 : Int) (0 : Int) (0 : Int) false))
 bif (!((z0.Floor == z1.Floor) && ((z0.Dir == z1.Dir) && ((z0.Car == z1.Car) && ((z0.Moves == z1.Moves) && ((z0.Moved == z1.Moved) && true)))))) then
 some (Sum.inr (Sum.inr ((false, ()), ())))
 else
 some (Sum.inl (((), (), (IntKind.i64.wrap (i + (1 : Int))), ()), ((a_Phases, a_Flags, a_Leaving, a_Entries, ()), (b_Phases, b_Flags, b_Leaving, b_Entries, ()), ())))
 else
 none
 else
 none
 else
 some (Sum.inr (Sum.inl ((), ())))
noncomputable def niw' : (T'8 × (T'5 × T'5 × Unit)) → Option ((Unit × Unit) ⊕ ((Bool × Unit) × Unit)) := iter (fun x => nfa' x.1.2.2.1 x.2.1.1 x.2.1.2.1 x.2.1.2.2.1 x.2.1.2.2.2.1 x.2.2.1.1 x.2.2.1.2.1 x.2.2.1.2.2.1 x.2.2.1.2.2.2.1) fuel
noncomputable def nfs' (i : Int) (a_Phases : List (Int)) (a_Flags a_Leaving : List (Bool)) (a_Entries : List (Entry)) (b_Phases : List (Int)) (b_Flags b_Leaving : List (Bool)) (b_Entries : List (Entry)) : Option (Sum (T'8 × (T'5 × T'5 × Unit)) (((Unit × Unit × Unit) × (T'5 × T'5 × Unit)) ⊕ ((Bool × Unit) × Unit))) :=
 bif (decide (i < ((List.length a_Leaving : Nat) : Int))) then
 bif (inB i (List.length a_Leaving)) then
 bif (inB i (List.length b_Leaving)) then
 bif (!((List.getD a_Leaving (Int.toNat i) false) == (List.getD b_Leaving (Int.toNat i) false))) then
 some (Sum.inr (Sum.inr ((false, ()), ())))
 else
 some (Sum.inl (((), (), (IntKind.i64.wrap (i + (1 : Int))), ()), ((a_Phases, a_Flags, a_Leaving, a_Entries, ()), (b_Phases, b_Flags, b_Leaving, b_Entries, ()), ())))
 else
 none
 else
 none
 else
 some (Sum.inr (Sum.inl (((), (), ()), ((a_Phases, a_Flags, a_Leaving, a_Entries, ()), (b_Phases, b_Flags, b_Leaving, b_Entries, ()), ()))))
noncomputable def nij' : (T'8 × (T'5 × T'5 × Unit)) → Option (((Unit × Unit × Unit) × (T'5 × T'5 × Unit)) ⊕ ((Bool × Unit) × Unit)) := iter (fun x => nfs' x.1.2.2.1 x.2.1.1 x.2.1.2.1 x.2.1.2.2.1 x.2.1.2.2.2.1 x.2.2.1.1 x.2.2.1.2.1 x.2.2.1.2.2.1 x.2.2.1.2.2.2.1) fuel
noncomputable def nfd' (i : Int) (a_Phases : List (Int)) (a_Flags a_Leaving : List (Bool)) (a_Entries : List (Entry)) (b_Phases : List (Int)) (b_Flags b_Leaving : List (Bool)) (b_Entries : List (Entry)) : Option (Sum (T'8 × (T'5 × T'5 × Unit)) (((Unit × Unit × Unit) × (T'5 × T'5 × Unit)) ⊕ ((Bool × Unit) × Unit))) :=
 bif (decide (i < ((List.length a_Flags : Nat) : Int))) then
 bif (inB i (List.length a_Flags)) then
 bif (inB i (List.length b_Flags)) then
 bif (!((List.getD a_Flags (Int.toNat i) false) == (List.getD b_Flags (Int.toNat i) false))) then
 some (Sum.inr (Sum.inr ((false, ()), ())))
 else
 some (Sum.inl (((), (), (IntKind.i64.wrap (i + (1 : Int))), ()), ((a_Phases, a_Flags, a_Leaving, a_Entries, ()), (b_Phases, b_Flags, b_Leaving, b_Entries, ()), ())))
 else
 none
 else
 none
 else
 some (Sum.inr (Sum.inl (((), (), ()), ((a_Phases, a_Flags, a_Leaving, a_Entries, ()), (b_Phases, b_Flags, b_Leaving, b_Entries, ()), ()))))
noncomputable def nh9' : (T'8 × (T'5 × T'5 × Unit)) → Option (((Unit × Unit × Unit) × (T'5 × T'5 × Unit)) ⊕ ((Bool × Unit) × Unit)) := iter (fun x => nfd' x.1.2.2.1 x.2.1.1 x.2.1.2.1 x.2.1.2.2.1 x.2.1.2.2.2.1 x.2.2.1.1 x.2.2.1.2.1 x.2.2.1.2.2.1 x.2.2.1.2.2.2.1) fuel
noncomputable def nfi' (i : Int) (a_Phases : List (Int)) (a_Flags a_Leaving : List (Bool)) (a_Entries : List (Entry)) (b_Phases : List (Int)) (b_Flags b_Leaving : List (Bool)) (b_Entries : List (Entry)) : Option (Sum (T'8 × (T'5 × T'5 × Unit)) (((Unit × Unit × Unit) × (T'5 × T'5 × Unit)) ⊕ ((Bool × Unit) × Unit))) :=
 bif (decide (i < ((List.length a_Phases : Nat) : Int))) then
 bif (inB i (List.length a_Phases)) then
 bif (inB i (List.length b_Phases)) then
 bif ((List.getD a_Phases (Int.toNat i) (0 : Int)) != (List.getD b_Phases (Int.toNat i) (0 : Int))) then
 some (Sum.inr (Sum.inr ((false, ()), ())))
 else
 some (Sum.inl (((), (), (IntKind.i64.wrap (i + (1 : Int))), ()), ((a_Phases, a_Flags, a_Leaving, a_Entries, ()), (b_Phases, b_Flags, b_Leaving, b_Entries, ()), ())))
 else
 none
 else
 none
 else
 some (Sum.inr (Sum.inl (((), (), ()), ((a_Phases, a_Flags, a_Leaving, a_Entries, ()), (b_Phases, b_Flags, b_Leaving, b_Entries, ()), ()))))
noncomputable def nin' : (T'8 × (T'5 × T'5 × Unit)) → Option (((Unit × Unit × Unit) × (T'5 × T'5 × Unit)) ⊕ ((Bool × Unit) × Unit)) := iter (fun x => nfi' x.1.2.2.1 x.2.1.1 x.2.1.2.1 x.2.1.2.2.1 x.2.1.2.2.2.1 x.2.2.1.1 x.2.2.1.2.1 x.2.2.1.2.2.1 x.2.2.1.2.2.2.1) fuel
noncomputable def nkh' (a_Phases : List (Int)) (a_Flags a_Leaving : List (Bool)) (a_Entries : List (Entry)) (b_Phases : List (Int)) (b_Flags b_Leaving : List (Bool)) (b_Entries : List (Entry)) : Option ((Bool × Unit) × Unit) :=
 bif (((List.length a_Phases : Nat) : Int) != ((List.length b_Phases : Nat) : Int)) then
 some ((false, ()), ())
 else
 bif (((List.length a_Flags : Nat) : Int) != ((List.length b_Flags : Nat) : Int)) then
 some ((false, ()), ())
 else
 bif (((List.length a_Leaving : Nat) : Int) != ((List.length b_Leaving : Nat) : Int)) then
 some ((false, ()), ())
 else
 bif (((List.length a_Entries : Nat) : Int) != ((List.length b_Entries : Nat) : Int)) then
 some ((false, ()), ())
 else
 (nin' (((), (), (0 : Int), ()), ((a_Phases, a_Flags, a_Leaving, a_Entries, ()), (b_Phases, b_Flags, b_Leaving, b_Entries, ()), ()))).bind fun y1 =>
 (match y1 with
 | .inl y2 =>
 (nh9' (((), (), (0 : Int), ()), ((y2.2.1.1, y2.2.1.2.1, y2.2.1.2.2.1, y2.2.1.2.2.2.1, ()), (y2.2.2.1.1, y2.2.2.1.2.1, y2.2.2.1.2.2.1, y2.2.2.1.2.2.2.1, ()), ()))).bind fun y3 =>
 (match y3 with
 | .inl y4 =>
 (nij' (((), (), (0 : Int), ()), ((y4.2.1.1, y4.2.1.2.1, y4.2.1.2.2.1, y4.2.1.2.2.2.1, ()), (y4.2.2.1.1, y4.2.2.1.2.1, y4.2.2.1.2.2.1, y4.2.2.1.2.2.2.1, ()), ()))).bind fun y5 =>
 (match y5 with
 | .inl y6 =>
 (niw' (((), (), (0 : Int), ()), ((y6.2.1.1, y6.2.1.2.1, y6.2.1.2.2.1, y6.2.1.2.2.2.1, ()), (y6.2.2.1.1, y6.2.2.1.2.1, y6.2.2.1.2.2.1, y6.2.2.1.2.2.2.1, ()), ()))).bind fun y7 =>
 (match y7 with
 | .inl y8 =>
 some ((true, ()), ())
 | .inr y8 =>
 some ((y8.1.1, ()), ()))
 | .inr y6 =>
 some ((y6.1.1, ()), ()))
 | .inr y4 =>
 some ((y4.1.1, ()), ()))
 | .inr y2 =>
 some ((y2.1.1, ()), ()))
noncomputable def nda' (a b : List (Calls)) (i : Int) : Option (Sum (T'49 × Unit) ((Unit × Unit) ⊕ ((Bool × Unit) × Unit))) :=
 bif (decide (i < ((List.length a : Nat) : Int))) then
 bif (inB i (List.length a)) then
 let z0 : Calls := (List.getD a (Int.toNat i) (Calls.mk (0 : Int) (0 : Int)))
 bif (inB i (List.length b)) then
 let z1 : Calls := (List.getD b (Int.toNat i) (Calls.mk (0 : Int) (0 : Int)))
 bif (!((z0.Up == z1.Up) && ((z0.Down == z1.Down) && true))) then
 some (Sum.inr (Sum.inr ((false, ()), ())))
 else
 some (Sum.inl ((a, b, (IntKind.i64.wrap (i + (1 : Int))), ()), ()))
 else
 none
 else
 none
 else
 some (Sum.inr (Sum.inl ((), ())))
noncomputable def ne5' : (T'49 × Unit) → Option ((Unit × Unit) ⊕ ((Bool × Unit) × Unit)) := iter (fun x => nda' x.1.1 x.1.2.1 x.1.2.2.1) fuel
noncomputable def ngq' (a b : List (Calls)) : Option ((Bool × Unit) × Unit) :=
 bif (((List.length a : Nat) : Int) != ((List.length b : Nat) : Int)) then
 some ((false, ()), ())
 else
 (ne5' ((a, b, (0 : Int), ()), ())).bind fun y1 =>
 (match y1 with
 | .inl y2 =>
 some ((true, ()), ())
 | .inr y2 =>
 some ((y2.1.1, ()), ()))
noncomputable def ndn' (a b : List (Int)) (i : Int) : Option (Sum (T'50 × Unit) ((Unit × Unit) ⊕ ((Bool × Unit) × Unit))) :=
 bif (decide (i < ((List.length a : Nat) : Int))) then
 bif (inB i (List.length a)) then
 bif (inB i (List.length b)) then
 bif ((List.getD a (Int.toNat i) (0 : Int)) != (List.getD b (Int.toNat i) (0 : Int))) then
 some (Sum.inr (Sum.inr ((false, ()), ())))
 else
 some (Sum.inl ((a, b, (IntKind.i64.wrap (i + (1 : Int))), ()), ()))
 else
 none
 else
 none
 else
 some (Sum.inr (Sum.inl ((), ())))
noncomputable def nf0' : (T'50 × Unit) → Option ((Unit × Unit) ⊕ ((Bool × Unit) × Unit)) := iter (fun x => ndn' x.1.1 x.1.2.1 x.1.2.2.1) fuel
noncomputable def ng8' (a b : List (Int)) : Option ((Bool × Unit) × Unit) :=
 bif (((List.length a : Nat) : Int) != ((List.length b : Nat) : Int)) then
 some ((false, ()), ())
 else
 (nf0' ((a, b, (0 : Int), ()), ())).bind fun y1 =>
 (match y1 with
 | .inl y2 =>
 some ((true, ()), ())
 | .inr y2 =>
 some ((y2.1.1, ()), ()))
noncomputable def ne9' (i a_Floor a_Dir a_Door : Int) (a_Duties : List (Duty)) (a_Still : Int) (a_Late : Bool) (b_Floor b_Dir b_Door : Int) (b_Duties : List (Duty)) (b_Still : Int) (b_Late : Bool) : Option (Sum (T'8 × (T'42 × T'42 × Unit)) ((Unit × Unit) ⊕ ((Bool × Unit) × Unit))) :=
 bif (decide (i < ((List.length a_Duties : Nat) : Int))) then
 bif (inB i (List.length a_Duties)) then
 let z0 : Duty := (List.getD a_Duties (Int.toNat i) (Duty.mk (0 : Int) (0 : Int) (0 : Int)))
 bif (inB i (List.length b_Duties)) then
 let z1 : Duty := (List.getD b_Duties (Int.toNat i) (Duty.mk (0 : Int) (0 : Int) (0 : Int)))
 bif (!((z0.Floor == z1.Floor) && ((z0.Dir == z1.Dir) && ((z0.Age == z1.Age) && true)))) then
 some (Sum.inr (Sum.inr ((false, ()), ())))
 else
 some (Sum.inl (((), (), (IntKind.i64.wrap (i + (1 : Int))), ()), ((a_Floor, a_Dir, a_Door, a_Duties, a_Still, a_Late, ()), (b_Floor, b_Dir, b_Door, b_Duties, b_Still, b_Late, ()), ())))
 else
 none
 else
 none
 else
 some (Sum.inr (Sum.inl ((), ())))
noncomputable def nie' : (T'8 × (T'42 × T'42 × Unit)) → Option ((Unit × Unit) ⊕ ((Bool × Unit) × Unit)) := iter (fun x => ne9' x.1.2.2.1 x.2.1.1 x.2.1.2.1 x.2.1.2.2.1 x.2.1.2.2.2.1 x.2.1.2.2.2.2.1 x.2.1.2.2.2.2.2.1 x.2.2.1.1 x.2.2.1.2.1 x.2.2.1.2.2.1 x.2.2.1.2.2.2.1 x.2.2.1.2.2.2.2.1 x.2.2.1.2.2.2.2.2.1) fuel
noncomputable def nkl' (a_Floor a_Dir a_Door : Int) (a_Duties : List (Duty)) (a_Still : Int) (a_Late : Bool) (b_Floor b_Dir b_Door : Int) (b_Duties : List (Duty)) (b_Still : Int) (b_Late : Bool) : Option ((Bool × Unit) × Unit) :=
 bif (a_Floor != b_Floor) then
 some ((false, ()), ())
 else
 bif (a_Dir != b_Dir) then
 some ((false, ()), ())
 else
 bif (a_Door != b_Door) then
 some ((false, ()), ())
 else
 bif (a_Still != b_Still) then
 some ((false, ()), ())
 else
 bif (!(a_Late == b_Late)) then
 some ((false, ()), ())
 else
 bif (((List.length a_Duties : Nat) : Int) != ((List.length b_Duties : Nat) : Int)) then
 some ((false, ()), ())
 else
 (nie' (((), (), (0 : Int), ()), ((a_Floor, a_Dir, a_Door, a_Duties, a_Still, a_Late, ()), (b_Floor, b_Dir, b_Door, b_Duties, b_Still, b_Late, ()), ()))).bind fun y1 =>
 (match y1 with
 | .inl y2 =>
 some ((true, ()), ())
 | .inr y2 =>
 some ((y2.1.1, ()), ()))
noncomputable def nfg' (i : Int) (a_Image_Phases : List (Int)) (a_Image_Flags a_Image_Leaving : List (Bool)) (a_Image_Entries : List (Entry)) (a_Store_Halves_0 a_Store_Halves_1 : ByteArray) (a_Store_Select : Int) (a_Contacts : List (Debounced)) (a_Beliefs : List (Belief)) (a_Cars : List (NewCar)) (a_Loads : List (Loaded)) (a_Expect : List (Int)) (a_Lit : List (Calls)) (a_Tick a_Faults a_Refused : Int) (b_Image_Phases : List (Int)) (b_Image_Flags b_Image_Leaving : List (Bool)) (b_Image_Entries : List (Entry)) (b_Store_Halves_0 b_Store_Halves_1 : ByteArray) (b_Store_Select : Int) (b_Contacts : List (Debounced)) (b_Beliefs : List (Belief)) (b_Cars : List (NewCar)) (b_Loads : List (Loaded)) (b_Expect : List (Int)) (b_Lit : List (Calls)) (b_Tick b_Faults b_Refused : Int) : Option (Sum (T'8 × (T'43 × T'43 × Unit)) ((Unit × Unit) ⊕ ((Bool × Unit) × Unit))) :=
 bif (decide (i < ((List.length a_Loads : Nat) : Int))) then
 bif (inB i (List.length a_Loads)) then
 bif (inB i (List.length b_Loads)) then
 bif (!(((List.getD a_Loads (Int.toNat i) (Loaded.mk (0 : Int))).Class == (List.getD b_Loads (Int.toNat i) (Loaded.mk (0 : Int))).Class) && true)) then
 some (Sum.inr (Sum.inr ((false, ()), ())))
 else
 some (Sum.inl (((), (), (IntKind.i64.wrap (i + (1 : Int))), ()), ((a_Image_Phases, a_Image_Flags, a_Image_Leaving, a_Image_Entries, a_Store_Halves_0, a_Store_Halves_1, a_Store_Select, a_Contacts, a_Beliefs, a_Cars, a_Loads, a_Expect, a_Lit, a_Tick, a_Faults, a_Refused, ()), (b_Image_Phases, b_Image_Flags, b_Image_Leaving, b_Image_Entries, b_Store_Halves_0, b_Store_Halves_1, b_Store_Select, b_Contacts, b_Beliefs, b_Cars, b_Loads, b_Expect, b_Lit, b_Tick, b_Faults, b_Refused, ()), ())))
 else
 none
 else
 none
 else
 some (Sum.inr (Sum.inl ((), ())))
noncomputable def ni5' : (T'8 × (T'43 × T'43 × Unit)) → Option ((Unit × Unit) ⊕ ((Bool × Unit) × Unit)) := iter (fun x => nfg' x.1.2.2.1 x.2.1.1 x.2.1.2.1 x.2.1.2.2.1 x.2.1.2.2.2.1 x.2.1.2.2.2.2.1 x.2.1.2.2.2.2.2.1 x.2.1.2.2.2.2.2.2.1 x.2.1.2.2.2.2.2.2.2.1 x.2.1.2.2.2.2.2.2.2.2.1 x.2.1.2.2.2.2.2.2.2.2.2.1 x.2.1.2.2.2.2.2.2.2.2.2.2.1 x.2.1.2.2.2.2.2.2.2.2.2.2.2.1 x.2.1.2.2.2.2.2.2.2.2.2.2.2.2.1 x.2.1.2.2.2.2.2.2.2.2.2.2.2.2.2.1 x.2.1.2.2.2.2.2.2.2.2.2.2.2.2.2.2.1 x.2.1.2.2.2.2.2.2.2.2.2.2.2.2.2.2.2.1 x.2.2.1.1 x.2.2.1.2.1 x.2.2.1.2.2.1 x.2.2.1.2.2.2.1 x.2.2.1.2.2.2.2.1 x.2.2.1.2.2.2.2.2.1 x.2.2.1.2.2.2.2.2.2.1 x.2.2.1.2.2.2.2.2.2.2.1 x.2.2.1.2.2.2.2.2.2.2.2.1 x.2.2.1.2.2.2.2.2.2.2.2.2.1 x.2.2.1.2.2.2.2.2.2.2.2.2.2.1 x.2.2.1.2.2.2.2.2.2.2.2.2.2.2.1 x.2.2.1.2.2.2.2.2.2.2.2.2.2.2.2.1 x.2.2.1.2.2.2.2.2.2.2.2.2.2.2.2.2.1 x.2.2.1.2.2.2.2.2.2.2.2.2.2.2.2.2.2.1 x.2.2.1.2.2.2.2.2.2.2.2.2.2.2.2.2.2.2.1) fuel
noncomputable def nfb' (i : Int) (a_Image_Phases : List (Int)) (a_Image_Flags a_Image_Leaving : List (Bool)) (a_Image_Entries : List (Entry)) (a_Store_Halves_0 a_Store_Halves_1 : ByteArray) (a_Store_Select : Int) (a_Contacts : List (Debounced)) (a_Beliefs : List (Belief)) (a_Cars : List (NewCar)) (a_Loads : List (Loaded)) (a_Expect : List (Int)) (a_Lit : List (Calls)) (a_Tick a_Faults a_Refused : Int) (b_Image_Phases : List (Int)) (b_Image_Flags b_Image_Leaving : List (Bool)) (b_Image_Entries : List (Entry)) (b_Store_Halves_0 b_Store_Halves_1 : ByteArray) (b_Store_Select : Int) (b_Contacts : List (Debounced)) (b_Beliefs : List (Belief)) (b_Cars : List (NewCar)) (b_Loads : List (Loaded)) (b_Expect : List (Int)) (b_Lit : List (Calls)) (b_Tick b_Faults b_Refused : Int) : Option (Sum (T'8 × (T'43 × T'43 × Unit)) (((Unit × Unit × Unit) × (T'43 × T'43 × Unit)) ⊕ ((Bool × Unit) × Unit))) :=
 bif (decide (i < ((List.length a_Cars : Nat) : Int))) then
 bif (inB i (List.length a_Cars)) then
 let z0 : NewCar := (List.getD a_Cars (Int.toNat i) (NewCar.mk (0 : Int) (0 : Int) (0 : Int) (0 : Int) (0 : Int) false (0 : Int) (0 : Int) (0 : Int) (0 : Int) (0 : Int) (0 : Int) (0 : Int) false))
 bif (inB i (List.length b_Cars)) then
 let z1 : NewCar := (List.getD b_Cars (Int.toNat i) (NewCar.mk (0 : Int) (0 : Int) (0 : Int) (0 : Int) (0 : Int) false (0 : Int) (0 : Int) (0 : Int) (0 : Int) (0 : Int) (0 : Int) (0 : Int) false))
 bif (!((z0.Sweep_Dir == z1.Sweep_Dir) && ((z0.Sweep_Opened == z1.Sweep_Opened) && ((z0.Door_Stage == z1.Door_Stage) && ((z0.Door_Time == z1.Door_Time) && ((z0.Door_Since == z1.Door_Since) && ((z0.Door_Nudge == z1.Door_Nudge) && ((z0.Door_Cycles == z1.Door_Cycles) && ((z0.Motion_Command == z1.Motion_Command) && ((z0.Motion_Time == z1.Motion_Time) && ((z0.Motion_Floor == z1.Motion_Floor) && ((z0.Calls == z1.Calls) && ((z0.Shown == z1.Shown) && ((z0.Idle == z1.Idle) && ((z0.Fault == z1.Fault) && true))))))))))))))) then
 some (Sum.inr (Sum.inr ((false, ()), ())))
 else
 some (Sum.inl (((), (), (IntKind.i64.wrap (i + (1 : Int))), ()), ((a_Image_Phases, a_Image_Flags, a_Image_Leaving, a_Image_Entries, a_Store_Halves_0, a_Store_Halves_1, a_Store_Select, a_Contacts, a_Beliefs, a_Cars, a_Loads, a_Expect, a_Lit, a_Tick, a_Faults, a_Refused, ()), (b_Image_Phases, b_Image_Flags, b_Image_Leaving, b_Image_Entries, b_Store_Halves_0, b_Store_Halves_1, b_Store_Select, b_Contacts, b_Beliefs, b_Cars, b_Loads, b_Expect, b_Lit, b_Tick, b_Faults, b_Refused, ()), ())))
 else
 none
 else
 none
 else
 some (Sum.inr (Sum.inl (((), (), ()), ((a_Image_Phases, a_Image_Flags, a_Image_Leaving, a_Image_Entries, a_Store_Halves_0, a_Store_Halves_1, a_Store_Select, a_Contacts, a_Beliefs, a_Cars, a_Loads, a_Expect, a_Lit, a_Tick, a_Faults, a_Refused, ()), (b_Image_Phases, b_Image_Flags, b_Image_Leaving, b_Image_Entries, b_Store_Halves_0, b_Store_Halves_1, b_Store_Select, b_Contacts, b_Beliefs, b_Cars, b_Loads, b_Expect, b_Lit, b_Tick, b_Faults, b_Refused, ()), ()))))
noncomputable def niq' : (T'8 × (T'43 × T'43 × Unit)) → Option (((Unit × Unit × Unit) × (T'43 × T'43 × Unit)) ⊕ ((Bool × Unit) × Unit)) := iter (fun x => nfb' x.1.2.2.1 x.2.1.1 x.2.1.2.1 x.2.1.2.2.1 x.2.1.2.2.2.1 x.2.1.2.2.2.2.1 x.2.1.2.2.2.2.2.1 x.2.1.2.2.2.2.2.2.1 x.2.1.2.2.2.2.2.2.2.1 x.2.1.2.2.2.2.2.2.2.2.1 x.2.1.2.2.2.2.2.2.2.2.2.1 x.2.1.2.2.2.2.2.2.2.2.2.2.1 x.2.1.2.2.2.2.2.2.2.2.2.2.2.1 x.2.1.2.2.2.2.2.2.2.2.2.2.2.2.1 x.2.1.2.2.2.2.2.2.2.2.2.2.2.2.2.1 x.2.1.2.2.2.2.2.2.2.2.2.2.2.2.2.2.1 x.2.1.2.2.2.2.2.2.2.2.2.2.2.2.2.2.2.1 x.2.2.1.1 x.2.2.1.2.1 x.2.2.1.2.2.1 x.2.2.1.2.2.2.1 x.2.2.1.2.2.2.2.1 x.2.2.1.2.2.2.2.2.1 x.2.2.1.2.2.2.2.2.2.1 x.2.2.1.2.2.2.2.2.2.2.1 x.2.2.1.2.2.2.2.2.2.2.2.1 x.2.2.1.2.2.2.2.2.2.2.2.2.1 x.2.2.1.2.2.2.2.2.2.2.2.2.2.1 x.2.2.1.2.2.2.2.2.2.2.2.2.2.2.1 x.2.2.1.2.2.2.2.2.2.2.2.2.2.2.2.1 x.2.2.1.2.2.2.2.2.2.2.2.2.2.2.2.2.1 x.2.2.1.2.2.2.2.2.2.2.2.2.2.2.2.2.2.1 x.2.2.1.2.2.2.2.2.2.2.2.2.2.2.2.2.2.2.1) fuel
noncomputable def nfo' (i : Int) (a_Image_Phases : List (Int)) (a_Image_Flags a_Image_Leaving : List (Bool)) (a_Image_Entries : List (Entry)) (a_Store_Halves_0 a_Store_Halves_1 : ByteArray) (a_Store_Select : Int) (a_Contacts : List (Debounced)) (a_Beliefs : List (Belief)) (a_Cars : List (NewCar)) (a_Loads : List (Loaded)) (a_Expect : List (Int)) (a_Lit : List (Calls)) (a_Tick a_Faults a_Refused : Int) (b_Image_Phases : List (Int)) (b_Image_Flags b_Image_Leaving : List (Bool)) (b_Image_Entries : List (Entry)) (b_Store_Halves_0 b_Store_Halves_1 : ByteArray) (b_Store_Select : Int) (b_Contacts : List (Debounced)) (b_Beliefs : List (Belief)) (b_Cars : List (NewCar)) (b_Loads : List (Loaded)) (b_Expect : List (Int)) (b_Lit : List (Calls)) (b_Tick b_Faults b_Refused : Int) : Option (Sum (T'8 × (T'43 × T'43 × Unit)) (((Unit × Unit × Unit) × (T'43 × T'43 × Unit)) ⊕ ((Bool × Unit) × Unit))) :=
 bif (decide (i < ((List.length a_Beliefs : Nat) : Int))) then
 bif (inB i (List.length a_Beliefs)) then
 let z0 : Belief := (List.getD a_Beliefs (Int.toNat i) (Belief.mk (0 : Int) (0 : Int) (0 : Int) [] (0 : Int) false))
 bif (inB i (List.length b_Beliefs)) then
 let z1 : Belief := (List.getD b_Beliefs (Int.toNat i) (Belief.mk (0 : Int) (0 : Int) (0 : Int) [] (0 : Int) false))
 (nkl' z0.Floor z0.Dir z0.Door z0.Duties z0.Still z0.Late z1.Floor z1.Dir z1.Door z1.Duties z1.Still z1.Late).bind fun y1 =>
 bif (!y1.1.1) then
 some (Sum.inr (Sum.inr ((false, ()), ())))
 else
 some (Sum.inl (((), (), (IntKind.i64.wrap (i + (1 : Int))), ()), ((a_Image_Phases, a_Image_Flags, a_Image_Leaving, a_Image_Entries, a_Store_Halves_0, a_Store_Halves_1, a_Store_Select, a_Contacts, a_Beliefs, a_Cars, a_Loads, a_Expect, a_Lit, a_Tick, a_Faults, a_Refused, ()), (b_Image_Phases, b_Image_Flags, b_Image_Leaving, b_Image_Entries, b_Store_Halves_0, b_Store_Halves_1, b_Store_Select, b_Contacts, b_Beliefs, b_Cars, b_Loads, b_Expect, b_Lit, b_Tick, b_Faults, b_Refused, ()), ())))
 else
 none
 else
 none
 else
 some (Sum.inr (Sum.inl (((), (), ()), ((a_Image_Phases, a_Image_Flags, a_Image_Leaving, a_Image_Entries, a_Store_Halves_0, a_Store_Halves_1, a_Store_Select, a_Contacts, a_Beliefs, a_Cars, a_Loads, a_Expect, a_Lit, a_Tick, a_Faults, a_Refused, ()), (b_Image_Phases, b_Image_Flags, b_Image_Leaving, b_Image_Entries, b_Store_Halves_0, b_Store_Halves_1, b_Store_Select, b_Contacts, b_Beliefs, b_Cars, b_Loads, b_Expect, b_Lit, b_Tick, b_Faults, b_Refused, ()), ()))))
noncomputable def nir' : (T'8 × (T'43 × T'43 × Unit)) → Option (((Unit × Unit × Unit) × (T'43 × T'43 × Unit)) ⊕ ((Bool × Unit) × Unit)) := iter (fun x => nfo' x.1.2.2.1 x.2.1.1 x.2.1.2.1 x.2.1.2.2.1 x.2.1.2.2.2.1 x.2.1.2.2.2.2.1 x.2.1.2.2.2.2.2.1 x.2.1.2.2.2.2.2.2.1 x.2.1.2.2.2.2.2.2.2.1 x.2.1.2.2.2.2.2.2.2.2.1 x.2.1.2.2.2.2.2.2.2.2.2.1 x.2.1.2.2.2.2.2.2.2.2.2.2.1 x.2.1.2.2.2.2.2.2.2.2.2.2.2.1 x.2.1.2.2.2.2.2.2.2.2.2.2.2.2.1 x.2.1.2.2.2.2.2.2.2.2.2.2.2.2.2.1 x.2.1.2.2.2.2.2.2.2.2.2.2.2.2.2.2.1 x.2.1.2.2.2.2.2.2.2.2.2.2.2.2.2.2.2.1 x.2.2.1.1 x.2.2.1.2.1 x.2.2.1.2.2.1 x.2.2.1.2.2.2.1 x.2.2.1.2.2.2.2.1 x.2.2.1.2.2.2.2.2.1 x.2.2.1.2.2.2.2.2.2.1 x.2.2.1.2.2.2.2.2.2.2.1 x.2.2.1.2.2.2.2.2.2.2.2.1 x.2.2.1.2.2.2.2.2.2.2.2.2.1 x.2.2.1.2.2.2.2.2.2.2.2.2.2.1 x.2.2.1.2.2.2.2.2.2.2.2.2.2.2.1 x.2.2.1.2.2.2.2.2.2.2.2.2.2.2.2.1 x.2.2.1.2.2.2.2.2.2.2.2.2.2.2.2.2.1 x.2.2.1.2.2.2.2.2.2.2.2.2.2.2.2.2.2.1 x.2.2.1.2.2.2.2.2.2.2.2.2.2.2.2.2.2.2.1) fuel
noncomputable def nfp' (i : Int) (a_Image_Phases : List (Int)) (a_Image_Flags a_Image_Leaving : List (Bool)) (a_Image_Entries : List (Entry)) (a_Store_Halves_0 a_Store_Halves_1 : ByteArray) (a_Store_Select : Int) (a_Contacts : List (Debounced)) (a_Beliefs : List (Belief)) (a_Cars : List (NewCar)) (a_Loads : List (Loaded)) (a_Expect : List (Int)) (a_Lit : List (Calls)) (a_Tick a_Faults a_Refused : Int) (b_Image_Phases : List (Int)) (b_Image_Flags b_Image_Leaving : List (Bool)) (b_Image_Entries : List (Entry)) (b_Store_Halves_0 b_Store_Halves_1 : ByteArray) (b_Store_Select : Int) (b_Contacts : List (Debounced)) (b_Beliefs : List (Belief)) (b_Cars : List (NewCar)) (b_Loads : List (Loaded)) (b_Expect : List (Int)) (b_Lit : List (Calls)) (b_Tick b_Faults b_Refused : Int) : Option (Sum (T'8 × (T'43 × T'43 × Unit)) (((Unit × Unit × Unit) × (T'43 × T'43 × Unit)) ⊕ ((Bool × Unit) × Unit))) :=
 bif (decide (i < ((List.length a_Contacts : Nat) : Int))) then
 bif (inB i (List.length a_Contacts)) then
 let z0 : Debounced := (List.getD a_Contacts (Int.toNat i) (Debounced.mk (0 : Int) false false false false (0 : Int) (0 : Int) (0 : Int) (0 : Int) (0 : Int) (0 : Int) (0 : Int) (0 : Int) (0 : Int) (0 : Int) (0 : Int) (0 : Int) (0 : Int) (0 : Int) (0 : Int) (0 : Int) (0 : Int) (0 : Int) (0 : Int) (0 : Int) (0 : Int) (0 : Int) (0 : Int) (0 : Int) (0 : Int) (0 : Int) (0 : Int) (0 : Int) (0 : Int) (0 : Int) (0 : Int) (0 : Int) (0 : Int) (0 : Int) (0 : Int) (0 : Int)))
 bif (inB i (List.length b_Contacts)) then
 let z1 : Debounced := (List.getD b_Contacts (Int.toNat i) (Debounced.mk (0 : Int) false false false false (0 : Int) (0 : Int) (0 : Int) (0 : Int) (0 : Int) (0 : Int) (0 : Int) (0 : Int) (0 : Int) (0 : Int) (0 : Int) (0 : Int) (0 : Int) (0 : Int) (0 : Int) (0 : Int) (0 : Int) (0 : Int) (0 : Int) (0 : Int) (0 : Int) (0 : Int) (0 : Int) (0 : Int) (0 : Int) (0 : Int) (0 : Int) (0 : Int) (0 : Int) (0 : Int) (0 : Int) (0 : Int) (0 : Int) (0 : Int) (0 : Int) (0 : Int)))
 bif (!((z0.Contacts_Floors == z1.Contacts_Floors) && ((z0.Contacts_Up == z1.Contacts_Up) && ((z0.Contacts_Down == z1.Contacts_Down) && ((z0.Contacts_Open == z1.Contacts_Open) && ((z0.Contacts_Closed == z1.Contacts_Closed) && ((z0.Count_0 == z1.Count_0) && ((z0.Count_1 == z1.Count_1) && ((z0.Count_2 == z1.Count_2) && ((z0.Count_3 == z1.Count_3) && ((z0.Count_4 == z1.Count_4) && ((z0.Count_5 == z1.Count_5) && ((z0.Count_6 == z1.Count_6) && ((z0.Count_7 == z1.Count_7) && ((z0.Count_8 == z1.Count_8) && ((z0.Count_9 == z1.Count_9) && ((z0.Count_10 == z1.Count_10) && ((z0.Count_11 == z1.Count_11) && ((z0.Count_12 == z1.Count_12) && ((z0.Count_13 == z1.Count_13) && ((z0.Count_14 == z1.Count_14) && ((z0.Count_15 == z1.Count_15) && ((z0.Count_16 == z1.Count_16) && ((z0.Count_17 == z1.Count_17) && ((z0.Count_18 == z1.Count_18) && ((z0.Count_19 == z1.Count_19) && ((z0.Count_20 == z1.Count_20) && ((z0.Count_21 == z1.Count_21) && ((z0.Count_22 == z1.Count_22) && ((z0.Count_23 == z1.Count_23) && ((z0.Count_24 == z1.Count_24) && ((z0.Count_25 == z1.Count_25) && ((z0.Count_26 == z1.Count_26) && ((z0.Count_27 == z1.Count_27) && ((z0.Count_28 == z1.Count_28) && ((z0.Count_29 == z1.Count_29) && ((z0.Count_30 == z1.Count_30) && ((z0.Count_31 == z1.Count_31) && ((z0.Count_32 == z1.Count_32) && ((z0.Count_33 == z1.Count_33) && ((z0.Count_34 == z1.Count_34) && ((z0.Count_35 == z1.Count_35) && true)))))))))))))))))))))))))))))))))))))))))) then
 some (Sum.inr (Sum.inr ((false, ()), ())))
 else
 some (Sum.inl (((), (), (IntKind.i64.wrap (i + (1 : Int))), ()), ((a_Image_Phases, a_Image_Flags, a_Image_Leaving, a_Image_Entries, a_Store_Halves_0, a_Store_Halves_1, a_Store_Select, a_Contacts, a_Beliefs, a_Cars, a_Loads, a_Expect, a_Lit, a_Tick, a_Faults, a_Refused, ()), (b_Image_Phases, b_Image_Flags, b_Image_Leaving, b_Image_Entries, b_Store_Halves_0, b_Store_Halves_1, b_Store_Select, b_Contacts, b_Beliefs, b_Cars, b_Loads, b_Expect, b_Lit, b_Tick, b_Faults, b_Refused, ()), ())))
 else
 none
 else
 none
 else
 some (Sum.inr (Sum.inl (((), (), ()), ((a_Image_Phases, a_Image_Flags, a_Image_Leaving, a_Image_Entries, a_Store_Halves_0, a_Store_Halves_1, a_Store_Select, a_Contacts, a_Beliefs, a_Cars, a_Loads, a_Expect, a_Lit, a_Tick, a_Faults, a_Refused, ()), (b_Image_Phases, b_Image_Flags, b_Image_Leaving, b_Image_Entries, b_Store_Halves_0, b_Store_Halves_1, b_Store_Select, b_Contacts, b_Beliefs, b_Cars, b_Loads, b_Expect, b_Lit, b_Tick, b_Faults, b_Refused, ()), ()))))
noncomputable def ni6' : (T'8 × (T'43 × T'43 × Unit)) → Option (((Unit × Unit × Unit) × (T'43 × T'43 × Unit)) ⊕ ((Bool × Unit) × Unit)) := iter (fun x => nfp' x.1.2.2.1 x.2.1.1 x.2.1.2.1 x.2.1.2.2.1 x.2.1.2.2.2.1 x.2.1.2.2.2.2.1 x.2.1.2.2.2.2.2.1 x.2.1.2.2.2.2.2.2.1 x.2.1.2.2.2.2.2.2.2.1 x.2.1.2.2.2.2.2.2.2.2.1 x.2.1.2.2.2.2.2.2.2.2.2.1 x.2.1.2.2.2.2.2.2.2.2.2.2.1 x.2.1.2.2.2.2.2.2.2.2.2.2.2.1 x.2.1.2.2.2.2.2.2.2.2.2.2.2.2.1 x.2.1.2.2.2.2.2.2.2.2.2.2.2.2.2.1 x.2.1.2.2.2.2.2.2.2.2.2.2.2.2.2.2.1 x.2.1.2.2.2.2.2.2.2.2.2.2.2.2.2.2.2.1 x.2.2.1.1 x.2.2.1.2.1 x.2.2.1.2.2.1 x.2.2.1.2.2.2.1 x.2.2.1.2.2.2.2.1 x.2.2.1.2.2.2.2.2.1 x.2.2.1.2.2.2.2.2.2.1 x.2.2.1.2.2.2.2.2.2.2.1 x.2.2.1.2.2.2.2.2.2.2.2.1 x.2.2.1.2.2.2.2.2.2.2.2.2.1 x.2.2.1.2.2.2.2.2.2.2.2.2.2.1 x.2.2.1.2.2.2.2.2.2.2.2.2.2.2.1 x.2.2.1.2.2.2.2.2.2.2.2.2.2.2.2.1 x.2.2.1.2.2.2.2.2.2.2.2.2.2.2.2.2.1 x.2.2.1.2.2.2.2.2.2.2.2.2.2.2.2.2.2.1 x.2.2.1.2.2.2.2.2.2.2.2.2.2.2.2.2.2.2.1) fuel
noncomputable def ng6' (a_Image_Phases : List (Int)) (a_Image_Flags a_Image_Leaving : List (Bool)) (a_Image_Entries : List (Entry)) (a_Store_Halves_0 a_Store_Halves_1 : ByteArray) (a_Store_Select : Int) (a_Contacts : List (Debounced)) (a_Beliefs : List (Belief)) (a_Cars : List (NewCar)) (a_Loads : List (Loaded)) (a_Expect : List (Int)) (a_Lit : List (Calls)) (a_Tick a_Faults a_Refused : Int) (b_Image_Phases : List (Int)) (b_Image_Flags b_Image_Leaving : List (Bool)) (b_Image_Entries : List (Entry)) (b_Store_Halves_0 b_Store_Halves_1 : ByteArray) (b_Store_Select : Int) (b_Contacts : List (Debounced)) (b_Beliefs : List (Belief)) (b_Cars : List (NewCar)) (b_Loads : List (Loaded)) (b_Expect : List (Int)) (b_Lit : List (Calls)) (b_Tick b_Faults b_Refused : Int) : Option ((Bool × Unit) × Unit) :=
 (nkh' a_Image_Phases a_Image_Flags a_Image_Leaving a_Image_Entries b_Image_Phases b_Image_Flags b_Image_Leaving b_Image_Entries).bind fun y1 =>
 bif (!y1.1.1) then
 some ((false, ()), ())
 else
 bif (!((eqB a_Store_Halves_0 b_Store_Halves_0) && ((eqB a_Store_Halves_1 b_Store_Halves_1) && ((a_Store_Select == b_Store_Select) && true)))) then
 some ((false, ()), ())
 else
 bif (((List.length a_Contacts : Nat) : Int) != ((List.length b_Contacts : Nat) : Int)) then
 some ((false, ()), ())
 else
 bif (((List.length a_Beliefs : Nat) : Int) != ((List.length b_Beliefs : Nat) : Int)) then
 some ((false, ()), ())
 else
 bif (((List.length a_Cars : Nat) : Int) != ((List.length b_Cars : Nat) : Int)) then
 some ((false, ()), ())
 else
 bif (((List.length a_Loads : Nat) : Int) != ((List.length b_Loads : Nat) : Int)) then
 some ((false, ()), ())
 else
 (ngq' a_Lit b_Lit).bind fun y2 =>
 bif (!y2.1.1) then
 some ((false, ()), ())
 else
 (ng8' a_Expect b_Expect).bind fun y3 =>
 bif (!y3.1.1) then
 some ((false, ()), ())
 else
 bif (a_Tick != b_Tick) then
 some ((false, ()), ())
 else
 bif (a_Faults != b_Faults) then
 some ((false, ()), ())
 else
 bif (a_Refused != b_Refused) then
 some ((false, ()), ())
 else
 (ni6' (((), (), (0 : Int), ()), ((a_Image_Phases, a_Image_Flags, a_Image_Leaving, a_Image_Entries, a_Store_Halves_0, a_Store_Halves_1, a_Store_Select, a_Contacts, a_Beliefs, a_Cars, a_Loads, a_Expect, a_Lit, a_Tick, a_Faults, a_Refused, ()), (b_Image_Phases, b_Image_Flags, b_Image_Leaving, b_Image_Entries, b_Store_Halves_0, b_Store_Halves_1, b_Store_Select, b_Contacts, b_Beliefs, b_Cars, b_Loads, b_Expect, b_Lit, b_Tick, b_Faults, b_Refused, ()), ()))).bind fun y4 =>
 (match y4 with
 | .inl y5 =>
 (nir' (((), (), (0 : Int), ()), ((y5.2.1.1, y5.2.1.2.1, y5.2.1.2.2.1, y5.2.1.2.2.2.1, y5.2.1.2.2.2.2.1, y5.2.1.2.2.2.2.2.1, y5.2.1.2.2.2.2.2.2.1, y5.2.1.2.2.2.2.2.2.2.1, y5.2.1.2.2.2.2.2.2.2.2.1, y5.2.1.2.2.2.2.2.2.2.2.2.1, y5.2.1.2.2.2.2.2.2.2.2.2.2.1, y5.2.1.2.2.2.2.2.2.2.2.2.2.2.1, y5.2.1.2.2.2.2.2.2.2.2.2.2.2.2.1, y5.2.1.2.2.2.2.2.2.2.2.2.2.2.2.2.1, y5.2.1.2.2.2.2.2.2.2.2.2.2.2.2.2.2.1, y5.2.1.2.2.2.2.2.2.2.2.2.2.2.2.2.2.2.1, ()), (y5.2.2.1.1, y5.2.2.1.2.1, y5.2.2.1.2.2.1, y5.2.2.1.2.2.2.1, y5.2.2.1.2.2.2.2.1, y5.2.2.1.2.2.2.2.2.1, y5.2.2.1.2.2.2.2.2.2.1, y5.2.2.1.2.2.2.2.2.2.2.1, y5.2.2.1.2.2.2.2.2.2.2.2.1, y5.2.2.1.2.2.2.2.2.2.2.2.2.1, y5.2.2.1.2.2.2.2.2.2.2.2.2.2.1, y5.2.2.1.2.2.2.2.2.2.2.2.2.2.2.1, y5.2.2.1.2.2.2.2.2.2.2.2.2.2.2.2.1, y5.2.2.1.2.2.2.2.2.2.2.2.2.2.2.2.2.1, y5.2.2.1.2.2.2.2.2.2.2.2.2.2.2.2.2.2.1, y5.2.2.1.2.2.2.2.2.2.2.2.2.2.2.2.2.2.2.1, ()), ()))).bind fun y6 =>
 (match y6 with
 | .inl y7 =>
 (niq' (((), (), (0 : Int), ()), ((y7.2.1.1, y7.2.1.2.1, y7.2.1.2.2.1, y7.2.1.2.2.2.1, y7.2.1.2.2.2.2.1, y7.2.1.2.2.2.2.2.1, y7.2.1.2.2.2.2.2.2.1, y7.2.1.2.2.2.2.2.2.2.1, y7.2.1.2.2.2.2.2.2.2.2.1, y7.2.1.2.2.2.2.2.2.2.2.2.1, y7.2.1.2.2.2.2.2.2.2.2.2.2.1, y7.2.1.2.2.2.2.2.2.2.2.2.2.2.1, y7.2.1.2.2.2.2.2.2.2.2.2.2.2.2.1, y7.2.1.2.2.2.2.2.2.2.2.2.2.2.2.2.1, y7.2.1.2.2.2.2.2.2.2.2.2.2.2.2.2.2.1, y7.2.1.2.2.2.2.2.2.2.2.2.2.2.2.2.2.2.1, ()), (y7.2.2.1.1, y7.2.2.1.2.1, y7.2.2.1.2.2.1, y7.2.2.1.2.2.2.1, y7.2.2.1.2.2.2.2.1, y7.2.2.1.2.2.2.2.2.1, y7.2.2.1.2.2.2.2.2.2.1, y7.2.2.1.2.2.2.2.2.2.2.1, y7.2.2.1.2.2.2.2.2.2.2.2.1, y7.2.2.1.2.2.2.2.2.2.2.2.2.1, y7.2.2.1.2.2.2.2.2.2.2.2.2.2.1, y7.2.2.1.2.2.2.2.2.2.2.2.2.2.2.1, y7.2.2.1.2.2.2.2.2.2.2.2.2.2.2.2.1, y7.2.2.1.2.2.2.2.2.2.2.2.2.2.2.2.2.1, y7.2.2.1.2.2.2.2.2.2.2.2.2.2.2.2.2.2.1, y7.2.2.1.2.2.2.2.2.2.2.2.2.2.2.2.2.2.2.1, ()), ()))).bind fun y8 =>
 (match y8 with
 | .inl y9 =>
 (ni5' (((), (), (0 : Int), ()), ((y9.2.1.1, y9.2.1.2.1, y9.2.1.2.2.1, y9.2.1.2.2.2.1, y9.2.1.2.2.2.2.1, y9.2.1.2.2.2.2.2.1, y9.2.1.2.2.2.2.2.2.1, y9.2.1.2.2.2.2.2.2.2.1, y9.2.1.2.2.2.2.2.2.2.2.1, y9.2.1.2.2.2.2.2.2.2.2.2.1, y9.2.1.2.2.2.2.2.2.2.2.2.2.1, y9.2.1.2.2.2.2.2.2.2.2.2.2.2.1, y9.2.1.2.2.2.2.2.2.2.2.2.2.2.2.1, y9.2.1.2.2.2.2.2.2.2.2.2.2.2.2.2.1, y9.2.1.2.2.2.2.2.2.2.2.2.2.2.2.2.2.1, y9.2.1.2.2.2.2.2.2.2.2.2.2.2.2.2.2.2.1, ()), (y9.2.2.1.1, y9.2.2.1.2.1, y9.2.2.1.2.2.1, y9.2.2.1.2.2.2.1, y9.2.2.1.2.2.2.2.1, y9.2.2.1.2.2.2.2.2.1, y9.2.2.1.2.2.2.2.2.2.1, y9.2.2.1.2.2.2.2.2.2.2.1, y9.2.2.1.2.2.2.2.2.2.2.2.1, y9.2.2.1.2.2.2.2.2.2.2.2.2.1, y9.2.2.1.2.2.2.2.2.2.2.2.2.2.1, y9.2.2.1.2.2.2.2.2.2.2.2.2.2.2.1, y9.2.2.1.2.2.2.2.2.2.2.2.2.2.2.2.1, y9.2.2.1.2.2.2.2.2.2.2.2.2.2.2.2.2.1, y9.2.2.1.2.2.2.2.2.2.2.2.2.2.2.2.2.2.1, y9.2.2.1.2.2.2.2.2.2.2.2.2.2.2.2.2.2.2.1, ()), ()))).bind fun y10 =>
 (match y10 with
 | .inl y11 =>
 some ((true, ()), ())
 | .inr y11 =>
 some ((y11.1.1, ()), ()))
 | .inr y9 =>
 some ((y9.1.1, ()), ()))
 | .inr y7 =>
 some ((y7.1.1, ()), ()))
 | .inr y5 =>
 some ((y5.1.1, ()), ()))
noncomputable def neo' (b_Floors b_Debounce b_Room b_Park : Int) (b_Empty b_Full b_Over : Nat) (b_Cars : List (Car)) : Option ((Unit × Int × Unit) × (T'43 × Unit)) :=
 (ncb' b_Floors b_Debounce b_Room b_Park b_Empty b_Full b_Over b_Cars).bind fun y1 =>
 bif (y1.1.1 != (0 : Int)) then
 some (((), (1 : Int), ()), ((([] : List (Int)), ([] : List (Bool)), ([] : List (Bool)), ([] : List (Entry)), (ByteArray.mk (Array.mk [])), (ByteArray.mk (Array.mk [])), (0 : Int), ([] : List (Debounced)), ([] : List (Belief)), ([] : List (NewCar)), ([] : List (Loaded)), ([] : List (Int)), ([] : List (Calls)), (0 : Int), (0 : Int), (0 : Int), ()), ()))
 else
 (nbe' b_Floors b_Debounce b_Room b_Park b_Empty b_Full b_Over b_Cars (ByteArray.mk (Array.mk [])) (ByteArray.mk (Array.mk [])) (0 : Int) (1048576 : Int)).bind fun y2 =>
 some (((), y2.1.2.2.1, ()), ((y2.2.1.1, y2.2.1.2.1, y2.2.1.2.2.1, y2.2.1.2.2.2.1, y2.2.1.2.2.2.2.1, y2.2.1.2.2.2.2.2.1, y2.2.1.2.2.2.2.2.2.1, y2.2.1.2.2.2.2.2.2.2.1, y2.2.1.2.2.2.2.2.2.2.2.1, y2.2.1.2.2.2.2.2.2.2.2.2.1, y2.2.1.2.2.2.2.2.2.2.2.2.2.1, y2.2.1.2.2.2.2.2.2.2.2.2.2.2.1, y2.2.1.2.2.2.2.2.2.2.2.2.2.2.2.1, y2.2.1.2.2.2.2.2.2.2.2.2.2.2.2.2.1, y2.2.1.2.2.2.2.2.2.2.2.2.2.2.2.2.2.1, y2.2.1.2.2.2.2.2.2.2.2.2.2.2.2.2.2.2.1, ()), ()))
noncomputable def nq' (s1 s2 : List (Debounced)) (s12 s13 : Int) : Option (Sum (T'51 × Unit) ((Unit × Unit) ⊕ ((Bool × Unit) × Unit))) :=
 bif (decide (s13 < s12)) then
 bif (inB s13 (List.length s1)) then
 let z0 : Debounced := (List.getD s1 (Int.toNat s13) (Debounced.mk (0 : Int) false false false false (0 : Int) (0 : Int) (0 : Int) (0 : Int) (0 : Int) (0 : Int) (0 : Int) (0 : Int) (0 : Int) (0 : Int) (0 : Int) (0 : Int) (0 : Int) (0 : Int) (0 : Int) (0 : Int) (0 : Int) (0 : Int) (0 : Int) (0 : Int) (0 : Int) (0 : Int) (0 : Int) (0 : Int) (0 : Int) (0 : Int) (0 : Int) (0 : Int) (0 : Int) (0 : Int) (0 : Int) (0 : Int) (0 : Int) (0 : Int) (0 : Int) (0 : Int)))
 bif (inB s13 (List.length s2)) then
 let z1 : Debounced := (List.getD s2 (Int.toNat s13) (Debounced.mk (0 : Int) false false false false (0 : Int) (0 : Int) (0 : Int) (0 : Int) (0 : Int) (0 : Int) (0 : Int) (0 : Int) (0 : Int) (0 : Int) (0 : Int) (0 : Int) (0 : Int) (0 : Int) (0 : Int) (0 : Int) (0 : Int) (0 : Int) (0 : Int) (0 : Int) (0 : Int) (0 : Int) (0 : Int) (0 : Int) (0 : Int) (0 : Int) (0 : Int) (0 : Int) (0 : Int) (0 : Int) (0 : Int) (0 : Int) (0 : Int) (0 : Int) (0 : Int) (0 : Int)))
 bif (!((z0.Contacts_Floors == z1.Contacts_Floors) && ((z0.Contacts_Up == z1.Contacts_Up) && ((z0.Contacts_Down == z1.Contacts_Down) && ((z0.Contacts_Open == z1.Contacts_Open) && ((z0.Contacts_Closed == z1.Contacts_Closed) && ((z0.Count_0 == z1.Count_0) && ((z0.Count_1 == z1.Count_1) && ((z0.Count_2 == z1.Count_2) && ((z0.Count_3 == z1.Count_3) && ((z0.Count_4 == z1.Count_4) && ((z0.Count_5 == z1.Count_5) && ((z0.Count_6 == z1.Count_6) && ((z0.Count_7 == z1.Count_7) && ((z0.Count_8 == z1.Count_8) && ((z0.Count_9 == z1.Count_9) && ((z0.Count_10 == z1.Count_10) && ((z0.Count_11 == z1.Count_11) && ((z0.Count_12 == z1.Count_12) && ((z0.Count_13 == z1.Count_13) && ((z0.Count_14 == z1.Count_14) && ((z0.Count_15 == z1.Count_15) && ((z0.Count_16 == z1.Count_16) && ((z0.Count_17 == z1.Count_17) && ((z0.Count_18 == z1.Count_18) && ((z0.Count_19 == z1.Count_19) && ((z0.Count_20 == z1.Count_20) && ((z0.Count_21 == z1.Count_21) && ((z0.Count_22 == z1.Count_22) && ((z0.Count_23 == z1.Count_23) && ((z0.Count_24 == z1.Count_24) && ((z0.Count_25 == z1.Count_25) && ((z0.Count_26 == z1.Count_26) && ((z0.Count_27 == z1.Count_27) && ((z0.Count_28 == z1.Count_28) && ((z0.Count_29 == z1.Count_29) && ((z0.Count_30 == z1.Count_30) && ((z0.Count_31 == z1.Count_31) && ((z0.Count_32 == z1.Count_32) && ((z0.Count_33 == z1.Count_33) && ((z0.Count_34 == z1.Count_34) && ((z0.Count_35 == z1.Count_35) && true)))))))))))))))))))))))))))))))))))))))))) then
 some (Sum.inr (Sum.inr ((false, ()), ())))
 else
 some (Sum.inl ((s1, s2, s12, (IntKind.i64.wrap (s13 + (1 : Int))), ()), ()))
 else
 none
 else
 none
 else
 some (Sum.inr (Sum.inl ((), ())))
noncomputable def nba' : (T'51 × Unit) → Option ((Unit × Unit) ⊕ ((Bool × Unit) × Unit)) := iter (fun x => nq' x.1.1 x.1.2.1 x.1.2.2.1 x.1.2.2.2.1) fuel
noncomputable def nbc' (s1 s2 : List (Debounced)) : Option ((Bool × Unit) × Unit) :=
 bif (((List.length s1 : Nat) : Int) != ((List.length s2 : Nat) : Int)) then
 some ((false, ()), ())
 else
 (nba' ((s1, s2, ((List.length s1 : Nat) : Int), (0 : Int), ()), ())).bind fun y1 =>
 (match y1 with
 | .inl y2 =>
 some ((true, ()), ())
 | .inr y2 =>
 some ((y2.1.1, ()), ()))
noncomputable def n7' (s1 s2 : List (Duty)) (s12 s13 : Int) : Option (Sum (T'52 × Unit) ((Unit × Unit) ⊕ ((Bool × Unit) × Unit))) :=
 bif (decide (s13 < s12)) then
 bif (inB s13 (List.length s1)) then
 let z0 : Duty := (List.getD s1 (Int.toNat s13) (Duty.mk (0 : Int) (0 : Int) (0 : Int)))
 bif (inB s13 (List.length s2)) then
 let z1 : Duty := (List.getD s2 (Int.toNat s13) (Duty.mk (0 : Int) (0 : Int) (0 : Int)))
 bif (!((z0.Floor == z1.Floor) && ((z0.Dir == z1.Dir) && ((z0.Age == z1.Age) && true)))) then
 some (Sum.inr (Sum.inr ((false, ()), ())))
 else
 some (Sum.inl ((s1, s2, s12, (IntKind.i64.wrap (s13 + (1 : Int))), ()), ()))
 else
 none
 else
 none
 else
 some (Sum.inr (Sum.inl ((), ())))
noncomputable def nb1' : (T'52 × Unit) → Option ((Unit × Unit) ⊕ ((Bool × Unit) × Unit)) := iter (fun x => n7' x.1.1 x.1.2.1 x.1.2.2.1 x.1.2.2.2.1) fuel
noncomputable def nb7' (s1 s2 : List (Duty)) : Option ((Bool × Unit) × Unit) :=
 bif (((List.length s1 : Nat) : Int) != ((List.length s2 : Nat) : Int)) then
 some ((false, ()), ())
 else
 (nb1' ((s1, s2, ((List.length s1 : Nat) : Int), (0 : Int), ()), ())).bind fun y1 =>
 (match y1 with
 | .inl y2 =>
 some ((true, ()), ())
 | .inr y2 =>
 some ((y2.1.1, ()), ()))
noncomputable def nhs' (a_Floor a_Dir a_Door : Int) (a_Duties : List (Duty)) (a_Still : Int) (a_Late : Bool) (b_Floor b_Dir b_Door : Int) (b_Duties : List (Duty)) (b_Still : Int) (b_Late : Bool) : Option ((Bool × Unit) × Unit) :=
 Option.bind (bif (a_Floor == b_Floor) then
 bif (a_Dir == b_Dir) then
 bif (a_Door == b_Door) then
 (nb7' a_Duties b_Duties).bind fun y1 =>
 bif y1.1.1 then
 bif (a_Still == b_Still) then
 some (((a_Late == b_Late), ()), ())
 else
 some ((false, ()), ())
 else
 some ((false, ()), ())
 else
 some ((false, ()), ())
 else
 some ((false, ()), ())
 else
 some ((false, ()), ())) fun y2 =>
 some ((y2.1.1, ()), ())
noncomputable def nd' (s2 s15 : List (Belief)) (s16 s17 : Int) : Option (Sum (T'53 × Unit) ((Unit × Unit) ⊕ ((Bool × Unit) × Unit))) :=
 bif (decide (s17 < s16)) then
 bif (inB s17 (List.length s15)) then
 let z0 : Belief := (List.getD s15 (Int.toNat s17) (Belief.mk (0 : Int) (0 : Int) (0 : Int) [] (0 : Int) false))
 bif (inB s17 (List.length s2)) then
 let z1 : Belief := (List.getD s2 (Int.toNat s17) (Belief.mk (0 : Int) (0 : Int) (0 : Int) [] (0 : Int) false))
 (nhs' z0.Floor z0.Dir z0.Door z0.Duties z0.Still z0.Late z1.Floor z1.Dir z1.Door z1.Duties z1.Still z1.Late).bind fun y1 =>
 bif (!y1.1.1) then
 some (Sum.inr (Sum.inr ((false, ()), ())))
 else
 some (Sum.inl ((s2, (), s15, s16, (IntKind.i64.wrap (s17 + (1 : Int))), ()), ()))
 else
 none
 else
 none
 else
 some (Sum.inr (Sum.inl ((), ())))
noncomputable def ng' : (T'53 × Unit) → Option ((Unit × Unit) ⊕ ((Bool × Unit) × Unit)) := iter (fun x => nd' x.1.1 x.1.2.2.1 x.1.2.2.2.1 x.1.2.2.2.2.1) fuel
noncomputable def nh' (s1 s2 : List (Belief)) : Option ((Bool × Unit) × Unit) :=
 bif (((List.length s1 : Nat) : Int) != ((List.length s2 : Nat) : Int)) then
 some ((false, ()), ())
 else
 (ng' ((s2, (), s1, ((List.length s1 : Nat) : Int), (0 : Int), ()), ())).bind fun y1 =>
 (match y1 with
 | .inl y2 =>
 some ((true, ()), ())
 | .inr y2 =>
 some ((y2.1.1, ()), ()))
noncomputable def nv' (s1 s2 : List (NewCar)) (s12 s13 : Int) : Option (Sum (T'54 × Unit) ((Unit × Unit) ⊕ ((Bool × Unit) × Unit))) :=
 bif (decide (s13 < s12)) then
 bif (inB s13 (List.length s1)) then
 let z0 : NewCar := (List.getD s1 (Int.toNat s13) (NewCar.mk (0 : Int) (0 : Int) (0 : Int) (0 : Int) (0 : Int) false (0 : Int) (0 : Int) (0 : Int) (0 : Int) (0 : Int) (0 : Int) (0 : Int) false))
 bif (inB s13 (List.length s2)) then
 let z1 : NewCar := (List.getD s2 (Int.toNat s13) (NewCar.mk (0 : Int) (0 : Int) (0 : Int) (0 : Int) (0 : Int) false (0 : Int) (0 : Int) (0 : Int) (0 : Int) (0 : Int) (0 : Int) (0 : Int) false))
 bif (!((z0.Sweep_Dir == z1.Sweep_Dir) && ((z0.Sweep_Opened == z1.Sweep_Opened) && ((z0.Door_Stage == z1.Door_Stage) && ((z0.Door_Time == z1.Door_Time) && ((z0.Door_Since == z1.Door_Since) && ((z0.Door_Nudge == z1.Door_Nudge) && ((z0.Door_Cycles == z1.Door_Cycles) && ((z0.Motion_Command == z1.Motion_Command) && ((z0.Motion_Time == z1.Motion_Time) && ((z0.Motion_Floor == z1.Motion_Floor) && ((z0.Calls == z1.Calls) && ((z0.Shown == z1.Shown) && ((z0.Idle == z1.Idle) && ((z0.Fault == z1.Fault) && true))))))))))))))) then
 some (Sum.inr (Sum.inr ((false, ()), ())))
 else
 some (Sum.inl ((s1, s2, s12, (IntKind.i64.wrap (s13 + (1 : Int))), ()), ()))
 else
 none
 else
 none
 else
 some (Sum.inr (Sum.inl ((), ())))
noncomputable def nbk' : (T'54 × Unit) → Option ((Unit × Unit) ⊕ ((Bool × Unit) × Unit)) := iter (fun x => nv' x.1.1 x.1.2.1 x.1.2.2.1 x.1.2.2.2.1) fuel
noncomputable def nbu' (s1 s2 : List (NewCar)) : Option ((Bool × Unit) × Unit) :=
 bif (((List.length s1 : Nat) : Int) != ((List.length s2 : Nat) : Int)) then
 some ((false, ()), ())
 else
 (nbk' ((s1, s2, ((List.length s1 : Nat) : Int), (0 : Int), ()), ())).bind fun y1 =>
 (match y1 with
 | .inl y2 =>
 some ((true, ()), ())
 | .inr y2 =>
 some ((y2.1.1, ()), ()))
noncomputable def nw' (s1 s2 : List (Loaded)) (s12 s13 : Int) : Option (Sum (T'55 × Unit) ((Unit × Unit) ⊕ ((Bool × Unit) × Unit))) :=
 bif (decide (s13 < s12)) then
 bif (inB s13 (List.length s1)) then
 bif (inB s13 (List.length s2)) then
 bif (!(((List.getD s1 (Int.toNat s13) (Loaded.mk (0 : Int))).Class == (List.getD s2 (Int.toNat s13) (Loaded.mk (0 : Int))).Class) && true)) then
 some (Sum.inr (Sum.inr ((false, ()), ())))
 else
 some (Sum.inl ((s1, s2, s12, (IntKind.i64.wrap (s13 + (1 : Int))), ()), ()))
 else
 none
 else
 none
 else
 some (Sum.inr (Sum.inl ((), ())))
noncomputable def nbl' : (T'55 × Unit) → Option ((Unit × Unit) ⊕ ((Bool × Unit) × Unit)) := iter (fun x => nw' x.1.1 x.1.2.1 x.1.2.2.1 x.1.2.2.2.1) fuel
noncomputable def nbs' (s1 s2 : List (Loaded)) : Option ((Bool × Unit) × Unit) :=
 bif (((List.length s1 : Nat) : Int) != ((List.length s2 : Nat) : Int)) then
 some ((false, ()), ())
 else
 (nbl' ((s1, s2, ((List.length s1 : Nat) : Int), (0 : Int), ()), ())).bind fun y1 =>
 (match y1 with
 | .inl y2 =>
 some ((true, ()), ())
 | .inr y2 =>
 some ((y2.1.1, ()), ()))
noncomputable def n2' (s1 s2 : List (Calls)) (s12 s13 : Int) : Option (Sum (T'56 × Unit) ((Unit × Unit) ⊕ ((Bool × Unit) × Unit))) :=
 bif (decide (s13 < s12)) then
 bif (inB s13 (List.length s1)) then
 let z0 : Calls := (List.getD s1 (Int.toNat s13) (Calls.mk (0 : Int) (0 : Int)))
 bif (inB s13 (List.length s2)) then
 let z1 : Calls := (List.getD s2 (Int.toNat s13) (Calls.mk (0 : Int) (0 : Int)))
 bif (!((z0.Up == z1.Up) && ((z0.Down == z1.Down) && true))) then
 some (Sum.inr (Sum.inr ((false, ()), ())))
 else
 some (Sum.inl ((s1, s2, s12, (IntKind.i64.wrap (s13 + (1 : Int))), ()), ()))
 else
 none
 else
 none
 else
 some (Sum.inr (Sum.inl ((), ())))
noncomputable def nbt' : (T'56 × Unit) → Option ((Unit × Unit) ⊕ ((Bool × Unit) × Unit)) := iter (fun x => n2' x.1.1 x.1.2.1 x.1.2.2.1 x.1.2.2.2.1) fuel
noncomputable def nb0' (s1 s2 : List (Calls)) : Option ((Bool × Unit) × Unit) :=
 bif (((List.length s1 : Nat) : Int) != ((List.length s2 : Nat) : Int)) then
 some ((false, ()), ())
 else
 (nbt' ((s1, s2, ((List.length s1 : Nat) : Int), (0 : Int), ()), ())).bind fun y1 =>
 (match y1 with
 | .inl y2 =>
 some ((true, ()), ())
 | .inr y2 =>
 some ((y2.1.1, ()), ()))
noncomputable def nbx' (s1 s2 : List (Int)) (s12 s13 : Int) : Option (Sum (T'57 × Unit) ((Unit × Unit) ⊕ ((Bool × Unit) × Unit))) :=
 bif (decide (s13 < s12)) then
 bif (inB s13 (List.length s1)) then
 bif (inB s13 (List.length s2)) then
 bif ((List.getD s1 (Int.toNat s13) (0 : Int)) != (List.getD s2 (Int.toNat s13) (0 : Int))) then
 some (Sum.inr (Sum.inr ((false, ()), ())))
 else
 some (Sum.inl ((s1, s2, s12, (IntKind.i64.wrap (s13 + (1 : Int))), ()), ()))
 else
 none
 else
 none
 else
 some (Sum.inr (Sum.inl ((), ())))
noncomputable def nco' : (T'57 × Unit) → Option ((Unit × Unit) ⊕ ((Bool × Unit) × Unit)) := iter (fun x => nbx' x.1.1 x.1.2.1 x.1.2.2.1 x.1.2.2.2.1) fuel
noncomputable def ncg' (s1 s2 : List (Int)) : Option ((Bool × Unit) × Unit) :=
 bif (((List.length s1 : Nat) : Int) != ((List.length s2 : Nat) : Int)) then
 some ((false, ()), ())
 else
 (nco' ((s1, s2, ((List.length s1 : Nat) : Int), (0 : Int), ()), ())).bind fun y1 =>
 (match y1 with
 | .inl y2 =>
 some ((true, ()), ())
 | .inr y2 =>
 some ((y2.1.1, ()), ()))
noncomputable def nbm' (s1 s2 : List (Bool)) (s12 s13 : Int) : Option (Sum (T'58 × Unit) ((Unit × Unit) ⊕ ((Bool × Unit) × Unit))) :=
 bif (decide (s13 < s12)) then
 bif (inB s13 (List.length s1)) then
 bif (inB s13 (List.length s2)) then
 bif (!((List.getD s1 (Int.toNat s13) false) == (List.getD s2 (Int.toNat s13) false))) then
 some (Sum.inr (Sum.inr ((false, ()), ())))
 else
 some (Sum.inl ((s1, s2, s12, (IntKind.i64.wrap (s13 + (1 : Int))), ()), ()))
 else
 none
 else
 none
 else
 some (Sum.inr (Sum.inl ((), ())))
noncomputable def ncj' : (T'58 × Unit) → Option ((Unit × Unit) ⊕ ((Bool × Unit) × Unit)) := iter (fun x => nbm' x.1.1 x.1.2.1 x.1.2.2.1 x.1.2.2.2.1) fuel
noncomputable def nca' (s1 s2 : List (Bool)) : Option ((Bool × Unit) × Unit) :=
 bif (((List.length s1 : Nat) : Int) != ((List.length s2 : Nat) : Int)) then
 some ((false, ()), ())
 else
 (ncj' ((s1, s2, ((List.length s1 : Nat) : Int), (0 : Int), ()), ())).bind fun y1 =>
 (match y1 with
 | .inl y2 =>
 some ((true, ()), ())
 | .inr y2 =>
 some ((y2.1.1, ()), ()))
noncomputable def n0' (s1 s2 : List (Entry)) (s12 s13 : Int) : Option (Sum (T'59 × Unit) ((Unit × Unit) ⊕ ((Bool × Unit) × Unit))) :=
 bif (decide (s13 < s12)) then
 bif (inB s13 (List.length s1)) then
 let z0 : Entry := (List.getD s1 (Int.toNat s13) (Entry.mk (0 : Int) (0 : Int) (0 : Int) (0 : Int) false))
 bif (inB s13 (List.length s2)) then
 let z1 : Entry := (List.getD s2 (Int.toNat s13) (Entry.mk (0 : Int) (0 : Int) (0 : Int) (0 : Int) false))
 bif (!((z0.Floor == z1.Floor) && ((z0.Dir == z1.Dir) && ((z0.Car == z1.Car) && ((z0.Moves == z1.Moves) && ((z0.Moved == z1.Moved) && true)))))) then
 some (Sum.inr (Sum.inr ((false, ()), ())))
 else
 some (Sum.inl ((s1, s2, s12, (IntKind.i64.wrap (s13 + (1 : Int))), ()), ()))
 else
 none
 else
 none
 else
 some (Sum.inr (Sum.inl ((), ())))
noncomputable def nbv' : (T'59 × Unit) → Option ((Unit × Unit) ⊕ ((Bool × Unit) × Unit)) := iter (fun x => n0' x.1.1 x.1.2.1 x.1.2.2.1 x.1.2.2.2.1) fuel
noncomputable def nby' (s1 s2 : List (Entry)) : Option ((Bool × Unit) × Unit) :=
 bif (((List.length s1 : Nat) : Int) != ((List.length s2 : Nat) : Int)) then
 some ((false, ()), ())
 else
 (nbv' ((s1, s2, ((List.length s1 : Nat) : Int), (0 : Int), ()), ())).bind fun y1 =>
 (match y1 with
 | .inl y2 =>
 some ((true, ()), ())
 | .inr y2 =>
 some ((y2.1.1, ()), ()))
noncomputable def nfz' (a_Phases : List (Int)) (a_Flags a_Leaving : List (Bool)) (a_Entries : List (Entry)) (b_Phases : List (Int)) (b_Flags b_Leaving : List (Bool)) (b_Entries : List (Entry)) : Option ((Bool × Unit) × Unit) :=
 Option.bind ((ncg' a_Phases b_Phases).bind fun y1 =>
 bif y1.1.1 then
 (nca' a_Flags b_Flags).bind fun y2 =>
 bif y2.1.1 then
 (nca' a_Leaving b_Leaving).bind fun y3 =>
 bif y3.1.1 then
 (nby' a_Entries b_Entries).bind fun y4 =>
 some ((y4.1.1, ()), ())
 else
 some ((false, ()), ())
 else
 some ((false, ()), ())
 else
 some ((false, ()), ())) fun y5 =>
 some ((y5.1.1, ()), ())
noncomputable def ne7' (a_Image_Phases : List (Int)) (a_Image_Flags a_Image_Leaving : List (Bool)) (a_Image_Entries : List (Entry)) (a_Store_Halves_0 a_Store_Halves_1 : ByteArray) (a_Store_Select : Int) (a_Contacts : List (Debounced)) (a_Beliefs : List (Belief)) (a_Cars : List (NewCar)) (a_Loads : List (Loaded)) (a_Expect : List (Int)) (a_Lit : List (Calls)) (a_Tick a_Faults a_Refused : Int) (b_Image_Phases : List (Int)) (b_Image_Flags b_Image_Leaving : List (Bool)) (b_Image_Entries : List (Entry)) (b_Store_Halves_0 b_Store_Halves_1 : ByteArray) (b_Store_Select : Int) (b_Contacts : List (Debounced)) (b_Beliefs : List (Belief)) (b_Cars : List (NewCar)) (b_Loads : List (Loaded)) (b_Expect : List (Int)) (b_Lit : List (Calls)) (b_Tick b_Faults b_Refused : Int) : Option ((Bool × Unit) × Unit) :=
 Option.bind ((nbc' a_Contacts b_Contacts).bind fun y1 =>
 bif y1.1.1 then
 (nh' a_Beliefs b_Beliefs).bind fun y2 =>
 bif y2.1.1 then
 (nbu' a_Cars b_Cars).bind fun y3 =>
 bif y3.1.1 then
 (nbs' a_Loads b_Loads).bind fun y4 =>
 bif y4.1.1 then
 (nb0' a_Lit b_Lit).bind fun y5 =>
 some (((), (), y5.1.1, ()), ((a_Image_Phases, a_Image_Flags, a_Image_Leaving, a_Image_Entries, a_Store_Halves_0, a_Store_Halves_1, a_Store_Select, a_Contacts, a_Beliefs, a_Cars, a_Loads, a_Expect, a_Lit, a_Tick, a_Faults, a_Refused, ()), (b_Image_Phases, b_Image_Flags, b_Image_Leaving, b_Image_Entries, b_Store_Halves_0, b_Store_Halves_1, b_Store_Select, b_Contacts, b_Beliefs, b_Cars, b_Loads, b_Expect, b_Lit, b_Tick, b_Faults, b_Refused, ()), ()))
 else
 some (((), (), false, ()), ((a_Image_Phases, a_Image_Flags, a_Image_Leaving, a_Image_Entries, a_Store_Halves_0, a_Store_Halves_1, a_Store_Select, a_Contacts, a_Beliefs, a_Cars, a_Loads, a_Expect, a_Lit, a_Tick, a_Faults, a_Refused, ()), (b_Image_Phases, b_Image_Flags, b_Image_Leaving, b_Image_Entries, b_Store_Halves_0, b_Store_Halves_1, b_Store_Select, b_Contacts, b_Beliefs, b_Cars, b_Loads, b_Expect, b_Lit, b_Tick, b_Faults, b_Refused, ()), ()))
 else
 some (((), (), false, ()), ((a_Image_Phases, a_Image_Flags, a_Image_Leaving, a_Image_Entries, a_Store_Halves_0, a_Store_Halves_1, a_Store_Select, a_Contacts, a_Beliefs, a_Cars, a_Loads, a_Expect, a_Lit, a_Tick, a_Faults, a_Refused, ()), (b_Image_Phases, b_Image_Flags, b_Image_Leaving, b_Image_Entries, b_Store_Halves_0, b_Store_Halves_1, b_Store_Select, b_Contacts, b_Beliefs, b_Cars, b_Loads, b_Expect, b_Lit, b_Tick, b_Faults, b_Refused, ()), ()))
 else
 some (((), (), false, ()), ((a_Image_Phases, a_Image_Flags, a_Image_Leaving, a_Image_Entries, a_Store_Halves_0, a_Store_Halves_1, a_Store_Select, a_Contacts, a_Beliefs, a_Cars, a_Loads, a_Expect, a_Lit, a_Tick, a_Faults, a_Refused, ()), (b_Image_Phases, b_Image_Flags, b_Image_Leaving, b_Image_Entries, b_Store_Halves_0, b_Store_Halves_1, b_Store_Select, b_Contacts, b_Beliefs, b_Cars, b_Loads, b_Expect, b_Lit, b_Tick, b_Faults, b_Refused, ()), ()))
 else
 some (((), (), false, ()), ((a_Image_Phases, a_Image_Flags, a_Image_Leaving, a_Image_Entries, a_Store_Halves_0, a_Store_Halves_1, a_Store_Select, a_Contacts, a_Beliefs, a_Cars, a_Loads, a_Expect, a_Lit, a_Tick, a_Faults, a_Refused, ()), (b_Image_Phases, b_Image_Flags, b_Image_Leaving, b_Image_Entries, b_Store_Halves_0, b_Store_Halves_1, b_Store_Select, b_Contacts, b_Beliefs, b_Cars, b_Loads, b_Expect, b_Lit, b_Tick, b_Faults, b_Refused, ()), ()))) fun y6 =>
 Option.bind (bif y6.1.2.2.1 then
 (nfz' y6.2.1.1 y6.2.1.2.1 y6.2.1.2.2.1 y6.2.1.2.2.2.1 y6.2.2.1.1 y6.2.2.1.2.1 y6.2.2.1.2.2.1 y6.2.2.1.2.2.2.1).bind fun y7 =>
 bif y7.1.1 then
 bif ((eqB y6.2.1.2.2.2.2.1 y6.2.2.1.2.2.2.2.1) && ((eqB y6.2.1.2.2.2.2.2.1 y6.2.2.1.2.2.2.2.2.1) && ((y6.2.1.2.2.2.2.2.2.1 == y6.2.2.1.2.2.2.2.2.2.1) && true))) then
 (ncg' y6.2.1.2.2.2.2.2.2.2.2.2.2.2.1 y6.2.2.1.2.2.2.2.2.2.2.2.2.2.2.1).bind fun y8 =>
 bif y8.1.1 then
 bif (y6.2.1.2.2.2.2.2.2.2.2.2.2.2.2.2.1 == y6.2.2.1.2.2.2.2.2.2.2.2.2.2.2.2.2.1) then
 bif (y6.2.1.2.2.2.2.2.2.2.2.2.2.2.2.2.2.1 == y6.2.2.1.2.2.2.2.2.2.2.2.2.2.2.2.2.2.1) then
 some (((y6.2.1.2.2.2.2.2.2.2.2.2.2.2.2.2.2.2.1 == y6.2.2.1.2.2.2.2.2.2.2.2.2.2.2.2.2.2.2.1), ()), ())
 else
 some ((false, ()), ())
 else
 some ((false, ()), ())
 else
 some ((false, ()), ())
 else
 some ((false, ()), ())
 else
 some ((false, ()), ())
 else
 some ((false, ()), ())) fun y9 =>
 some ((y9.1.1, ()), ())
noncomputable def ni8'  : Option ((Bool × Unit) × Unit) :=
 (nbr' (9 : Int) (90 : Int)).bind fun y1 =>
 Option.bind (some (((), ()), ((y1.2.1.1, y1.2.1.2.1, y1.2.1.2.2.1, y1.2.1.2.2.2.1, y1.2.1.2.2.2.2.1, y1.2.1.2.2.2.2.2.1, y1.2.1.2.2.2.2.2.2.1, y1.2.1.2.2.2.2.2.2.2.1, ()), ()))) fun y2 =>
 (neo' y2.2.1.1 y2.2.1.2.1 y2.2.1.2.2.1 y2.2.1.2.2.2.1 y2.2.1.2.2.2.2.1 y2.2.1.2.2.2.2.2.1 y2.2.1.2.2.2.2.2.2.1 y2.2.1.2.2.2.2.2.2.2.1).bind fun y3 =>
 (nbe' y2.2.1.1 y2.2.1.2.1 y2.2.1.2.2.1 y2.2.1.2.2.2.1 y2.2.1.2.2.2.2.1 y2.2.1.2.2.2.2.2.1 y2.2.1.2.2.2.2.2.2.1 y2.2.1.2.2.2.2.2.2.2.1 y3.2.1.2.2.2.2.1 y3.2.1.2.2.2.2.2.1 y3.2.1.2.2.2.2.2.2.1 (100 : Int)).bind fun y4 =>
 (nbe' y2.2.1.1 y2.2.1.2.1 y2.2.1.2.2.1 y2.2.1.2.2.2.1 y2.2.1.2.2.2.2.1 y2.2.1.2.2.2.2.2.1 y2.2.1.2.2.2.2.2.2.1 y2.2.1.2.2.2.2.2.2.2.1 y3.2.1.2.2.2.2.1 y3.2.1.2.2.2.2.2.1 y3.2.1.2.2.2.2.2.2.1 (0 : Int)).bind fun y5 =>
 Option.bind (bif (y3.1.2.1 == (0 : Int)) then
 bif (((List.length y3.2.1.2.2.2.2.2.2.2.2.1 : Nat) : Int) == (2 : Int)) then
 bif (inB (1 : Int) (List.length y3.2.1.2.2.2.2.2.2.2.2.1)) then
 bif ((List.getD y3.2.1.2.2.2.2.2.2.2.2.1 (Int.toNat (1 : Int)) (Belief.mk (0 : Int) (0 : Int) (0 : Int) [] (0 : Int) false)).Floor == (-1 : Int)) then
 bif (((List.length y3.2.1.1 : Nat) : Int) == (2 : Int)) then
 bif (y4.1.2.2.1 == (0 : Int)) then
 bif (y4.1.2.1 == (62 : Int)) then
 (ne7' y4.2.1.1 y4.2.1.2.1 y4.2.1.2.2.1 y4.2.1.2.2.2.1 y4.2.1.2.2.2.2.1 y4.2.1.2.2.2.2.2.1 y4.2.1.2.2.2.2.2.2.1 y4.2.1.2.2.2.2.2.2.2.1 y4.2.1.2.2.2.2.2.2.2.2.1 y4.2.1.2.2.2.2.2.2.2.2.2.1 y4.2.1.2.2.2.2.2.2.2.2.2.2.1 y4.2.1.2.2.2.2.2.2.2.2.2.2.2.1 y4.2.1.2.2.2.2.2.2.2.2.2.2.2.2.1 y4.2.1.2.2.2.2.2.2.2.2.2.2.2.2.2.1 y4.2.1.2.2.2.2.2.2.2.2.2.2.2.2.2.2.1 y4.2.1.2.2.2.2.2.2.2.2.2.2.2.2.2.2.2.1 y4.2.1.1 y4.2.1.2.1 y4.2.1.2.2.1 y4.2.1.2.2.2.1 y4.2.1.2.2.2.2.1 y4.2.1.2.2.2.2.2.1 y4.2.1.2.2.2.2.2.2.1 y4.2.1.2.2.2.2.2.2.2.1 y4.2.1.2.2.2.2.2.2.2.2.1 y4.2.1.2.2.2.2.2.2.2.2.2.1 y4.2.1.2.2.2.2.2.2.2.2.2.2.1 y4.2.1.2.2.2.2.2.2.2.2.2.2.2.1 y4.2.1.2.2.2.2.2.2.2.2.2.2.2.2.1 y4.2.1.2.2.2.2.2.2.2.2.2.2.2.2.2.1 y4.2.1.2.2.2.2.2.2.2.2.2.2.2.2.2.2.1 y4.2.1.2.2.2.2.2.2.2.2.2.2.2.2.2.2.2.1).bind fun y6 =>
 bif y6.1.1 then
 some (((y5.1.2.2.1 == (8 : Int)), ()), ())
 else
 some ((false, ()), ())
 else
 some ((false, ()), ())
 else
 some ((false, ()), ())
 else
 some ((false, ()), ())
 else
 some ((false, ()), ())
 else
 none
 else
 some ((false, ()), ())
 else
 some ((false, ()), ())) fun y7 =>
 some ((y7.1.1, ()), ())
noncomputable def F_l26_RestartAgain (n_f0 n_f1 : Int) (l : List (Int)) : Option ((Bool × Unit) × Unit) :=
 (nbr' n_f0 (250 : Int)).bind fun y1 =>
 (nhm' y1.2.1.1 y1.2.1.2.1 y1.2.1.2.2.1 y1.2.1.2.2.2.1 y1.2.1.2.2.2.2.1 y1.2.1.2.2.2.2.2.1 y1.2.1.2.2.2.2.2.2.1 y1.2.1.2.2.2.2.2.2.2.1 l).bind fun y2 =>
 (nfn' y1.2.1.1 y1.2.1.2.1 y1.2.1.2.2.1 y1.2.1.2.2.2.1 y1.2.1.2.2.2.2.1 y1.2.1.2.2.2.2.2.1 y1.2.1.2.2.2.2.2.2.1 y1.2.1.2.2.2.2.2.2.2.1 y2.2.1.1 y2.2.1.2.1 y2.2.1.2.2.1 y2.2.1.2.2.2.1).bind fun y3 =>
 (nhf' y1.2.1.1 y1.2.1.2.1 y1.2.1.2.2.1 y1.2.1.2.2.2.1 y1.2.1.2.2.2.2.1 y1.2.1.2.2.2.2.2.1 y1.2.1.2.2.2.2.2.2.1 y1.2.1.2.2.2.2.2.2.2.1 y3.1.1).bind fun y4 =>
 Option.bind (some (((), y4.1.1, ()), ((y1.2.1.1, y1.2.1.2.1, y1.2.1.2.2.1, y1.2.1.2.2.2.1, y1.2.1.2.2.2.2.1, y1.2.1.2.2.2.2.2.1, y1.2.1.2.2.2.2.2.2.1, y1.2.1.2.2.2.2.2.2.2.1, ()), ()))) fun y5 =>
 (nbe' y5.2.1.1 y5.2.1.2.1 y5.2.1.2.2.1 y5.2.1.2.2.2.1 y5.2.1.2.2.2.2.1 y5.2.1.2.2.2.2.2.1 y5.2.1.2.2.2.2.2.2.1 y5.2.1.2.2.2.2.2.2.2.1 (ByteArray.mk (Array.mk [])) y5.1.2.1 (1 : Int) (1048576 : Int)).bind fun y6 =>
 (nbe' y5.2.1.1 y5.2.1.2.1 y5.2.1.2.2.1 y5.2.1.2.2.2.1 y5.2.1.2.2.2.2.1 y5.2.1.2.2.2.2.2.1 y5.2.1.2.2.2.2.2.2.1 y5.2.1.2.2.2.2.2.2.2.1 y6.2.1.2.2.2.2.1 y6.2.1.2.2.2.2.2.1 y6.2.1.2.2.2.2.2.2.1 (1048576 : Int)).bind fun y7 =>
 bif (y6.1.2.2.1 != (0 : Int)) then
 some ((false, ()), ())
 else
 bif (y7.1.2.2.1 != (0 : Int)) then
 some ((false, ()), ())
 else
 bif (y6.2.1.2.2.2.2.2.2.1 != (0 : Int)) then
 some ((false, ()), ())
 else
 bif (y7.2.1.2.2.2.2.2.2.1 != (1 : Int)) then
 some ((false, ()), ())
 else
 bif (!(eqB y6.2.1.2.2.2.2.1 y5.1.2.1)) then
 some ((false, ()), ())
 else
 bif (!(eqB y7.2.1.2.2.2.2.2.1 y5.1.2.1)) then
 some ((false, ()), ())
 else
 Option.bind ((ng6' y6.2.1.1 y6.2.1.2.1 y6.2.1.2.2.1 y6.2.1.2.2.2.1 y6.2.1.2.2.2.2.1 y6.2.1.2.2.2.2.2.1 y6.2.1.2.2.2.2.2.2.1 y6.2.1.2.2.2.2.2.2.2.1 y6.2.1.2.2.2.2.2.2.2.2.1 y6.2.1.2.2.2.2.2.2.2.2.2.1 y6.2.1.2.2.2.2.2.2.2.2.2.2.1 y6.2.1.2.2.2.2.2.2.2.2.2.2.2.1 y6.2.1.2.2.2.2.2.2.2.2.2.2.2.2.1 y6.2.1.2.2.2.2.2.2.2.2.2.2.2.2.2.1 y6.2.1.2.2.2.2.2.2.2.2.2.2.2.2.2.2.1 y6.2.1.2.2.2.2.2.2.2.2.2.2.2.2.2.2.2.1 y7.2.1.1 y7.2.1.2.1 y7.2.1.2.2.1 y7.2.1.2.2.2.1 y6.2.1.2.2.2.2.1 y6.2.1.2.2.2.2.2.1 y6.2.1.2.2.2.2.2.2.1 y7.2.1.2.2.2.2.2.2.2.1 y7.2.1.2.2.2.2.2.2.2.2.1 y7.2.1.2.2.2.2.2.2.2.2.2.1 y7.2.1.2.2.2.2.2.2.2.2.2.2.1 y7.2.1.2.2.2.2.2.2.2.2.2.2.2.1 y7.2.1.2.2.2.2.2.2.2.2.2.2.2.2.1 y7.2.1.2.2.2.2.2.2.2.2.2.2.2.2.2.1 y7.2.1.2.2.2.2.2.2.2.2.2.2.2.2.2.2.1 y7.2.1.2.2.2.2.2.2.2.2.2.2.2.2.2.2.2.1).bind fun y8 =>
 bif y8.1.1 then
 (ni8').bind fun y9 =>
 some ((y9.1.1, ()), ())
 else
 some ((false, ()), ())) fun y10 =>
 some ((y10.1.1, ()), ())
noncomputable def nhg' (m_Phases : List (Int)) (m_Flags m_Leaving : List (Bool)) (m_Entries : List (Entry)) : Option ((Unit × Unit) × (T'5 × Unit)) :=
 (ncz' m_Phases).bind fun y1 =>
 (nbw' m_Flags).bind fun y2 =>
 (nbw' m_Leaving).bind fun y3 =>
 (nbz' m_Entries).bind fun y4 =>
 some (((), ()), ((y1.1.1, y2.1.1, y3.1.1, y4.1.1, ()), ()))
noncomputable def njt' (b_Floors b_Debounce b_Room b_Park : Int) (b_Empty b_Full b_Over : Nat) (b_Cars : List (Car)) (m_Phases : List (Int)) (m_Flags m_Leaving : List (Bool)) (m_Entries : List (Entry)) (r_Kind r_Floor r_Dir r_Car r_Value : Int) : Option ((Unit × Int × Unit) × (T'5 × Unit)) :=
 (nde' b_Floors b_Debounce b_Room b_Park b_Empty b_Full b_Over b_Cars m_Phases m_Flags m_Leaving m_Entries).bind fun y1 =>
 bif (!y1.1.1) then
 some (((), (1 : Int), ()), ((([] : List (Int)), ([] : List (Bool)), ([] : List (Bool)), ([] : List (Entry)), ()), ()))
 else
 (nd1' b_Floors b_Debounce b_Room b_Park b_Empty b_Full b_Over b_Cars r_Kind r_Floor r_Dir r_Car r_Value).bind fun y2 =>
 bif (!y2.1.1) then
 some (((), (1 : Int), ()), ((([] : List (Int)), ([] : List (Bool)), ([] : List (Bool)), ([] : List (Entry)), ()), ()))
 else
 (nhg' m_Phases m_Flags m_Leaving m_Entries).bind fun y3 =>
 (ngx' r_Kind r_Floor r_Dir r_Car r_Value y3.2.1.1 y3.2.1.2.1 y3.2.1.2.2.1 y3.2.1.2.2.2.1).bind fun y4 =>
 some (((), (0 : Int), ()), ((y4.2.1.1, y4.2.1.2.1, y4.2.1.2.2.1, y4.2.1.2.2.2.1, ()), ()))
noncomputable def nim' (b_Floors b_Debounce b_Room b_Park : Int) (b_Empty b_Full b_Over : Nat) (b_Cars : List (Car)) (m_Phases : List (Int)) (m_Flags m_Leaving : List (Bool)) (m_Entries : List (Entry)) : Option ((Bool × Unit) × Unit) :=
 Option.bind ((nde' b_Floors b_Debounce b_Room b_Park b_Empty b_Full b_Over b_Cars m_Phases m_Flags m_Leaving m_Entries).bind fun y1 =>
 bif y1.1.1 then
 some (((decide ((IntKind.i64.wrap ((IntKind.i64.wrap ((18 : Int) * (IntKind.i64.wrap ((IntKind.i64.wrap (((List.length b_Cars : Nat) : Int) + ((List.length m_Entries : Nat) : Int))) + (1 : Int))))) + (6 : Int))) ≤ b_Room)), ()), ())
 else
 some ((false, ()), ())) fun y2 =>
 some ((y2.1.1, ()), ())
noncomputable def ncs' (b_Floors b_Debounce b_Room b_Park : Int) (b_Empty b_Full b_Over : Nat) (b_Cars : List (Car)) (s_Halves_0 s_Halves_1 : ByteArray) (s_Select : Int) (m_Phases : List (Int)) (m_Flags m_Leaving : List (Bool)) (m_Entries : List (Entry)) (r_Kind r_Floor r_Dir r_Car r_Value budget : Int) : Option (T'7 × (T'37 × T'5 × Unit)) :=
 (njt' b_Floors b_Debounce b_Room b_Park b_Empty b_Full b_Over b_Cars m_Phases m_Flags m_Leaving m_Entries r_Kind r_Floor r_Dir r_Car r_Value).bind fun y1 =>
 bif (y1.1.2.1 != (0 : Int)) then
 some (((), (), (0 : Int), (1 : Int), ()), (((ByteArray.mk (Array.mk [])), (ByteArray.mk (Array.mk [])), (0 : Int), ()), (([] : List (Int)), ([] : List (Bool)), ([] : List (Bool)), ([] : List (Entry)), ()), ()))
 else
 (ncm' b_Room s_Halves_0 s_Halves_1 s_Select).bind fun y2 =>
 bif (!y2.1.1) then
 some (((), (), (0 : Int), (1 : Int), ()), (((ByteArray.mk (Array.mk [])), (ByteArray.mk (Array.mk [])), (0 : Int), ()), (([] : List (Int)), ([] : List (Bool)), ([] : List (Bool)), ([] : List (Entry)), ()), ()))
 else
 bif (decide (budget < (0 : Int))) then
 some (((), (), (0 : Int), (1 : Int), ()), (((ByteArray.mk (Array.mk [])), (ByteArray.mk (Array.mk [])), (0 : Int), ()), (([] : List (Int)), ([] : List (Bool)), ([] : List (Bool)), ([] : List (Entry)), ()), ()))
 else
 (niy' m_Phases m_Flags m_Leaving m_Entries r_Floor r_Dir).bind fun y3 =>
 Option.bind (bif (r_Kind == (1 : Int)) then
 bif (!y3.1.2.1) then
 (nim' b_Floors b_Debounce b_Room b_Park b_Empty b_Full b_Over b_Cars m_Phases m_Flags m_Leaving m_Entries).bind fun y4 =>
 some ((budget, (), (), (), (), (), (), (), (!y4.1.1), ()), ((b_Floors, b_Debounce, b_Room, b_Park, b_Empty, b_Full, b_Over, b_Cars, ()), (s_Halves_0, s_Halves_1, s_Select, ()), (m_Phases, m_Flags, m_Leaving, m_Entries, ()), (r_Kind, r_Floor, r_Dir, r_Car, r_Value, ()), ((ByteArray.mk (Array.mk [])), (ByteArray.mk (Array.mk [])), (0 : Int), ()), (([] : List (Int)), ([] : List (Bool)), ([] : List (Bool)), ([] : List (Entry)), ()), (y1.2.1.1, y1.2.1.2.1, y1.2.1.2.2.1, y1.2.1.2.2.2.1, ()), ()))
 else
 some ((budget, (), (), (), (), (), (), (), false, ()), ((b_Floors, b_Debounce, b_Room, b_Park, b_Empty, b_Full, b_Over, b_Cars, ()), (s_Halves_0, s_Halves_1, s_Select, ()), (m_Phases, m_Flags, m_Leaving, m_Entries, ()), (r_Kind, r_Floor, r_Dir, r_Car, r_Value, ()), ((ByteArray.mk (Array.mk [])), (ByteArray.mk (Array.mk [])), (0 : Int), ()), (([] : List (Int)), ([] : List (Bool)), ([] : List (Bool)), ([] : List (Entry)), ()), (y1.2.1.1, y1.2.1.2.1, y1.2.1.2.2.1, y1.2.1.2.2.2.1, ()), ()))
 else
 some ((budget, (), (), (), (), (), (), (), false, ()), ((b_Floors, b_Debounce, b_Room, b_Park, b_Empty, b_Full, b_Over, b_Cars, ()), (s_Halves_0, s_Halves_1, s_Select, ()), (m_Phases, m_Flags, m_Leaving, m_Entries, ()), (r_Kind, r_Floor, r_Dir, r_Car, r_Value, ()), ((ByteArray.mk (Array.mk [])), (ByteArray.mk (Array.mk [])), (0 : Int), ()), (([] : List (Int)), ([] : List (Bool)), ([] : List (Bool)), ([] : List (Entry)), ()), (y1.2.1.1, y1.2.1.2.1, y1.2.1.2.2.1, y1.2.1.2.2.2.1, ()), ()))) fun y5 =>
 bif y5.1.2.2.2.2.2.2.2.2.1 then
 some (((), (), (0 : Int), (7 : Int), ()), (((ByteArray.mk (Array.mk [])), (ByteArray.mk (Array.mk [])), (0 : Int), ()), (([] : List (Int)), ([] : List (Bool)), ([] : List (Bool)), ([] : List (Entry)), ()), ()))
 else
 (nex' y5.2.1.1 y5.2.1.2.1 y5.2.1.2.2.1 y5.2.1.2.2.2.1 y5.2.1.2.2.2.2.1 y5.2.1.2.2.2.2.2.1 y5.2.1.2.2.2.2.2.2.1 y5.2.1.2.2.2.2.2.2.2.1 y5.2.2.2.2.1.1 y5.2.2.2.2.1.2.1 y5.2.2.2.2.1.2.2.1 y5.2.2.2.2.1.2.2.2.1 y5.2.2.2.2.1.2.2.2.2.1).bind fun y6 =>
 Option.bind ((ney' y5.2.2.1.1 y5.2.2.1.2.1 y5.2.2.1.2.2.1).bind fun y7 =>
 bif (decide (((ByteArray.size y6.1.1 : Nat) : Int) ≤ (IntKind.i64.wrap (y5.2.1.2.2.1 - ((ByteArray.size y7.1.1 : Nat) : Int))))) then
 (nee' y5.2.1.2.2.1 y5.2.2.1.1 y5.2.2.1.2.1 y5.2.2.1.2.2.1 y5.2.2.1.2.2.1 y6.1.1 y5.1.1).bind fun y8 =>
 some ((y8.1.2.1, (), (), (), (), (), y8.1.2.2.1, ()), ((y8.2.1.1, y8.2.1.2.1, y8.2.1.2.2.1, ()), (y5.2.2.2.1.1, y5.2.2.2.1.2.1, y5.2.2.2.1.2.2.1, y5.2.2.2.1.2.2.2.1, ()), (y5.2.2.2.2.2.1.1, y5.2.2.2.2.2.1.2.1, y5.2.2.2.2.2.1.2.2.1, ()), (y5.2.2.2.2.2.2.1.1, y5.2.2.2.2.2.2.1.2.1, y5.2.2.2.2.2.2.1.2.2.1, y5.2.2.2.2.2.2.1.2.2.2.1, ()), (y5.2.2.2.2.2.2.2.1.1, y5.2.2.2.2.2.2.2.1.2.1, y5.2.2.2.2.2.2.2.1.2.2.1, y5.2.2.2.2.2.2.2.1.2.2.2.1, ()), ()))
 else
 (ngb' y5.2.1.1 y5.2.1.2.1 y5.2.1.2.2.1 y5.2.1.2.2.2.1 y5.2.1.2.2.2.2.1 y5.2.1.2.2.2.2.2.1 y5.2.1.2.2.2.2.2.2.1 y5.2.1.2.2.2.2.2.2.2.1 y5.2.2.1.1 y5.2.2.1.2.1 y5.2.2.1.2.2.1 y5.2.2.2.2.2.2.2.1.1 y5.2.2.2.2.2.2.2.1.2.1 y5.2.2.2.2.2.2.2.1.2.2.1 y5.2.2.2.2.2.2.2.1.2.2.2.1 y5.1.1).bind fun y9 =>
 some ((y9.1.2.1, (), (), (), (), (), y9.1.2.2.1, ()), ((y9.2.1.1, y9.2.1.2.1, y9.2.1.2.2.1, ()), (y5.2.2.2.1.1, y5.2.2.2.1.2.1, y5.2.2.2.1.2.2.1, y5.2.2.2.1.2.2.2.1, ()), (y5.2.2.2.2.2.1.1, y5.2.2.2.2.2.1.2.1, y5.2.2.2.2.2.1.2.2.1, ()), (y5.2.2.2.2.2.2.1.1, y5.2.2.2.2.2.2.1.2.1, y5.2.2.2.2.2.2.1.2.2.1, y5.2.2.2.2.2.2.1.2.2.2.1, ()), (y5.2.2.2.2.2.2.2.1.1, y5.2.2.2.2.2.2.2.1.2.1, y5.2.2.2.2.2.2.2.1.2.2.1, y5.2.2.2.2.2.2.2.1.2.2.2.1, ()), ()))) fun y10 =>
 bif (y10.1.2.2.2.2.2.2.1 == (0 : Int)) then
 some (((), (), y10.1.1, y10.1.2.2.2.2.2.2.1, ()), ((y10.2.1.1, y10.2.1.2.1, y10.2.1.2.2.1, ()), (y10.2.2.2.2.2.1.1, y10.2.2.2.2.2.1.2.1, y10.2.2.2.2.2.1.2.2.1, y10.2.2.2.2.2.1.2.2.2.1, ()), ()))
 else
 bif (y10.1.2.2.2.2.2.2.1 == (8 : Int)) then
 (nhg' y10.2.2.1.1 y10.2.2.1.2.1 y10.2.2.1.2.2.1 y10.2.2.1.2.2.2.1).bind fun y11 =>
 some (((), (), (0 : Int), y10.1.2.2.2.2.2.2.1, ()), ((y10.2.1.1, y10.2.1.2.1, y10.2.1.2.2.1, ()), (y11.2.1.1, y11.2.1.2.1, y11.2.1.2.2.1, y11.2.1.2.2.2.1, ()), ()))
 else
 some (((), (), (0 : Int), y10.1.2.2.2.2.2.2.1, ()), (((ByteArray.mk (Array.mk [])), (ByteArray.mk (Array.mk [])), (0 : Int), ()), (([] : List (Int)), ([] : List (Bool)), ([] : List (Bool)), ([] : List (Entry)), ()), ()))
noncomputable def nmy'  : Option ((Bool × Unit) × Unit) :=
 (nbr' (9 : Int) (30 : Int)).bind fun y1 =>
 (nef' y1.2.1.1 y1.2.1.2.1 y1.2.1.2.2.1 y1.2.1.2.2.2.1 y1.2.1.2.2.2.2.1 y1.2.1.2.2.2.2.2.1 y1.2.1.2.2.2.2.2.2.1 y1.2.1.2.2.2.2.2.2.2.1).bind fun y2 =>
 (ncs' y1.2.1.1 y1.2.1.2.1 y1.2.1.2.2.1 y1.2.1.2.2.2.1 y1.2.1.2.2.2.2.1 y1.2.1.2.2.2.2.2.1 y1.2.1.2.2.2.2.2.2.1 y1.2.1.2.2.2.2.2.2.2.1 (ByteArray.mk (Array.mk [])) (ByteArray.mk (Array.mk [])) (0 : Int) y2.2.1.1 y2.2.1.2.1 y2.2.1.2.2.1 y2.2.1.2.2.2.1 (1 : Int) (2 : Int) (1 : Int) (0 : Int) (0 : Int) (100 : Int)).bind fun y3 =>
 (ncs' y1.2.1.1 y1.2.1.2.1 y1.2.1.2.2.1 y1.2.1.2.2.2.1 y1.2.1.2.2.2.2.1 y1.2.1.2.2.2.2.2.1 y1.2.1.2.2.2.2.2.2.1 y1.2.1.2.2.2.2.2.2.2.1 y3.2.1.1 y3.2.1.2.1 y3.2.1.2.2.1 y3.2.2.1.1 y3.2.2.1.2.1 y3.2.2.1.2.2.1 y3.2.2.1.2.2.2.1 (3 : Int) (2 : Int) (1 : Int) (0 : Int) (0 : Int) y3.1.2.2.1).bind fun y4 =>
 (ncs' y1.2.1.1 y1.2.1.2.1 y1.2.1.2.2.1 y1.2.1.2.2.2.1 y1.2.1.2.2.2.2.1 y1.2.1.2.2.2.2.2.1 y1.2.1.2.2.2.2.2.2.1 y1.2.1.2.2.2.2.2.2.2.1 y4.2.1.1 y4.2.1.2.1 y4.2.1.2.2.1 y4.2.2.1.1 y4.2.2.1.2.1 y4.2.2.1.2.2.1 y4.2.2.1.2.2.2.1 (2 : Int) (2 : Int) (1 : Int) (0 : Int) (0 : Int) (5 : Int)).bind fun y5 =>
 Option.bind (bif (y3.1.2.2.2.1 == (0 : Int)) then
 bif (y3.1.2.2.1 == (94 : Int)) then
 bif (y4.1.2.2.2.1 == (0 : Int)) then
 bif (y4.1.2.2.1 == (88 : Int)) then
 bif (((List.length y4.2.2.1.2.2.2.1 : Nat) : Int) == (1 : Int)) then
 bif (inB (0 : Int) (List.length y4.2.2.1.2.2.2.1)) then
 let z0 : Entry := (List.getD y4.2.2.1.2.2.2.1 (Int.toNat (0 : Int)) (Entry.mk (0 : Int) (0 : Int) (0 : Int) (0 : Int) false))
 bif ((z0.Floor == (2 : Int)) && ((z0.Dir == (1 : Int)) && ((z0.Car == (0 : Int)) && ((z0.Moves == (0 : Int)) && ((z0.Moved == false) && true))))) then
 bif (y5.1.2.2.2.1 == (8 : Int)) then
 (nfz' y5.2.2.1.1 y5.2.2.1.2.1 y5.2.2.1.2.2.1 y5.2.2.1.2.2.2.1 y4.2.2.1.1 y4.2.2.1.2.1 y4.2.2.1.2.2.1 y4.2.2.1.2.2.2.1).bind fun y6 =>
 bif y6.1.1 then
 (nfm' y1.2.1.1 y1.2.1.2.1 y1.2.1.2.2.1 y1.2.1.2.2.2.1 y1.2.1.2.2.2.2.1 y1.2.1.2.2.2.2.2.1 y1.2.1.2.2.2.2.2.2.1 y1.2.1.2.2.2.2.2.2.2.1 y5.2.1.1 y5.2.1.2.1 y5.2.1.2.2.1).bind fun y7 =>
 (nfz' y7.2.1.1 y7.2.1.2.1 y7.2.1.2.2.1 y7.2.1.2.2.2.1 y4.2.2.1.1 y4.2.2.1.2.1 y4.2.2.1.2.2.1 y4.2.2.1.2.2.2.1).bind fun y8 =>
 some ((y8.1.1, ()), ())
 else
 some ((false, ()), ())
 else
 some ((false, ()), ())
 else
 some ((false, ()), ())
 else
 none
 else
 some ((false, ()), ())
 else
 some ((false, ()), ())
 else
 some ((false, ()), ())
 else
 some ((false, ()), ())
 else
 some ((false, ()), ())) fun y9 =>
 some ((y9.1.1, ()), ())
end Go.Ovl
