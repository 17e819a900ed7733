/- What each function of the program comes to: part 1. -/
import Derived.Test.YthdomhdippmaiaaGreatTy
namespace Go.Ovl
open Go Go.Ab
set_option maxRecDepth 100000
@[reducible] def T'0 : Type := (Int × Int × Int × Int × Nat × Nat × Nat × List (Car) × Unit)
@[reducible] def T'1 : Type := (Int × Int × Unit × Unit × Int × Unit)
@[reducible] def T'2 : Type := (Int × Int × List (Int) × Int × Int × Unit)
@[reducible] def T'3 : Type := (Unit × Bool × List (Car) × Int × Int × Unit)
@[reducible] def T'4 : Type := (List (Int) × List (Bool) × List (Bool) × List (Entry) × Unit)
@[reducible] def T'5 : Type := (ByteArray × Int × Int × Int × Unit)
@[reducible] def T'6 : Type := (ByteArray × Int × Int × Int × Int × Unit)
@[reducible] def T'7 : Type := (Int × Int × Int × Int × Int × Unit)
@[reducible] def T'8 : Type := (List (Record) × Int × Unit)
@[reducible] def T'9 : Type := (ByteArray × Unit × List (Record) × Int × Unit)
@[reducible] def T'10 : Type := (Int × List (Int) × Int × Int × Unit)
@[reducible] def T'11 : Type := (List (Entry) × Unit × Unit × Int × Int × Int × Unit)
@[reducible] def T'12 : Type := (Int × Int × Int × Int × Bool × Unit)
@[reducible] def T'13 : Type := (List (Entry) × Unit × Unit × Int × Int × Unit)
@[reducible] def T'14 : Type := (Unit × Unit × List (Record) × Int × Int × Unit)
@[reducible] def T'15 : Type := (Unit × Unit × List (Int) × Int × Int × Unit)
@[reducible] def T'16 : Type := (Unit × Unit × List (Entry) × Int × Int × Unit)
@[reducible] def T'17 : Type := ((List (Record) × Unit) × (Int × Unit) × Unit)
@[reducible] def T'18 : Type := ((List (Record) × Unit) × T'12 × Unit)
@[reducible] def T'19 : Type := (Unit × Unit × Int × Int × Unit)
@[reducible] def T'20 : Type := (T'4 × (List (Record) × Unit) × Unit)
@[reducible] def T'21 : Type := (Unit × List (Entry) × Int × Int × Unit)
@[reducible] def T'22 : Type := ((List (Record) × Unit) × Unit)
@[reducible] def T'23 : Type := (Unit × List (Int) × Unit)
@[reducible] def T'24 : Type := (ByteArray × ByteArray × Int × Unit)
@[reducible] def T'25 : Type := (T'24 × (Int × Unit) × Unit)
@[reducible] def T'26 : Type := (Int × Unit × Unit × Unit × Unit × List (Record) × Int × Int × Unit)
@[reducible] def T'27 : Type := (T'0 × T'24 × T'24 × T'23 × Unit)
@[reducible] def T'28 : Type := (Int × Unit × Unit × Unit × Unit × Unit)
@[reducible] def T'29 : Type := (Int × Int × Int × List (Duty) × Int × Bool × Unit)
@[reducible] def T'30 : Type := (List (Int) × List (Bool) × List (Bool) × List (Entry) × ByteArray × ByteArray × Int × List (Debounced) × List (Belief) × List (NewCar) × List (Loaded) × List (Int) × List (Calls) × Int × Int × Int × Unit)
@[reducible] def T'31 : Type := (Unit × Unit × Unit × Unit × Int × Int × Unit)
@[reducible] def T'32 : Type := (T'0 × T'4 × T'30 × T'30 × Unit)
@[reducible] def T'33 : Type := (Unit × Unit × Unit × Unit × Unit)
@[reducible] def T'34 : Type := (Unit × Unit × Unit × List (Entry) × Int × Int × Unit)
@[reducible] def T'35 : Type := (T'0 × T'30 × T'30 × Unit)
@[reducible] def T'36 : Type := (List (Debounced) × List (Debounced) × Int × Int × Unit)
@[reducible] def T'37 : Type := (List (Duty) × List (Duty) × Int × Int × Unit)
@[reducible] def T'38 : Type := (List (Belief) × Unit × List (Belief) × Int × Int × Unit)
@[reducible] def T'39 : Type := (List (NewCar) × List (NewCar) × Int × Int × Unit)
@[reducible] def T'40 : Type := (List (Loaded) × List (Loaded) × Int × Int × Unit)
@[reducible] def T'41 : Type := (List (Calls) × List (Calls) × Int × Int × Unit)
@[reducible] def T'42 : Type := (List (Int) × List (Int) × Int × Int × Unit)
@[reducible] def T'43 : Type := (List (Bool) × List (Bool) × Int × Int × Unit)
@[reducible] def T'44 : Type := (List (Entry) × List (Entry) × Int × Int × Unit)
@[reducible] def T'45 : Type := (Unit × Unit × List (Int) × Int × Unit)
@[reducible] def T'46 : Type := (Int × Int × Int × Int × Int × Int × Int × Int × Int × Unit)
@[reducible] def T'47 : Type := (Unit × Bool × Int × Unit)
@[reducible] def T'48 : Type := (List (Int) × Int × List (Record) × Int × Int × Int × Unit)
@[reducible] def T'49 : Type := (Unit × Unit × Int × Unit)
@[reducible] def T'50 : Type := (Int × Int × Unit × Int × Unit)
@[reducible] def T'51 : Type := (List (Entry) × Unit × List (Entry) × Bool × Int × Unit)
@[reducible] def T'52 : Type := (Unit × List (Entry) × Bool × Unit)
@[reducible] def T'53 : Type := (Unit × Unit × Unit × List (Record) × Int × Unit)
@[reducible] def T'54 : Type := (Unit × List (Record) × Int × Unit)
@[reducible] def T'55 : Type := (Unit × List (Record) × Unit)
@[reducible] def T'56 : Type := (ByteArray × Int × Int × Unit)
@[reducible] def T'57 : Type := (List (Record) × Unit × ByteArray × Int × Unit)
@[reducible] def T'58 : Type := (Unit × Unit × Unit × Int × Unit × Int × Unit)
@[reducible] def T'59 : Type := (Unit × Unit × Unit × Unit × Int × Unit)
@[reducible] def T'60 : Type := (List (Calls) × List (Calls) × Int × Unit)
@[reducible] def T'61 : Type := (List (Int) × List (Int) × Int × Unit)
@[reducible] def T'62 : Type := (List (Int) × Unit × Int × Int × Unit)
@[reducible] def T'63 : Type := (Int × Int × Int × Int × Int × Int × Int × Int × Int × Int × Int × Int × Int × Int × Int × Int × Int × Int × Int × Int × Int × Int × Int × Int × Int × Int × Int × Int × Int × Int × Int × Int × Int × Int × Int × Int × Unit)
@[reducible] def T'64 : Type := (Unit × List (Debounced) × Int × Int × Unit)
@[reducible] def T'65 : Type := (Int × Unit × Unit × List (Duty) × Int × Int × Unit)
@[reducible] def T'66 : Type := (Unit × List (Belief) × Int × Int × Unit)
@[reducible] def T'67 : Type := (Unit × List (NewCar) × Int × Int × Unit)
@[reducible] def T'68 : Type := (Unit × List (Loaded) × Int × Int × Unit)
@[reducible] def T'69 : Type := (Int × ByteArray × Int × Unit × Unit × Int × Unit)
@[reducible] def T'70 : Type := (Int × Unit × Unit × Unit)
@[reducible] def T'71 : Type := (Unit × Unit × Unit × Unit × List (Store) × Int × Int × Unit)
@[reducible] def T'72 : Type := ((Int × Int × Int × Unit) × T'0 × T'4 × T'24 × Unit)
@[reducible] def T'73 : Type := (Unit × Unit × Unit × Unit × Unit × List (Store) × Int × Int × List (Int) × Int × Int × Unit)
@[reducible] def T'74 : Type := ((Int × Int × Int × Unit) × T'0 × T'4 × T'24 × T'24 × Unit)
noncomputable def ne9' (floors cars i b4_Floors b4_Debounce b4_Room b4_Park : Int) (b4_Empty b4_Full b4_Over : Nat) (b4_Cars : List (Car)) (b_Floors b_Debounce b_Room b_Park : Int) (b_Empty b_Full b_Over : Nat) (b_Cars : List (Car)) : Option (Sum (T'1 × (T'0 × T'0 × Unit)) ((Unit × Unit × Unit) × (T'0 × T'0 × Unit))) :=
 bif (decide (i < cars)) then
 bif (floors != (0 : Int)) then
 let z0 : List (Car) := [(Car.mk (100 : Int) (2 : Int) (6 : Int) (5 : Int) (4 : Int) (2 : Int) (3 : Int) (10 : Int) (Int.tmod i floors))]
 bif (Nat.ble ((List.length b_Cars) + (List.length z0)) 2147483648) then
 some (Sum.inl ((floors, cars, (), (), (IntKind.i64.wrap (i + (1 : Int))), ()), ((b4_Floors, b4_Debounce, b4_Room, b4_Park, b4_Empty, b4_Full, b4_Over, b4_Cars, ()), (b_Floors, b_Debounce, b_Room, b_Park, b_Empty, b_Full, b_Over, (b_Cars ++ z0), ()), ())))
 else
 none
 else
 none
 else
 some (Sum.inr (((), (), ()), ((b4_Floors, b4_Debounce, b4_Room, b4_Park, b4_Empty, b4_Full, b4_Over, b4_Cars, ()), (b_Floors, b_Debounce, b_Room, b_Park, b_Empty, b_Full, b_Over, b_Cars, ()), ())))
noncomputable def ngh' : (T'1 × (T'0 × T'0 × Unit)) → Option ((Unit × Unit × Unit) × (T'0 × T'0 × Unit)) := iter (fun x => ne9' x.1.1 x.1.2.1 x.1.2.2.2.2.1 x.2.1.1 x.2.1.2.1 x.2.1.2.2.1 x.2.1.2.2.2.1 x.2.1.2.2.2.2.1 x.2.1.2.2.2.2.2.1 x.2.1.2.2.2.2.2.2.1 x.2.1.2.2.2.2.2.2.2.1 x.2.2.1.1 x.2.2.1.2.1 x.2.2.1.2.2.1 x.2.2.1.2.2.2.1 x.2.2.1.2.2.2.2.1 x.2.2.1.2.2.2.2.2.1 x.2.2.1.2.2.2.2.2.2.1 x.2.2.1.2.2.2.2.2.2.2.1) fuel
noncomputable def nkq' (floors cars : Int) : Option ((Unit × Unit) × (T'0 × Unit)) :=
 (ngh' ((floors, cars, (), (), (0 : Int), ()), (((0 : Int), (0 : Int), (0 : Int), (0 : Int), 0, 0, 0, ([] : List (Car)), ()), (floors, (1 : Int), (4000 : Int), (30 : Int), 4591870180066957722, 4605380978949069210, 4607632778762754458, ([] : List (Car)), ()), ()))).bind fun y1 =>
 some (((), ()), (y1.2.2.1, ()))
noncomputable def nc5' (n room : Int) : Option ((Unit × Unit) × (T'0 × Unit)) :=
 (nkq' (IntKind.i64.wrap ((2 : Int) + (IntKind.i64.wrap (Int.tmod n (7 : Int))))) (IntKind.i64.wrap ((1 : Int) + (IntKind.i64.wrap (Int.tmod (IntKind.u8.wrap (Int.tdiv n (7 : Int))) (3 : Int)))))).bind fun y1 =>
 some (((), ()), ((y1.2.1.1, y1.2.1.2.1, (IntKind.i64.wrap ((IntKind.i64.wrap ((IntKind.i64.wrap ((18 : Int) * ((List.length y1.2.1.2.2.2.2.2.2.2.1 : Nat) : Int))) + (24 : Int))) + (IntKind.i64.wrap room))), y1.2.1.2.2.2.1, y1.2.1.2.2.2.2.1, y1.2.1.2.2.2.2.2.1, y1.2.1.2.2.2.2.2.2.1, y1.2.1.2.2.2.2.2.2.2.1, ()), ()))
noncomputable def nbw' (lo hi : Int) (s9 : List (Int)) (s10 s11 : Int) : Option (Sum (T'2 × Unit) ((Unit × Unit) ⊕ ((Bool × Unit) × Unit))) :=
 bif (decide (s11 < s10)) then
 bif (inB s11 (List.length s9)) then
 let z0 : Int := (List.getD s9 (Int.toNat s11) (0 : Int))
 bif (decide (z0 < lo)) then
 some (Sum.inr (Sum.inr ((false, ()), ())))
 else
 bif (decide (hi < z0)) then
 some (Sum.inr (Sum.inr ((false, ()), ())))
 else
 some (Sum.inl ((lo, hi, s9, s10, (IntKind.i64.wrap (s11 + (1 : Int))), ()), ()))
 else
 none
 else
 some (Sum.inr (Sum.inl ((), ())))
noncomputable def nfi' : (T'2 × Unit) → Option ((Unit × Unit) ⊕ ((Bool × Unit) × Unit)) := iter (fun x => nbw' x.1.1 x.1.2.1 x.1.2.2.1 x.1.2.2.2.1 x.1.2.2.2.2.1) fuel
noncomputable def nbc' (lo hi : Int) (l : List (Int)) : Option ((Bool × Unit) × Unit) :=
 (nfi' ((lo, hi, l, ((List.length l : Nat) : Int), (0 : Int), ()), ())).bind fun y1 =>
 (match y1 with
 | .inl y2 =>
 some ((true, ()), ())
 | .inr y2 =>
 some ((y2.1.1, ()), ()))
noncomputable def ng8' (c_Deadline c_Pulse c_Quiet c_Slack c_Step c_Travel c_Dwell c_Hold c_Home floors : Int) : Option ((Bool × Unit) × Unit) :=
 Option.bind ((nbc' (1 : Int) (10000 : Int) [c_Deadline, c_Pulse, c_Quiet, c_Step, c_Travel, c_Dwell, c_Hold]).bind fun y1 =>
 bif y1.1.1 then
 (nbc' (0 : Int) (10000 : Int) [c_Slack]).bind fun y2 =>
 bif y2.1.1 then
 bif (decide (c_Dwell ≤ c_Hold)) then
 (nbc' (0 : Int) (IntKind.i64.wrap (floors - (1 : Int))) [c_Home]).bind fun y3 =>
 some ((y3.1.1, ()), ())
 else
 some ((false, ()), ())
 else
 some ((false, ()), ())
 else
 some ((false, ()), ())) fun y4 =>
 some ((y4.1.1, ()), ())
noncomputable def ng9' (b_Floors b_Debounce b_Room b_Park : Int) (b_Empty b_Full b_Over : Nat) (b_Cars : List (Car)) : Option ((Bool × Unit) × Unit) :=
 Option.bind (bif (((FloatKind.format FloatKind.f64).order 0 b_Empty) == some Ordering.lt) then
 bif (((FloatKind.format FloatKind.f64).order b_Empty b_Full) == some Ordering.lt) then
 bif (((FloatKind.format FloatKind.f64).order b_Full b_Over) == some Ordering.lt) then
 some (((((FloatKind.format FloatKind.f64).order b_Over 9218868437227405311) == some Ordering.lt || ((FloatKind.format FloatKind.f64).order b_Over 9218868437227405311) == some Ordering.eq), ()), ())
 else
 some ((false, ()), ())
 else
 some ((false, ()), ())
 else
 some ((false, ()), ())) fun y1 =>
 some ((y1.1.1, ()), ())
noncomputable def ndm' (good : Bool) (s28 : List (Car)) (s29 s30 b_Floors b_Debounce b_Room b_Park : Int) (b_Empty b_Full b_Over : Nat) (b_Cars : List (Car)) : Option (Sum (T'3 × (T'0 × Unit)) ((Unit × Bool × Unit) × (T'0 × Unit))) :=
 bif (decide (s30 < s29)) then
 bif (inB s30 (List.length s28)) then
 let z0 : Car := (List.getD s28 (Int.toNat s30) (Car.mk (0 : Int) (0 : Int) (0 : Int) (0 : Int) (0 : Int) (0 : Int) (0 : Int) (0 : Int) (0 : Int)))
 Option.bind (bif good then
 (ng8' z0.Deadline z0.Pulse z0.Quiet z0.Slack z0.Step z0.Travel z0.Dwell z0.Hold z0.Home b_Floors).bind fun y1 =>
 some (((), y1.1.1, s28, s29, s30, ()), ((b_Floors, b_Debounce, b_Room, b_Park, b_Empty, b_Full, b_Over, b_Cars, ()), ()))
 else
 some (((), false, s28, s29, s30, ()), ((b_Floors, b_Debounce, b_Room, b_Park, b_Empty, b_Full, b_Over, b_Cars, ()), ()))) fun y2 =>
 some (Sum.inl (((), y2.1.2.1, y2.1.2.2.1, y2.1.2.2.2.1, (IntKind.i64.wrap (y2.1.2.2.2.2.1 + (1 : Int))), ()), (y2.2.1, ())))
 else
 none
 else
 some (Sum.inr (((), good, ()), ((b_Floors, b_Debounce, b_Room, b_Park, b_Empty, b_Full, b_Over, b_Cars, ()), ())))
noncomputable def nf1' : (T'3 × (T'0 × Unit)) → Option ((Unit × Bool × Unit) × (T'0 × Unit)) := iter (fun x => ndm' x.1.2.1 x.1.2.2.1 x.1.2.2.2.1 x.1.2.2.2.2.1 x.2.1.1 x.2.1.2.1 x.2.1.2.2.1 x.2.1.2.2.2.1 x.2.1.2.2.2.2.1 x.2.1.2.2.2.2.2.1 x.2.1.2.2.2.2.2.2.1 x.2.1.2.2.2.2.2.2.2.1) fuel
noncomputable def nby' (b_Floors b_Debounce b_Room b_Park : Int) (b_Empty b_Full b_Over : Nat) (b_Cars : List (Car)) : Option ((Int × Unit) × Unit) :=
 (nbc' (2 : Int) (32 : Int) [b_Floors]).bind fun y1 =>
 bif (!y1.1.1) then
 some (((10 : Int), ()), ())
 else
 (nbc' (1 : Int) (8 : Int) [((List.length b_Cars : Nat) : Int)]).bind fun y2 =>
 bif (!y2.1.1) then
 some (((11 : Int), ()), ())
 else
 Option.bind ((nbc' (1 : Int) (16 : Int) [b_Debounce]).bind fun y3 =>
 bif y3.1.1 then
 (nbc' (1 : Int) (10000 : Int) [b_Park]).bind fun y4 =>
 some (((), y4.1.1, ()), ((b_Floors, b_Debounce, b_Room, b_Park, b_Empty, b_Full, b_Over, b_Cars, ()), ()))
 else
 some (((), false, ()), ((b_Floors, b_Debounce, b_Room, b_Park, b_Empty, b_Full, b_Over, b_Cars, ()), ()))) fun y5 =>
 (nf1' (((), y5.1.2.1, y5.2.1.2.2.2.2.2.2.2.1, ((List.length y5.2.1.2.2.2.2.2.2.2.1 : Nat) : Int), (0 : Int), ()), (y5.2.1, ()))).bind fun y6 =>
 bif (!y6.1.2.1) then
 some (((12 : Int), ()), ())
 else
 (ng9' y6.2.1.1 y6.2.1.2.1 y6.2.1.2.2.1 y6.2.1.2.2.2.1 y6.2.1.2.2.2.2.1 y6.2.1.2.2.2.2.2.1 y6.2.1.2.2.2.2.2.2.1 y6.2.1.2.2.2.2.2.2.2.1).bind fun y7 =>
 bif (!y7.1.1) then
 some (((13 : Int), ()), ())
 else
 (nbc' (IntKind.i64.wrap ((IntKind.i64.wrap ((18 : Int) * ((List.length y6.2.1.2.2.2.2.2.2.2.1 : Nat) : Int))) + (24 : Int))) (65536 : Int) [y6.2.1.2.2.1]).bind fun y8 =>
 bif (!y8.1.1) then
 some (((14 : Int), ()), ())
 else
 some (((0 : Int), ()), ())
noncomputable def njl' (b_Floors b_Debounce b_Room b_Park : Int) (b_Empty b_Full b_Over : Nat) (b_Cars : List (Car)) : Option ((Unit × Unit) × (T'4 × Unit)) :=
 (nby' b_Floors b_Debounce b_Room b_Park b_Empty b_Full b_Over b_Cars).bind fun y1 =>
 bif (y1.1.1 != (0 : Int)) then
 some (((), ()), ((([] : List (Int)), ([] : List (Bool)), ([] : List (Bool)), ([] : List (Entry)), ()), ()))
 else
 let z0 : Int := ((List.length b_Cars : Nat) : Int)
 bif (((decide ((0 : Int) ≤ z0)) && (decide (z0 ≤ z0))) && (decide (z0 ≤ (2147483648 : Int)))) then
 bif (((decide ((0 : Int) ≤ z0)) && (decide (z0 ≤ z0))) && (decide (z0 ≤ (2147483648 : Int)))) then
 bif (((decide ((0 : Int) ≤ z0)) && (decide (z0 ≤ z0))) && (decide (z0 ≤ (2147483648 : Int)))) then
 some (((), ()), (((List.replicate (Int.toNat z0) (0 : Int)), (List.replicate (Int.toNat z0) false), (List.replicate (Int.toNat z0) false), ([] : List (Entry)), ()), ()))
 else
 none
 else
 none
 else
 none
noncomputable def nhw' (s_Halves_0 s_Halves_1 : ByteArray) (s_Select : Int) : Option ((ByteArray × Unit) × Unit) :=
 bif (s_Select == (1 : Int)) then
 some ((s_Halves_1, ()), ())
 else
 some ((s_Halves_0, ()), ())
noncomputable def nkp' (s : ByteArray) (r s7 s8 s16 : Int) : Option (Sum (T'6 × Unit) (T'5 × Unit)) :=
 bif (decide (s16 < (8 : Int))) then
 let z0 : Int := (IntKind.u8.wrap (r * ((2 : Int) ^ (Min.min (Int.toNat (1 : Int)) (IntKind.bits IntKind.u8)))))
 let z1 : Int := (IntKind.u8.wrap ((Int.fdiv r ((2 : Int) ^ (Min.min (Int.toNat (7 : Int)) (IntKind.bits IntKind.u8)))) * (7 : Int)))
 some (Sum.inl ((s, (IntKind.u8.wrap (stk z0 z1 (BitVec.toNat ((BitVec.ofInt (IntKind.bits IntKind.u8) z0) ^^^ (BitVec.ofInt (IntKind.bits IntKind.u8) z1))))), s7, s8, (IntKind.i64.wrap (s16 + (1 : Int))), ()), ()))
 else
 some (Sum.inr ((s, r, s7, s8, ()), ()))
noncomputable def nkm' : (T'6 × Unit) → Option (T'5 × Unit) := iter (fun x => nkp' x.1.1 x.1.2.1 x.1.2.2.1 x.1.2.2.2.1 x.1.2.2.2.2.1) fuel
noncomputable def ngd' (s : ByteArray) (r s7 s8 : Int) : Option (Sum (T'5 × Unit) ((Int × Unit) × Unit)) :=
 bif (decide (s8 < s7)) then
 bif (inB s8 (ByteArray.size s)) then
 let z0 : Int := (nd4' s (Int.toNat s8))
 (nkm' ((s, (IntKind.u8.wrap (stk r z0 (BitVec.toNat ((BitVec.ofInt (IntKind.bits IntKind.u8) r) ^^^ (BitVec.ofInt (IntKind.bits IntKind.u8) z0))))), s7, s8, (0 : Int), ()), ())).bind fun y1 =>
 some (Sum.inl ((y1.1.1, y1.1.2.1, y1.1.2.2.1, (IntKind.i64.wrap (y1.1.2.2.2.1 + (1 : Int))), ()), ()))
 else
 none
 else
 some (Sum.inr ((r, ()), ()))
noncomputable def nj6' : (T'5 × Unit) → Option ((Int × Unit) × Unit) := iter (fun x => ngd' x.1.1 x.1.2.1 x.1.2.2.1 x.1.2.2.2.1) fuel
noncomputable def nkw' (s : ByteArray) : Option ((Int × Unit) × Unit) :=
 (nj6' ((s, (0 : Int), ((ByteArray.size s : Nat) : Int), (0 : Int), ()), ())).bind fun y1 =>
 some ((y1.1.1, ()), ())
noncomputable def ngc' (floors floor dir : Int) : Option ((Bool × Unit) × Unit) :=
 Option.bind (bif (dir == (1 : Int)) then
 (nbc' (0 : Int) (IntKind.i64.wrap (floors - (2 : Int))) [floor]).bind fun y1 =>
 bif y1.1.1 then
 some ((true, ()), ())
 else
 bif (dir == (2 : Int)) then
 (nbc' (1 : Int) (IntKind.i64.wrap (floors - (1 : Int))) [floor]).bind fun y2 =>
 some ((y2.1.1, ()), ())
 else
 some ((false, ()), ())
 else
 bif (dir == (2 : Int)) then
 (nbc' (1 : Int) (IntKind.i64.wrap (floors - (1 : Int))) [floor]).bind fun y3 =>
 some ((y3.1.1, ()), ())
 else
 some ((false, ()), ())) fun y4 =>
 some ((y4.1.1, ()), ())
noncomputable def nd1' (b_Floors b_Debounce b_Room b_Park : Int) (b_Empty b_Full b_Over : Nat) (b_Cars : List (Car)) (floor dir : Int) : Option ((Bool × Unit) × Unit) :=
 Option.bind ((nby' b_Floors b_Debounce b_Room b_Park b_Empty b_Full b_Over b_Cars).bind fun y1 =>
 bif (y1.1.1 == (0 : Int)) then
 (ngc' b_Floors floor dir).bind fun y2 =>
 some ((y2.1.1, ()), ())
 else
 some ((false, ()), ())) fun y3 =>
 some ((y3.1.1, ()), ())
noncomputable def nco' (n lo hi : Int) : Option ((Bool × Unit) × Unit) :=
 Option.bind (bif (decide (lo ≤ n)) then
 some (((decide (n ≤ hi)), ()), ())
 else
 some ((false, ()), ())) fun y1 =>
 some ((y1.1.1, ()), ())
noncomputable def ngy' (b_Floors b_Debounce b_Room b_Park : Int) (b_Empty b_Full b_Over : Nat) (b_Cars : List (Car)) (r_Kind r_Floor r_Dir r_Car r_Value : Int) : Option ((Bool × Unit) × Unit) :=
 (nby' b_Floors b_Debounce b_Room b_Park b_Empty b_Full b_Over b_Cars).bind fun y1 =>
 bif (y1.1.1 != (0 : Int)) then
 some ((false, ()), ())
 else
 (nd1' b_Floors b_Debounce b_Room b_Park b_Empty b_Full b_Over b_Cars r_Floor r_Dir).bind fun y2 =>
 Option.bind (bif (r_Floor == (0 : Int)) then
 bif (r_Dir == (0 : Int)) then
 (nco' r_Car (0 : Int) (IntKind.i64.wrap (((List.length b_Cars : Nat) : Int) - (1 : Int)))).bind fun y3 =>
 some (((), (), y2.1.1, y3.1.1, ()), ((b_Floors, b_Debounce, b_Room, b_Park, b_Empty, b_Full, b_Over, b_Cars, ()), (r_Kind, r_Floor, r_Dir, r_Car, r_Value, ()), ()))
 else
 some (((), (), y2.1.1, false, ()), ((b_Floors, b_Debounce, b_Room, b_Park, b_Empty, b_Full, b_Over, b_Cars, ()), (r_Kind, r_Floor, r_Dir, r_Car, r_Value, ()), ()))
 else
 some (((), (), y2.1.1, false, ()), ((b_Floors, b_Debounce, b_Room, b_Park, b_Empty, b_Full, b_Over, b_Cars, ()), (r_Kind, r_Floor, r_Dir, r_Car, r_Value, ()), ()))) fun y4 =>
 bif (y4.2.2.1.1 == (1 : Int)) then
 Option.bind (bif y4.1.2.2.1 then
 bif (y4.2.2.1.2.2.2.1 == (0 : Int)) then
 some (((y4.2.2.1.2.2.2.2.1 == (0 : Int)), ()), ())
 else
 some ((false, ()), ())
 else
 some ((false, ()), ())) fun y5 =>
 some ((y5.1.1, ()), ())
 else
 bif (y4.2.2.1.1 == (2 : Int)) then
 Option.bind (bif y4.1.2.2.1 then
 bif (y4.2.2.1.2.2.2.1 == (0 : Int)) then
 some (((y4.2.2.1.2.2.2.2.1 == (0 : Int)), ()), ())
 else
 some ((false, ()), ())
 else
 some ((false, ()), ())) fun y6 =>
 some ((y6.1.1, ()), ())
 else
 bif (y4.2.2.1.1 == (3 : Int)) then
 Option.bind (bif y4.1.2.2.1 then
 (nco' y4.2.2.1.2.2.2.1 (-2 : Int) (IntKind.i64.wrap (((List.length y4.2.1.2.2.2.2.2.2.2.1 : Nat) : Int) - (1 : Int)))).bind fun y7 =>
 bif y7.1.1 then
 some (((y4.2.2.1.2.2.2.2.1 == (0 : Int)), ()), ())
 else
 some ((false, ()), ())
 else
 some ((false, ()), ())) fun y8 =>
 some ((y8.1.1, ()), ())
 else
 bif (y4.2.2.1.1 == (7 : Int)) then
 Option.bind (bif y4.1.2.2.1 then
 (nco' y4.2.2.1.2.2.2.1 (0 : Int) (1 : Int)).bind fun y9 =>
 bif y9.1.1 then
 (nco' y4.2.2.1.2.2.2.2.1 (0 : Int) (255 : Int)).bind fun y10 =>
 some ((y10.1.1, ()), ())
 else
 some ((false, ()), ())
 else
 some ((false, ()), ())) fun y11 =>
 some ((y11.1.1, ()), ())
 else
 bif (y4.2.2.1.1 == (4 : Int)) then
 Option.bind (bif y4.1.2.2.2.1 then
 (nco' y4.2.2.1.2.2.2.2.1 (0 : Int) (4 : Int)).bind fun y12 =>
 some ((y12.1.1, ()), ())
 else
 some ((false, ()), ())) fun y13 =>
 some ((y13.1.1, ()), ())
 else
 bif (y4.2.2.1.1 == (5 : Int)) then
 Option.bind (bif y4.1.2.2.2.1 then
 (nco' y4.2.2.1.2.2.2.2.1 (0 : Int) (1 : Int)).bind fun y14 =>
 some ((y14.1.1, ()), ())
 else
 some ((false, ()), ())) fun y15 =>
 some ((y15.1.1, ()), ())
 else
 bif (y4.2.2.1.1 == (6 : Int)) then
 Option.bind (bif y4.1.2.2.2.1 then
 (nco' y4.2.2.1.2.2.2.2.1 (0 : Int) (1 : Int)).bind fun y16 =>
 some ((y16.1.1, ()), ())
 else
 some ((false, ()), ())) fun y17 =>
 some ((y17.1.1, ()), ())
 else
 some ((false, ()), ())
noncomputable def nh0' (b_Floors b_Debounce b_Room b_Park : Int) (b_Empty b_Full b_Over : Nat) (b_Cars : List (Car)) (s : ByteArray) : Option ((Unit × Int × Unit) × (T'7 × Unit)) :=
 (nby' b_Floors b_Debounce b_Room b_Park b_Empty b_Full b_Over b_Cars).bind fun y1 =>
 bif (y1.1.1 != (0 : Int)) then
 some (((), (1 : Int), ()), (((0 : Int), (0 : Int), (0 : Int), (0 : Int), (0 : Int), ()), ()))
 else
 bif (((ByteArray.size s : Nat) : Int) != (6 : Int)) then
 some (((), (4 : Int), ()), (((0 : Int), (0 : Int), (0 : Int), (0 : Int), (0 : Int), ()), ()))
 else
 bif (decide ((5 : Int) ≤ (((ByteArray.size s) : Nat) : Int))) then
 (nkw' (ByteArray.extract s 0 5)).bind fun y2 =>
 bif (inB (5 : Int) (ByteArray.size s)) then
 bif (y2.1.1 != (nd4' s (Int.toNat (5 : Int)))) then
 some (((), (5 : Int), ()), (((0 : Int), (0 : Int), (0 : Int), (0 : Int), (0 : Int), ()), ()))
 else
 bif (inB (0 : Int) (ByteArray.size s)) then
 let z0 : Int := (IntKind.i64.wrap (nd4' s (Int.toNat (0 : Int))))
 bif (inB (1 : Int) (ByteArray.size s)) then
 let z1 : Int := (IntKind.i64.wrap (nd4' s (Int.toNat (1 : Int))))
 bif (inB (2 : Int) (ByteArray.size s)) then
 let z2 : Int := (IntKind.i64.wrap (nd4' s (Int.toNat (2 : Int))))
 bif (inB (3 : Int) (ByteArray.size s)) then
 let z3 : Int := (IntKind.i64.wrap ((IntKind.i64.wrap (nd4' s (Int.toNat (3 : Int)))) - (2 : Int)))
 bif (inB (4 : Int) (ByteArray.size s)) then
 let z4 : Int := (IntKind.i64.wrap (nd4' s (Int.toNat (4 : Int))))
 (ngy' b_Floors b_Debounce b_Room b_Park b_Empty b_Full b_Over b_Cars z0 z1 z2 z3 z4).bind fun y3 =>
 bif (!y3.1.1) then
 some (((), (9 : Int), ()), (((0 : Int), (0 : Int), (0 : Int), (0 : Int), (0 : Int), ()), ()))
 else
 some (((), (0 : Int), ()), ((z0, z1, z2, z3, z4, ()), ()))
 else
 none
 else
 none
 else
 none
 else
 none
 else
 none
 else
 none
 else
 none
noncomputable def ndb' (s : ByteArray) (l : List (Record)) (at_1 b_Floors b_Debounce b_Room b_Park : Int) (b_Empty b_Full b_Over : Nat) (b_Cars : List (Car)) : Option (Sum (T'9 × (T'0 × Unit)) (T'8 × Unit)) :=
 bif (decide ((IntKind.i64.wrap (at_1 + (6 : Int))) ≤ ((ByteArray.size s : Nat) : Int))) then
 let z0 : Int := (IntKind.i64.wrap (at_1 + (6 : Int)))
 bif ((decide ((0 : Int) ≤ z0)) && (decide (z0 ≤ (((ByteArray.size s) : Nat) : Int)))) then
 bif ((decide ((0 : Int) ≤ at_1)) && (decide (at_1 ≤ (((Int.toNat z0) : Nat) : Int)))) then
 (nh0' b_Floors b_Debounce b_Room b_Park b_Empty b_Full b_Over b_Cars (ByteArray.extract s (Int.toNat at_1) (Int.toNat z0))).bind fun y1 =>
 bif (y1.1.2.1 != (0 : Int)) then
 some (Sum.inr ((l, at_1, ()), ()))
 else
 let z1 : List (Record) := [(Record.mk y1.2.1.1 y1.2.1.2.1 y1.2.1.2.2.1 y1.2.1.2.2.2.1 y1.2.1.2.2.2.2.1)]
 bif (Nat.ble ((List.length l) + (List.length z1)) 2147483648) then
 some (Sum.inl ((s, (), (l ++ z1), (IntKind.i64.wrap (at_1 + (6 : Int))), ()), ((b_Floors, b_Debounce, b_Room, b_Park, b_Empty, b_Full, b_Over, b_Cars, ()), ())))
 else
 none
 else
 none
 else
 none
 else
 some (Sum.inr ((l, at_1, ()), ()))
noncomputable def nh8' : (T'9 × (T'0 × Unit)) → Option (T'8 × Unit) := iter (fun x => ndb' x.1.1 x.1.2.2.1 x.1.2.2.2.1 x.2.1.1 x.2.1.2.1 x.2.1.2.2.1 x.2.1.2.2.2.1 x.2.1.2.2.2.2.1 x.2.1.2.2.2.2.2.1 x.2.1.2.2.2.2.2.2.1 x.2.1.2.2.2.2.2.2.2.1) fuel
noncomputable def njd' (b_Floors b_Debounce b_Room b_Park : Int) (b_Empty b_Full b_Over : Nat) (b_Cars : List (Car)) (s : ByteArray) : Option (T'8 × Unit) :=
 (nh8' ((s, (), ([] : List (Record)), (0 : Int), ()), ((b_Floors, b_Debounce, b_Room, b_Park, b_Empty, b_Full, b_Over, b_Cars, ()), ()))).bind fun y1 =>
 some ((y1.1.1, y1.1.2.1, ()), ())
noncomputable def nh1' (x_1 : Int) : Option ((Bool × Unit) × Unit) :=
 some (((x_1 != x_1), ()), ())
noncomputable def nda' (x_1 y : Int) : Option ((Int × Unit) × Unit) :=
 (nh1' x_1).bind fun y1 =>
 (nh1' y).bind fun y2 =>
 bif y1.1.1 then
 bif y2.1.1 then
 some (((0 : Int), ()), ())
 else
 some (((-1 : Int), ()), ())
 else
 bif y2.1.1 then
 some (((1 : Int), ()), ())
 else
 bif (decide (x_1 < y)) then
 some (((-1 : Int), ()), ())
 else
 bif (decide (y < x_1)) then
 some (((1 : Int), ()), ())
 else
 some (((0 : Int), ()), ())
noncomputable def ngx' (zero : Int) (s6 : List (Int)) (s7 s8 : Int) : Option (Sum (T'10 × Unit) (((Int × Unit) × Unit) ⊕ ((Int × Unit) × Unit))) :=
 bif (decide (s8 < s7)) then
 bif (inB s8 (List.length s6)) then
 let z0 : Int := (List.getD s6 (Int.toNat s8) (0 : Int))
 bif (z0 != zero) then
 some (Sum.inr (Sum.inr ((z0, ()), ())))
 else
 some (Sum.inl ((zero, s6, s7, (IntKind.i64.wrap (s8 + (1 : Int))), ()), ()))
 else
 none
 else
 some (Sum.inr (Sum.inl ((zero, ()), ())))
noncomputable def nin' : (T'10 × Unit) → Option (((Int × Unit) × Unit) ⊕ ((Int × Unit) × Unit)) := iter (fun x => ngx' x.1.1 x.1.2.1 x.1.2.2.1 x.1.2.2.2.1) fuel
noncomputable def nia' (vals : List (Int)) : Option ((Int × Unit) × Unit) :=
 (nin' (((0 : Int), vals, ((List.length vals : Nat) : Int), (0 : Int), ()), ())).bind fun y1 =>
 (match y1 with
 | .inl y2 =>
 some ((y2.1.1, ()), ())
 | .inr y2 =>
 some ((y2.1.1, ()), ()))
noncomputable def nfm' (a_Floor a_Dir a_Car a_Moves : Int) (a_Moved : Bool) (b_Floor b_Dir b_Car b_Moves : Int) (b_Moved : Bool) : Option ((Int × Unit) × Unit) :=
 (nda' a_Floor b_Floor).bind fun y1 =>
 (nda' a_Dir b_Dir).bind fun y2 =>
 (nia' [y1.1.1, y2.1.1]).bind fun y3 =>
 some ((y3.1.1, ()), ())
noncomputable def nu' (x_1 : List (Entry)) (n i j target_Floor target_Dir target_Car target_Moves : Int) (target_Moved : Bool) : Option (Sum (T'11 × (T'12 × Unit)) (T'13 × (T'12 × Unit))) :=
 bif (decide (i < j)) then
 let z0 : Int := (IntKind.i64.wrap (Int.fdiv (IntKind.u64.wrap (IntKind.i64.wrap (i + j))) ((2 : Int) ^ (Min.min (Int.toNat (1 : Int)) (IntKind.bits IntKind.u64)))))
 bif (inB z0 (List.length x_1)) then
 let z1 : Entry := (List.getD x_1 (Int.toNat z0) (Entry.mk (0 : Int) (0 : Int) (0 : Int) (0 : Int) false))
 (nfm' z1.Floor z1.Dir z1.Car z1.Moves z1.Moved target_Floor target_Dir target_Car target_Moves target_Moved).bind fun y1 =>
 bif (decide (y1.1.1 < (0 : Int))) then
 some (Sum.inl ((x_1, (), (), n, (IntKind.i64.wrap (z0 + (1 : Int))), j, ()), ((target_Floor, target_Dir, target_Car, target_Moves, target_Moved, ()), ())))
 else
 some (Sum.inl ((x_1, (), (), n, i, z0, ()), ((target_Floor, target_Dir, target_Car, target_Moves, target_Moved, ()), ())))
 else
 none
 else
 some (Sum.inr ((x_1, (), (), n, i, ()), ((target_Floor, target_Dir, target_Car, target_Moves, target_Moved, ()), ())))
noncomputable def nv' : (T'11 × (T'12 × Unit)) → Option (T'13 × (T'12 × Unit)) := iter (fun x => nu' x.1.1 x.1.2.2.2.1 x.1.2.2.2.2.1 x.1.2.2.2.2.2.1 x.2.1.1 x.2.1.2.1 x.2.1.2.2.1 x.2.1.2.2.2.1 x.2.1.2.2.2.2.1) fuel
noncomputable def n7' (x_1 : List (Entry)) (target_Floor target_Dir target_Car target_Moves : Int) (target_Moved : Bool) : Option ((Int × Bool × Unit) × Unit) :=
 let z0 : Int := ((List.length x_1 : Nat) : Int)
 (nv' ((x_1, (), (), z0, (0 : Int), z0, ()), ((target_Floor, target_Dir, target_Car, target_Moves, target_Moved, ()), ()))).bind fun y1 =>
 Option.bind (bif (decide (y1.1.2.2.2.2.1 < y1.1.2.2.2.1)) then
 bif (inB y1.1.2.2.2.2.1 (List.length y1.1.1)) then
 let z1 : Entry := (List.getD y1.1.1 (Int.toNat y1.1.2.2.2.2.1) (Entry.mk (0 : Int) (0 : Int) (0 : Int) (0 : Int) false))
 (nfm' z1.Floor z1.Dir z1.Car z1.Moves z1.Moved y1.2.1.1 y1.2.1.2.1 y1.2.1.2.2.1 y1.2.1.2.2.2.1 y1.2.1.2.2.2.2.1).bind fun y2 =>
 some ((y1.1.2.2.2.2.1, (y2.1.1 == (0 : Int)), ()), ())
 else
 none
 else
 some ((y1.1.2.2.2.2.1, false, ()), ())) fun y3 =>
 some ((y3.1.1, y3.1.2.1, ()), ())
noncomputable def nma' (m_Phases : List (Int)) (m_Flags m_Leaving : List (Bool)) (m_Entries : List (Entry)) (floor dir : Int) : Option ((Int × Bool × Unit) × Unit) :=
 (n7' m_Entries floor dir (0 : Int) (0 : Int) false).bind fun y1 =>
 some ((y1.1.1, y1.1.2.1, ()), ())
noncomputable def ncu' (s : List (Entry)) (i : Int) (v : List (Entry)) : Option ((List (Entry) × Unit) × Unit) :=
 insF s i v
noncomputable def ncv' (s : List (Entry)) (i j : Int) : Option ((List (Entry) × Unit) × Unit) :=
 delF s i j
noncomputable def nj8' (r_Kind r_Floor r_Dir r_Car r_Value : Int) (m_Phases : List (Int)) (m_Flags m_Leaving : List (Bool)) (m_Entries : List (Entry)) : Option (Unit × (T'4 × Unit)) :=
 (nma' m_Phases m_Flags m_Leaving m_Entries r_Floor r_Dir).bind fun y1 =>
 bif (r_Kind == (4 : Int)) then
 bif (inB r_Car (List.length m_Phases)) then
 some ((), (((List.set m_Phases (Int.toNat r_Car) r_Value), m_Flags, m_Leaving, m_Entries, ()), ()))
 else
 none
 else
 bif (r_Kind == (5 : Int)) then
 bif (inB r_Car (List.length m_Flags)) then
 some ((), ((m_Phases, (List.set m_Flags (Int.toNat r_Car) (r_Value == (1 : Int))), m_Leaving, m_Entries, ()), ()))
 else
 none
 else
 bif (r_Kind == (6 : Int)) then
 bif (inB r_Car (List.length m_Leaving)) then
 some ((), ((m_Phases, m_Flags, (List.set m_Leaving (Int.toNat r_Car) (r_Value == (1 : Int))), m_Entries, ()), ()))
 else
 none
 else
 bif (r_Kind == (1 : Int)) then
 bif (!y1.1.2.1) then
 (ncu' m_Entries y1.1.1 [(Entry.mk r_Floor r_Dir (-1 : Int) (0 : Int) false)]).bind fun y2 =>
 some ((), ((m_Phases, m_Flags, m_Leaving, y2.1.1, ()), ()))
 else
 some ((), ((m_Phases, m_Flags, m_Leaving, m_Entries, ()), ()))
 else
 bif (r_Kind == (2 : Int)) then
 bif y1.1.2.1 then
 (ncv' m_Entries y1.1.1 (IntKind.i64.wrap (y1.1.1 + (1 : Int)))).bind fun y3 =>
 some ((), ((m_Phases, m_Flags, m_Leaving, y3.1.1, ()), ()))
 else
 some ((), ((m_Phases, m_Flags, m_Leaving, m_Entries, ()), ()))
 else
 bif (r_Kind == (3 : Int)) then
 bif y1.1.2.1 then
 bif (inB y1.1.1 (List.length m_Entries)) then
 let z0 : Nat := (Int.toNat y1.1.1)
 let z1 : Entry := (List.getD m_Entries z0 (Entry.mk (0 : Int) (0 : Int) (0 : Int) (0 : Int) false))
 some ((), ((m_Phases, m_Flags, m_Leaving, (List.set m_Entries z0 (Entry.mk z1.Floor z1.Dir r_Car z1.Moves z1.Moved)), ()), ()))
 else
 none
 else
 some ((), ((m_Phases, m_Flags, m_Leaving, m_Entries, ()), ()))
 else
 bif (r_Kind == (7 : Int)) then
 bif y1.1.2.1 then
 bif (inB y1.1.1 (List.length m_Entries)) then
 let z2 : Nat := (Int.toNat y1.1.1)
 let z3 : Entry := (List.getD m_Entries z2 (Entry.mk (0 : Int) (0 : Int) (0 : Int) (0 : Int) false))
 let z4 : List (Entry) := (List.set m_Entries z2 (Entry.mk z3.Floor z3.Dir z3.Car r_Value z3.Moved))
 bif (inB y1.1.1 (List.length z4)) then
 let z5 : Nat := (Int.toNat y1.1.1)
 let z6 : Entry := (List.getD z4 z5 (Entry.mk (0 : Int) (0 : Int) (0 : Int) (0 : Int) false))
 some ((), ((m_Phases, m_Flags, m_Leaving, (List.set z4 z5 (Entry.mk z6.Floor z6.Dir z6.Car z6.Moves (r_Car == (1 : Int)))), ()), ()))
 else
 none
 else
 none
 else
 some ((), ((m_Phases, m_Flags, m_Leaving, m_Entries, ()), ()))
 else
 some ((), ((m_Phases, m_Flags, m_Leaving, m_Entries, ()), ()))
noncomputable def ne5' (s19 : List (Record)) (s20 s21 : Int) (b4_Phases : List (Int)) (b4_Flags b4_Leaving : List (Bool)) (b4_Entries : List (Entry)) (m_Phases : List (Int)) (m_Flags m_Leaving : List (Bool)) (m_Entries : List (Entry)) : Option (Sum (T'14 × (T'4 × T'4 × Unit)) ((Unit × Unit × Unit) × (T'4 × T'4 × Unit))) :=
 bif (decide (s21 < s20)) then
 bif (inB s21 (List.length s19)) then
 let z0 : Record := (List.getD s19 (Int.toNat s21) (Record.mk (0 : Int) (0 : Int) (0 : Int) (0 : Int) (0 : Int)))
 (nj8' z0.Kind z0.Floor z0.Dir z0.Car z0.Value m_Phases m_Flags m_Leaving m_Entries).bind fun y1 =>
 some (Sum.inl (((), (), s19, s20, (IntKind.i64.wrap (s21 + (1 : Int))), ()), ((b4_Phases, b4_Flags, b4_Leaving, b4_Entries, ()), y1.2.1, ())))
 else
 none
 else
 some (Sum.inr (((), (), ()), ((b4_Phases, b4_Flags, b4_Leaving, b4_Entries, ()), (m_Phases, m_Flags, m_Leaving, m_Entries, ()), ())))
noncomputable def nim' : (T'14 × (T'4 × T'4 × Unit)) → Option ((Unit × Unit × Unit) × (T'4 × T'4 × Unit)) := iter (fun x => ne5' x.1.2.2.1 x.1.2.2.2.1 x.1.2.2.2.2.1 x.2.1.1 x.2.1.2.1 x.2.1.2.2.1 x.2.1.2.2.2.1 x.2.2.1.1 x.2.2.1.2.1 x.2.2.1.2.2.1 x.2.2.1.2.2.2.1) fuel
noncomputable def nj9' (b_Floors b_Debounce b_Room b_Park : Int) (b_Empty b_Full b_Over : Nat) (b_Cars : List (Car)) (s_Halves_0 s_Halves_1 : ByteArray) (s_Select : Int) : Option ((Unit × Unit) × (T'4 × Unit)) :=
 (njl' b_Floors b_Debounce b_Room b_Park b_Empty b_Full b_Over b_Cars).bind fun y1 =>
 (nhw' s_Halves_0 s_Halves_1 s_Select).bind fun y2 =>
 (njd' b_Floors b_Debounce b_Room b_Park b_Empty b_Full b_Over b_Cars y2.1.1).bind fun y3 =>
 (nim' (((), (), y3.1.1, ((List.length y3.1.1 : Nat) : Int), (0 : Int), ()), ((([] : List (Int)), ([] : List (Bool)), ([] : List (Bool)), ([] : List (Entry)), ()), y1.2.1, ()))).bind fun y4 =>
 some (((), ()), (y4.2.2.1, ()))
noncomputable def nde' (room : Int) (s_Halves_0 s_Halves_1 : ByteArray) (s_Select : Int) : Option ((Bool × Unit) × Unit) :=
 Option.bind (bif (decide ((1 : Int) ≤ room)) then
 bif (decide (room ≤ (65536 : Int))) then
 bif (decide (((ByteArray.size s_Halves_0 : Nat) : Int) ≤ room)) then
 bif (decide (((ByteArray.size s_Halves_1 : Nat) : Int) ≤ room)) then
 bif (s_Select == (0 : Int)) then
 some ((true, ()), ())
 else
 some (((s_Select == (1 : Int)), ()), ())
 else
 some ((false, ()), ())
 else
 some ((false, ()), ())
 else
 some ((false, ()), ())
 else
 some ((false, ()), ())) fun y1 =>
 some ((y1.1.1, ()), ())
noncomputable def njb' (b_Floors b_Debounce b_Room b_Park : Int) (b_Empty b_Full b_Over : Nat) (b_Cars : List (Car)) (e_Floor e_Dir e_Car e_Moves : Int) (e_Moved : Bool) : Option ((Bool × Unit) × Unit) :=
 Option.bind ((nd1' b_Floors b_Debounce b_Room b_Park b_Empty b_Full b_Over b_Cars e_Floor e_Dir).bind fun y1 =>
 bif y1.1.1 then
 bif (decide ((-2 : Int) ≤ e_Car)) then
 bif (decide (e_Car < ((List.length b_Cars : Nat) : Int))) then
 bif (decide ((0 : Int) ≤ e_Moves)) then
 some (((decide (e_Moves ≤ (255 : Int))), ()), ())
 else
 some ((false, ()), ())
 else
 some ((false, ()), ())
 else
 some ((false, ()), ())
 else
 some ((false, ()), ())) fun y2 =>
 some ((y2.1.1, ()), ())
noncomputable def ndq' (s52 : List (Entry)) (s53 s54 b_Floors b_Debounce b_Room b_Park : Int) (b_Empty b_Full b_Over : Nat) (b_Cars : List (Car)) (m_Phases : List (Int)) (m_Flags m_Leaving : List (Bool)) (m_Entries : List (Entry)) : Option (Sum (T'16 × (T'0 × T'4 × Unit)) ((Unit × Unit) ⊕ ((Bool × Unit) × Unit))) :=
 bif (decide (s54 < s53)) then
 bif (inB s54 (List.length s52)) then
 let z0 : Entry := (List.getD s52 (Int.toNat s54) (Entry.mk (0 : Int) (0 : Int) (0 : Int) (0 : Int) false))
 Option.bind ((njb' b_Floors b_Debounce b_Room b_Park b_Empty b_Full b_Over b_Cars z0.Floor z0.Dir z0.Car z0.Moves z0.Moved).bind fun y1 =>
 bif (!y1.1.1) then
 some (((), (), s52, s53, s54, true, ()), ((b_Floors, b_Debounce, b_Room, b_Park, b_Empty, b_Full, b_Over, b_Cars, ()), (m_Phases, m_Flags, m_Leaving, m_Entries, ()), ()))
 else
 bif (decide ((0 : Int) < s54)) then
 let z1 : Int := (IntKind.i64.wrap (s54 - (1 : Int)))
 bif (inB z1 (List.length m_Entries)) then
 let z2 : Entry := (List.getD m_Entries (Int.toNat z1) (Entry.mk (0 : Int) (0 : Int) (0 : Int) (0 : Int) false))
 (nfm' z2.Floor z2.Dir z2.Car z2.Moves z2.Moved z0.Floor z0.Dir z0.Car z0.Moves z0.Moved).bind fun y2 =>
 some (((), (), s52, s53, s54, (decide ((0 : Int) ≤ y2.1.1)), ()), ((b_Floors, b_Debounce, b_Room, b_Park, b_Empty, b_Full, b_Over, b_Cars, ()), (m_Phases, m_Flags, m_Leaving, m_Entries, ()), ()))
 else
 none
 else
 some (((), (), s52, s53, s54, false, ()), ((b_Floors, b_Debounce, b_Room, b_Park, b_Empty, b_Full, b_Over, b_Cars, ()), (m_Phases, m_Flags, m_Leaving, m_Entries, ()), ()))) fun y3 =>
 bif y3.1.2.2.2.2.2.1 then
 some (Sum.inr (Sum.inr ((false, ()), ())))
 else
 some (Sum.inl (((), (), y3.1.2.2.1, y3.1.2.2.2.1, (IntKind.i64.wrap (y3.1.2.2.2.2.1 + (1 : Int))), ()), (y3.2.1, y3.2.2.1, ())))
 else
 none
 else
 some (Sum.inr (Sum.inl ((), ())))
noncomputable def nh7' : (T'16 × (T'0 × T'4 × Unit)) → Option ((Unit × Unit) ⊕ ((Bool × Unit) × Unit)) := iter (fun x => ndq' x.1.2.2.1 x.1.2.2.2.1 x.1.2.2.2.2.1 x.2.1.1 x.2.1.2.1 x.2.1.2.2.1 x.2.1.2.2.2.1 x.2.1.2.2.2.2.1 x.2.1.2.2.2.2.2.1 x.2.1.2.2.2.2.2.2.1 x.2.1.2.2.2.2.2.2.2.1 x.2.2.1.1 x.2.2.1.2.1 x.2.2.1.2.2.1 x.2.2.1.2.2.2.1) fuel
noncomputable def nes' (s38 : List (Int)) (s39 s40 b_Floors b_Debounce b_Room b_Park : Int) (b_Empty b_Full b_Over : Nat) (b_Cars : List (Car)) (m_Phases : List (Int)) (m_Flags m_Leaving : List (Bool)) (m_Entries : List (Entry)) : Option (Sum (T'15 × (T'0 × T'4 × Unit)) (((Unit × Unit × Unit) × (T'0 × T'4 × Unit)) ⊕ ((Bool × Unit) × Unit))) :=
 bif (decide (s40 < s39)) then
 bif (inB s40 (List.length s38)) then
 let z0 : Int := (List.getD s38 (Int.toNat s40) (0 : Int))
 bif (decide (z0 < (0 : Int))) then
 some (Sum.inr (Sum.inr ((false, ()), ())))
 else
 bif (decide ((4 : Int) < z0)) then
 some (Sum.inr (Sum.inr ((false, ()), ())))
 else
 some (Sum.inl (((), (), s38, s39, (IntKind.i64.wrap (s40 + (1 : Int))), ()), ((b_Floors, b_Debounce, b_Room, b_Park, b_Empty, b_Full, b_Over, b_Cars, ()), (m_Phases, m_Flags, m_Leaving, m_Entries, ()), ())))
 else
 none
 else
 some (Sum.inr (Sum.inl (((), (), ()), ((b_Floors, b_Debounce, b_Room, b_Park, b_Empty, b_Full, b_Over, b_Cars, ()), (m_Phases, m_Flags, m_Leaving, m_Entries, ()), ()))))
noncomputable def nh5' : (T'15 × (T'0 × T'4 × Unit)) → Option (((Unit × Unit × Unit) × (T'0 × T'4 × Unit)) ⊕ ((Bool × Unit) × Unit)) := iter (fun x => nes' x.1.2.2.1 x.1.2.2.2.1 x.1.2.2.2.2.1 x.2.1.1 x.2.1.2.1 x.2.1.2.2.1 x.2.1.2.2.2.1 x.2.1.2.2.2.2.1 x.2.1.2.2.2.2.2.1 x.2.1.2.2.2.2.2.2.1 x.2.1.2.2.2.2.2.2.2.1 x.2.2.1.1 x.2.2.1.2.1 x.2.2.1.2.2.1 x.2.2.1.2.2.2.1) fuel
noncomputable def nfs' (b_Floors b_Debounce b_Room b_Park : Int) (b_Empty b_Full b_Over : Nat) (b_Cars : List (Car)) (m_Phases : List (Int)) (m_Flags m_Leaving : List (Bool)) (m_Entries : List (Entry)) : Option ((Bool × Unit) × Unit) :=
 let z0 : Int := ((List.length b_Cars : Nat) : Int)
 (nby' b_Floors b_Debounce b_Room b_Park b_Empty b_Full b_Over b_Cars).bind fun y1 =>
 bif (y1.1.1 != (0 : Int)) then
 some ((false, ()), ())
 else
 bif (((List.length m_Phases : Nat) : Int) != z0) then
 some ((false, ()), ())
 else
 bif (((List.length m_Flags : Nat) : Int) != z0) then
 some ((false, ()), ())
 else
 bif (((List.length m_Leaving : Nat) : Int) != z0) then
 some ((false, ()), ())
 else
 (nh5' (((), (), m_Phases, ((List.length m_Phases : Nat) : Int), (0 : Int), ()), ((b_Floors, b_Debounce, b_Room, b_Park, b_Empty, b_Full, b_Over, b_Cars, ()), (m_Phases, m_Flags, m_Leaving, m_Entries, ()), ()))).bind fun y2 =>
 (match y2 with
 | .inl y3 =>
 (nh7' (((), (), y3.2.2.1.2.2.2.1, ((List.length y3.2.2.1.2.2.2.1 : Nat) : Int), (0 : Int), ()), (y3.2.1, y3.2.2.1, ()))).bind fun y4 =>
 (match y4 with
 | .inl y5 =>
 some ((true, ()), ())
 | .inr y5 =>
 some ((y5.1.1, ()), ()))
 | .inr y3 =>
 some ((y3.1.1, ()), ()))
noncomputable def nff' (kind value : Int) (b0 : List (Record)) (b1 : Int) : Option (Unit × T'17) :=
 let z0 : List (Record) := [(Record.mk kind (0 : Int) (0 : Int) b1 value)]
 bif (Nat.ble ((List.length b0) + (List.length z0)) 2147483648) then
 some ((), (((b0 ++ z0), ()), (b1, ()), ()))
 else
 none
noncomputable def ngo' (on_1 : Bool) : Option ((Int × Unit) × Unit) :=
 bif on_1 then
 some (((1 : Int), ()), ())
 else
 some (((0 : Int), ()), ())
noncomputable def nfd' (kind car value : Int) (b0 : List (Record)) (b1_Floor b1_Dir b1_Car b1_Moves : Int) (b1_Moved : Bool) : Option (Unit × T'18) :=
 let z0 : List (Record) := [(Record.mk kind b1_Floor b1_Dir car value)]
 bif (Nat.ble ((List.length b0) + (List.length z0)) 2147483648) then
 some ((), (((b0 ++ z0), ()), (b1_Floor, b1_Dir, b1_Car, b1_Moves, b1_Moved, ()), ()))
 else
 none
noncomputable def nec' (s47 : List (Entry)) (s48 s49 : Int) (l : List (Record)) : Option (Sum (T'21 × T'22) ((Unit × Unit) × T'22)) :=
 bif (decide (s49 < s48)) then
 bif (inB s49 (List.length s47)) then
 let z0 : Entry := (List.getD s47 (Int.toNat s49) (Entry.mk (0 : Int) (0 : Int) (0 : Int) (0 : Int) false))
 (nfd' (1 : Int) (0 : Int) (0 : Int) l z0.Floor z0.Dir z0.Car z0.Moves z0.Moved).bind fun y1 =>
 (nfd' (3 : Int) y1.2.2.1.2.2.1 (0 : Int) y1.2.1.1 y1.2.2.1.1 y1.2.2.1.2.1 y1.2.2.1.2.2.1 y1.2.2.1.2.2.2.1 y1.2.2.1.2.2.2.2.1).bind fun y2 =>
 (ngo' y2.2.2.1.2.2.2.2.1).bind fun y3 =>
 (nfd' (7 : Int) y3.1.1 y2.2.2.1.2.2.2.1 y2.2.1.1 y2.2.2.1.1 y2.2.2.1.2.1 y2.2.2.1.2.2.1 y2.2.2.1.2.2.2.1 y2.2.2.1.2.2.2.2.1).bind fun y4 =>
 some (Sum.inl (((), s47, s48, (IntKind.i64.wrap (s49 + (1 : Int))), ()), ((y4.2.1.1, ()), ())))
 else
 none
 else
 some (Sum.inr (((), ()), ((l, ()), ())))
noncomputable def ng3' : (T'21 × T'22) → Option ((Unit × Unit) × T'22) := iter (fun x => nec' x.1.2.1 x.1.2.2.1 x.1.2.2.2.1 x.2.1.1) fuel
noncomputable def nef' (s17 s18 : Int) (m_Phases : List (Int)) (m_Flags m_Leaving : List (Bool)) (m_Entries : List (Entry)) (l : List (Record)) : Option (Sum (T'19 × T'20) ((Unit × Unit × Unit) × T'20)) :=
 bif (decide (s18 < s17)) then
 bif (inB s18 (List.length m_Phases)) then
 (nff' (4 : Int) (List.getD m_Phases (Int.toNat s18) (0 : Int)) l s18).bind fun y1 =>
 bif (inB y1.2.2.1.1 (List.length m_Flags)) then
 (ngo' (List.getD m_Flags (Int.toNat y1.2.2.1.1) false)).bind fun y2 =>
 (nff' (5 : Int) y2.1.1 y1.2.1.1 y1.2.2.1.1).bind fun y3 =>
 bif (inB y3.2.2.1.1 (List.length m_Leaving)) then
 (ngo' (List.getD m_Leaving (Int.toNat y3.2.2.1.1) false)).bind fun y4 =>
 (nff' (6 : Int) y4.1.1 y3.2.1.1 y3.2.2.1.1).bind fun y5 =>
 some (Sum.inl (((), (), s17, (IntKind.i64.wrap (s18 + (1 : Int))), ()), ((m_Phases, m_Flags, m_Leaving, m_Entries, ()), (y5.2.1.1, ()), ())))
 else
 none
 else
 none
 else
 none
 else
 some (Sum.inr (((), (), ()), ((m_Phases, m_Flags, m_Leaving, m_Entries, ()), (l, ()), ())))
noncomputable def ng2' : (T'19 × T'20) → Option ((Unit × Unit × Unit) × T'20) := iter (fun x => nef' x.1.2.2.1 x.1.2.2.2.1 x.2.1.1 x.2.1.2.1 x.2.1.2.2.1 x.2.1.2.2.2.1 x.2.2.1.1) fuel
noncomputable def nio' (b_Floors b_Debounce b_Room b_Park : Int) (b_Empty b_Full b_Over : Nat) (b_Cars : List (Car)) (m_Phases : List (Int)) (m_Flags m_Leaving : List (Bool)) (m_Entries : List (Entry)) : Option ((List (Record) × Unit) × Unit) :=
 (nfs' b_Floors b_Debounce b_Room b_Park b_Empty b_Full b_Over b_Cars m_Phases m_Flags m_Leaving m_Entries).bind fun y1 =>
 bif (!y1.1.1) then
 some ((([] : List (Record)), ()), ())
 else
 (ng2' (((), (), ((List.length m_Phases : Nat) : Int), (0 : Int), ()), ((m_Phases, m_Flags, m_Leaving, m_Entries, ()), (([] : List (Record)), ()), ()))).bind fun y2 =>
 (ng3' (((), y2.2.1.2.2.2.1, ((List.length y2.2.1.2.2.2.1 : Nat) : Int), (0 : Int), ()), ((y2.2.2.1.1, ()), ()))).bind fun y3 =>
 some ((y3.2.1.1, ()), ())
noncomputable def nh2' (b_Floors b_Debounce b_Room b_Park : Int) (b_Empty b_Full b_Over : Nat) (b_Cars : List (Car)) (r_Kind r_Floor r_Dir r_Car r_Value : Int) : Option ((ByteArray × Int × Unit) × Unit) :=
 (ngy' b_Floors b_Debounce b_Room b_Park b_Empty b_Full b_Over b_Cars r_Kind r_Floor r_Dir r_Car r_Value).bind fun y1 =>
 bif (!y1.1.1) then
 some (((ByteArray.mk (Array.mk [])), (1 : Int), ()), ())
 else
 let z0 : ByteArray := (textU [(IntKind.u8.wrap r_Kind), (IntKind.u8.wrap r_Floor), (IntKind.u8.wrap r_Dir), (IntKind.u8.wrap (IntKind.i64.wrap (r_Car + (2 : Int)))), (IntKind.u8.wrap r_Value)])
 (nkw' z0).bind fun y2 =>
 let z1 : ByteArray := (textU [y2.1.1])
 bif (Nat.ble ((ByteArray.size z0) + (ByteArray.size z1)) 4611686018427387904) then
 some (((z0 ++ z1), (0 : Int), ()), ())
 else
 none
noncomputable def nc3' (s : ByteArray) (b_buf : List (Int)) : Option ((Int × Unit × Unit) × (T'23 × Unit)) :=
 wsF (fun b => (b.toNat : Int)) s b_buf
noncomputable def nfr' (room : Int) (s_Halves_0 s_Halves_1 : ByteArray) (s_Select half budget : Int) : Option ((Int × Unit) × Unit) :=
 (nde' room s_Halves_0 s_Halves_1 s_Select).bind fun y1 =>
 bif (!y1.1.1) then
 some (((1 : Int), ()), ())
 else
 Option.bind (bif (half != (0 : Int)) then
 some ((budget, (half != (1 : Int)), ()), ())
 else
 some ((budget, false, ()), ())) fun y2 =>
 bif y2.1.2.1 then
 some (((2 : Int), ()), ())
 else
 bif (decide (y2.1.1 < (0 : Int))) then
 some (((2 : Int), ()), ())
 else
 some (((0 : Int), ()), ())
noncomputable def nj3' (s_Halves_0 s_Halves_1 : ByteArray) (s_Select b1 : Int) : Option (Unit × T'25) :=
 bif (inB b1 2) then
 let z0 : Nat := (Int.toNat b1)
 some ((), (((bif (Nat.beq z0 0) then (ByteArray.mk (Array.mk [])) else s_Halves_0), (bif (Nat.beq z0 1) then (ByteArray.mk (Array.mk [])) else s_Halves_1), s_Select, ()), (b1, ()), ()))
 else
 none
noncomputable def new' (room : Int) (s_Halves_0 s_Halves_1 : ByteArray) (s_Select half budget b0 : Int) : Option ((Unit × Int × Int × Unit) × T'25) :=
 (nfr' room s_Halves_0 s_Halves_1 s_Select half budget).bind fun y1 =>
 bif (y1.1.1 != (0 : Int)) then
 some (((), (0 : Int), y1.1.1, ()), (((ByteArray.mk (Array.mk [])), (ByteArray.mk (Array.mk [])), (0 : Int), ()), (b0, ()), ()))
 else
 bif (budget == (0 : Int)) then
 some (((), (0 : Int), (8 : Int), ()), ((s_Halves_0, s_Halves_1, s_Select, ()), (b0, ()), ()))
 else
 (nj3' s_Halves_0 s_Halves_1 s_Select b0).bind fun y2 =>
 some (((), (IntKind.i64.wrap (budget - (1 : Int))), (0 : Int), ()), (y2.2.1, (y2.2.2.1.1, ()), ()))
noncomputable def ni9' (room : Int) (s_Halves_0 s_Halves_1 : ByteArray) (s_Select half budget : Int) : Option ((Unit × Int × Int × Unit) × (T'24 × Unit)) :=
 (new' room s_Halves_0 s_Halves_1 s_Select half budget half).bind fun y1 =>
 some (((), y1.1.2.1, y1.1.2.2.1, ()), (y1.2.1, ()))
noncomputable def ndw' (b_buf : List (Int)) : Option ((ByteArray × Unit) × (T'23 × Unit)) :=
 bif someL b_buf && List.all b_buf (fun n => decide (0 ≤ n) && decide (n < 256)) then some ((textU b_buf, ()), (((), b_buf, ()), ())) else none
noncomputable def njm' (room : Int) (s_Halves_0 s_Halves_1 : ByteArray) (s_Select half : Int) (data : ByteArray) (budget : Int) : Option ((Unit × Int × Int × Unit) × (T'24 × Unit)) :=
 (nfr' room s_Halves_0 s_Halves_1 s_Select half budget).bind fun y1 =>
 bif (y1.1.1 != (0 : Int)) then
 some (((), (0 : Int), y1.1.1, ()), (((ByteArray.mk (Array.mk [])), (ByteArray.mk (Array.mk [])), (0 : Int), ()), ()))
 else
 bif (inB half 2) then
 bif (decide ((IntKind.i64.wrap (room - ((ByteArray.size (List.getD [s_Halves_0, s_Halves_1] (Int.toNat half) (ByteArray.mk (Array.mk []))) : Nat) : Int))) < ((ByteArray.size data : Nat) : Int))) then
 some (((), (0 : Int), (7 : Int), ()), (((ByteArray.mk (Array.mk [])), (ByteArray.mk (Array.mk [])), (0 : Int), ()), ()))
 else
 bif (decide (budget < ((ByteArray.size data : Nat) : Int))) then
 bif (inB half 2) then
 let z0 : ByteArray := (List.getD [s_Halves_0, s_Halves_1] (Int.toNat half) (ByteArray.mk (Array.mk [])))
 bif ((decide ((0 : Int) ≤ budget)) && (decide (budget ≤ (((ByteArray.size data) : Nat) : Int)))) then
 let z1 : ByteArray := (ByteArray.extract data 0 (Int.toNat budget))
 bif (Nat.ble ((ByteArray.size z0) + (ByteArray.size z1)) 4611686018427387904) then
 let z2 : ByteArray := (z0 ++ z1)
 bif (inB half 2) then
 let z3 : Nat := (Int.toNat half)
 some (((), (0 : Int), (8 : Int), ()), (((bif (Nat.beq z3 0) then z2 else s_Halves_0), (bif (Nat.beq z3 1) then z2 else s_Halves_1), s_Select, ()), ()))
 else
 none
 else
 none
 else
 none
 else
 none
 else
 bif (inB half 2) then
 let z4 : ByteArray := (List.getD [s_Halves_0, s_Halves_1] (Int.toNat half) (ByteArray.mk (Array.mk [])))
 bif (Nat.ble ((ByteArray.size z4) + (ByteArray.size data)) 4611686018427387904) then
 let z5 : ByteArray := (z4 ++ data)
 bif (inB half 2) then
 let z6 : Nat := (Int.toNat half)
 some (((), (IntKind.i64.wrap (budget - ((ByteArray.size data : Nat) : Int))), (0 : Int), ()), (((bif (Nat.beq z6 0) then z5 else s_Halves_0), (bif (Nat.beq z6 1) then z5 else s_Halves_1), s_Select, ()), ()))
 else
 none
 else
 none
 else
 none
 else
 none
noncomputable def njq' (s_Halves_0 s_Halves_1 : ByteArray) (s_Select b1 : Int) : Option (Unit × T'25) :=
 some ((), ((s_Halves_0, s_Halves_1, b1, ()), (b1, ()), ()))
noncomputable def nek' (room : Int) (s_Halves_0 s_Halves_1 : ByteArray) (s_Select half budget b0 : Int) : Option ((Unit × Int × Int × Unit) × T'25) :=
 (nfr' room s_Halves_0 s_Halves_1 s_Select half budget).bind fun y1 =>
 bif (y1.1.1 != (0 : Int)) then
 some (((), (0 : Int), y1.1.1, ()), (((ByteArray.mk (Array.mk [])), (ByteArray.mk (Array.mk [])), (0 : Int), ()), (b0, ()), ()))
 else
 bif (budget == (0 : Int)) then
 some (((), (0 : Int), (8 : Int), ()), ((s_Halves_0, s_Halves_1, s_Select, ()), (b0, ()), ()))
 else
 (njq' s_Halves_0 s_Halves_1 s_Select b0).bind fun y2 =>
 some (((), (IntKind.i64.wrap (budget - (1 : Int))), (0 : Int), ()), (y2.2.1, (y2.2.2.1.1, ()), ()))
noncomputable def nik' (room : Int) (s_Halves_0 s_Halves_1 : ByteArray) (s_Select half budget : Int) : Option ((Unit × Int × Int × Unit) × (T'24 × Unit)) :=
 (nek' room s_Halves_0 s_Halves_1 s_Select half budget half).bind fun y1 =>
 some (((), y1.1.2.1, y1.1.2.2.1, ()), (y1.2.1, ()))
noncomputable def net' (budget : Int) (s36 : List (Record)) (s37 s38 b_Floors b_Debounce b_Room b_Park : Int) (b_Empty b_Full b_Over : Nat) (b_Cars : List (Car)) (s_Halves_0 s_Halves_1 : ByteArray) (s_Select : Int) (b8_Halves_0 b8_Halves_1 : ByteArray) (b8_Select : Int) (text_buf : List (Int)) : Option (Sum (T'26 × T'27) (T'28 × T'27)) :=
 bif (decide (s38 < s37)) then
 bif (inB s38 (List.length s36)) then
 let z0 : Record := (List.getD s36 (Int.toNat s38) (Record.mk (0 : Int) (0 : Int) (0 : Int) (0 : Int) (0 : Int)))
 (nh2' b_Floors b_Debounce b_Room b_Park b_Empty b_Full b_Over b_Cars z0.Kind z0.Floor z0.Dir z0.Car z0.Value).bind fun y1 =>
 (nc3' y1.1.1 text_buf).bind fun y2 =>
 some (Sum.inl ((budget, (), (), (), (), s36, s37, (IntKind.i64.wrap (s38 + (1 : Int))), ()), ((b_Floors, b_Debounce, b_Room, b_Park, b_Empty, b_Full, b_Over, b_Cars, ()), (s_Halves_0, s_Halves_1, s_Select, ()), (b8_Halves_0, b8_Halves_1, b8_Select, ()), ((), y2.2.1.2.1, ()), ())))
 else
 none
 else
 some (Sum.inr ((budget, (), (), (), (), ()), ((b_Floors, b_Debounce, b_Room, b_Park, b_Empty, b_Full, b_Over, b_Cars, ()), (s_Halves_0, s_Halves_1, s_Select, ()), (b8_Halves_0, b8_Halves_1, b8_Select, ()), ((), text_buf, ()), ())))
noncomputable def nhz' : (T'26 × T'27) → Option (T'28 × T'27) := iter (fun x => net' x.1.1 x.1.2.2.2.2.2.1 x.1.2.2.2.2.2.2.1 x.1.2.2.2.2.2.2.2.1 x.2.1.1 x.2.1.2.1 x.2.1.2.2.1 x.2.1.2.2.2.1 x.2.1.2.2.2.2.1 x.2.1.2.2.2.2.2.1 x.2.1.2.2.2.2.2.2.1 x.2.1.2.2.2.2.2.2.2.1 x.2.2.1.1 x.2.2.1.2.1 x.2.2.1.2.2.1 x.2.2.2.1.1 x.2.2.2.1.2.1 x.2.2.2.1.2.2.1 x.2.2.2.2.1.2.1) fuel
noncomputable def ni6' (b_Floors b_Debounce b_Room b_Park : Int) (b_Empty b_Full b_Over : Nat) (b_Cars : List (Car)) (s_Halves_0 s_Halves_1 : ByteArray) (s_Select : Int) (m_Phases : List (Int)) (m_Flags m_Leaving : List (Bool)) (m_Entries : List (Entry)) (budget : Int) : Option ((Unit × Int × Int × Unit) × (T'24 × Unit)) :=
 (nde' b_Room s_Halves_0 s_Halves_1 s_Select).bind fun y1 =>
 bif (!y1.1.1) then
 some (((), (0 : Int), (1 : Int), ()), (((ByteArray.mk (Array.mk [])), (ByteArray.mk (Array.mk [])), (0 : Int), ()), ()))
 else
 bif (decide (budget < (0 : Int))) then
 some (((), (0 : Int), (1 : Int), ()), (((ByteArray.mk (Array.mk [])), (ByteArray.mk (Array.mk [])), (0 : Int), ()), ()))
 else
 (nfs' b_Floors b_Debounce b_Room b_Park b_Empty b_Full b_Over b_Cars m_Phases m_Flags m_Leaving m_Entries).bind fun y2 =>
 bif (!y2.1.1) then
 some (((), (0 : Int), (1 : Int), ()), (((ByteArray.mk (Array.mk [])), (ByteArray.mk (Array.mk [])), (0 : Int), ()), ()))
 else
 (nio' b_Floors b_Debounce b_Room b_Park b_Empty b_Full b_Over b_Cars m_Phases m_Flags m_Leaving m_Entries).bind fun y3 =>
 (nhz' ((budget, (), (), (), (), y3.1.1, ((List.length y3.1.1 : Nat) : Int), (0 : Int), ()), ((b_Floors, b_Debounce, b_Room, b_Park, b_Empty, b_Full, b_Over, b_Cars, ()), (s_Halves_0, s_Halves_1, s_Select, ()), ((ByteArray.mk (Array.mk [])), (ByteArray.mk (Array.mk [])), (0 : Int), ()), ((), ([] : List (Int)), ()), ()))).bind fun y4 =>
 let z0 : Int := (IntKind.i64.wrap ((1 : Int) - y4.2.2.1.2.2.1))
 (ni9' y4.2.1.2.2.1 y4.2.2.1.1 y4.2.2.1.2.1 y4.2.2.1.2.2.1 z0 y4.1.1).bind fun y5 =>
 Option.bind (bif (y5.1.2.2.1 == (0 : Int)) then
 (ndw' y4.2.2.2.2.1.2.1).bind fun y6 =>
 (njm' y4.2.1.2.2.1 y5.2.1.1 y5.2.1.2.1 y5.2.1.2.2.1 z0 y6.1.1 y5.1.2.1).bind fun y7 =>
 some ((y7.1.2.1, (), (), (), z0, y7.1.2.2.1, ()), (y4.2.1, y7.2.1, y4.2.2.2.1, ()))
 else
 some ((y5.1.2.1, (), (), (), z0, y5.1.2.2.1, ()), (y4.2.1, y5.2.1, y4.2.2.2.1, ()))) fun y8 =>
 bif (y8.1.2.2.2.2.2.1 == (0 : Int)) then
 (nik' y8.2.1.2.2.1 y8.2.2.1.1 y8.2.2.1.2.1 y8.2.2.1.2.2.1 y8.1.2.2.2.2.1 y8.1.1).bind fun y9 =>
 some (((), y9.1.2.1, y9.1.2.2.1, ()), (y9.2.1, ()))
 else
 some (((), y8.1.1, y8.1.2.2.2.2.2.1, ()), (y8.2.2.1, ()))
noncomputable def njf' (b_Floors b_Debounce b_Room b_Park : Int) (b_Empty b_Full b_Over : Nat) (b_Cars : List (Car)) (s_Halves_0 s_Halves_1 : ByteArray) (s_Select budget : Int) : Option (T'19 × (T'24 × T'4 × Unit)) :=
 (nj9' b_Floors b_Debounce b_Room b_Park b_Empty b_Full b_Over b_Cars s_Halves_0 s_Halves_1 s_Select).bind fun y1 =>
 (ni6' b_Floors b_Debounce b_Room b_Park b_Empty b_Full b_Over b_Cars s_Halves_0 s_Halves_1 s_Select y1.2.1.1 y1.2.1.2.1 y1.2.1.2.2.1 y1.2.1.2.2.2.1 budget).bind fun y2 =>
 bif (y2.1.2.2.1 != (0 : Int)) then
 some (((), (), (0 : Int), y2.1.2.2.1, ()), (y2.2.1, (([] : List (Int)), ([] : List (Bool)), ([] : List (Bool)), ([] : List (Entry)), ()), ()))
 else
 some (((), (), y2.1.2.1, (0 : Int), ()), (y2.2.1, y1.2.1, ()))
noncomputable def nfb' (b_Floors b_Debounce b_Room b_Park : Int) (b_Empty b_Full b_Over : Nat) (b_Cars : List (Car)) (m_Phases : List (Int)) (m_Flags m_Leaving : List (Bool)) (m_Entries : List (Entry)) : Option ((Bool × Unit) × Unit) :=
 Option.bind ((nfs' b_Floors b_Debounce b_Room b_Park b_Empty b_Full b_Over b_Cars m_Phases m_Flags m_Leaving m_Entries).bind fun y1 =>
 bif y1.1.1 then
 some (((decide ((IntKind.i64.wrap ((IntKind.i64.wrap ((18 : Int) * (IntKind.i64.wrap (((List.length b_Cars : Nat) : Int) + ((List.length m_Entries : Nat) : Int))))) + (6 : Int))) ≤ b_Room)), ()), ())
 else
 some ((false, ()), ())) fun y2 =>
 some ((y2.1.1, ()), ())
noncomputable def ne1' (s : List (Int)) : Option ((List (Int) × Unit) × Unit) :=
 cloF s
noncomputable def ndc' (s : List (Bool)) : Option ((List (Bool) × Unit) × Unit) :=
 cloF s
noncomputable def ncy' (s : List (Entry)) : Option ((List (Entry) × Unit) × Unit) :=
 cloF s
noncomputable def nfe' (m_Phases : List (Int)) (m_Flags m_Leaving : List (Bool)) (m_Entries : List (Entry)) : Option ((Unit × Unit) × (T'4 × Unit)) :=
 (ne1' m_Phases).bind fun y1 =>
 (ndc' m_Flags).bind fun y2 =>
 (ndc' m_Leaving).bind fun y3 =>
 (ncy' m_Entries).bind fun y4 =>
 some (((), ()), ((y1.1.1, y2.1.1, y3.1.1, y4.1.1, ()), ()))
noncomputable def ng0'  : Option ((Unit × Unit) × (T'29 × Unit)) :=
 some (((), ()), (((-1 : Int), (0 : Int), (0 : Int), ([] : List (Duty)), (0 : Int), false, ()), ()))
noncomputable def ndy' (s53 : List (Entry)) (s54 s55 b_Floors b_Debounce b_Room b_Park : Int) (b_Empty b_Full b_Over : Nat) (b_Cars : List (Car)) (b6_Image_Phases : List (Int)) (b6_Image_Flags b6_Image_Leaving : List (Bool)) (b6_Image_Entries : List (Entry)) (b6_Store_Halves_0 b6_Store_Halves_1 : ByteArray) (b6_Store_Select : Int) (b6_Contacts : List (Debounced)) (b6_Beliefs : List (Belief)) (b6_Cars : List (NewCar)) (b6_Loads : List (Loaded)) (b6_Expect : List (Int)) (b6_Lit : List (Calls)) (b6_Tick b6_Faults b6_Refused : Int) (out_Image_Phases : List (Int)) (out_Image_Flags out_Image_Leaving : List (Bool)) (out_Image_Entries : List (Entry)) (out_Store_Halves_0 out_Store_Halves_1 : ByteArray) (out_Store_Select : Int) (out_Contacts : List (Debounced)) (out_Beliefs : List (Belief)) (out_Cars : List (NewCar)) (out_Loads : List (Loaded)) (out_Expect : List (Int)) (out_Lit : List (Calls)) (out_Tick out_Faults out_Refused : Int) : Option (Sum (T'34 × T'35) ((Unit × Unit × Unit) × (T'30 × T'30 × Unit))) :=
 bif (decide (s55 < s54)) then
 bif (inB s55 (List.length s53)) then
 let z0 : Entry := (List.getD s53 (Int.toNat s55) (Entry.mk (0 : Int) (0 : Int) (0 : Int) (0 : Int) false))
 Option.bind (bif (decide ((0 : Int) ≤ z0.Car)) then
 bif (inB z0.Car (List.length b_Cars)) then
 some (((), (), (), (List.getD b_Cars (Int.toNat z0.Car) (Car.mk (0 : Int) (0 : Int) (0 : Int) (0 : Int) (0 : Int) (0 : Int) (0 : Int) (0 : Int) (0 : Int))).Deadline, s53, s54, s55, ()), ((b_Floors, b_Debounce, b_Room, b_Park, b_Empty, b_Full, b_Over, b_Cars, ()), (b6_Image_Phases, b6_Image_Flags, b6_Image_Leaving, b6_Image_Entries, b6_Store_Halves_0, b6_Store_Halves_1, b6_Store_Select, b6_Contacts, b6_Beliefs, b6_Cars, b6_Loads, b6_Expect, b6_Lit, b6_Tick, b6_Faults, b6_Refused, ()), (out_Image_Phases, out_Image_Flags, out_Image_Leaving, out_Image_Entries, out_Store_Halves_0, out_Store_Halves_1, out_Store_Select, out_Contacts, out_Beliefs, out_Cars, out_Loads, out_Expect, out_Lit, out_Tick, out_Faults, out_Refused, ()), ()))
 else
 none
 else
 some (((), (), (), (0 : Int), s53, s54, s55, ()), ((b_Floors, b_Debounce, b_Room, b_Park, b_Empty, b_Full, b_Over, b_Cars, ()), (b6_Image_Phases, b6_Image_Flags, b6_Image_Leaving, b6_Image_Entries, b6_Store_Halves_0, b6_Store_Halves_1, b6_Store_Select, b6_Contacts, b6_Beliefs, b6_Cars, b6_Loads, b6_Expect, b6_Lit, b6_Tick, b6_Faults, b6_Refused, ()), (out_Image_Phases, out_Image_Flags, out_Image_Leaving, out_Image_Entries, out_Store_Halves_0, out_Store_Halves_1, out_Store_Select, out_Contacts, out_Beliefs, out_Cars, out_Loads, out_Expect, out_Lit, out_Tick, out_Faults, out_Refused, ()), ()))) fun y1 =>
 let z1 : List (Int) := [y1.1.2.2.2.1]
 bif (Nat.ble ((List.length y1.2.2.2.1.2.2.2.2.2.2.2.2.2.2.2.1) + (List.length z1)) 2147483648) then
 some (Sum.inl (((), (), (), y1.1.2.2.2.2.1, y1.1.2.2.2.2.2.1, (IntKind.i64.wrap (y1.1.2.2.2.2.2.2.1 + (1 : Int))), ()), (y1.2.1, y1.2.2.1, (y1.2.2.2.1.1, y1.2.2.2.1.2.1, y1.2.2.2.1.2.2.1, y1.2.2.2.1.2.2.2.1, y1.2.2.2.1.2.2.2.2.1, y1.2.2.2.1.2.2.2.2.2.1, y1.2.2.2.1.2.2.2.2.2.2.1, y1.2.2.2.1.2.2.2.2.2.2.2.1, y1.2.2.2.1.2.2.2.2.2.2.2.2.1, y1.2.2.2.1.2.2.2.2.2.2.2.2.2.1, y1.2.2.2.1.2.2.2.2.2.2.2.2.2.2.1, (y1.2.2.2.1.2.2.2.2.2.2.2.2.2.2.2.1 ++ z1), y1.2.2.2.1.2.2.2.2.2.2.2.2.2.2.2.2.1, y1.2.2.2.1.2.2.2.2.2.2.2.2.2.2.2.2.2.1, y1.2.2.2.1.2.2.2.2.2.2.2.2.2.2.2.2.2.2.1, y1.2.2.2.1.2.2.2.2.2.2.2.2.2.2.2.2.2.2.2.1, ()), ())))
 else
 none
 else
 none
 else
 some (Sum.inr (((), (), ()), ((b6_Image_Phases, b6_Image_Flags, b6_Image_Leaving, b6_Image_Entries, b6_Store_Halves_0, b6_Store_Halves_1, b6_Store_Select, b6_Contacts, b6_Beliefs, b6_Cars, b6_Loads, b6_Expect, b6_Lit, b6_Tick, b6_Faults, b6_Refused, ()), (out_Image_Phases, out_Image_Flags, out_Image_Leaving, out_Image_Entries, out_Store_Halves_0, out_Store_Halves_1, out_Store_Select, out_Contacts, out_Beliefs, out_Cars, out_Loads, out_Expect, out_Lit, out_Tick, out_Faults, out_Refused, ()), ())))
noncomputable def ney' : (T'34 × T'35) → Option ((Unit × Unit × Unit) × (T'30 × T'30 × Unit)) := iter (fun x => ndy' x.1.2.2.2.1 x.1.2.2.2.2.1 x.1.2.2.2.2.2.1 x.2.1.1 x.2.1.2.1 x.2.1.2.2.1 x.2.1.2.2.2.1 x.2.1.2.2.2.2.1 x.2.1.2.2.2.2.2.1 x.2.1.2.2.2.2.2.2.1 x.2.1.2.2.2.2.2.2.2.1 x.2.2.1.1 x.2.2.1.2.1 x.2.2.1.2.2.1 x.2.2.1.2.2.2.1 x.2.2.1.2.2.2.2.1 x.2.2.1.2.2.2.2.2.1 x.2.2.1.2.2.2.2.2.2.1 x.2.2.1.2.2.2.2.2.2.2.1 x.2.2.1.2.2.2.2.2.2.2.2.1 x.2.2.1.2.2.2.2.2.2.2.2.2.1 x.2.2.1.2.2.2.2.2.2.2.2.2.2.1 x.2.2.1.2.2.2.2.2.2.2.2.2.2.2.1 x.2.2.1.2.2.2.2.2.2.2.2.2.2.2.2.1 x.2.2.1.2.2.2.2.2.2.2.2.2.2.2.2.2.1 x.2.2.1.2.2.2.2.2.2.2.2.2.2.2.2.2.2.1 x.2.2.1.2.2.2.2.2.2.2.2.2.2.2.2.2.2.2.1 x.2.2.2.1.1 x.2.2.2.1.2.1 x.2.2.2.1.2.2.1 x.2.2.2.1.2.2.2.1 x.2.2.2.1.2.2.2.2.1 x.2.2.2.1.2.2.2.2.2.1 x.2.2.2.1.2.2.2.2.2.2.1 x.2.2.2.1.2.2.2.2.2.2.2.1 x.2.2.2.1.2.2.2.2.2.2.2.2.1 x.2.2.2.1.2.2.2.2.2.2.2.2.2.1 x.2.2.2.1.2.2.2.2.2.2.2.2.2.2.1 x.2.2.2.1.2.2.2.2.2.2.2.2.2.2.2.1 x.2.2.2.1.2.2.2.2.2.2.2.2.2.2.2.2.1 x.2.2.2.1.2.2.2.2.2.2.2.2.2.2.2.2.2.1 x.2.2.2.1.2.2.2.2.2.2.2.2.2.2.2.2.2.2.1 x.2.2.2.1.2.2.2.2.2.2.2.2.2.2.2.2.2.2.2.1) fuel
noncomputable def ndz' (s42 s43 b_Floors b_Debounce b_Room b_Park : Int) (b_Empty b_Full b_Over : Nat) (b_Cars : List (Car)) (m_Phases : List (Int)) (m_Flags m_Leaving : List (Bool)) (m_Entries : List (Entry)) (b6_Image_Phases : List (Int)) (b6_Image_Flags b6_Image_Leaving : List (Bool)) (b6_Image_Entries : List (Entry)) (b6_Store_Halves_0 b6_Store_Halves_1 : ByteArray) (b6_Store_Select : Int) (b6_Contacts : List (Debounced)) (b6_Beliefs : List (Belief)) (b6_Cars : List (NewCar)) (b6_Loads : List (Loaded)) (b6_Expect : List (Int)) (b6_Lit : List (Calls)) (b6_Tick b6_Faults b6_Refused : Int) (out_Image_Phases : List (Int)) (out_Image_Flags out_Image_Leaving : List (Bool)) (out_Image_Entries : List (Entry)) (out_Store_Halves_0 out_Store_Halves_1 : ByteArray) (out_Store_Select : Int) (out_Contacts : List (Debounced)) (out_Beliefs : List (Belief)) (out_Cars : List (NewCar)) (out_Loads : List (Loaded)) (out_Expect : List (Int)) (out_Lit : List (Calls)) (out_Tick out_Faults out_Refused : Int) : Option (Sum (T'31 × T'32) (T'33 × T'32)) :=
 bif (decide (s43 < s42)) then
 (ng0').bind fun y1 =>
 let z0 : List (Belief) := [(Belief.mk y1.2.1.1 y1.2.1.2.1 y1.2.1.2.2.1 y1.2.1.2.2.2.1 y1.2.1.2.2.2.2.1 y1.2.1.2.2.2.2.2.1)]
 bif (Nat.ble ((List.length out_Beliefs) + (List.length z0)) 2147483648) then
 some (Sum.inl (((), (), (), (), s42, (IntKind.i64.wrap (s43 + (1 : Int))), ()), ((b_Floors, b_Debounce, b_Room, b_Park, b_Empty, b_Full, b_Over, b_Cars, ()), (m_Phases, m_Flags, m_Leaving, m_Entries, ()), (b6_Image_Phases, b6_Image_Flags, b6_Image_Leaving, b6_Image_Entries, b6_Store_Halves_0, b6_Store_Halves_1, b6_Store_Select, b6_Contacts, b6_Beliefs, b6_Cars, b6_Loads, b6_Expect, b6_Lit, b6_Tick, b6_Faults, b6_Refused, ()), (out_Image_Phases, out_Image_Flags, out_Image_Leaving, out_Image_Entries, out_Store_Halves_0, out_Store_Halves_1, out_Store_Select, out_Contacts, (out_Beliefs ++ z0), out_Cars, out_Loads, out_Expect, out_Lit, out_Tick, out_Faults, out_Refused, ()), ())))
 else
 none
 else
 some (Sum.inr (((), (), (), (), ()), ((b_Floors, b_Debounce, b_Room, b_Park, b_Empty, b_Full, b_Over, b_Cars, ()), (m_Phases, m_Flags, m_Leaving, m_Entries, ()), (b6_Image_Phases, b6_Image_Flags, b6_Image_Leaving, b6_Image_Entries, b6_Store_Halves_0, b6_Store_Halves_1, b6_Store_Select, b6_Contacts, b6_Beliefs, b6_Cars, b6_Loads, b6_Expect, b6_Lit, b6_Tick, b6_Faults, b6_Refused, ()), (out_Image_Phases, out_Image_Flags, out_Image_Leaving, out_Image_Entries, out_Store_Halves_0, out_Store_Halves_1, out_Store_Select, out_Contacts, out_Beliefs, out_Cars, out_Loads, out_Expect, out_Lit, out_Tick, out_Faults, out_Refused, ()), ())))
noncomputable def nex' : (T'31 × T'32) → Option (T'33 × T'32) := iter (fun x => ndz' x.1.2.2.2.2.1 x.1.2.2.2.2.2.1 x.2.1.1 x.2.1.2.1 x.2.1.2.2.1 x.2.1.2.2.2.1 x.2.1.2.2.2.2.1 x.2.1.2.2.2.2.2.1 x.2.1.2.2.2.2.2.2.1 x.2.1.2.2.2.2.2.2.2.1 x.2.2.1.1 x.2.2.1.2.1 x.2.2.1.2.2.1 x.2.2.1.2.2.2.1 x.2.2.2.1.1 x.2.2.2.1.2.1 x.2.2.2.1.2.2.1 x.2.2.2.1.2.2.2.1 x.2.2.2.1.2.2.2.2.1 x.2.2.2.1.2.2.2.2.2.1 x.2.2.2.1.2.2.2.2.2.2.1 x.2.2.2.1.2.2.2.2.2.2.2.1 x.2.2.2.1.2.2.2.2.2.2.2.2.1 x.2.2.2.1.2.2.2.2.2.2.2.2.2.1 x.2.2.2.1.2.2.2.2.2.2.2.2.2.2.1 x.2.2.2.1.2.2.2.2.2.2.2.2.2.2.2.1 x.2.2.2.1.2.2.2.2.2.2.2.2.2.2.2.2.1 x.2.2.2.1.2.2.2.2.2.2.2.2.2.2.2.2.2.1 x.2.2.2.1.2.2.2.2.2.2.2.2.2.2.2.2.2.2.1 x.2.2.2.1.2.2.2.2.2.2.2.2.2.2.2.2.2.2.2.1 x.2.2.2.2.1.1 x.2.2.2.2.1.2.1 x.2.2.2.2.1.2.2.1 x.2.2.2.2.1.2.2.2.1 x.2.2.2.2.1.2.2.2.2.1 x.2.2.2.2.1.2.2.2.2.2.1 x.2.2.2.2.1.2.2.2.2.2.2.1 x.2.2.2.2.1.2.2.2.2.2.2.2.1 x.2.2.2.2.1.2.2.2.2.2.2.2.2.1 x.2.2.2.2.1.2.2.2.2.2.2.2.2.2.1 x.2.2.2.2.1.2.2.2.2.2.2.2.2.2.2.1 x.2.2.2.2.1.2.2.2.2.2.2.2.2.2.2.2.1 x.2.2.2.2.1.2.2.2.2.2.2.2.2.2.2.2.2.1 x.2.2.2.2.1.2.2.2.2.2.2.2.2.2.2.2.2.2.1 x.2.2.2.2.1.2.2.2.2.2.2.2.2.2.2.2.2.2.2.1 x.2.2.2.2.1.2.2.2.2.2.2.2.2.2.2.2.2.2.2.2.1) fuel
noncomputable def ncp' (b_Floors b_Debounce b_Room b_Park : Int) (b_Empty b_Full b_Over : Nat) (b_Cars : List (Car)) (m_Phases : List (Int)) (m_Flags m_Leaving : List (Bool)) (m_Entries : List (Entry)) (s_Halves_0 s_Halves_1 : ByteArray) (s_Select : Int) : Option ((Unit × Int × Unit) × (T'30 × Unit)) :=
 (nfb' b_Floors b_Debounce b_Room b_Park b_Empty b_Full b_Over b_Cars m_Phases m_Flags m_Leaving m_Entries).bind fun y1 =>
 bif (!y1.1.1) then
 some (((), (1 : Int), ()), ((([] : List (Int)), ([] : List (Bool)), ([] : List (Bool)), ([] : List (Entry)), (ByteArray.mk (Array.mk [])), (ByteArray.mk (Array.mk [])), (0 : Int), ([] : List (Debounced)), ([] : List (Belief)), ([] : List (NewCar)), ([] : List (Loaded)), ([] : List (Int)), ([] : List (Calls)), (0 : Int), (0 : Int), (0 : Int), ()), ()))
 else
 (nde' b_Room s_Halves_0 s_Halves_1 s_Select).bind fun y2 =>
 bif (!y2.1.1) then
 some (((), (1 : Int), ()), ((([] : List (Int)), ([] : List (Bool)), ([] : List (Bool)), ([] : List (Entry)), (ByteArray.mk (Array.mk [])), (ByteArray.mk (Array.mk [])), (0 : Int), ([] : List (Debounced)), ([] : List (Belief)), ([] : List (NewCar)), ([] : List (Loaded)), ([] : List (Int)), ([] : List (Calls)), (0 : Int), (0 : Int), (0 : Int), ()), ()))
 else
 let z0 : Int := ((List.length b_Cars : Nat) : Int)
 (nfe' m_Phases m_Flags m_Leaving m_Entries).bind fun y3 =>
 bif (((decide ((0 : Int) ≤ z0)) && (decide (z0 ≤ z0))) && (decide (z0 ≤ (2147483648 : Int)))) then
 bif (((decide ((0 : Int) ≤ z0)) && (decide (z0 ≤ z0))) && (decide (z0 ≤ (2147483648 : Int)))) then
 bif (((decide ((0 : Int) ≤ z0)) && (decide (z0 ≤ z0))) && (decide (z0 ≤ (2147483648 : Int)))) then
 bif (((decide ((0 : Int) ≤ z0)) && (decide (z0 ≤ z0))) && (decide (z0 ≤ (2147483648 : Int)))) then
 (nex' (((), (), (), (), ((List.length b_Cars : Nat) : Int), (0 : Int), ()), ((b_Floors, b_Debounce, b_Room, b_Park, b_Empty, b_Full, b_Over, b_Cars, ()), (m_Phases, m_Flags, m_Leaving, m_Entries, ()), (([] : List (Int)), ([] : List (Bool)), ([] : List (Bool)), ([] : List (Entry)), (ByteArray.mk (Array.mk [])), (ByteArray.mk (Array.mk [])), (0 : Int), ([] : List (Debounced)), ([] : List (Belief)), ([] : List (NewCar)), ([] : List (Loaded)), ([] : List (Int)), ([] : List (Calls)), (0 : Int), (0 : Int), (0 : Int), ()), (y3.2.1.1, y3.2.1.2.1, y3.2.1.2.2.1, y3.2.1.2.2.2.1, s_Halves_0, s_Halves_1, s_Select, (List.replicate (Int.toNat z0) (Debounced.mk (0 : Int) false false false false (0 : Int) (0 : Int) (0 : Int) (0 : Int) (0 : Int) (0 : Int) (0 : Int) (0 : Int) (0 : Int) (0 : Int) (0 : Int) (0 : Int) (0 : Int) (0 : Int) (0 : Int) (0 : Int) (0 : Int) (0 : Int) (0 : Int) (0 : Int) (0 : Int) (0 : Int) (0 : Int) (0 : Int) (0 : Int) (0 : Int) (0 : Int) (0 : Int) (0 : Int) (0 : Int) (0 : Int) (0 : Int) (0 : Int) (0 : Int) (0 : Int) (0 : Int))), ([] : List (Belief)), (List.replicate (Int.toNat z0) (NewCar.mk (0 : Int) (0 : Int) (0 : Int) (0 : Int) (0 : Int) false (0 : Int) (0 : Int) (0 : Int) (0 : Int) (0 : Int) (0 : Int) (0 : Int) false)), (List.replicate (Int.toNat z0) (Loaded.mk (0 : Int))), ([] : List (Int)), (List.replicate (Int.toNat z0) (Calls.mk (0 : Int) (0 : Int))), (0 : Int), (0 : Int), (0 : Int), ()), ()))).bind fun y4 =>
 (ney' (((), (), (), y4.2.2.1.2.2.2.1, ((List.length y4.2.2.1.2.2.2.1 : Nat) : Int), (0 : Int), ()), (y4.2.1, y4.2.2.2.1, y4.2.2.2.2.1, ()))).bind fun y5 =>
 some (((), (0 : Int), ()), (y5.2.2.1, ()))
 else
 none
 else
 none
 else
 none
 else
 none
noncomputable def nct' (b_Floors b_Debounce b_Room b_Park : Int) (b_Empty b_Full b_Over : Nat) (b_Cars : List (Car)) (s_Halves_0 s_Halves_1 : ByteArray) (s_Select budget : Int) : Option ((Unit × Int × Int × Unit) × (T'30 × Unit)) :=
 (njf' b_Floors b_Debounce b_Room b_Park b_Empty b_Full b_Over b_Cars s_Halves_0 s_Halves_1 s_Select budget).bind fun y1 =>
 bif (y1.1.2.2.2.1 != (0 : Int)) then
 some (((), (0 : Int), y1.1.2.2.2.1, ()), ((([] : List (Int)), ([] : List (Bool)), ([] : List (Bool)), ([] : List (Entry)), y1.2.1.1, y1.2.1.2.1, y1.2.1.2.2.1, ([] : List (Debounced)), ([] : List (Belief)), ([] : List (NewCar)), ([] : List (Loaded)), ([] : List (Int)), ([] : List (Calls)), (0 : Int), (0 : Int), (0 : Int), ()), ()))
 else
 Option.bind (some (((), (), (), (), y1.1.2.2.1, ()), ((b_Floors, b_Debounce, b_Room, b_Park, b_Empty, b_Full, b_Over, b_Cars, ()), y1.2.1, (([] : List (Int)), ([] : List (Bool)), ([] : List (Bool)), ([] : List (Entry)), (ByteArray.mk (Array.mk [])), (ByteArray.mk (Array.mk [])), (0 : Int), ([] : List (Debounced)), ([] : List (Belief)), ([] : List (NewCar)), ([] : List (Loaded)), ([] : List (Int)), ([] : List (Calls)), (0 : Int), (0 : Int), (0 : Int), ()), y1.2.2.1, ()))) fun y2 =>
 (ncp' y2.2.1.1 y2.2.1.2.1 y2.2.1.2.2.1 y2.2.1.2.2.2.1 y2.2.1.2.2.2.2.1 y2.2.1.2.2.2.2.2.1 y2.2.1.2.2.2.2.2.2.1 y2.2.1.2.2.2.2.2.2.2.1 y2.2.2.2.2.1.1 y2.2.2.2.2.1.2.1 y2.2.2.2.2.1.2.2.1 y2.2.2.2.2.1.2.2.2.1 y2.2.2.1.1 y2.2.2.1.2.1 y2.2.2.1.2.2.1).bind fun y3 =>
 bif (y3.1.2.1 != (0 : Int)) then
 some (((), (0 : Int), y3.1.2.1, ()), ((([] : List (Int)), ([] : List (Bool)), ([] : List (Bool)), ([] : List (Entry)), (ByteArray.mk (Array.mk [])), (ByteArray.mk (Array.mk [])), (0 : Int), ([] : List (Debounced)), ([] : List (Belief)), ([] : List (NewCar)), ([] : List (Loaded)), ([] : List (Int)), ([] : List (Calls)), (0 : Int), (0 : Int), (0 : Int), ()), ()))
 else
 some (((), y2.1.2.2.2.2.1, (0 : Int), ()), (y3.2.1, ()))
noncomputable def nck' (b_Floors b_Debounce b_Room b_Park : Int) (b_Empty b_Full b_Over : Nat) (b_Cars : List (Car)) : Option ((Unit × Int × Unit) × (T'30 × Unit)) :=
 (nby' b_Floors b_Debounce b_Room b_Park b_Empty b_Full b_Over b_Cars).bind fun y1 =>
 bif (y1.1.1 != (0 : Int)) then
 some (((), (1 : Int), ()), ((([] : List (Int)), ([] : List (Bool)), ([] : List (Bool)), ([] : List (Entry)), (ByteArray.mk (Array.mk [])), (ByteArray.mk (Array.mk [])), (0 : Int), ([] : List (Debounced)), ([] : List (Belief)), ([] : List (NewCar)), ([] : List (Loaded)), ([] : List (Int)), ([] : List (Calls)), (0 : Int), (0 : Int), (0 : Int), ()), ()))
 else
 (nct' b_Floors b_Debounce b_Room b_Park b_Empty b_Full b_Over b_Cars (ByteArray.mk (Array.mk [])) (ByteArray.mk (Array.mk [])) (0 : Int) (1048576 : Int)).bind fun y2 =>
 some (((), y2.1.2.2.1, ()), (y2.2.1, ()))
noncomputable def nz' (s1 s2 : List (Debounced)) (s12 s13 : Int) : Option (Sum (T'36 × Unit) ((Unit × Unit) ⊕ ((Bool × Unit) × Unit))) :=
 bif (decide (s13 < s12)) then
 bif (inB s13 (List.length s1)) then
 let z0 : Debounced := (List.getD s1 (Int.toNat s13) (Debounced.mk (0 : Int) false false false false (0 : Int) (0 : Int) (0 : Int) (0 : Int) (0 : Int) (0 : Int) (0 : Int) (0 : Int) (0 : Int) (0 : Int) (0 : Int) (0 : Int) (0 : Int) (0 : Int) (0 : Int) (0 : Int) (0 : Int) (0 : Int) (0 : Int) (0 : Int) (0 : Int) (0 : Int) (0 : Int) (0 : Int) (0 : Int) (0 : Int) (0 : Int) (0 : Int) (0 : Int) (0 : Int) (0 : Int) (0 : Int) (0 : Int) (0 : Int) (0 : Int) (0 : Int)))
 bif (inB s13 (List.length s2)) then
 let z1 : Debounced := (List.getD s2 (Int.toNat s13) (Debounced.mk (0 : Int) false false false false (0 : Int) (0 : Int) (0 : Int) (0 : Int) (0 : Int) (0 : Int) (0 : Int) (0 : Int) (0 : Int) (0 : Int) (0 : Int) (0 : Int) (0 : Int) (0 : Int) (0 : Int) (0 : Int) (0 : Int) (0 : Int) (0 : Int) (0 : Int) (0 : Int) (0 : Int) (0 : Int) (0 : Int) (0 : Int) (0 : Int) (0 : Int) (0 : Int) (0 : Int) (0 : Int) (0 : Int) (0 : Int) (0 : Int) (0 : Int) (0 : Int) (0 : Int)))
 bif (!((z0.Contacts_Floors == z1.Contacts_Floors) && ((z0.Contacts_Up == z1.Contacts_Up) && ((z0.Contacts_Down == z1.Contacts_Down) && ((z0.Contacts_Open == z1.Contacts_Open) && ((z0.Contacts_Closed == z1.Contacts_Closed) && ((z0.Count_0 == z1.Count_0) && ((z0.Count_1 == z1.Count_1) && ((z0.Count_2 == z1.Count_2) && ((z0.Count_3 == z1.Count_3) && ((z0.Count_4 == z1.Count_4) && ((z0.Count_5 == z1.Count_5) && ((z0.Count_6 == z1.Count_6) && ((z0.Count_7 == z1.Count_7) && ((z0.Count_8 == z1.Count_8) && ((z0.Count_9 == z1.Count_9) && ((z0.Count_10 == z1.Count_10) && ((z0.Count_11 == z1.Count_11) && ((z0.Count_12 == z1.Count_12) && ((z0.Count_13 == z1.Count_13) && ((z0.Count_14 == z1.Count_14) && ((z0.Count_15 == z1.Count_15) && ((z0.Count_16 == z1.Count_16) && ((z0.Count_17 == z1.Count_17) && ((z0.Count_18 == z1.Count_18) && ((z0.Count_19 == z1.Count_19) && ((z0.Count_20 == z1.Count_20) && ((z0.Count_21 == z1.Count_21) && ((z0.Count_22 == z1.Count_22) && ((z0.Count_23 == z1.Count_23) && ((z0.Count_24 == z1.Count_24) && ((z0.Count_25 == z1.Count_25) && ((z0.Count_26 == z1.Count_26) && ((z0.Count_27 == z1.Count_27) && ((z0.Count_28 == z1.Count_28) && ((z0.Count_29 == z1.Count_29) && ((z0.Count_30 == z1.Count_30) && ((z0.Count_31 == z1.Count_31) && ((z0.Count_32 == z1.Count_32) && ((z0.Count_33 == z1.Count_33) && ((z0.Count_34 == z1.Count_34) && ((z0.Count_35 == z1.Count_35) && true)))))))))))))))))))))))))))))))))))))))))) then
 some (Sum.inr (Sum.inr ((false, ()), ())))
 else
 some (Sum.inl ((s1, s2, s12, (IntKind.i64.wrap (s13 + (1 : Int))), ()), ()))
 else
 none
 else
 none
 else
 some (Sum.inr (Sum.inl ((), ())))
noncomputable def nbo' : (T'36 × Unit) → Option ((Unit × Unit) ⊕ ((Bool × Unit) × Unit)) := iter (fun x => nz' x.1.1 x.1.2.1 x.1.2.2.1 x.1.2.2.2.1) fuel
noncomputable def nbq' (s1 s2 : List (Debounced)) : Option ((Bool × Unit) × Unit) :=
 bif (((List.length s1 : Nat) : Int) != ((List.length s2 : Nat) : Int)) then
 some ((false, ()), ())
 else
 (nbo' ((s1, s2, ((List.length s1 : Nat) : Int), (0 : Int), ()), ())).bind fun y1 =>
 (match y1 with
 | .inl y2 =>
 some ((true, ()), ())
 | .inr y2 =>
 some ((y2.1.1, ()), ()))
noncomputable def nbi' (s1 s2 : List (Duty)) (s12 s13 : Int) : Option (Sum (T'37 × Unit) ((Unit × Unit) ⊕ ((Bool × Unit) × Unit))) :=
 bif (decide (s13 < s12)) then
 bif (inB s13 (List.length s1)) then
 let z0 : Duty := (List.getD s1 (Int.toNat s13) (Duty.mk (0 : Int) (0 : Int) (0 : Int)))
 bif (inB s13 (List.length s2)) then
 let z1 : Duty := (List.getD s2 (Int.toNat s13) (Duty.mk (0 : Int) (0 : Int) (0 : Int)))
 bif (!((z0.Floor == z1.Floor) && ((z0.Dir == z1.Dir) && ((z0.Age == z1.Age) && true)))) then
 some (Sum.inr (Sum.inr ((false, ()), ())))
 else
 some (Sum.inl ((s1, s2, s12, (IntKind.i64.wrap (s13 + (1 : Int))), ()), ()))
 else
 none
 else
 none
 else
 some (Sum.inr (Sum.inl ((), ())))
noncomputable def nch' : (T'37 × Unit) → Option ((Unit × Unit) ⊕ ((Bool × Unit) × Unit)) := iter (fun x => nbi' x.1.1 x.1.2.1 x.1.2.2.1 x.1.2.2.2.1) fuel
noncomputable def ncm' (s1 s2 : List (Duty)) : Option ((Bool × Unit) × Unit) :=
 bif (((List.length s1 : Nat) : Int) != ((List.length s2 : Nat) : Int)) then
 some ((false, ()), ())
 else
 (nch' ((s1, s2, ((List.length s1 : Nat) : Int), (0 : Int), ()), ())).bind fun y1 =>
 (match y1 with
 | .inl y2 =>
 some ((true, ()), ())
 | .inr y2 =>
 some ((y2.1.1, ()), ()))
noncomputable def njk' (a_Floor a_Dir a_Door : Int) (a_Duties : List (Duty)) (a_Still : Int) (a_Late : Bool) (b_Floor b_Dir b_Door : Int) (b_Duties : List (Duty)) (b_Still : Int) (b_Late : Bool) : Option ((Bool × Unit) × Unit) :=
 Option.bind (bif (a_Floor == b_Floor) then
 bif (a_Dir == b_Dir) then
 bif (a_Door == b_Door) then
 (ncm' a_Duties b_Duties).bind fun y1 =>
 bif y1.1.1 then
 bif (a_Still == b_Still) then
 some (((a_Late == b_Late), ()), ())
 else
 some ((false, ()), ())
 else
 some ((false, ()), ())
 else
 some ((false, ()), ())
 else
 some ((false, ()), ())
 else
 some ((false, ()), ())) fun y2 =>
 some ((y2.1.1, ()), ())
noncomputable def ne' (s2 s15 : List (Belief)) (s16 s17 : Int) : Option (Sum (T'38 × Unit) ((Unit × Unit) ⊕ ((Bool × Unit) × Unit))) :=
 bif (decide (s17 < s16)) then
 bif (inB s17 (List.length s15)) then
 let z0 : Belief := (List.getD s15 (Int.toNat s17) (Belief.mk (0 : Int) (0 : Int) (0 : Int) [] (0 : Int) false))
 bif (inB s17 (List.length s2)) then
 let z1 : Belief := (List.getD s2 (Int.toNat s17) (Belief.mk (0 : Int) (0 : Int) (0 : Int) [] (0 : Int) false))
 (njk' z0.Floor z0.Dir z0.Door z0.Duties z0.Still z0.Late z1.Floor z1.Dir z1.Door z1.Duties z1.Still z1.Late).bind fun y1 =>
 bif (!y1.1.1) then
 some (Sum.inr (Sum.inr ((false, ()), ())))
 else
 some (Sum.inl ((s2, (), s15, s16, (IntKind.i64.wrap (s17 + (1 : Int))), ()), ()))
 else
 none
 else
 none
 else
 some (Sum.inr (Sum.inl ((), ())))
noncomputable def nl' : (T'38 × Unit) → Option ((Unit × Unit) ⊕ ((Bool × Unit) × Unit)) := iter (fun x => ne' x.1.1 x.1.2.2.1 x.1.2.2.2.1 x.1.2.2.2.2.1) fuel
noncomputable def nn' (s1 s2 : List (Belief)) : Option ((Bool × Unit) × Unit) :=
 bif (((List.length s1 : Nat) : Int) != ((List.length s2 : Nat) : Int)) then
 some ((false, ()), ())
 else
 (nl' ((s2, (), s1, ((List.length s1 : Nat) : Int), (0 : Int), ()), ())).bind fun y1 =>
 (match y1 with
 | .inl y2 =>
 some ((true, ()), ())
 | .inr y2 =>
 some ((y2.1.1, ()), ()))
noncomputable def n4' (s1 s2 : List (NewCar)) (s12 s13 : Int) : Option (Sum (T'39 × Unit) ((Unit × Unit) ⊕ ((Bool × Unit) × Unit))) :=
 bif (decide (s13 < s12)) then
 bif (inB s13 (List.length s1)) then
 let z0 : NewCar := (List.getD s1 (Int.toNat s13) (NewCar.mk (0 : Int) (0 : Int) (0 : Int) (0 : Int) (0 : Int) false (0 : Int) (0 : Int) (0 : Int) (0 : Int) (0 : Int) (0 : Int) (0 : Int) false))
 bif (inB s13 (List.length s2)) then
 let z1 : NewCar := (List.getD s2 (Int.toNat s13) (NewCar.mk (0 : Int) (0 : Int) (0 : Int) (0 : Int) (0 : Int) false (0 : Int) (0 : Int) (0 : Int) (0 : Int) (0 : Int) (0 : Int) (0 : Int) false))
 bif (!((z0.Sweep_Dir == z1.Sweep_Dir) && ((z0.Sweep_Opened == z1.Sweep_Opened) && ((z0.Door_Stage == z1.Door_Stage) && ((z0.Door_Time == z1.Door_Time) && ((z0.Door_Since == z1.Door_Since) && ((z0.Door_Nudge == z1.Door_Nudge) && ((z0.Door_Cycles == z1.Door_Cycles) && ((z0.Motion_Command == z1.Motion_Command) && ((z0.Motion_Time == z1.Motion_Time) && ((z0.Motion_Floor == z1.Motion_Floor) && ((z0.Calls == z1.Calls) && ((z0.Shown == z1.Shown) && ((z0.Idle == z1.Idle) && ((z0.Fault == z1.Fault) && true))))))))))))))) then
 some (Sum.inr (Sum.inr ((false, ()), ())))
 else
 some (Sum.inl ((s1, s2, s12, (IntKind.i64.wrap (s13 + (1 : Int))), ()), ()))
 else
 none
 else
 none
 else
 some (Sum.inr (Sum.inl ((), ())))
noncomputable def nbz' : (T'39 × Unit) → Option ((Unit × Unit) ⊕ ((Bool × Unit) × Unit)) := iter (fun x => n4' x.1.1 x.1.2.1 x.1.2.2.1 x.1.2.2.2.1) fuel
noncomputable def ncb' (s1 s2 : List (NewCar)) : Option ((Bool × Unit) × Unit) :=
 bif (((List.length s1 : Nat) : Int) != ((List.length s2 : Nat) : Int)) then
 some ((false, ()), ())
 else
 (nbz' ((s1, s2, ((List.length s1 : Nat) : Int), (0 : Int), ()), ())).bind fun y1 =>
 (match y1 with
 | .inl y2 =>
 some ((true, ()), ())
 | .inr y2 =>
 some ((y2.1.1, ()), ()))
noncomputable def n5' (s1 s2 : List (Loaded)) (s12 s13 : Int) : Option (Sum (T'40 × Unit) ((Unit × Unit) ⊕ ((Bool × Unit) × Unit))) :=
 bif (decide (s13 < s12)) then
 bif (inB s13 (List.length s1)) then
 bif (inB s13 (List.length s2)) then
 bif (!(((List.getD s1 (Int.toNat s13) (Loaded.mk (0 : Int))).Class == (List.getD s2 (Int.toNat s13) (Loaded.mk (0 : Int))).Class) && true)) then
 some (Sum.inr (Sum.inr ((false, ()), ())))
 else
 some (Sum.inl ((s1, s2, s12, (IntKind.i64.wrap (s13 + (1 : Int))), ()), ()))
 else
 none
 else
 none
 else
 some (Sum.inr (Sum.inl ((), ())))
noncomputable def nb0' : (T'40 × Unit) → Option ((Unit × Unit) ⊕ ((Bool × Unit) × Unit)) := iter (fun x => n5' x.1.1 x.1.2.1 x.1.2.2.1 x.1.2.2.2.1) fuel
noncomputable def nb8' (s1 s2 : List (Loaded)) : Option ((Bool × Unit) × Unit) :=
 bif (((List.length s1 : Nat) : Int) != ((List.length s2 : Nat) : Int)) then
 some ((false, ()), ())
 else
 (nb0' ((s1, s2, ((List.length s1 : Nat) : Int), (0 : Int), ()), ())).bind fun y1 =>
 (match y1 with
 | .inl y2 =>
 some ((true, ()), ())
 | .inr y2 =>
 some ((y2.1.1, ()), ()))
noncomputable def nbb' (s1 s2 : List (Calls)) (s12 s13 : Int) : Option (Sum (T'41 × Unit) ((Unit × Unit) ⊕ ((Bool × Unit) × Unit))) :=
 bif (decide (s13 < s12)) then
 bif (inB s13 (List.length s1)) then
 let z0 : Calls := (List.getD s1 (Int.toNat s13) (Calls.mk (0 : Int) (0 : Int)))
 bif (inB s13 (List.length s2)) then
 let z1 : Calls := (List.getD s2 (Int.toNat s13) (Calls.mk (0 : Int) (0 : Int)))
 bif (!((z0.Up == z1.Up) && ((z0.Down == z1.Down) && true))) then
 some (Sum.inr (Sum.inr ((false, ()), ())))
 else
 some (Sum.inl ((s1, s2, s12, (IntKind.i64.wrap (s13 + (1 : Int))), ()), ()))
 else
 none
 else
 none
 else
 some (Sum.inr (Sum.inl ((), ())))
noncomputable def nca' : (T'41 × Unit) → Option ((Unit × Unit) ⊕ ((Bool × Unit) × Unit)) := iter (fun x => nbb' x.1.1 x.1.2.1 x.1.2.2.1 x.1.2.2.2.1) fuel
noncomputable def ncf' (s1 s2 : List (Calls)) : Option ((Bool × Unit) × Unit) :=
 bif (((List.length s1 : Nat) : Int) != ((List.length s2 : Nat) : Int)) then
 some ((false, ()), ())
 else
 (nca' ((s1, s2, ((List.length s1 : Nat) : Int), (0 : Int), ()), ())).bind fun y1 =>
 (match y1 with
 | .inl y2 =>
 some ((true, ()), ())
 | .inr y2 =>
 some ((y2.1.1, ()), ()))
noncomputable def ncd' (s1 s2 : List (Int)) (s12 s13 : Int) : Option (Sum (T'42 × Unit) ((Unit × Unit) ⊕ ((Bool × Unit) × Unit))) :=
 bif (decide (s13 < s12)) then
 bif (inB s13 (List.length s1)) then
 bif (inB s13 (List.length s2)) then
 bif ((List.getD s1 (Int.toNat s13) (0 : Int)) != (List.getD s2 (Int.toNat s13) (0 : Int))) then
 some (Sum.inr (Sum.inr ((false, ()), ())))
 else
 some (Sum.inl ((s1, s2, s12, (IntKind.i64.wrap (s13 + (1 : Int))), ()), ()))
 else
 none
 else
 none
 else
 some (Sum.inr (Sum.inl ((), ())))
noncomputable def ndf' : (T'42 × Unit) → Option ((Unit × Unit) ⊕ ((Bool × Unit) × Unit)) := iter (fun x => ncd' x.1.1 x.1.2.1 x.1.2.2.1 x.1.2.2.2.1) fuel
noncomputable def ncw' (s1 s2 : List (Int)) : Option ((Bool × Unit) × Unit) :=
 bif (((List.length s1 : Nat) : Int) != ((List.length s2 : Nat) : Int)) then
 some ((false, ()), ())
 else
 (ndf' ((s1, s2, ((List.length s1 : Nat) : Int), (0 : Int), ()), ())).bind fun y1 =>
 (match y1 with
 | .inl y2 =>
 some ((true, ()), ())
 | .inr y2 =>
 some ((y2.1.1, ()), ()))
noncomputable def nb3' (s1 s2 : List (Bool)) (s12 s13 : Int) : Option (Sum (T'43 × Unit) ((Unit × Unit) ⊕ ((Bool × Unit) × Unit))) :=
 bif (decide (s13 < s12)) then
 bif (inB s13 (List.length s1)) then
 bif (inB s13 (List.length s2)) then
 bif (!((List.getD s1 (Int.toNat s13) false) == (List.getD s2 (Int.toNat s13) false))) then
 some (Sum.inr (Sum.inr ((false, ()), ())))
 else
 some (Sum.inl ((s1, s2, s12, (IntKind.i64.wrap (s13 + (1 : Int))), ()), ()))
 else
 none
 else
 none
 else
 some (Sum.inr (Sum.inl ((), ())))
noncomputable def nc2' : (T'43 × Unit) → Option ((Unit × Unit) ⊕ ((Bool × Unit) × Unit)) := iter (fun x => nb3' x.1.1 x.1.2.1 x.1.2.2.1 x.1.2.2.2.1) fuel
noncomputable def ncq' (s1 s2 : List (Bool)) : Option ((Bool × Unit) × Unit) :=
 bif (((List.length s1 : Nat) : Int) != ((List.length s2 : Nat) : Int)) then
 some ((false, ()), ())
 else
 (nc2' ((s1, s2, ((List.length s1 : Nat) : Int), (0 : Int), ()), ())).bind fun y1 =>
 (match y1 with
 | .inl y2 =>
 some ((true, ()), ())
 | .inr y2 =>
 some ((y2.1.1, ()), ()))
noncomputable def nba' (s1 s2 : List (Entry)) (s12 s13 : Int) : Option (Sum (T'44 × Unit) ((Unit × Unit) ⊕ ((Bool × Unit) × Unit))) :=
 bif (decide (s13 < s12)) then
 bif (inB s13 (List.length s1)) then
 let z0 : Entry := (List.getD s1 (Int.toNat s13) (Entry.mk (0 : Int) (0 : Int) (0 : Int) (0 : Int) false))
 bif (inB s13 (List.length s2)) then
 let z1 : Entry := (List.getD s2 (Int.toNat s13) (Entry.mk (0 : Int) (0 : Int) (0 : Int) (0 : Int) false))
 bif (!((z0.Floor == z1.Floor) && ((z0.Dir == z1.Dir) && ((z0.Car == z1.Car) && ((z0.Moves == z1.Moves) && ((z0.Moved == z1.Moved) && true)))))) then
 some (Sum.inr (Sum.inr ((false, ()), ())))
 else
 some (Sum.inl ((s1, s2, s12, (IntKind.i64.wrap (s13 + (1 : Int))), ()), ()))
 else
 none
 else
 none
 else
 some (Sum.inr (Sum.inl ((), ())))
noncomputable def nb9' : (T'44 × Unit) → Option ((Unit × Unit) ⊕ ((Bool × Unit) × Unit)) := iter (fun x => nba' x.1.1 x.1.2.1 x.1.2.2.1 x.1.2.2.2.1) fuel
noncomputable def ncg' (s1 s2 : List (Entry)) : Option ((Bool × Unit) × Unit) :=
 bif (((List.length s1 : Nat) : Int) != ((List.length s2 : Nat) : Int)) then
 some ((false, ()), ())
 else
 (nb9' ((s1, s2, ((List.length s1 : Nat) : Int), (0 : Int), ()), ())).bind fun y1 =>
 (match y1 with
 | .inl y2 =>
 some ((true, ()), ())
 | .inr y2 =>
 some ((y2.1.1, ()), ()))
noncomputable def nl9' (a_Phases : List (Int)) (a_Flags a_Leaving : List (Bool)) (a_Entries : List (Entry)) (b_Phases : List (Int)) (b_Flags b_Leaving : List (Bool)) (b_Entries : List (Entry)) : Option ((Bool × Unit) × Unit) :=
 Option.bind ((ncw' a_Phases b_Phases).bind fun y1 =>
 bif y1.1.1 then
 (ncq' a_Flags b_Flags).bind fun y2 =>
 bif y2.1.1 then
 (ncq' a_Leaving b_Leaving).bind fun y3 =>
 bif y3.1.1 then
 (ncg' a_Entries b_Entries).bind fun y4 =>
 some ((y4.1.1, ()), ())
 else
 some ((false, ()), ())
 else
 some ((false, ()), ())
 else
 some ((false, ()), ())) fun y5 =>
 some ((y5.1.1, ()), ())
noncomputable def ngq' (a_Image_Phases : List (Int)) (a_Image_Flags a_Image_Leaving : List (Bool)) (a_Image_Entries : List (Entry)) (a_Store_Halves_0 a_Store_Halves_1 : ByteArray) (a_Store_Select : Int) (a_Contacts : List (Debounced)) (a_Beliefs : List (Belief)) (a_Cars : List (NewCar)) (a_Loads : List (Loaded)) (a_Expect : List (Int)) (a_Lit : List (Calls)) (a_Tick a_Faults a_Refused : Int) (b_Image_Phases : List (Int)) (b_Image_Flags b_Image_Leaving : List (Bool)) (b_Image_Entries : List (Entry)) (b_Store_Halves_0 b_Store_Halves_1 : ByteArray) (b_Store_Select : Int) (b_Contacts : List (Debounced)) (b_Beliefs : List (Belief)) (b_Cars : List (NewCar)) (b_Loads : List (Loaded)) (b_Expect : List (Int)) (b_Lit : List (Calls)) (b_Tick b_Faults b_Refused : Int) : Option ((Bool × Unit) × Unit) :=
 Option.bind ((nbq' a_Contacts b_Contacts).bind fun y1 =>
 bif y1.1.1 then
 (nn' a_Beliefs b_Beliefs).bind fun y2 =>
 bif y2.1.1 then
 (ncb' a_Cars b_Cars).bind fun y3 =>
 bif y3.1.1 then
 (nb8' a_Loads b_Loads).bind fun y4 =>
 bif y4.1.1 then
 (ncf' a_Lit b_Lit).bind fun y5 =>
 some (((), (), y5.1.1, ()), ((a_Image_Phases, a_Image_Flags, a_Image_Leaving, a_Image_Entries, a_Store_Halves_0, a_Store_Halves_1, a_Store_Select, a_Contacts, a_Beliefs, a_Cars, a_Loads, a_Expect, a_Lit, a_Tick, a_Faults, a_Refused, ()), (b_Image_Phases, b_Image_Flags, b_Image_Leaving, b_Image_Entries, b_Store_Halves_0, b_Store_Halves_1, b_Store_Select, b_Contacts, b_Beliefs, b_Cars, b_Loads, b_Expect, b_Lit, b_Tick, b_Faults, b_Refused, ()), ()))
 else
 some (((), (), false, ()), ((a_Image_Phases, a_Image_Flags, a_Image_Leaving, a_Image_Entries, a_Store_Halves_0, a_Store_Halves_1, a_Store_Select, a_Contacts, a_Beliefs, a_Cars, a_Loads, a_Expect, a_Lit, a_Tick, a_Faults, a_Refused, ()), (b_Image_Phases, b_Image_Flags, b_Image_Leaving, b_Image_Entries, b_Store_Halves_0, b_Store_Halves_1, b_Store_Select, b_Contacts, b_Beliefs, b_Cars, b_Loads, b_Expect, b_Lit, b_Tick, b_Faults, b_Refused, ()), ()))
 else
 some (((), (), false, ()), ((a_Image_Phases, a_Image_Flags, a_Image_Leaving, a_Image_Entries, a_Store_Halves_0, a_Store_Halves_1, a_Store_Select, a_Contacts, a_Beliefs, a_Cars, a_Loads, a_Expect, a_Lit, a_Tick, a_Faults, a_Refused, ()), (b_Image_Phases, b_Image_Flags, b_Image_Leaving, b_Image_Entries, b_Store_Halves_0, b_Store_Halves_1, b_Store_Select, b_Contacts, b_Beliefs, b_Cars, b_Loads, b_Expect, b_Lit, b_Tick, b_Faults, b_Refused, ()), ()))
 else
 some (((), (), false, ()), ((a_Image_Phases, a_Image_Flags, a_Image_Leaving, a_Image_Entries, a_Store_Halves_0, a_Store_Halves_1, a_Store_Select, a_Contacts, a_Beliefs, a_Cars, a_Loads, a_Expect, a_Lit, a_Tick, a_Faults, a_Refused, ()), (b_Image_Phases, b_Image_Flags, b_Image_Leaving, b_Image_Entries, b_Store_Halves_0, b_Store_Halves_1, b_Store_Select, b_Contacts, b_Beliefs, b_Cars, b_Loads, b_Expect, b_Lit, b_Tick, b_Faults, b_Refused, ()), ()))
 else
 some (((), (), false, ()), ((a_Image_Phases, a_Image_Flags, a_Image_Leaving, a_Image_Entries, a_Store_Halves_0, a_Store_Halves_1, a_Store_Select, a_Contacts, a_Beliefs, a_Cars, a_Loads, a_Expect, a_Lit, a_Tick, a_Faults, a_Refused, ()), (b_Image_Phases, b_Image_Flags, b_Image_Leaving, b_Image_Entries, b_Store_Halves_0, b_Store_Halves_1, b_Store_Select, b_Contacts, b_Beliefs, b_Cars, b_Loads, b_Expect, b_Lit, b_Tick, b_Faults, b_Refused, ()), ()))) fun y6 =>
 Option.bind (bif y6.1.2.2.1 then
 (nl9' y6.2.1.1 y6.2.1.2.1 y6.2.1.2.2.1 y6.2.1.2.2.2.1 y6.2.2.1.1 y6.2.2.1.2.1 y6.2.2.1.2.2.1 y6.2.2.1.2.2.2.1).bind fun y7 =>
 bif y7.1.1 then
 bif ((eqB y6.2.1.2.2.2.2.1 y6.2.2.1.2.2.2.2.1) && ((eqB y6.2.1.2.2.2.2.2.1 y6.2.2.1.2.2.2.2.2.1) && ((y6.2.1.2.2.2.2.2.2.1 == y6.2.2.1.2.2.2.2.2.2.1) && true))) then
 (ncw' y6.2.1.2.2.2.2.2.2.2.2.2.2.2.1 y6.2.2.1.2.2.2.2.2.2.2.2.2.2.2.1).bind fun y8 =>
 bif y8.1.1 then
 bif (y6.2.1.2.2.2.2.2.2.2.2.2.2.2.2.2.1 == y6.2.2.1.2.2.2.2.2.2.2.2.2.2.2.2.2.1) then
 bif (y6.2.1.2.2.2.2.2.2.2.2.2.2.2.2.2.2.1 == y6.2.2.1.2.2.2.2.2.2.2.2.2.2.2.2.2.2.1) then
 some (((y6.2.1.2.2.2.2.2.2.2.2.2.2.2.2.2.2.2.1 == y6.2.2.1.2.2.2.2.2.2.2.2.2.2.2.2.2.2.2.1), ()), ())
 else
 some ((false, ()), ())
 else
 some ((false, ()), ())
 else
 some ((false, ()), ())
 else
 some ((false, ()), ())
 else
 some ((false, ()), ())
 else
 some ((false, ()), ())) fun y9 =>
 some ((y9.1.1, ()), ())
noncomputable def nez'  : Option ((Bool × Unit) × Unit) :=
 (nc5' (9 : Int) (90 : Int)).bind fun y1 =>
 Option.bind (some (((), ()), (y1.2.1, ()))) fun y2 =>
 (nck' y2.2.1.1 y2.2.1.2.1 y2.2.1.2.2.1 y2.2.1.2.2.2.1 y2.2.1.2.2.2.2.1 y2.2.1.2.2.2.2.2.1 y2.2.1.2.2.2.2.2.2.1 y2.2.1.2.2.2.2.2.2.2.1).bind fun y3 =>
 (nct' y2.2.1.1 y2.2.1.2.1 y2.2.1.2.2.1 y2.2.1.2.2.2.1 y2.2.1.2.2.2.2.1 y2.2.1.2.2.2.2.2.1 y2.2.1.2.2.2.2.2.2.1 y2.2.1.2.2.2.2.2.2.2.1 y3.2.1.2.2.2.2.1 y3.2.1.2.2.2.2.2.1 y3.2.1.2.2.2.2.2.2.1 (100 : Int)).bind fun y4 =>
 (nct' y2.2.1.1 y2.2.1.2.1 y2.2.1.2.2.1 y2.2.1.2.2.2.1 y2.2.1.2.2.2.2.1 y2.2.1.2.2.2.2.2.1 y2.2.1.2.2.2.2.2.2.1 y2.2.1.2.2.2.2.2.2.2.1 y3.2.1.2.2.2.2.1 y3.2.1.2.2.2.2.2.1 y3.2.1.2.2.2.2.2.2.1 (0 : Int)).bind fun y5 =>
 Option.bind (bif (y3.1.2.1 == (0 : Int)) then
 bif (((List.length y3.2.1.2.2.2.2.2.2.2.2.1 : Nat) : Int) == (2 : Int)) then
 bif (inB (1 : Int) (List.length y3.2.1.2.2.2.2.2.2.2.2.1)) then
 bif ((List.getD y3.2.1.2.2.2.2.2.2.2.2.1 (Int.toNat (1 : Int)) (Belief.mk (0 : Int) (0 : Int) (0 : Int) [] (0 : Int) false)).Floor == (-1 : Int)) then
 bif (((List.length y3.2.1.1 : Nat) : Int) == (2 : Int)) then
 bif (y4.1.2.2.1 == (0 : Int)) then
 bif (y4.1.2.1 == (62 : Int)) then
 (ngq' y4.2.1.1 y4.2.1.2.1 y4.2.1.2.2.1 y4.2.1.2.2.2.1 y4.2.1.2.2.2.2.1 y4.2.1.2.2.2.2.2.1 y4.2.1.2.2.2.2.2.2.1 y4.2.1.2.2.2.2.2.2.2.1 y4.2.1.2.2.2.2.2.2.2.2.1 y4.2.1.2.2.2.2.2.2.2.2.2.1 y4.2.1.2.2.2.2.2.2.2.2.2.2.1 y4.2.1.2.2.2.2.2.2.2.2.2.2.2.1 y4.2.1.2.2.2.2.2.2.2.2.2.2.2.2.1 y4.2.1.2.2.2.2.2.2.2.2.2.2.2.2.2.1 y4.2.1.2.2.2.2.2.2.2.2.2.2.2.2.2.2.1 y4.2.1.2.2.2.2.2.2.2.2.2.2.2.2.2.2.2.1 y4.2.1.1 y4.2.1.2.1 y4.2.1.2.2.1 y4.2.1.2.2.2.1 y4.2.1.2.2.2.2.1 y4.2.1.2.2.2.2.2.1 y4.2.1.2.2.2.2.2.2.1 y4.2.1.2.2.2.2.2.2.2.1 y4.2.1.2.2.2.2.2.2.2.2.1 y4.2.1.2.2.2.2.2.2.2.2.2.1 y4.2.1.2.2.2.2.2.2.2.2.2.2.1 y4.2.1.2.2.2.2.2.2.2.2.2.2.2.1 y4.2.1.2.2.2.2.2.2.2.2.2.2.2.2.1 y4.2.1.2.2.2.2.2.2.2.2.2.2.2.2.2.1 y4.2.1.2.2.2.2.2.2.2.2.2.2.2.2.2.2.1 y4.2.1.2.2.2.2.2.2.2.2.2.2.2.2.2.2.2.1).bind fun y6 =>
 bif y6.1.1 then
 some (((y5.1.2.2.1 == (8 : Int)), ()), ())
 else
 some ((false, ()), ())
 else
 some ((false, ()), ())
 else
 some ((false, ()), ())
 else
 some ((false, ()), ())
 else
 some ((false, ()), ())
 else
 none
 else
 some ((false, ()), ())
 else
 some ((false, ()), ())) fun y7 =>
 some ((y7.1.1, ()), ())
noncomputable def nea' (n lo hi : Int) : Option ((Bool × Unit) × Unit) :=
 Option.bind (bif (decide (lo ≤ n)) then
 some (((decide (n ≤ hi)), ()), ())
 else
 some ((false, ()), ())) fun y1 =>
 some ((y1.1.1, ()), ())
noncomputable def nd2' (l : List (Int)) (i b_Floors b_Debounce b_Room b_Park : Int) (b_Empty b_Full b_Over : Nat) (b_Cars : List (Car)) (c_Deadline c_Pulse c_Quiet c_Slack c_Step c_Travel c_Dwell c_Hold c_Home : Int) : Option (Sum (T'45 × (T'0 × T'46 × Unit)) (((Unit × Unit × Unit) × (T'0 × T'46 × Unit)) ⊕ ((Bool × Unit) × Unit))) :=
 bif (decide (i < (7 : Int))) then
 bif (inB i (List.length l)) then
 (nea' (List.getD l (Int.toNat i) (0 : Int)) (1 : Int) (10000 : Int)).bind fun y1 =>
 bif (!y1.1.1) then
 some (Sum.inr (Sum.inr ((false, ()), ())))
 else
 some (Sum.inl (((), (), l, (IntKind.i64.wrap (i + (1 : Int))), ()), ((b_Floors, b_Debounce, b_Room, b_Park, b_Empty, b_Full, b_Over, b_Cars, ()), (c_Deadline, c_Pulse, c_Quiet, c_Slack, c_Step, c_Travel, c_Dwell, c_Hold, c_Home, ()), ())))
 else
 none
 else
 some (Sum.inr (Sum.inl (((), (), ()), ((b_Floors, b_Debounce, b_Room, b_Park, b_Empty, b_Full, b_Over, b_Cars, ()), (c_Deadline, c_Pulse, c_Quiet, c_Slack, c_Step, c_Travel, c_Dwell, c_Hold, c_Home, ()), ()))))
noncomputable def ni7' : (T'45 × (T'0 × T'46 × Unit)) → Option (((Unit × Unit × Unit) × (T'0 × T'46 × Unit)) ⊕ ((Bool × Unit) × Unit)) := iter (fun x => nd2' x.1.2.2.1 x.1.2.2.2.1 x.2.1.1 x.2.1.2.1 x.2.1.2.2.1 x.2.1.2.2.2.1 x.2.1.2.2.2.2.1 x.2.1.2.2.2.2.2.1 x.2.1.2.2.2.2.2.2.1 x.2.1.2.2.2.2.2.2.2.1 x.2.2.1.1 x.2.2.1.2.1 x.2.2.1.2.2.1 x.2.2.1.2.2.2.1 x.2.2.1.2.2.2.2.1 x.2.2.1.2.2.2.2.2.1 x.2.2.1.2.2.2.2.2.2.1 x.2.2.1.2.2.2.2.2.2.2.1 x.2.2.1.2.2.2.2.2.2.2.2.1) fuel
noncomputable def nlg' (b_Floors b_Debounce b_Room b_Park : Int) (b_Empty b_Full b_Over : Nat) (b_Cars : List (Car)) (c_Deadline c_Pulse c_Quiet c_Slack c_Step c_Travel c_Dwell c_Hold c_Home : Int) : Option ((Bool × Unit) × Unit) :=
 bif (decide (c_Slack < (0 : Int))) then
 some ((false, ()), ())
 else
 bif (decide ((10000 : Int) < c_Slack)) then
 some ((false, ()), ())
 else
 (ni7' (((), (), [c_Deadline, c_Pulse, c_Quiet, c_Step, c_Travel, c_Dwell, c_Hold, (IntKind.i64.wrap (c_Slack + (1 : Int)))], (0 : Int), ()), ((b_Floors, b_Debounce, b_Room, b_Park, b_Empty, b_Full, b_Over, b_Cars, ()), (c_Deadline, c_Pulse, c_Quiet, c_Slack, c_Step, c_Travel, c_Dwell, c_Hold, c_Home, ()), ()))).bind fun y1 =>
 (match y1 with
 | .inl y2 =>
 Option.bind (bif (decide (y2.2.2.1.2.2.2.2.2.2.1 ≤ y2.2.2.1.2.2.2.2.2.2.2.1)) then
 (nea' y2.2.2.1.2.2.2.2.2.2.2.2.1 (0 : Int) (IntKind.i64.wrap (y2.2.1.1 - (1 : Int)))).bind fun y3 =>
 some ((y3.1.1, ()), ())
 else
 some ((false, ()), ())) fun y4 =>
 some ((y4.1.1, ()), ())
 | .inr y2 =>
 some ((y2.1.1, ()), ()))
noncomputable def nfk' (ok : Bool) (i b_Floors b_Debounce b_Room b_Park : Int) (b_Empty b_Full b_Over : Nat) (b_Cars : List (Car)) : Option (Sum (T'47 × (T'0 × Unit)) ((Unit × Bool × Unit) × (T'0 × Unit))) :=
 bif (decide (i < ((List.length b_Cars : Nat) : Int))) then
 Option.bind (bif ok then
 bif (inB i (List.length b_Cars)) then
 let z0 : Car := (List.getD b_Cars (Int.toNat i) (Car.mk (0 : Int) (0 : Int) (0 : Int) (0 : Int) (0 : Int) (0 : Int) (0 : Int) (0 : Int) (0 : Int)))
 (nlg' b_Floors b_Debounce b_Room b_Park b_Empty b_Full b_Over b_Cars z0.Deadline z0.Pulse z0.Quiet z0.Slack z0.Step z0.Travel z0.Dwell z0.Hold z0.Home).bind fun y1 =>
 some (((), y1.1.1, i, ()), ((b_Floors, b_Debounce, b_Room, b_Park, b_Empty, b_Full, b_Over, b_Cars, ()), ()))
 else
 none
 else
 some (((), false, i, ()), ((b_Floors, b_Debounce, b_Room, b_Park, b_Empty, b_Full, b_Over, b_Cars, ()), ()))) fun y2 =>
 some (Sum.inl (((), y2.1.2.1, (IntKind.i64.wrap (y2.1.2.2.1 + (1 : Int))), ()), (y2.2.1, ())))
 else
 some (Sum.inr (((), ok, ()), ((b_Floors, b_Debounce, b_Room, b_Park, b_Empty, b_Full, b_Over, b_Cars, ()), ())))
noncomputable def njc' : (T'47 × (T'0 × Unit)) → Option ((Unit × Bool × Unit) × (T'0 × Unit)) := iter (fun x => nfk' x.1.2.1 x.1.2.2.1 x.2.1.1 x.2.1.2.1 x.2.1.2.2.1 x.2.1.2.2.2.1 x.2.1.2.2.2.2.1 x.2.1.2.2.2.2.2.1 x.2.1.2.2.2.2.2.2.1 x.2.1.2.2.2.2.2.2.2.1) fuel
noncomputable def nei' (b_Floors b_Debounce b_Room b_Park : Int) (b_Empty b_Full b_Over : Nat) (b_Cars : List (Car)) : Option ((Int × Unit) × Unit) :=
 (nea' b_Floors (2 : Int) (32 : Int)).bind fun y1 =>
 bif (!y1.1.1) then
 some (((10 : Int), ()), ())
 else
 (nea' ((List.length b_Cars : Nat) : Int) (1 : Int) (8 : Int)).bind fun y2 =>
 bif (!y2.1.1) then
 some (((11 : Int), ()), ())
 else
 Option.bind ((nea' b_Debounce (1 : Int) (16 : Int)).bind fun y3 =>
 bif y3.1.1 then
 (nea' b_Park (1 : Int) (10000 : Int)).bind fun y4 =>
 some (((), y4.1.1, ()), ((b_Floors, b_Debounce, b_Room, b_Park, b_Empty, b_Full, b_Over, b_Cars, ()), ()))
 else
 some (((), false, ()), ((b_Floors, b_Debounce, b_Room, b_Park, b_Empty, b_Full, b_Over, b_Cars, ()), ()))) fun y5 =>
 (njc' (((), y5.1.2.1, (0 : Int), ()), (y5.2.1, ()))).bind fun y6 =>
 bif (!y6.1.2.1) then
 some (((12 : Int), ()), ())
 else
 bif (((FloatKind.format FloatKind.f64).order 0 y6.2.1.2.2.2.2.1) == some Ordering.lt) then
 bif (((FloatKind.format FloatKind.f64).order y6.2.1.2.2.2.2.1 y6.2.1.2.2.2.2.2.1) == some Ordering.lt) then
 bif (((FloatKind.format FloatKind.f64).order y6.2.1.2.2.2.2.2.1 y6.2.1.2.2.2.2.2.2.1) == some Ordering.lt) then
 bif (!(((FloatKind.format FloatKind.f64).order y6.2.1.2.2.2.2.2.2.1 9218868437227405311) == some Ordering.lt || ((FloatKind.format FloatKind.f64).order y6.2.1.2.2.2.2.2.2.1 9218868437227405311) == some Ordering.eq)) then
 some (((13 : Int), ()), ())
 else
 (nea' y6.2.1.2.2.1 (IntKind.i64.wrap ((IntKind.i64.wrap ((18 : Int) * ((List.length y6.2.1.2.2.2.2.2.2.2.1 : Nat) : Int))) + (24 : Int))) (65536 : Int)).bind fun y7 =>
 bif (!y7.1.1) then
 some (((14 : Int), ()), ())
 else
 some (((0 : Int), ()), ())
 else
 some (((13 : Int), ()), ())
 else
 some (((13 : Int), ()), ())
 else
 some (((13 : Int), ()), ())
noncomputable def nhl' (b_Floors b_Debounce b_Room b_Park : Int) (b_Empty b_Full b_Over : Nat) (b_Cars : List (Car)) : Option ((Unit × Unit) × (T'4 × Unit)) :=
 (nei' b_Floors b_Debounce b_Room b_Park b_Empty b_Full b_Over b_Cars).bind fun y1 =>
 bif (y1.1.1 != (0 : Int)) then
 some (((), ()), ((([] : List (Int)), ([] : List (Bool)), ([] : List (Bool)), ([] : List (Entry)), ()), ()))
 else
 let z0 : Int := ((List.length b_Cars : Nat) : Int)
 bif (((decide ((0 : Int) ≤ z0)) && (decide (z0 ≤ z0))) && (decide (z0 ≤ (2147483648 : Int)))) then
 bif (((decide ((0 : Int) ≤ z0)) && (decide (z0 ≤ z0))) && (decide (z0 ≤ (2147483648 : Int)))) then
 bif (((decide ((0 : Int) ≤ z0)) && (decide (z0 ≤ z0))) && (decide (z0 ≤ (2147483648 : Int)))) then
 some (((), ()), (((List.replicate (Int.toNat z0) (0 : Int)), (List.replicate (Int.toNat z0) false), (List.replicate (Int.toNat z0) false), ([] : List (Entry)), ()), ()))
 else
 none
 else
 none
 else
 none
noncomputable def ndv' (l : List (Int)) (most : Int) (out : List (Record)) (f c i : Int) : Option (Sum (T'48 × Unit) ((List (Record) × Unit) × Unit)) :=
 bif (decide ((IntKind.i64.wrap (i + (1 : Int))) < ((List.length l : Nat) : Int))) then
 bif (decide (((List.length out : Nat) : Int) < most)) then
 bif (inB i (List.length l)) then
 let z0 : Int := (IntKind.i64.wrap (List.getD l (Int.toNat i) (0 : Int)))
 let z1 : Int := (IntKind.i64.wrap (i + (1 : Int)))
 bif (inB z1 (List.length l)) then
 let z2 : Int := (IntKind.i64.wrap (List.getD l (Int.toNat z1) (0 : Int)))
 let z3 : Int := (IntKind.i64.wrap ((1 : Int) + (Int.tmod z0 (7 : Int))))
 Option.bind (bif (z3 == (4 : Int)) then
 bif (c != (0 : Int)) then
 some ((l, most, out, f, c, i, z0, (), ()), ((z3, (0 : Int), (0 : Int), (Int.tmod (IntKind.i64.wrap (Int.tdiv z0 (7 : Int))) c), (Int.tmod z2 (5 : Int)), ()), ()))
 else
 none
 else
 bif (z3 == (5 : Int)) then
 bif (c != (0 : Int)) then
 some ((l, most, out, f, c, i, z0, (), ()), ((z3, (0 : Int), (0 : Int), (Int.tmod (IntKind.i64.wrap (Int.tdiv z0 (7 : Int))) c), (Int.tmod z2 (2 : Int)), ()), ()))
 else
 none
 else
 bif (z3 == (6 : Int)) then
 bif (c != (0 : Int)) then
 some ((l, most, out, f, c, i, z0, (), ()), ((z3, (0 : Int), (0 : Int), (Int.tmod (IntKind.i64.wrap (Int.tdiv z0 (7 : Int))) c), (Int.tmod z2 (2 : Int)), ()), ()))
 else
 none
 else
 let z4 : Int := (IntKind.i64.wrap ((1 : Int) + (Int.tmod z2 (2 : Int))))
 let z5 : Int := (IntKind.i64.wrap (f - (1 : Int)))
 bif (z5 != (0 : Int)) then
 let z6 : Int := (Int.tmod (IntKind.i64.wrap (Int.tdiv z2 (2 : Int))) z5)
 bif (z4 == (2 : Int)) then
 some ((l, most, out, f, c, i, z0, (), ()), ((z3, (IntKind.i64.wrap (z6 + (1 : Int))), z4, (0 : Int), (0 : Int), ()), ()))
 else
 some ((l, most, out, f, c, i, z0, (), ()), ((z3, z6, z4, (0 : Int), (0 : Int), ()), ()))
 else
 none) fun y1 =>
 Option.bind (bif (y1.2.1.1 == (3 : Int)) then
 let z7 : Int := (IntKind.i64.wrap (y1.1.2.2.2.2.1 + (2 : Int)))
 bif (z7 != (0 : Int)) then
 some ((y1.1.1, y1.1.2.1, y1.1.2.2.1, y1.1.2.2.2.1, y1.1.2.2.2.2.1, y1.1.2.2.2.2.2.1, y1.1.2.2.2.2.2.2.1, (), ()), ((y1.2.1.1, y1.2.1.2.1, y1.2.1.2.2.1, (IntKind.i64.wrap ((Int.tmod (IntKind.i64.wrap (Int.tdiv y1.1.2.2.2.2.2.2.1 (7 : Int))) z7) - (2 : Int))), y1.2.1.2.2.2.2.1, ()), ()))
 else
 none
 else
 some ((y1.1.1, y1.1.2.1, y1.1.2.2.1, y1.1.2.2.2.1, y1.1.2.2.2.2.1, y1.1.2.2.2.2.2.1, y1.1.2.2.2.2.2.2.1, (), ()), (y1.2.1, ()))) fun y2 =>
 bif (y2.2.1.1 == (7 : Int)) then
 let z8 : List (Record) := [(Record.mk y2.2.1.1 y2.2.1.2.1 y2.2.1.2.2.1 (Int.tmod (IntKind.i64.wrap (Int.tdiv y2.1.2.2.2.2.2.2.1 (7 : Int))) (2 : Int)) (IntKind.i64.wrap (Int.tdiv y2.1.2.2.2.2.2.2.1 (14 : Int))))]
 bif (Nat.ble ((List.length y2.1.2.2.1) + (List.length z8)) 2147483648) then
 some (Sum.inl ((y2.1.1, y2.1.2.1, (y2.1.2.2.1 ++ z8), y2.1.2.2.2.1, y2.1.2.2.2.2.1, (IntKind.i64.wrap (y2.1.2.2.2.2.2.1 + (2 : Int))), ()), ()))
 else
 none
 else
 let z9 : List (Record) := [(Record.mk y2.2.1.1 y2.2.1.2.1 y2.2.1.2.2.1 y2.2.1.2.2.2.1 y2.2.1.2.2.2.2.1)]
 bif (Nat.ble ((List.length y2.1.2.2.1) + (List.length z9)) 2147483648) then
 some (Sum.inl ((y2.1.1, y2.1.2.1, (y2.1.2.2.1 ++ z9), y2.1.2.2.2.1, y2.1.2.2.2.2.1, (IntKind.i64.wrap (y2.1.2.2.2.2.2.1 + (2 : Int))), ()), ()))
 else
 none
 else
 none
 else
 none
 else
 some (Sum.inr ((out, ()), ()))
 else
 some (Sum.inr ((out, ()), ()))
noncomputable def nh6' : (T'48 × Unit) → Option ((List (Record) × Unit) × Unit) := iter (fun x => ndv' x.1.1 x.1.2.1 x.1.2.2.1 x.1.2.2.2.1 x.1.2.2.2.2.1 x.1.2.2.2.2.2.1) fuel
noncomputable def njg' (b_Floors b_Debounce b_Room b_Park : Int) (b_Empty b_Full b_Over : Nat) (b_Cars : List (Car)) (l : List (Int)) (most : Int) : Option ((List (Record) × Unit) × Unit) :=
 (nh6' ((l, most, ([] : List (Record)), b_Floors, ((List.length b_Cars : Nat) : Int), (0 : Int), ()), ())).bind fun y1 =>
 some ((y1.1.1, ()), ())
noncomputable def nid' (b_Floors b_Debounce b_Room b_Park : Int) (b_Empty b_Full b_Over : Nat) (b_Cars : List (Car)) (floor dir : Int) : Option ((Bool × Unit) × Unit) :=
 (nei' b_Floors b_Debounce b_Room b_Park b_Empty b_Full b_Over b_Cars).bind fun y1 =>
 bif (y1.1.1 != (0 : Int)) then
 some ((false, ()), ())
 else
 Option.bind (bif (dir == (1 : Int)) then
 (nea' floor (0 : Int) (IntKind.i64.wrap (b_Floors - (2 : Int)))).bind fun y2 =>
 bif y2.1.1 then
 some ((true, ()), ())
 else
 bif (dir == (2 : Int)) then
 (nea' floor (1 : Int) (IntKind.i64.wrap (b_Floors - (1 : Int)))).bind fun y3 =>
 some ((y3.1.1, ()), ())
 else
 some ((false, ()), ())
 else
 bif (dir == (2 : Int)) then
 (nea' floor (1 : Int) (IntKind.i64.wrap (b_Floors - (1 : Int)))).bind fun y4 =>
 some ((y4.1.1, ()), ())
 else
 some ((false, ()), ())) fun y5 =>
 some ((y5.1.1, ()), ())
noncomputable def nka' (a_Floor a_Dir a_Car a_Moves : Int) (a_Moved : Bool) (b_Floor b_Dir b_Car b_Moves : Int) (b_Moved : Bool) : Option ((Bool × Unit) × Unit) :=
 Option.bind (bif (decide (a_Floor < b_Floor)) then
 some ((true, ()), ())
 else
 bif (a_Floor == b_Floor) then
 some (((decide (a_Dir < b_Dir)), ()), ())
 else
 some ((false, ()), ())) fun y1 =>
 some ((y1.1.1, ()), ())
noncomputable def ndt' (n i b_Floors b_Debounce b_Room b_Park : Int) (b_Empty b_Full b_Over : Nat) (b_Cars : List (Car)) (m_Phases : List (Int)) (m_Flags m_Leaving : List (Bool)) (m_Entries : List (Entry)) : Option (Sum (T'19 × (T'0 × T'4 × Unit)) ((Unit × Unit) ⊕ ((Bool × Unit) × Unit))) :=
 bif (decide (i < ((List.length m_Entries : Nat) : Int))) then
 bif (inB i (List.length m_Entries)) then
 let z0 : Entry := (List.getD m_Entries (Int.toNat i) (Entry.mk (0 : Int) (0 : Int) (0 : Int) (0 : Int) false))
 Option.bind ((nid' b_Floors b_Debounce b_Room b_Park b_Empty b_Full b_Over b_Cars z0.Floor z0.Dir).bind fun y1 =>
 bif (!y1.1.1) then
 some (((), (), n, i, true, ()), ((b_Floors, b_Debounce, b_Room, b_Park, b_Empty, b_Full, b_Over, b_Cars, ()), (m_Phases, m_Flags, m_Leaving, m_Entries, ()), ()))
 else
 bif (decide (z0.Car < (-2 : Int))) then
 some (((), (), n, i, true, ()), ((b_Floors, b_Debounce, b_Room, b_Park, b_Empty, b_Full, b_Over, b_Cars, ()), (m_Phases, m_Flags, m_Leaving, m_Entries, ()), ()))
 else
 bif (decide (n ≤ z0.Car)) then
 some (((), (), n, i, true, ()), ((b_Floors, b_Debounce, b_Room, b_Park, b_Empty, b_Full, b_Over, b_Cars, ()), (m_Phases, m_Flags, m_Leaving, m_Entries, ()), ()))
 else
 bif (decide (z0.Moves < (0 : Int))) then
 some (((), (), n, i, true, ()), ((b_Floors, b_Debounce, b_Room, b_Park, b_Empty, b_Full, b_Over, b_Cars, ()), (m_Phases, m_Flags, m_Leaving, m_Entries, ()), ()))
 else
 bif (decide ((255 : Int) < z0.Moves)) then
 some (((), (), n, i, true, ()), ((b_Floors, b_Debounce, b_Room, b_Park, b_Empty, b_Full, b_Over, b_Cars, ()), (m_Phases, m_Flags, m_Leaving, m_Entries, ()), ()))
 else
 bif (decide ((0 : Int) < i)) then
 let z1 : Int := (IntKind.i64.wrap (i - (1 : Int)))
 bif (inB z1 (List.length m_Entries)) then
 let z2 : Entry := (List.getD m_Entries (Int.toNat z1) (Entry.mk (0 : Int) (0 : Int) (0 : Int) (0 : Int) false))
 (nka' z2.Floor z2.Dir z2.Car z2.Moves z2.Moved z0.Floor z0.Dir z0.Car z0.Moves z0.Moved).bind fun y2 =>
 some (((), (), n, i, (!y2.1.1), ()), ((b_Floors, b_Debounce, b_Room, b_Park, b_Empty, b_Full, b_Over, b_Cars, ()), (m_Phases, m_Flags, m_Leaving, m_Entries, ()), ()))
 else
 none
 else
 some (((), (), n, i, false, ()), ((b_Floors, b_Debounce, b_Room, b_Park, b_Empty, b_Full, b_Over, b_Cars, ()), (m_Phases, m_Flags, m_Leaving, m_Entries, ()), ()))) fun y3 =>
 bif y3.1.2.2.2.2.1 then
 some (Sum.inr (Sum.inr ((false, ()), ())))
 else
 some (Sum.inl (((), (), y3.1.2.2.1, (IntKind.i64.wrap (y3.1.2.2.2.1 + (1 : Int))), ()), (y3.2.1, y3.2.2.1, ())))
 else
 none
 else
 some (Sum.inr (Sum.inl ((), ())))
noncomputable def nhy' : (T'19 × (T'0 × T'4 × Unit)) → Option ((Unit × Unit) ⊕ ((Bool × Unit) × Unit)) := iter (fun x => ndt' x.1.2.2.1 x.1.2.2.2.1 x.2.1.1 x.2.1.2.1 x.2.1.2.2.1 x.2.1.2.2.2.1 x.2.1.2.2.2.2.1 x.2.1.2.2.2.2.2.1 x.2.1.2.2.2.2.2.2.1 x.2.1.2.2.2.2.2.2.2.1 x.2.2.1.1 x.2.2.1.2.1 x.2.2.1.2.2.1 x.2.2.1.2.2.2.1) fuel
noncomputable def neq' (n i b_Floors b_Debounce b_Room b_Park : Int) (b_Empty b_Full b_Over : Nat) (b_Cars : List (Car)) (m_Phases : List (Int)) (m_Flags m_Leaving : List (Bool)) (m_Entries : List (Entry)) : Option (Sum (T'19 × (T'0 × T'4 × Unit)) ((T'49 × (T'0 × T'4 × Unit)) ⊕ ((Bool × Unit) × Unit))) :=
 bif (decide (i < n)) then
 bif (inB i (List.length m_Phases)) then
 bif (decide ((List.getD m_Phases (Int.toNat i) (0 : Int)) < (0 : Int))) then
 some (Sum.inr (Sum.inr ((false, ()), ())))
 else
 bif (inB i (List.length m_Phases)) then
 bif (decide ((4 : Int) < (List.getD m_Phases (Int.toNat i) (0 : Int)))) then
 some (Sum.inr (Sum.inr ((false, ()), ())))
 else
 some (Sum.inl (((), (), n, (IntKind.i64.wrap (i + (1 : Int))), ()), ((b_Floors, b_Debounce, b_Room, b_Park, b_Empty, b_Full, b_Over, b_Cars, ()), (m_Phases, m_Flags, m_Leaving, m_Entries, ()), ())))
 else
 none
 else
 none
 else
 some (Sum.inr (Sum.inl (((), (), n, ()), ((b_Floors, b_Debounce, b_Room, b_Park, b_Empty, b_Full, b_Over, b_Cars, ()), (m_Phases, m_Flags, m_Leaving, m_Entries, ()), ()))))
noncomputable def nh4' : (T'19 × (T'0 × T'4 × Unit)) → Option ((T'49 × (T'0 × T'4 × Unit)) ⊕ ((Bool × Unit) × Unit)) := iter (fun x => neq' x.1.2.2.1 x.1.2.2.2.1 x.2.1.1 x.2.1.2.1 x.2.1.2.2.1 x.2.1.2.2.2.1 x.2.1.2.2.2.2.1 x.2.1.2.2.2.2.2.1 x.2.1.2.2.2.2.2.2.1 x.2.1.2.2.2.2.2.2.2.1 x.2.2.1.1 x.2.2.1.2.1 x.2.2.1.2.2.1 x.2.2.1.2.2.2.1) fuel
noncomputable def neu' (b_Floors b_Debounce b_Room b_Park : Int) (b_Empty b_Full b_Over : Nat) (b_Cars : List (Car)) (m_Phases : List (Int)) (m_Flags m_Leaving : List (Bool)) (m_Entries : List (Entry)) : Option ((Bool × Unit) × Unit) :=
 let z0 : Int := ((List.length b_Cars : Nat) : Int)
 (nei' b_Floors b_Debounce b_Room b_Park b_Empty b_Full b_Over b_Cars).bind fun y1 =>
 bif (y1.1.1 != (0 : Int)) then
 some ((false, ()), ())
 else
 bif (((List.length m_Phases : Nat) : Int) != z0) then
 some ((false, ()), ())
 else
 bif (((List.length m_Flags : Nat) : Int) != z0) then
 some ((false, ()), ())
 else
 bif (((List.length m_Leaving : Nat) : Int) != z0) then
 some ((false, ()), ())
 else
 (nh4' (((), (), z0, (0 : Int), ()), ((b_Floors, b_Debounce, b_Room, b_Park, b_Empty, b_Full, b_Over, b_Cars, ()), (m_Phases, m_Flags, m_Leaving, m_Entries, ()), ()))).bind fun y2 =>
 (match y2 with
 | .inl y3 =>
 (nhy' (((), (), y3.1.2.2.1, (0 : Int), ()), (y3.2.1, y3.2.2.1, ()))).bind fun y4 =>
 (match y4 with
 | .inl y5 =>
 some ((true, ()), ())
 | .inr y5 =>
 some ((y5.1.1, ()), ()))
 | .inr y3 =>
 some ((y3.1.1, ()), ()))
noncomputable def nf8' (n lo hi : Int) : Option ((Bool × Unit) × Unit) :=
 Option.bind (bif (decide (lo ≤ n)) then
 some (((decide (n ≤ hi)), ()), ())
 else
 some ((false, ()), ())) fun y1 =>
 some ((y1.1.1, ()), ())
noncomputable def nhs' (b_Floors b_Debounce b_Room b_Park : Int) (b_Empty b_Full b_Over : Nat) (b_Cars : List (Car)) (r_Kind r_Floor r_Dir r_Car r_Value : Int) : Option ((Bool × Unit) × Unit) :=
 (nei' b_Floors b_Debounce b_Room b_Park b_Empty b_Full b_Over b_Cars).bind fun y1 =>
 bif (y1.1.1 != (0 : Int)) then
 some ((false, ()), ())
 else
 (nid' b_Floors b_Debounce b_Room b_Park b_Empty b_Full b_Over b_Cars r_Floor r_Dir).bind fun y2 =>
 Option.bind ((nf8' r_Car (0 : Int) (IntKind.i64.wrap (((List.length b_Cars : Nat) : Int) - (1 : Int)))).bind fun y3 =>
 bif y3.1.1 then
 bif (r_Floor == (0 : Int)) then
 some (((), (), y2.1.1, (r_Dir == (0 : Int)), ()), ((b_Floors, b_Debounce, b_Room, b_Park, b_Empty, b_Full, b_Over, b_Cars, ()), (r_Kind, r_Floor, r_Dir, r_Car, r_Value, ()), ()))
 else
 some (((), (), y2.1.1, false, ()), ((b_Floors, b_Debounce, b_Room, b_Park, b_Empty, b_Full, b_Over, b_Cars, ()), (r_Kind, r_Floor, r_Dir, r_Car, r_Value, ()), ()))
 else
 some (((), (), y2.1.1, false, ()), ((b_Floors, b_Debounce, b_Room, b_Park, b_Empty, b_Full, b_Over, b_Cars, ()), (r_Kind, r_Floor, r_Dir, r_Car, r_Value, ()), ()))) fun y4 =>
 bif (y4.2.2.1.1 == (1 : Int)) then
 Option.bind (bif y4.1.2.2.1 then
 bif (y4.2.2.1.2.2.2.1 == (0 : Int)) then
 some (((y4.2.2.1.2.2.2.2.1 == (0 : Int)), ()), ())
 else
 some ((false, ()), ())
 else
 some ((false, ()), ())) fun y5 =>
 some ((y5.1.1, ()), ())
 else
 bif (y4.2.2.1.1 == (2 : Int)) then
 Option.bind (bif y4.1.2.2.1 then
 bif (y4.2.2.1.2.2.2.1 == (0 : Int)) then
 some (((y4.2.2.1.2.2.2.2.1 == (0 : Int)), ()), ())
 else
 some ((false, ()), ())
 else
 some ((false, ()), ())) fun y6 =>
 some ((y6.1.1, ()), ())
 else
 bif (y4.2.2.1.1 == (3 : Int)) then
 Option.bind (bif y4.1.2.2.1 then
 (nf8' y4.2.2.1.2.2.2.1 (-2 : Int) (IntKind.i64.wrap (((List.length y4.2.1.2.2.2.2.2.2.2.1 : Nat) : Int) - (1 : Int)))).bind fun y7 =>
 bif y7.1.1 then
 some (((y4.2.2.1.2.2.2.2.1 == (0 : Int)), ()), ())
 else
 some ((false, ()), ())
 else
 some ((false, ()), ())) fun y8 =>
 some ((y8.1.1, ()), ())
 else
 bif (y4.2.2.1.1 == (4 : Int)) then
 Option.bind (bif y4.1.2.2.2.1 then
 (nf8' y4.2.2.1.2.2.2.2.1 (0 : Int) (4 : Int)).bind fun y9 =>
 some ((y9.1.1, ()), ())
 else
 some ((false, ()), ())) fun y10 =>
 some ((y10.1.1, ()), ())
 else
 bif (y4.2.2.1.1 == (5 : Int)) then
 Option.bind (bif y4.1.2.2.2.1 then
 (nf8' y4.2.2.1.2.2.2.2.1 (0 : Int) (1 : Int)).bind fun y11 =>
 some ((y11.1.1, ()), ())
 else
 some ((false, ()), ())) fun y12 =>
 some ((y12.1.1, ()), ())
 else
 bif (y4.2.2.1.1 == (6 : Int)) then
 Option.bind (bif y4.1.2.2.2.1 then
 (nf8' y4.2.2.1.2.2.2.2.1 (0 : Int) (1 : Int)).bind fun y13 =>
 some ((y13.1.1, ()), ())
 else
 some ((false, ()), ())) fun y14 =>
 some ((y14.1.1, ()), ())
 else
 bif (y4.2.2.1.1 == (7 : Int)) then
 Option.bind (bif y4.1.2.2.1 then
 (nf8' y4.2.2.1.2.2.2.1 (0 : Int) (1 : Int)).bind fun y15 =>
 bif y15.1.1 then
 (nf8' y4.2.2.1.2.2.2.2.1 (0 : Int) (255 : Int)).bind fun y16 =>
 some ((y16.1.1, ()), ())
 else
 some ((false, ()), ())
 else
 some ((false, ()), ())) fun y17 =>
 some ((y17.1.1, ()), ())
 else
 some ((false, ()), ())
noncomputable def ngf' (floor dir i : Int) (m_Phases : List (Int)) (m_Flags m_Leaving : List (Bool)) (m_Entries : List (Entry)) : Option (Sum (T'50 × (T'4 × Unit)) ((Unit × Unit) ⊕ ((Int × Unit) × Unit))) :=
 bif (decide (i < ((List.length m_Entries : Nat) : Int))) then
 Option.bind (bif (inB i (List.length m_Entries)) then
 bif ((List.getD m_Entries (Int.toNat i) (Entry.mk (0 : Int) (0 : Int) (0 : Int) (0 : Int) false)).Floor == floor) then
 bif (inB i (List.length m_Entries)) then
 some ((floor, dir, (), i, ((List.getD m_Entries (Int.toNat i) (Entry.mk (0 : Int) (0 : Int) (0 : Int) (0 : Int) false)).Dir == dir), ()), ((m_Phases, m_Flags, m_Leaving, m_Entries, ()), ()))
 else
 none
 else
 some ((floor, dir, (), i, false, ()), ((m_Phases, m_Flags, m_Leaving, m_Entries, ()), ()))
 else
 none) fun y1 =>
 bif y1.1.2.2.2.2.1 then
 some (Sum.inr (Sum.inr ((y1.1.2.2.2.1, ()), ())))
 else
 some (Sum.inl ((y1.1.1, y1.1.2.1, (), (IntKind.i64.wrap (y1.1.2.2.2.1 + (1 : Int))), ()), (y1.2.1, ())))
 else
 some (Sum.inr (Sum.inl ((), ())))
noncomputable def nj0' : (T'50 × (T'4 × Unit)) → Option ((Unit × Unit) ⊕ ((Int × Unit) × Unit)) := iter (fun x => ngf' x.1.1 x.1.2.1 x.1.2.2.2.1 x.2.1.1 x.2.1.2.1 x.2.1.2.2.1 x.2.1.2.2.2.1) fuel
noncomputable def nmg' (m_Phases : List (Int)) (m_Flags m_Leaving : List (Bool)) (m_Entries : List (Entry)) (floor dir : Int) : Option ((Int × Unit) × Unit) :=
 (nj0' ((floor, dir, (), (0 : Int), ()), ((m_Phases, m_Flags, m_Leaving, m_Entries, ()), ()))).bind fun y1 =>
 (match y1 with
 | .inl y2 =>
 some (((-1 : Int), ()), ())
 | .inr y2 =>
 some ((y2.1.1, ()), ()))
noncomputable def ner' (l out : List (Entry)) (done : Bool) (i e_Floor e_Dir e_Car e_Moves : Int) (e_Moved : Bool) : Option (Sum (T'51 × (T'12 × Unit)) (T'52 × (T'12 × Unit))) :=
 bif (decide (i < ((List.length l : Nat) : Int))) then
 Option.bind (Option.bind (bif (!done) then
 bif (inB i (List.length l)) then
 let z0 : Entry := (List.getD l (Int.toNat i) (Entry.mk (0 : Int) (0 : Int) (0 : Int) (0 : Int) false))
 (nka' e_Floor e_Dir e_Car e_Moves e_Moved z0.Floor z0.Dir z0.Car z0.Moves z0.Moved).bind fun y1 =>
 some ((l, (), out, done, i, y1.1.1, ()), ((e_Floor, e_Dir, e_Car, e_Moves, e_Moved, ()), ()))
 else
 none
 else
 some ((l, (), out, done, i, false, ()), ((e_Floor, e_Dir, e_Car, e_Moves, e_Moved, ()), ()))) fun y2 =>
 bif y2.1.2.2.2.2.2.1 then
 let z1 : List (Entry) := [(Entry.mk y2.2.1.1 y2.2.1.2.1 y2.2.1.2.2.1 y2.2.1.2.2.2.1 y2.2.1.2.2.2.2.1)]
 bif (Nat.ble ((List.length y2.1.2.2.1) + (List.length z1)) 2147483648) then
 some ((y2.1.1, (), (y2.1.2.2.1 ++ z1), true, y2.1.2.2.2.2.1, ()), (y2.2.1, ()))
 else
 none
 else
 some ((y2.1.1, (), y2.1.2.2.1, y2.1.2.2.2.1, y2.1.2.2.2.2.1, ()), (y2.2.1, ()))) fun y3 =>
 bif (inB y3.1.2.2.2.2.1 (List.length y3.1.1)) then
 let z2 : Entry := (List.getD y3.1.1 (Int.toNat y3.1.2.2.2.2.1) (Entry.mk (0 : Int) (0 : Int) (0 : Int) (0 : Int) false))
 let z3 : List (Entry) := [(Entry.mk z2.Floor z2.Dir z2.Car z2.Moves z2.Moved)]
 bif (Nat.ble ((List.length y3.1.2.2.1) + (List.length z3)) 2147483648) then
 some (Sum.inl ((y3.1.1, (), (y3.1.2.2.1 ++ z3), y3.1.2.2.2.1, (IntKind.i64.wrap (y3.1.2.2.2.2.1 + (1 : Int))), ()), (y3.2.1, ())))
 else
 none
 else
 none
 else
 some (Sum.inr (((), out, done, ()), ((e_Floor, e_Dir, e_Car, e_Moves, e_Moved, ()), ())))
noncomputable def nh3' : (T'51 × (T'12 × Unit)) → Option (T'52 × (T'12 × Unit)) := iter (fun x => ner' x.1.1 x.1.2.2.1 x.1.2.2.2.1 x.1.2.2.2.2.1 x.2.1.1 x.2.1.2.1 x.2.1.2.2.1 x.2.1.2.2.2.1 x.2.1.2.2.2.2.1) fuel
noncomputable def nja' (l : List (Entry)) (e_Floor e_Dir e_Car e_Moves : Int) (e_Moved : Bool) : Option ((List (Entry) × Unit) × Unit) :=
 (nh3' ((l, (), ([] : List (Entry)), false, (0 : Int), ()), ((e_Floor, e_Dir, e_Car, e_Moves, e_Moved, ()), ()))).bind fun y1 =>
 bif (!y1.1.2.2.1) then
 let z0 : List (Entry) := [(Entry.mk y1.2.1.1 y1.2.1.2.1 y1.2.1.2.2.1 y1.2.1.2.2.2.1 y1.2.1.2.2.2.2.1)]
 bif (Nat.ble ((List.length y1.1.2.1) + (List.length z0)) 2147483648) then
 some (((y1.1.2.1 ++ z0), ()), ())
 else
 none
 else
 some ((y1.1.2.1, ()), ())
noncomputable def ni2' (b_Floors b_Debounce b_Room b_Park : Int) (b_Empty b_Full b_Over : Nat) (b_Cars : List (Car)) (m_Phases : List (Int)) (m_Flags m_Leaving : List (Bool)) (m_Entries : List (Entry)) (r_Kind r_Floor r_Dir r_Car r_Value : Int) : Option ((Unit × Int × Unit) × (T'4 × Unit)) :=
 (neu' b_Floors b_Debounce b_Room b_Park b_Empty b_Full b_Over b_Cars m_Phases m_Flags m_Leaving m_Entries).bind fun y1 =>
 bif (!y1.1.1) then
 some (((), (1 : Int), ()), ((([] : List (Int)), ([] : List (Bool)), ([] : List (Bool)), ([] : List (Entry)), ()), ()))
 else
 (nhs' b_Floors b_Debounce b_Room b_Park b_Empty b_Full b_Over b_Cars r_Kind r_Floor r_Dir r_Car r_Value).bind fun y2 =>
 bif (!y2.1.1) then
 some (((), (1 : Int), ()), ((([] : List (Int)), ([] : List (Bool)), ([] : List (Bool)), ([] : List (Entry)), ()), ()))
 else
 bif (Nat.ble ((List.length ([] : List (Int))) + (List.length m_Phases)) 2147483648) then
 let z0 : List (Int) := (([] : List (Int)) ++ m_Phases)
 bif (Nat.ble ((List.length ([] : List (Bool))) + (List.length m_Flags)) 2147483648) then
 let z1 : List (Bool) := (([] : List (Bool)) ++ m_Flags)
 bif (Nat.ble ((List.length ([] : List (Bool))) + (List.length m_Leaving)) 2147483648) then
 let z2 : List (Bool) := (([] : List (Bool)) ++ m_Leaving)
 bif (Nat.ble ((List.length ([] : List (Entry))) + (List.length m_Entries)) 2147483648) then
 let z3 : List (Entry) := (([] : List (Entry)) ++ m_Entries)
 (nmg' z0 z1 z2 z3 r_Floor r_Dir).bind fun y3 =>
 bif (r_Kind == (4 : Int)) then
 bif (inB r_Car (List.length z0)) then
 some (((), (0 : Int), ()), (((List.set z0 (Int.toNat r_Car) r_Value), z1, z2, z3, ()), ()))
 else
 none
 else
 bif (r_Kind == (5 : Int)) then
 bif (inB r_Car (List.length z1)) then
 some (((), (0 : Int), ()), ((z0, (List.set z1 (Int.toNat r_Car) (r_Value == (1 : Int))), z2, z3, ()), ()))
 else
 none
 else
 bif (r_Kind == (6 : Int)) then
 bif (inB r_Car (List.length z2)) then
 some (((), (0 : Int), ()), ((z0, z1, (List.set z2 (Int.toNat r_Car) (r_Value == (1 : Int))), z3, ()), ()))
 else
 none
 else
 Option.bind (bif (r_Kind == (1 : Int)) then
 some (((), (), (), y3.1.1, (decide (y3.1.1 < (0 : Int))), ()), ((z0, z1, z2, z3, ()), (r_Kind, r_Floor, r_Dir, r_Car, r_Value, ()), (([] : List (Int)), ([] : List (Bool)), ([] : List (Bool)), ([] : List (Entry)), ()), ()))
 else
 some (((), (), (), y3.1.1, false, ()), ((z0, z1, z2, z3, ()), (r_Kind, r_Floor, r_Dir, r_Car, r_Value, ()), (([] : List (Int)), ([] : List (Bool)), ([] : List (Bool)), ([] : List (Entry)), ()), ()))) fun y4 =>
 bif y4.1.2.2.2.2.1 then
 (nja' y4.2.1.2.2.2.1 y4.2.2.1.2.1 y4.2.2.1.2.2.1 (-1 : Int) (0 : Int) false).bind fun y5 =>
 some (((), (0 : Int), ()), ((y4.2.1.1, y4.2.1.2.1, y4.2.1.2.2.1, y5.1.1, ()), ()))
 else
 bif (decide (y4.1.2.2.2.1 < (0 : Int))) then
 some (((), (0 : Int), ()), (y4.2.1, ()))
 else
 bif (y4.2.2.1.1 == (2 : Int)) then
 Option.bind (some (((), (), y4.1.2.2.2.1, ()), (y4.2.1, y4.2.2.2.1, ()))) fun y6 =>
 bif ((decide ((0 : Int) ≤ y6.1.2.2.1)) && (decide (y6.1.2.2.1 ≤ (((List.length y6.2.1.2.2.2.1) : Nat) : Int)))) then
 let z4 : List (Entry) := (List.drop 0 (List.take (Int.toNat y6.1.2.2.1) y6.2.1.2.2.2.1))
 bif (Nat.ble ((List.length ([] : List (Entry))) + (List.length z4)) 2147483648) then
 let z5 : List (Entry) := (([] : List (Entry)) ++ z4)
 let z6 : Int := (IntKind.i64.wrap (y6.1.2.2.1 + (1 : Int)))
 bif ((decide ((0 : Int) ≤ z6)) && (decide (z6 ≤ (((List.length y6.2.1.2.2.2.1) : Nat) : Int)))) then
 let z7 : List (Entry) := (List.drop (Int.toNat z6) (List.take (List.length y6.2.1.2.2.2.1) y6.2.1.2.2.2.1))
 bif (Nat.ble ((List.length z5) + (List.length z7)) 2147483648) then
 some (((), (0 : Int), ()), ((y6.2.1.1, y6.2.1.2.1, y6.2.1.2.2.1, (z5 ++ z7), ()), ()))
 else
 none
 else
 none
 else
 none
 else
 none
 else
 bif (y4.2.2.1.1 == (3 : Int)) then
 bif (inB y4.1.2.2.2.1 (List.length y4.2.1.2.2.2.1)) then
 let z8 : Nat := (Int.toNat y4.1.2.2.2.1)
 let z9 : Entry := (List.getD y4.2.1.2.2.2.1 z8 (Entry.mk (0 : Int) (0 : Int) (0 : Int) (0 : Int) false))
 some (((), (0 : Int), ()), ((y4.2.1.1, y4.2.1.2.1, y4.2.1.2.2.1, (List.set y4.2.1.2.2.2.1 z8 (Entry.mk z9.Floor z9.Dir y4.2.2.1.2.2.2.1 z9.Moves z9.Moved)), ()), ()))
 else
 none
 else
 bif (y4.2.2.1.1 == (7 : Int)) then
 bif (inB y4.1.2.2.2.1 (List.length y4.2.1.2.2.2.1)) then
 let z10 : Nat := (Int.toNat y4.1.2.2.2.1)
 let z11 : Entry := (List.getD y4.2.1.2.2.2.1 z10 (Entry.mk (0 : Int) (0 : Int) (0 : Int) (0 : Int) false))
 let z12 : List (Entry) := (List.set y4.2.1.2.2.2.1 z10 (Entry.mk z11.Floor z11.Dir z11.Car y4.2.2.1.2.2.2.2.1 z11.Moved))
 bif (inB y4.1.2.2.2.1 (List.length z12)) then
 let z13 : Nat := (Int.toNat y4.1.2.2.2.1)
 let z14 : Entry := (List.getD z12 z13 (Entry.mk (0 : Int) (0 : Int) (0 : Int) (0 : Int) false))
 some (((), (0 : Int), ()), ((y4.2.1.1, y4.2.1.2.1, y4.2.1.2.2.1, (List.set z12 z13 (Entry.mk z14.Floor z14.Dir z14.Car z14.Moves (y4.2.2.1.2.2.2.1 == (1 : Int)))), ()), ()))
 else
 none
 else
 none
 else
 some (((), (0 : Int), ()), (y4.2.1, ()))
 else
 none
 else
 none
 else
 none
 else
 none
noncomputable def nfq' (x_1 : List (Record)) (i b_Floors b_Debounce b_Room b_Park : Int) (b_Empty b_Full b_Over : Nat) (b_Cars : List (Car)) (b4_Phases : List (Int)) (b4_Flags b4_Leaving : List (Bool)) (b4_Entries : List (Entry)) (m_Phases : List (Int)) (m_Flags m_Leaving : List (Bool)) (m_Entries : List (Entry)) : Option (Sum (T'53 × (T'0 × T'4 × T'4 × Unit)) ((Unit × Unit × Unit) × (T'4 × T'4 × Unit))) :=
 bif (decide (i < ((List.length x_1 : Nat) : Int))) then
 bif (inB i (List.length x_1)) then
 let z0 : Record := (List.getD x_1 (Int.toNat i) (Record.mk (0 : Int) (0 : Int) (0 : Int) (0 : Int) (0 : Int)))
 (ni2' b_Floors b_Debounce b_Room b_Park b_Empty b_Full b_Over b_Cars m_Phases m_Flags m_Leaving m_Entries z0.Kind z0.Floor z0.Dir z0.Car z0.Value).bind fun y1 =>
 some (Sum.inl (((), (), (), x_1, (IntKind.i64.wrap (i + (1 : Int))), ()), ((b_Floors, b_Debounce, b_Room, b_Park, b_Empty, b_Full, b_Over, b_Cars, ()), (b4_Phases, b4_Flags, b4_Leaving, b4_Entries, ()), y1.2.1, ())))
 else
 none
 else
 some (Sum.inr (((), (), ()), ((b4_Phases, b4_Flags, b4_Leaving, b4_Entries, ()), (m_Phases, m_Flags, m_Leaving, m_Entries, ()), ())))
noncomputable def ni8' : (T'53 × (T'0 × T'4 × T'4 × Unit)) → Option ((Unit × Unit × Unit) × (T'4 × T'4 × Unit)) := iter (fun x => nfq' x.1.2.2.2.1 x.1.2.2.2.2.1 x.2.1.1 x.2.1.2.1 x.2.1.2.2.1 x.2.1.2.2.2.1 x.2.1.2.2.2.2.1 x.2.1.2.2.2.2.2.1 x.2.1.2.2.2.2.2.2.1 x.2.1.2.2.2.2.2.2.2.1 x.2.2.1.1 x.2.2.1.2.1 x.2.2.1.2.2.1 x.2.2.1.2.2.2.1 x.2.2.2.1.1 x.2.2.2.1.2.1 x.2.2.2.1.2.2.1 x.2.2.2.1.2.2.2.1) fuel
noncomputable def nix' (b_Floors b_Debounce b_Room b_Park : Int) (b_Empty b_Full b_Over : Nat) (b_Cars : List (Car)) (l : List (Int)) : Option ((Unit × Unit) × (T'4 × Unit)) :=
 (nhl' b_Floors b_Debounce b_Room b_Park b_Empty b_Full b_Over b_Cars).bind fun y1 =>
 (njg' b_Floors b_Debounce b_Room b_Park b_Empty b_Full b_Over b_Cars l (60 : Int)).bind fun y2 =>
 (ni8' (((), (), (), y2.1.1, (0 : Int), ()), ((b_Floors, b_Debounce, b_Room, b_Park, b_Empty, b_Full, b_Over, b_Cars, ()), (([] : List (Int)), ([] : List (Bool)), ([] : List (Bool)), ([] : List (Entry)), ()), y1.2.1, ()))).bind fun y3 =>
 some (((), ()), (y3.2.2.1, ()))
noncomputable def njw' (b : Bool) : Option ((Int × Unit) × Unit) :=
 bif b then
 some (((1 : Int), ()), ())
 else
 some (((0 : Int), ()), ())
noncomputable def nee' (out : List (Record)) (i : Int) (m_Phases : List (Int)) (m_Flags m_Leaving : List (Bool)) (m_Entries : List (Entry)) : Option (Sum (T'54 × (T'4 × Unit)) ((List (Record) × Unit) × Unit)) :=
 bif (decide (i < ((List.length m_Entries : Nat) : Int))) then
 bif (inB i (List.length m_Entries)) then
 let z0 : Entry := (List.getD m_Entries (Int.toNat i) (Entry.mk (0 : Int) (0 : Int) (0 : Int) (0 : Int) false))
 (njw' z0.Moved).bind fun y1 =>
 let z1 : List (Record) := [(Record.mk (1 : Int) z0.Floor z0.Dir (0 : Int) (0 : Int)), (Record.mk (3 : Int) z0.Floor z0.Dir z0.Car (0 : Int)), (Record.mk (7 : Int) z0.Floor z0.Dir y1.1.1 z0.Moves)]
 bif (Nat.ble ((List.length out) + (List.length z1)) 2147483648) then
 some (Sum.inl (((), (out ++ z1), (IntKind.i64.wrap (i + (1 : Int))), ()), ((m_Phases, m_Flags, m_Leaving, m_Entries, ()), ())))
 else
 none
 else
 none
 else
 some (Sum.inr ((out, ()), ()))
noncomputable def nhb' : (T'54 × (T'4 × Unit)) → Option ((List (Record) × Unit) × Unit) := iter (fun x => nee' x.1.2.1 x.1.2.2.1 x.2.1.1 x.2.1.2.1 x.2.1.2.2.1 x.2.1.2.2.2.1) fuel
noncomputable def neh' (out : List (Record)) (i : Int) (m_Phases : List (Int)) (m_Flags m_Leaving : List (Bool)) (m_Entries : List (Entry)) : Option (Sum (T'54 × (T'4 × Unit)) (T'55 × (T'4 × Unit))) :=
 bif (decide (i < ((List.length m_Phases : Nat) : Int))) then
 bif (inB i (List.length m_Phases)) then
 bif (inB i (List.length m_Flags)) then
 (njw' (List.getD m_Flags (Int.toNat i) false)).bind fun y1 =>
 bif (inB i (List.length m_Leaving)) then
 (njw' (List.getD m_Leaving (Int.toNat i) false)).bind fun y2 =>
 let z0 : List (Record) := [(Record.mk (4 : Int) (0 : Int) (0 : Int) i (List.getD m_Phases (Int.toNat i) (0 : Int))), (Record.mk (5 : Int) (0 : Int) (0 : Int) i y1.1.1), (Record.mk (6 : Int) (0 : Int) (0 : Int) i y2.1.1)]
 bif (Nat.ble ((List.length out) + (List.length z0)) 2147483648) then
 some (Sum.inl (((), (out ++ z0), (IntKind.i64.wrap (i + (1 : Int))), ()), ((m_Phases, m_Flags, m_Leaving, m_Entries, ()), ())))
 else
 none
 else
 none
 else
 none
 else
 none
 else
 some (Sum.inr (((), out, ()), ((m_Phases, m_Flags, m_Leaving, m_Entries, ()), ())))
noncomputable def nhd' : (T'54 × (T'4 × Unit)) → Option (T'55 × (T'4 × Unit)) := iter (fun x => neh' x.1.2.1 x.1.2.2.1 x.2.1.1 x.2.1.2.1 x.2.1.2.2.1 x.2.1.2.2.2.1) fuel
noncomputable def ne2' (b_Floors b_Debounce b_Room b_Park : Int) (b_Empty b_Full b_Over : Nat) (b_Cars : List (Car)) (m_Phases : List (Int)) (m_Flags m_Leaving : List (Bool)) (m_Entries : List (Entry)) : Option ((List (Record) × Unit) × Unit) :=
 (neu' b_Floors b_Debounce b_Room b_Park b_Empty b_Full b_Over b_Cars m_Phases m_Flags m_Leaving m_Entries).bind fun y1 =>
 bif (!y1.1.1) then
 some ((([] : List (Record)), ()), ())
 else
 (nhd' (((), ([] : List (Record)), (0 : Int), ()), ((m_Phases, m_Flags, m_Leaving, m_Entries, ()), ()))).bind fun y2 =>
 (nhb' (((), y2.1.2.1, (0 : Int), ()), (y2.2.1, ()))).bind fun y3 =>
 some ((y3.1.1, ()), ())
noncomputable def nkt' (s : ByteArray) (r i k : Int) : Option (Sum (T'5 × Unit) (T'56 × Unit)) :=
 bif (decide (k < (8 : Int))) then
 let z0 : Int := (Int.tmod (IntKind.i64.wrap (r * (2 : Int))) (256 : Int))
 bif (decide ((128 : Int) ≤ r)) then
 some (Sum.inl ((s, (IntKind.i64.wrap (stk z0 (7 : Int) (BitVec.toNat ((BitVec.ofInt (IntKind.bits IntKind.i64) z0) ^^^ (BitVec.ofInt (IntKind.bits IntKind.i64) (7 : Int)))))), i, (IntKind.i64.wrap (k + (1 : Int))), ()), ()))
 else
 some (Sum.inl ((s, z0, i, (IntKind.i64.wrap (k + (1 : Int))), ()), ()))
 else
 some (Sum.inr ((s, r, i, ()), ()))
noncomputable def nkk' : (T'5 × Unit) → Option (T'56 × Unit) := iter (fun x => nkt' x.1.1 x.1.2.1 x.1.2.2.1 x.1.2.2.2.1) fuel
noncomputable def ngj' (s : ByteArray) (r i : Int) : Option (Sum (T'56 × Unit) ((Int × Unit) × Unit)) :=
 bif (decide (i < ((ByteArray.size s : Nat) : Int))) then
 bif (inB i (ByteArray.size s)) then
 let z0 : Int := (IntKind.i64.wrap (nd4' s (Int.toNat i)))
 (nkk' ((s, (IntKind.i64.wrap (stk r z0 (BitVec.toNat ((BitVec.ofInt (IntKind.bits IntKind.i64) r) ^^^ (BitVec.ofInt (IntKind.bits IntKind.i64) z0))))), i, (0 : Int), ()), ())).bind fun y1 =>
 some (Sum.inl ((y1.1.1, y1.1.2.1, (IntKind.i64.wrap (y1.1.2.2.1 + (1 : Int))), ()), ()))
 else
 none
 else
 some (Sum.inr ((r, ()), ()))
noncomputable def nks' : (T'56 × Unit) → Option ((Int × Unit) × Unit) := iter (fun x => ngj' x.1.1 x.1.2.1 x.1.2.2.1) fuel
noncomputable def nkl' (s : ByteArray) : Option ((Int × Unit) × Unit) :=
 (nks' ((s, (0 : Int), (0 : Int), ()), ())).bind fun y1 =>
 some (((IntKind.u8.wrap y1.1.1), ()), ())
noncomputable def nkr' (b_Floors b_Debounce b_Room b_Park : Int) (b_Empty b_Full b_Over : Nat) (b_Cars : List (Car)) (r_Kind r_Floor r_Dir r_Car r_Value : Int) : Option ((ByteArray × Int × Unit) × Unit) :=
 (nhs' b_Floors b_Debounce b_Room b_Park b_Empty b_Full b_Over b_Cars r_Kind r_Floor r_Dir r_Car r_Value).bind fun y1 =>
 bif (!y1.1.1) then
 some (((ByteArray.mk (Array.mk [])), (1 : Int), ()), ())
 else
 let z0 : ByteArray := (textU [(IntKind.u8.wrap r_Kind), (IntKind.u8.wrap r_Floor), (IntKind.u8.wrap r_Dir), (IntKind.u8.wrap (IntKind.i64.wrap (r_Car + (2 : Int)))), (IntKind.u8.wrap r_Value)])
 (nkl' z0).bind fun y2 =>
 let z1 : ByteArray := (textU [y2.1.1])
 bif (Nat.ble ((ByteArray.size z0) + (ByteArray.size z1)) 4611686018427387904) then
 some (((z0 ++ z1), (0 : Int), ()), ())
 else
 none
noncomputable def nfo' (l : List (Record)) (s : ByteArray) (i b_Floors b_Debounce b_Room b_Park : Int) (b_Empty b_Full b_Over : Nat) (b_Cars : List (Car)) : Option (Sum (T'57 × (T'0 × Unit)) ((ByteArray × Unit) × Unit)) :=
 bif (decide (i < ((List.length l : Nat) : Int))) then
 bif (inB i (List.length l)) then
 let z0 : Record := (List.getD l (Int.toNat i) (Record.mk (0 : Int) (0 : Int) (0 : Int) (0 : Int) (0 : Int)))
 (nkr' b_Floors b_Debounce b_Room b_Park b_Empty b_Full b_Over b_Cars z0.Kind z0.Floor z0.Dir z0.Car z0.Value).bind fun y1 =>
 bif (Nat.ble ((ByteArray.size s) + (ByteArray.size y1.1.1)) 4611686018427387904) then
 some (Sum.inl ((l, (), (s ++ y1.1.1), (IntKind.i64.wrap (i + (1 : Int))), ()), ((b_Floors, b_Debounce, b_Room, b_Park, b_Empty, b_Full, b_Over, b_Cars, ()), ())))
 else
 none
 else
 none
 else
 some (Sum.inr ((s, ()), ()))
noncomputable def nje' : (T'57 × (T'0 × Unit)) → Option ((ByteArray × Unit) × Unit) := iter (fun x => nfo' x.1.1 x.1.2.2.1 x.1.2.2.2.1 x.2.1.1 x.2.1.2.1 x.2.1.2.2.1 x.2.1.2.2.2.1 x.2.1.2.2.2.2.1 x.2.1.2.2.2.2.2.1 x.2.1.2.2.2.2.2.2.1 x.2.1.2.2.2.2.2.2.2.1) fuel
noncomputable def nhr' (b_Floors b_Debounce b_Room b_Park : Int) (b_Empty b_Full b_Over : Nat) (b_Cars : List (Car)) (l : List (Record)) : Option ((ByteArray × Unit) × Unit) :=
 (nje' ((l, (), (ByteArray.mk (Array.mk [])), (0 : Int), ()), ((b_Floors, b_Debounce, b_Room, b_Park, b_Empty, b_Full, b_Over, b_Cars, ()), ()))).bind fun y1 =>
 some ((y1.1.1, ()), ())
noncomputable def nki' (b_Floors b_Debounce b_Room b_Park : Int) (b_Empty b_Full b_Over : Nat) (b_Cars : List (Car)) (m_Phases : List (Int)) (m_Flags m_Leaving : List (Bool)) (m_Entries : List (Entry)) : Option ((Bool × Unit) × Unit) :=
 Option.bind ((neu' b_Floors b_Debounce b_Room b_Park b_Empty b_Full b_Over b_Cars m_Phases m_Flags m_Leaving m_Entries).bind fun y1 =>
 bif y1.1.1 then
 some (((decide ((IntKind.i64.wrap ((IntKind.i64.wrap ((18 : Int) * (IntKind.i64.wrap (((List.length b_Cars : Nat) : Int) + ((List.length m_Entries : Nat) : Int))))) + (6 : Int))) ≤ b_Room)), ()), ())
 else
 some ((false, ()), ())) fun y2 =>
 some ((y2.1.1, ()), ())
noncomputable def nfl' (room : Int) (s_Halves_0 s_Halves_1 : ByteArray) (s_Select : Int) : Option ((Bool × Unit) × Unit) :=
 Option.bind (bif (decide ((1 : Int) ≤ room)) then
 bif (decide (room ≤ (65536 : Int))) then
 bif (decide (((ByteArray.size s_Halves_0 : Nat) : Int) ≤ room)) then
 bif (decide (((ByteArray.size s_Halves_1 : Nat) : Int) ≤ room)) then
 bif (s_Select == (0 : Int)) then
 some ((true, ()), ())
 else
 some (((s_Select == (1 : Int)), ()), ())
 else
 some ((false, ()), ())
 else
 some ((false, ()), ())
 else
 some ((false, ()), ())
 else
 some ((false, ()), ())) fun y1 =>
 some ((y1.1.1, ()), ())
noncomputable def njy'  : Option ((Unit × Unit) × (T'29 × Unit)) :=
 some (((), ()), (((-1 : Int), (0 : Int), (0 : Int), ([] : List (Duty)), (0 : Int), false, ()), ()))
noncomputable def nfn' (i b_Floors b_Debounce b_Room b_Park : Int) (b_Empty b_Full b_Over : Nat) (b_Cars : List (Car)) (m_Phases : List (Int)) (m_Flags m_Leaving : List (Bool)) (m_Entries : List (Entry)) (b6_Image_Phases : List (Int)) (b6_Image_Flags b6_Image_Leaving : List (Bool)) (b6_Image_Entries : List (Entry)) (b6_Store_Halves_0 b6_Store_Halves_1 : ByteArray) (b6_Store_Select : Int) (b6_Contacts : List (Debounced)) (b6_Beliefs : List (Belief)) (b6_Cars : List (NewCar)) (b6_Loads : List (Loaded)) (b6_Expect : List (Int)) (b6_Lit : List (Calls)) (b6_Tick b6_Faults b6_Refused : Int) (out_Image_Phases : List (Int)) (out_Image_Flags out_Image_Leaving : List (Bool)) (out_Image_Entries : List (Entry)) (out_Store_Halves_0 out_Store_Halves_1 : ByteArray) (out_Store_Select : Int) (out_Contacts : List (Debounced)) (out_Beliefs : List (Belief)) (out_Cars : List (NewCar)) (out_Loads : List (Loaded)) (out_Expect : List (Int)) (out_Lit : List (Calls)) (out_Tick out_Faults out_Refused : Int) : Option (Sum (T'59 × T'32) ((Unit × Unit × Unit) × (T'30 × T'30 × Unit))) :=
 bif (decide (i < ((List.length m_Entries : Nat) : Int))) then
 Option.bind (bif (inB i (List.length m_Entries)) then
 let z0 : Entry := (List.getD m_Entries (Int.toNat i) (Entry.mk (0 : Int) (0 : Int) (0 : Int) (0 : Int) false))
 bif (decide ((0 : Int) ≤ z0.Car)) then
 bif (inB z0.Car (List.length b_Cars)) then
 some (((), (), (), (), i, (List.getD b_Cars (Int.toNat z0.Car) (Car.mk (0 : Int) (0 : Int) (0 : Int) (0 : Int) (0 : Int) (0 : Int) (0 : Int) (0 : Int) (0 : Int))).Deadline, ()), ((b_Floors, b_Debounce, b_Room, b_Park, b_Empty, b_Full, b_Over, b_Cars, ()), (m_Phases, m_Flags, m_Leaving, m_Entries, ()), (b6_Image_Phases, b6_Image_Flags, b6_Image_Leaving, b6_Image_Entries, b6_Store_Halves_0, b6_Store_Halves_1, b6_Store_Select, b6_Contacts, b6_Beliefs, b6_Cars, b6_Loads, b6_Expect, b6_Lit, b6_Tick, b6_Faults, b6_Refused, ()), (out_Image_Phases, out_Image_Flags, out_Image_Leaving, out_Image_Entries, out_Store_Halves_0, out_Store_Halves_1, out_Store_Select, out_Contacts, out_Beliefs, out_Cars, out_Loads, out_Expect, out_Lit, out_Tick, out_Faults, out_Refused, ()), ()))
 else
 none
 else
 some (((), (), (), (), i, (0 : Int), ()), ((b_Floors, b_Debounce, b_Room, b_Park, b_Empty, b_Full, b_Over, b_Cars, ()), (m_Phases, m_Flags, m_Leaving, m_Entries, ()), (b6_Image_Phases, b6_Image_Flags, b6_Image_Leaving, b6_Image_Entries, b6_Store_Halves_0, b6_Store_Halves_1, b6_Store_Select, b6_Contacts, b6_Beliefs, b6_Cars, b6_Loads, b6_Expect, b6_Lit, b6_Tick, b6_Faults, b6_Refused, ()), (out_Image_Phases, out_Image_Flags, out_Image_Leaving, out_Image_Entries, out_Store_Halves_0, out_Store_Halves_1, out_Store_Select, out_Contacts, out_Beliefs, out_Cars, out_Loads, out_Expect, out_Lit, out_Tick, out_Faults, out_Refused, ()), ()))
 else
 none) fun y1 =>
 let z1 : List (Int) := [y1.1.2.2.2.2.2.1]
 bif (Nat.ble ((List.length y1.2.2.2.2.1.2.2.2.2.2.2.2.2.2.2.2.1) + (List.length z1)) 2147483648) then
 some (Sum.inl (((), (), (), (), (IntKind.i64.wrap (y1.1.2.2.2.2.1 + (1 : Int))), ()), (y1.2.1, y1.2.2.1, y1.2.2.2.1, (y1.2.2.2.2.1.1, y1.2.2.2.2.1.2.1, y1.2.2.2.2.1.2.2.1, y1.2.2.2.2.1.2.2.2.1, y1.2.2.2.2.1.2.2.2.2.1, y1.2.2.2.2.1.2.2.2.2.2.1, y1.2.2.2.2.1.2.2.2.2.2.2.1, y1.2.2.2.2.1.2.2.2.2.2.2.2.1, y1.2.2.2.2.1.2.2.2.2.2.2.2.2.1, y1.2.2.2.2.1.2.2.2.2.2.2.2.2.2.1, y1.2.2.2.2.1.2.2.2.2.2.2.2.2.2.2.1, (y1.2.2.2.2.1.2.2.2.2.2.2.2.2.2.2.2.1 ++ z1), y1.2.2.2.2.1.2.2.2.2.2.2.2.2.2.2.2.2.1, y1.2.2.2.2.1.2.2.2.2.2.2.2.2.2.2.2.2.2.1, y1.2.2.2.2.1.2.2.2.2.2.2.2.2.2.2.2.2.2.2.1, y1.2.2.2.2.1.2.2.2.2.2.2.2.2.2.2.2.2.2.2.2.1, ()), ())))
 else
 none
 else
 some (Sum.inr (((), (), ()), ((b6_Image_Phases, b6_Image_Flags, b6_Image_Leaving, b6_Image_Entries, b6_Store_Halves_0, b6_Store_Halves_1, b6_Store_Select, b6_Contacts, b6_Beliefs, b6_Cars, b6_Loads, b6_Expect, b6_Lit, b6_Tick, b6_Faults, b6_Refused, ()), (out_Image_Phases, out_Image_Flags, out_Image_Leaving, out_Image_Entries, out_Store_Halves_0, out_Store_Halves_1, out_Store_Select, out_Contacts, out_Beliefs, out_Cars, out_Loads, out_Expect, out_Lit, out_Tick, out_Faults, out_Refused, ()), ())))
noncomputable def nhh' : (T'59 × T'32) → Option ((Unit × Unit × Unit) × (T'30 × T'30 × Unit)) := iter (fun x => nfn' x.1.2.2.2.2.1 x.2.1.1 x.2.1.2.1 x.2.1.2.2.1 x.2.1.2.2.2.1 x.2.1.2.2.2.2.1 x.2.1.2.2.2.2.2.1 x.2.1.2.2.2.2.2.2.1 x.2.1.2.2.2.2.2.2.2.1 x.2.2.1.1 x.2.2.1.2.1 x.2.2.1.2.2.1 x.2.2.1.2.2.2.1 x.2.2.2.1.1 x.2.2.2.1.2.1 x.2.2.2.1.2.2.1 x.2.2.2.1.2.2.2.1 x.2.2.2.1.2.2.2.2.1 x.2.2.2.1.2.2.2.2.2.1 x.2.2.2.1.2.2.2.2.2.2.1 x.2.2.2.1.2.2.2.2.2.2.2.1 x.2.2.2.1.2.2.2.2.2.2.2.2.1 x.2.2.2.1.2.2.2.2.2.2.2.2.2.1 x.2.2.2.1.2.2.2.2.2.2.2.2.2.2.1 x.2.2.2.1.2.2.2.2.2.2.2.2.2.2.2.1 x.2.2.2.1.2.2.2.2.2.2.2.2.2.2.2.2.1 x.2.2.2.1.2.2.2.2.2.2.2.2.2.2.2.2.2.1 x.2.2.2.1.2.2.2.2.2.2.2.2.2.2.2.2.2.2.1 x.2.2.2.1.2.2.2.2.2.2.2.2.2.2.2.2.2.2.2.1 x.2.2.2.2.1.1 x.2.2.2.2.1.2.1 x.2.2.2.2.1.2.2.1 x.2.2.2.2.1.2.2.2.1 x.2.2.2.2.1.2.2.2.2.1 x.2.2.2.2.1.2.2.2.2.2.1 x.2.2.2.2.1.2.2.2.2.2.2.1 x.2.2.2.2.1.2.2.2.2.2.2.2.1 x.2.2.2.2.1.2.2.2.2.2.2.2.2.1 x.2.2.2.2.1.2.2.2.2.2.2.2.2.2.1 x.2.2.2.2.1.2.2.2.2.2.2.2.2.2.2.1 x.2.2.2.2.1.2.2.2.2.2.2.2.2.2.2.2.1 x.2.2.2.2.1.2.2.2.2.2.2.2.2.2.2.2.2.1 x.2.2.2.2.1.2.2.2.2.2.2.2.2.2.2.2.2.2.1 x.2.2.2.2.1.2.2.2.2.2.2.2.2.2.2.2.2.2.2.1 x.2.2.2.2.1.2.2.2.2.2.2.2.2.2.2.2.2.2.2.2.1) fuel
noncomputable def nfp' (n i b_Floors b_Debounce b_Room b_Park : Int) (b_Empty b_Full b_Over : Nat) (b_Cars : List (Car)) (m_Phases : List (Int)) (m_Flags m_Leaving : List (Bool)) (m_Entries : List (Entry)) (b6_Image_Phases : List (Int)) (b6_Image_Flags b6_Image_Leaving : List (Bool)) (b6_Image_Entries : List (Entry)) (b6_Store_Halves_0 b6_Store_Halves_1 : ByteArray) (b6_Store_Select : Int) (b6_Contacts : List (Debounced)) (b6_Beliefs : List (Belief)) (b6_Cars : List (NewCar)) (b6_Loads : List (Loaded)) (b6_Expect : List (Int)) (b6_Lit : List (Calls)) (b6_Tick b6_Faults b6_Refused : Int) (out_Image_Phases : List (Int)) (out_Image_Flags out_Image_Leaving : List (Bool)) (out_Image_Entries : List (Entry)) (out_Store_Halves_0 out_Store_Halves_1 : ByteArray) (out_Store_Select : Int) (out_Contacts : List (Debounced)) (out_Beliefs : List (Belief)) (out_Cars : List (NewCar)) (out_Loads : List (Loaded)) (out_Expect : List (Int)) (out_Lit : List (Calls)) (out_Tick out_Faults out_Refused : Int) : Option (Sum (T'58 × T'32) (T'33 × T'32)) :=
 bif (decide (i < n)) then
 (njy').bind fun y1 =>
 let z0 : List (Belief) := [(Belief.mk y1.2.1.1 y1.2.1.2.1 y1.2.1.2.2.1 y1.2.1.2.2.2.1 y1.2.1.2.2.2.2.1 y1.2.1.2.2.2.2.2.1)]
 bif (Nat.ble ((List.length out_Beliefs) + (List.length z0)) 2147483648) then
 some (Sum.inl (((), (), (), n, (), (IntKind.i64.wrap (i + (1 : Int))), ()), ((b_Floors, b_Debounce, b_Room, b_Park, b_Empty, b_Full, b_Over, b_Cars, ()), (m_Phases, m_Flags, m_Leaving, m_Entries, ()), (b6_Image_Phases, b6_Image_Flags, b6_Image_Leaving, b6_Image_Entries, b6_Store_Halves_0, b6_Store_Halves_1, b6_Store_Select, b6_Contacts, b6_Beliefs, b6_Cars, b6_Loads, b6_Expect, b6_Lit, b6_Tick, b6_Faults, b6_Refused, ()), (out_Image_Phases, out_Image_Flags, out_Image_Leaving, out_Image_Entries, out_Store_Halves_0, out_Store_Halves_1, out_Store_Select, out_Contacts, (out_Beliefs ++ z0), out_Cars, out_Loads, out_Expect, out_Lit, out_Tick, out_Faults, out_Refused, ()), ())))
 else
 none
 else
 some (Sum.inr (((), (), (), (), ()), ((b_Floors, b_Debounce, b_Room, b_Park, b_Empty, b_Full, b_Over, b_Cars, ()), (m_Phases, m_Flags, m_Leaving, m_Entries, ()), (b6_Image_Phases, b6_Image_Flags, b6_Image_Leaving, b6_Image_Entries, b6_Store_Halves_0, b6_Store_Halves_1, b6_Store_Select, b6_Contacts, b6_Beliefs, b6_Cars, b6_Loads, b6_Expect, b6_Lit, b6_Tick, b6_Faults, b6_Refused, ()), (out_Image_Phases, out_Image_Flags, out_Image_Leaving, out_Image_Entries, out_Store_Halves_0, out_Store_Halves_1, out_Store_Select, out_Contacts, out_Beliefs, out_Cars, out_Loads, out_Expect, out_Lit, out_Tick, out_Faults, out_Refused, ()), ())))
noncomputable def nhf' : (T'58 × T'32) → Option (T'33 × T'32) := iter (fun x => nfp' x.1.2.2.2.1 x.1.2.2.2.2.2.1 x.2.1.1 x.2.1.2.1 x.2.1.2.2.1 x.2.1.2.2.2.1 x.2.1.2.2.2.2.1 x.2.1.2.2.2.2.2.1 x.2.1.2.2.2.2.2.2.1 x.2.1.2.2.2.2.2.2.2.1 x.2.2.1.1 x.2.2.1.2.1 x.2.2.1.2.2.1 x.2.2.1.2.2.2.1 x.2.2.2.1.1 x.2.2.2.1.2.1 x.2.2.2.1.2.2.1 x.2.2.2.1.2.2.2.1 x.2.2.2.1.2.2.2.2.1 x.2.2.2.1.2.2.2.2.2.1 x.2.2.2.1.2.2.2.2.2.2.1 x.2.2.2.1.2.2.2.2.2.2.2.1 x.2.2.2.1.2.2.2.2.2.2.2.2.1 x.2.2.2.1.2.2.2.2.2.2.2.2.2.1 x.2.2.2.1.2.2.2.2.2.2.2.2.2.2.1 x.2.2.2.1.2.2.2.2.2.2.2.2.2.2.2.1 x.2.2.2.1.2.2.2.2.2.2.2.2.2.2.2.2.1 x.2.2.2.1.2.2.2.2.2.2.2.2.2.2.2.2.2.1 x.2.2.2.1.2.2.2.2.2.2.2.2.2.2.2.2.2.2.1 x.2.2.2.1.2.2.2.2.2.2.2.2.2.2.2.2.2.2.2.1 x.2.2.2.2.1.1 x.2.2.2.2.1.2.1 x.2.2.2.2.1.2.2.1 x.2.2.2.2.1.2.2.2.1 x.2.2.2.2.1.2.2.2.2.1 x.2.2.2.2.1.2.2.2.2.2.1 x.2.2.2.2.1.2.2.2.2.2.2.1 x.2.2.2.2.1.2.2.2.2.2.2.2.1 x.2.2.2.2.1.2.2.2.2.2.2.2.2.1 x.2.2.2.2.1.2.2.2.2.2.2.2.2.2.1 x.2.2.2.2.1.2.2.2.2.2.2.2.2.2.2.1 x.2.2.2.2.1.2.2.2.2.2.2.2.2.2.2.2.1 x.2.2.2.2.1.2.2.2.2.2.2.2.2.2.2.2.2.1 x.2.2.2.2.1.2.2.2.2.2.2.2.2.2.2.2.2.2.1 x.2.2.2.2.1.2.2.2.2.2.2.2.2.2.2.2.2.2.2.1 x.2.2.2.2.1.2.2.2.2.2.2.2.2.2.2.2.2.2.2.2.1) fuel
noncomputable def nf6' (b_Floors b_Debounce b_Room b_Park : Int) (b_Empty b_Full b_Over : Nat) (b_Cars : List (Car)) (m_Phases : List (Int)) (m_Flags m_Leaving : List (Bool)) (m_Entries : List (Entry)) (s_Halves_0 s_Halves_1 : ByteArray) (s_Select : Int) : Option ((Unit × Int × Unit) × (T'30 × Unit)) :=
 (nki' b_Floors b_Debounce b_Room b_Park b_Empty b_Full b_Over b_Cars m_Phases m_Flags m_Leaving m_Entries).bind fun y1 =>
 bif (!y1.1.1) then
 some (((), (1 : Int), ()), ((([] : List (Int)), ([] : List (Bool)), ([] : List (Bool)), ([] : List (Entry)), (ByteArray.mk (Array.mk [])), (ByteArray.mk (Array.mk [])), (0 : Int), ([] : List (Debounced)), ([] : List (Belief)), ([] : List (NewCar)), ([] : List (Loaded)), ([] : List (Int)), ([] : List (Calls)), (0 : Int), (0 : Int), (0 : Int), ()), ()))
 else
 (nfl' b_Room s_Halves_0 s_Halves_1 s_Select).bind fun y2 =>
 bif (!y2.1.1) then
 some (((), (1 : Int), ()), ((([] : List (Int)), ([] : List (Bool)), ([] : List (Bool)), ([] : List (Entry)), (ByteArray.mk (Array.mk [])), (ByteArray.mk (Array.mk [])), (0 : Int), ([] : List (Debounced)), ([] : List (Belief)), ([] : List (NewCar)), ([] : List (Loaded)), ([] : List (Int)), ([] : List (Calls)), (0 : Int), (0 : Int), (0 : Int), ()), ()))
 else
 let z0 : Int := ((List.length b_Cars : Nat) : Int)
 bif (((decide ((0 : Int) ≤ z0)) && (decide (z0 ≤ z0))) && (decide (z0 ≤ (2147483648 : Int)))) then
 bif (((decide ((0 : Int) ≤ z0)) && (decide (z0 ≤ z0))) && (decide (z0 ≤ (2147483648 : Int)))) then
 bif (((decide ((0 : Int) ≤ z0)) && (decide (z0 ≤ z0))) && (decide (z0 ≤ (2147483648 : Int)))) then
 bif (((decide ((0 : Int) ≤ z0)) && (decide (z0 ≤ z0))) && (decide (z0 ≤ (2147483648 : Int)))) then
 (nhf' (((), (), (), z0, (), (0 : Int), ()), ((b_Floors, b_Debounce, b_Room, b_Park, b_Empty, b_Full, b_Over, b_Cars, ()), (m_Phases, m_Flags, m_Leaving, m_Entries, ()), (([] : List (Int)), ([] : List (Bool)), ([] : List (Bool)), ([] : List (Entry)), (ByteArray.mk (Array.mk [])), (ByteArray.mk (Array.mk [])), (0 : Int), ([] : List (Debounced)), ([] : List (Belief)), ([] : List (NewCar)), ([] : List (Loaded)), ([] : List (Int)), ([] : List (Calls)), (0 : Int), (0 : Int), (0 : Int), ()), (m_Phases, m_Flags, m_Leaving, m_Entries, s_Halves_0, s_Halves_1, s_Select, (List.replicate (Int.toNat z0) (Debounced.mk (0 : Int) false false false false (0 : Int) (0 : Int) (0 : Int) (0 : Int) (0 : Int) (0 : Int) (0 : Int) (0 : Int) (0 : Int) (0 : Int) (0 : Int) (0 : Int) (0 : Int) (0 : Int) (0 : Int) (0 : Int) (0 : Int) (0 : Int) (0 : Int) (0 : Int) (0 : Int) (0 : Int) (0 : Int) (0 : Int) (0 : Int) (0 : Int) (0 : Int) (0 : Int) (0 : Int) (0 : Int) (0 : Int) (0 : Int) (0 : Int) (0 : Int) (0 : Int) (0 : Int))), ([] : List (Belief)), (List.replicate (Int.toNat z0) (NewCar.mk (0 : Int) (0 : Int) (0 : Int) (0 : Int) (0 : Int) false (0 : Int) (0 : Int) (0 : Int) (0 : Int) (0 : Int) (0 : Int) (0 : Int) false)), (List.replicate (Int.toNat z0) (Loaded.mk (0 : Int))), ([] : List (Int)), (List.replicate (Int.toNat z0) (Calls.mk (0 : Int) (0 : Int))), (0 : Int), (0 : Int), (0 : Int), ()), ()))).bind fun y3 =>
 (nhh' (((), (), (), (), (0 : Int), ()), (y3.2.1, y3.2.2.1, y3.2.2.2.1, y3.2.2.2.2.1, ()))).bind fun y4 =>
 some (((), (0 : Int), ()), (y4.2.2.1, ()))
 else
 none
 else
 none
 else
 none
 else
 none
noncomputable def ngk' (i : Int) (a_Phases : List (Int)) (a_Flags a_Leaving : List (Bool)) (a_Entries : List (Entry)) (b_Phases : List (Int)) (b_Flags b_Leaving : List (Bool)) (b_Entries : List (Entry)) : Option (Sum (T'49 × (T'4 × T'4 × Unit)) ((Unit × Unit) ⊕ ((Bool × Unit) × Unit))) :=
 bif (decide (i < ((List.length a_Entries : Nat) : Int))) then
 bif (inB i (List.length a_Entries)) then
 let z0 : Entry := (List.getD a_Entries (Int.toNat i) (Entry.mk (0 : Int) (0 : Int) (0 : Int) (0 : Int) false))
 bif (inB i (List.length b_Entries)) then
 let z1 : Entry := (List.getD b_Entries (Int.toNat i) (Entry.mk (0 : Int) (0 : Int) (0 : Int) (0 : Int) false))
 bif (!((z0.Floor == z1.Floor) && ((z0.Dir == z1.Dir) && ((z0.Car == z1.Car) && ((z0.Moves == z1.Moves) && ((z0.Moved == z1.Moved) && true)))))) then
 some (Sum.inr (Sum.inr ((false, ()), ())))
 else
 some (Sum.inl (((), (), (IntKind.i64.wrap (i + (1 : Int))), ()), ((a_Phases, a_Flags, a_Leaving, a_Entries, ()), (b_Phases, b_Flags, b_Leaving, b_Entries, ()), ())))
 else
 none
 else
 none
 else
 some (Sum.inr (Sum.inl ((), ())))
noncomputable def nj1' : (T'49 × (T'4 × T'4 × Unit)) → Option ((Unit × Unit) ⊕ ((Bool × Unit) × Unit)) := iter (fun x => ngk' x.1.2.2.1 x.2.1.1 x.2.1.2.1 x.2.1.2.2.1 x.2.1.2.2.2.1 x.2.2.1.1 x.2.2.1.2.1 x.2.2.1.2.2.1 x.2.2.1.2.2.2.1) fuel
noncomputable def ngm' (i : Int) (a_Phases : List (Int)) (a_Flags a_Leaving : List (Bool)) (a_Entries : List (Entry)) (b_Phases : List (Int)) (b_Flags b_Leaving : List (Bool)) (b_Entries : List (Entry)) : Option (Sum (T'49 × (T'4 × T'4 × Unit)) (((Unit × Unit × Unit) × (T'4 × T'4 × Unit)) ⊕ ((Bool × Unit) × Unit))) :=
 bif (decide (i < ((List.length a_Leaving : Nat) : Int))) then
 bif (inB i (List.length a_Leaving)) then
 bif (inB i (List.length b_Leaving)) then
 bif (!((List.getD a_Leaving (Int.toNat i) false) == (List.getD b_Leaving (Int.toNat i) false))) then
 some (Sum.inr (Sum.inr ((false, ()), ())))
 else
 some (Sum.inl (((), (), (IntKind.i64.wrap (i + (1 : Int))), ()), ((a_Phases, a_Flags, a_Leaving, a_Entries, ()), (b_Phases, b_Flags, b_Leaving, b_Entries, ()), ())))
 else
 none
 else
 none
 else
 some (Sum.inr (Sum.inl (((), (), ()), ((a_Phases, a_Flags, a_Leaving, a_Entries, ()), (b_Phases, b_Flags, b_Leaving, b_Entries, ()), ()))))
noncomputable def nkd' : (T'49 × (T'4 × T'4 × Unit)) → Option (((Unit × Unit × Unit) × (T'4 × T'4 × Unit)) ⊕ ((Bool × Unit) × Unit)) := iter (fun x => ngm' x.1.2.2.1 x.2.1.1 x.2.1.2.1 x.2.1.2.2.1 x.2.1.2.2.2.1 x.2.2.1.1 x.2.2.1.2.1 x.2.2.1.2.2.1 x.2.2.1.2.2.2.1) fuel
noncomputable def ngn' (i : Int) (a_Phases : List (Int)) (a_Flags a_Leaving : List (Bool)) (a_Entries : List (Entry)) (b_Phases : List (Int)) (b_Flags b_Leaving : List (Bool)) (b_Entries : List (Entry)) : Option (Sum (T'49 × (T'4 × T'4 × Unit)) (((Unit × Unit × Unit) × (T'4 × T'4 × Unit)) ⊕ ((Bool × Unit) × Unit))) :=
 bif (decide (i < ((List.length a_Flags : Nat) : Int))) then
 bif (inB i (List.length a_Flags)) then
 bif (inB i (List.length b_Flags)) then
 bif (!((List.getD a_Flags (Int.toNat i) false) == (List.getD b_Flags (Int.toNat i) false))) then
 some (Sum.inr (Sum.inr ((false, ()), ())))
 else
 some (Sum.inl (((), (), (IntKind.i64.wrap (i + (1 : Int))), ()), ((a_Phases, a_Flags, a_Leaving, a_Entries, ()), (b_Phases, b_Flags, b_Leaving, b_Entries, ()), ())))
 else
 none
 else
 none
 else
 some (Sum.inr (Sum.inl (((), (), ()), ((a_Phases, a_Flags, a_Leaving, a_Entries, ()), (b_Phases, b_Flags, b_Leaving, b_Entries, ()), ()))))
noncomputable def nku' : (T'49 × (T'4 × T'4 × Unit)) → Option (((Unit × Unit × Unit) × (T'4 × T'4 × Unit)) ⊕ ((Bool × Unit) × Unit)) := iter (fun x => ngn' x.1.2.2.1 x.2.1.1 x.2.1.2.1 x.2.1.2.2.1 x.2.1.2.2.2.1 x.2.2.1.1 x.2.2.1.2.1 x.2.2.1.2.2.1 x.2.2.1.2.2.2.1) fuel
noncomputable def ngl' (i : Int) (a_Phases : List (Int)) (a_Flags a_Leaving : List (Bool)) (a_Entries : List (Entry)) (b_Phases : List (Int)) (b_Flags b_Leaving : List (Bool)) (b_Entries : List (Entry)) : Option (Sum (T'49 × (T'4 × T'4 × Unit)) (((Unit × Unit × Unit) × (T'4 × T'4 × Unit)) ⊕ ((Bool × Unit) × Unit))) :=
 bif (decide (i < ((List.length a_Phases : Nat) : Int))) then
 bif (inB i (List.length a_Phases)) then
 bif (inB i (List.length b_Phases)) then
 bif ((List.getD a_Phases (Int.toNat i) (0 : Int)) != (List.getD b_Phases (Int.toNat i) (0 : Int))) then
 some (Sum.inr (Sum.inr ((false, ()), ())))
 else
 some (Sum.inl (((), (), (IntKind.i64.wrap (i + (1 : Int))), ()), ((a_Phases, a_Flags, a_Leaving, a_Entries, ()), (b_Phases, b_Flags, b_Leaving, b_Entries, ()), ())))
 else
 none
 else
 none
 else
 some (Sum.inr (Sum.inl (((), (), ()), ((a_Phases, a_Flags, a_Leaving, a_Entries, ()), (b_Phases, b_Flags, b_Leaving, b_Entries, ()), ()))))
noncomputable def nj5' : (T'49 × (T'4 × T'4 × Unit)) → Option (((Unit × Unit × Unit) × (T'4 × T'4 × Unit)) ⊕ ((Bool × Unit) × Unit)) := iter (fun x => ngl' x.1.2.2.1 x.2.1.1 x.2.1.2.1 x.2.1.2.2.1 x.2.1.2.2.2.1 x.2.2.1.1 x.2.2.1.2.1 x.2.2.1.2.2.1 x.2.2.1.2.2.2.1) fuel
noncomputable def nmd' (a_Phases : List (Int)) (a_Flags a_Leaving : List (Bool)) (a_Entries : List (Entry)) (b_Phases : List (Int)) (b_Flags b_Leaving : List (Bool)) (b_Entries : List (Entry)) : Option ((Bool × Unit) × Unit) :=
 bif (((List.length a_Phases : Nat) : Int) != ((List.length b_Phases : Nat) : Int)) then
 some ((false, ()), ())
 else
 bif (((List.length a_Flags : Nat) : Int) != ((List.length b_Flags : Nat) : Int)) then
 some ((false, ()), ())
 else
 bif (((List.length a_Leaving : Nat) : Int) != ((List.length b_Leaving : Nat) : Int)) then
 some ((false, ()), ())
 else
 bif (((List.length a_Entries : Nat) : Int) != ((List.length b_Entries : Nat) : Int)) then
 some ((false, ()), ())
 else
 (nj5' (((), (), (0 : Int), ()), ((a_Phases, a_Flags, a_Leaving, a_Entries, ()), (b_Phases, b_Flags, b_Leaving, b_Entries, ()), ()))).bind fun y1 =>
 (match y1 with
 | .inl y2 =>
 (nku' (((), (), (0 : Int), ()), (y2.2.1, y2.2.2.1, ()))).bind fun y3 =>
 (match y3 with
 | .inl y4 =>
 (nkd' (((), (), (0 : Int), ()), (y4.2.1, y4.2.2.1, ()))).bind fun y5 =>
 (match y5 with
 | .inl y6 =>
 (nj1' (((), (), (0 : Int), ()), (y6.2.1, y6.2.2.1, ()))).bind fun y7 =>
 (match y7 with
 | .inl y8 =>
 some ((true, ()), ())
 | .inr y8 =>
 some ((y8.1.1, ()), ()))
 | .inr y6 =>
 some ((y6.1.1, ()), ()))
 | .inr y4 =>
 some ((y4.1.1, ()), ()))
 | .inr y2 =>
 some ((y2.1.1, ()), ()))
noncomputable def nd0' (a b : List (Calls)) (i : Int) : Option (Sum (T'60 × Unit) ((Unit × Unit) ⊕ ((Bool × Unit) × Unit))) :=
 bif (decide (i < ((List.length a : Nat) : Int))) then
 bif (inB i (List.length a)) then
 let z0 : Calls := (List.getD a (Int.toNat i) (Calls.mk (0 : Int) (0 : Int)))
 bif (inB i (List.length b)) then
 let z1 : Calls := (List.getD b (Int.toNat i) (Calls.mk (0 : Int) (0 : Int)))
 bif (!((z0.Up == z1.Up) && ((z0.Down == z1.Down) && true))) then
 some (Sum.inr (Sum.inr ((false, ()), ())))
 else
 some (Sum.inl ((a, b, (IntKind.i64.wrap (i + (1 : Int))), ()), ()))
 else
 none
 else
 none
 else
 some (Sum.inr (Sum.inl ((), ())))
noncomputable def ngb' : (T'60 × Unit) → Option ((Unit × Unit) ⊕ ((Bool × Unit) × Unit)) := iter (fun x => nd0' x.1.1 x.1.2.1 x.1.2.2.1) fuel
noncomputable def nh9' (a b : List (Calls)) : Option ((Bool × Unit) × Unit) :=
 bif (((List.length a : Nat) : Int) != ((List.length b : Nat) : Int)) then
 some ((false, ()), ())
 else
 (ngb' ((a, b, (0 : Int), ()), ())).bind fun y1 =>
 (match y1 with
 | .inl y2 =>
 some ((true, ()), ())
 | .inr y2 =>
 some ((y2.1.1, ()), ()))
noncomputable def nd6' (a b : List (Int)) (i : Int) : Option (Sum (T'61 × Unit) ((Unit × Unit) ⊕ ((Bool × Unit) × Unit))) :=
 bif (decide (i < ((List.length a : Nat) : Int))) then
 bif (inB i (List.length a)) then
 bif (inB i (List.length b)) then
 bif ((List.getD a (Int.toNat i) (0 : Int)) != (List.getD b (Int.toNat i) (0 : Int))) then
 some (Sum.inr (Sum.inr ((false, ()), ())))
 else
 some (Sum.inl ((a, b, (IntKind.i64.wrap (i + (1 : Int))), ()), ()))
 else
 none
 else
 none
 else
 some (Sum.inr (Sum.inl ((), ())))
noncomputable def ng7' : (T'61 × Unit) → Option ((Unit × Unit) ⊕ ((Bool × Unit) × Unit)) := iter (fun x => nd6' x.1.1 x.1.2.1 x.1.2.2.1) fuel
noncomputable def niq' (a b : List (Int)) : Option ((Bool × Unit) × Unit) :=
 bif (((List.length a : Nat) : Int) != ((List.length b : Nat) : Int)) then
 some ((false, ()), ())
 else
 (ng7' ((a, b, (0 : Int), ()), ())).bind fun y1 =>
 (match y1 with
 | .inl y2 =>
 some ((true, ()), ())
 | .inr y2 =>
 some ((y2.1.1, ()), ()))
noncomputable def ngu' (i a_Floor a_Dir a_Door : Int) (a_Duties : List (Duty)) (a_Still : Int) (a_Late : Bool) (b_Floor b_Dir b_Door : Int) (b_Duties : List (Duty)) (b_Still : Int) (b_Late : Bool) : Option (Sum (T'49 × (T'29 × T'29 × Unit)) ((Unit × Unit) ⊕ ((Bool × Unit) × Unit))) :=
 bif (decide (i < ((List.length a_Duties : Nat) : Int))) then
 bif (inB i (List.length a_Duties)) then
 let z0 : Duty := (List.getD a_Duties (Int.toNat i) (Duty.mk (0 : Int) (0 : Int) (0 : Int)))
 bif (inB i (List.length b_Duties)) then
 let z1 : Duty := (List.getD b_Duties (Int.toNat i) (Duty.mk (0 : Int) (0 : Int) (0 : Int)))
 bif (!((z0.Floor == z1.Floor) && ((z0.Dir == z1.Dir) && ((z0.Age == z1.Age) && true)))) then
 some (Sum.inr (Sum.inr ((false, ()), ())))
 else
 some (Sum.inl (((), (), (IntKind.i64.wrap (i + (1 : Int))), ()), ((a_Floor, a_Dir, a_Door, a_Duties, a_Still, a_Late, ()), (b_Floor, b_Dir, b_Door, b_Duties, b_Still, b_Late, ()), ())))
 else
 none
 else
 none
 else
 some (Sum.inr (Sum.inl ((), ())))
noncomputable def nkf' : (T'49 × (T'29 × T'29 × Unit)) → Option ((Unit × Unit) ⊕ ((Bool × Unit) × Unit)) := iter (fun x => ngu' x.1.2.2.1 x.2.1.1 x.2.1.2.1 x.2.1.2.2.1 x.2.1.2.2.2.1 x.2.1.2.2.2.2.1 x.2.1.2.2.2.2.2.1 x.2.2.1.1 x.2.2.1.2.1 x.2.2.1.2.2.1 x.2.2.1.2.2.2.1 x.2.2.1.2.2.2.2.1 x.2.2.1.2.2.2.2.2.1) fuel
noncomputable def nmi' (a_Floor a_Dir a_Door : Int) (a_Duties : List (Duty)) (a_Still : Int) (a_Late : Bool) (b_Floor b_Dir b_Door : Int) (b_Duties : List (Duty)) (b_Still : Int) (b_Late : Bool) : Option ((Bool × Unit) × Unit) :=
 bif (a_Floor != b_Floor) then
 some ((false, ()), ())
 else
 bif (a_Dir != b_Dir) then
 some ((false, ()), ())
 else
 bif (a_Door != b_Door) then
 some ((false, ()), ())
 else
 bif (a_Still != b_Still) then
 some ((false, ()), ())
 else
 bif (!(a_Late == b_Late)) then
 some ((false, ()), ())
 else
 bif (((List.length a_Duties : Nat) : Int) != ((List.length b_Duties : Nat) : Int)) then
 some ((false, ()), ())
 else
 (nkf' (((), (), (0 : Int), ()), ((a_Floor, a_Dir, a_Door, a_Duties, a_Still, a_Late, ()), (b_Floor, b_Dir, b_Door, b_Duties, b_Still, b_Late, ()), ()))).bind fun y1 =>
 (match y1 with
 | .inl y2 =>
 some ((true, ()), ())
 | .inr y2 =>
 some ((y2.1.1, ()), ()))
noncomputable def ngt' (i : Int) (a_Image_Phases : List (Int)) (a_Image_Flags a_Image_Leaving : List (Bool)) (a_Image_Entries : List (Entry)) (a_Store_Halves_0 a_Store_Halves_1 : ByteArray) (a_Store_Select : Int) (a_Contacts : List (Debounced)) (a_Beliefs : List (Belief)) (a_Cars : List (NewCar)) (a_Loads : List (Loaded)) (a_Expect : List (Int)) (a_Lit : List (Calls)) (a_Tick a_Faults a_Refused : Int) (b_Image_Phases : List (Int)) (b_Image_Flags b_Image_Leaving : List (Bool)) (b_Image_Entries : List (Entry)) (b_Store_Halves_0 b_Store_Halves_1 : ByteArray) (b_Store_Select : Int) (b_Contacts : List (Debounced)) (b_Beliefs : List (Belief)) (b_Cars : List (NewCar)) (b_Loads : List (Loaded)) (b_Expect : List (Int)) (b_Lit : List (Calls)) (b_Tick b_Faults b_Refused : Int) : Option (Sum (T'49 × (T'30 × T'30 × Unit)) ((Unit × Unit) ⊕ ((Bool × Unit) × Unit))) :=
 bif (decide (i < ((List.length a_Loads : Nat) : Int))) then
 bif (inB i (List.length a_Loads)) then
 bif (inB i (List.length b_Loads)) then
 bif (!(((List.getD a_Loads (Int.toNat i) (Loaded.mk (0 : Int))).Class == (List.getD b_Loads (Int.toNat i) (Loaded.mk (0 : Int))).Class) && true)) then
 some (Sum.inr (Sum.inr ((false, ()), ())))
 else
 some (Sum.inl (((), (), (IntKind.i64.wrap (i + (1 : Int))), ()), ((a_Image_Phases, a_Image_Flags, a_Image_Leaving, a_Image_Entries, a_Store_Halves_0, a_Store_Halves_1, a_Store_Select, a_Contacts, a_Beliefs, a_Cars, a_Loads, a_Expect, a_Lit, a_Tick, a_Faults, a_Refused, ()), (b_Image_Phases, b_Image_Flags, b_Image_Leaving, b_Image_Entries, b_Store_Halves_0, b_Store_Halves_1, b_Store_Select, b_Contacts, b_Beliefs, b_Cars, b_Loads, b_Expect, b_Lit, b_Tick, b_Faults, b_Refused, ()), ())))
 else
 none
 else
 none
 else
 some (Sum.inr (Sum.inl ((), ())))
noncomputable def nj2' : (T'49 × (T'30 × T'30 × Unit)) → Option ((Unit × Unit) ⊕ ((Bool × Unit) × Unit)) := iter (fun x => ngt' x.1.2.2.1 x.2.1.1 x.2.1.2.1 x.2.1.2.2.1 x.2.1.2.2.2.1 x.2.1.2.2.2.2.1 x.2.1.2.2.2.2.2.1 x.2.1.2.2.2.2.2.2.1 x.2.1.2.2.2.2.2.2.2.1 x.2.1.2.2.2.2.2.2.2.2.1 x.2.1.2.2.2.2.2.2.2.2.2.1 x.2.1.2.2.2.2.2.2.2.2.2.2.1 x.2.1.2.2.2.2.2.2.2.2.2.2.2.1 x.2.1.2.2.2.2.2.2.2.2.2.2.2.2.1 x.2.1.2.2.2.2.2.2.2.2.2.2.2.2.2.1 x.2.1.2.2.2.2.2.2.2.2.2.2.2.2.2.2.1 x.2.1.2.2.2.2.2.2.2.2.2.2.2.2.2.2.2.1 x.2.2.1.1 x.2.2.1.2.1 x.2.2.1.2.2.1 x.2.2.1.2.2.2.1 x.2.2.1.2.2.2.2.1 x.2.2.1.2.2.2.2.2.1 x.2.2.1.2.2.2.2.2.2.1 x.2.2.1.2.2.2.2.2.2.2.1 x.2.2.1.2.2.2.2.2.2.2.2.1 x.2.2.1.2.2.2.2.2.2.2.2.2.1 x.2.2.1.2.2.2.2.2.2.2.2.2.2.1 x.2.2.1.2.2.2.2.2.2.2.2.2.2.2.1 x.2.2.1.2.2.2.2.2.2.2.2.2.2.2.2.1 x.2.2.1.2.2.2.2.2.2.2.2.2.2.2.2.2.1 x.2.2.1.2.2.2.2.2.2.2.2.2.2.2.2.2.2.1 x.2.2.1.2.2.2.2.2.2.2.2.2.2.2.2.2.2.2.1) fuel
noncomputable def ngv' (i : Int) (a_Image_Phases : List (Int)) (a_Image_Flags a_Image_Leaving : List (Bool)) (a_Image_Entries : List (Entry)) (a_Store_Halves_0 a_Store_Halves_1 : ByteArray) (a_Store_Select : Int) (a_Contacts : List (Debounced)) (a_Beliefs : List (Belief)) (a_Cars : List (NewCar)) (a_Loads : List (Loaded)) (a_Expect : List (Int)) (a_Lit : List (Calls)) (a_Tick a_Faults a_Refused : Int) (b_Image_Phases : List (Int)) (b_Image_Flags b_Image_Leaving : List (Bool)) (b_Image_Entries : List (Entry)) (b_Store_Halves_0 b_Store_Halves_1 : ByteArray) (b_Store_Select : Int) (b_Contacts : List (Debounced)) (b_Beliefs : List (Belief)) (b_Cars : List (NewCar)) (b_Loads : List (Loaded)) (b_Expect : List (Int)) (b_Lit : List (Calls)) (b_Tick b_Faults b_Refused : Int) : Option (Sum (T'49 × (T'30 × T'30 × Unit)) (((Unit × Unit × Unit) × (T'30 × T'30 × Unit)) ⊕ ((Bool × Unit) × Unit))) :=
 bif (decide (i < ((List.length a_Cars : Nat) : Int))) then
 bif (inB i (List.length a_Cars)) then
 let z0 : NewCar := (List.getD a_Cars (Int.toNat i) (NewCar.mk (0 : Int) (0 : Int) (0 : Int) (0 : Int) (0 : Int) false (0 : Int) (0 : Int) (0 : Int) (0 : Int) (0 : Int) (0 : Int) (0 : Int) false))
 bif (inB i (List.length b_Cars)) then
 let z1 : NewCar := (List.getD b_Cars (Int.toNat i) (NewCar.mk (0 : Int) (0 : Int) (0 : Int) (0 : Int) (0 : Int) false (0 : Int) (0 : Int) (0 : Int) (0 : Int) (0 : Int) (0 : Int) (0 : Int) false))
 bif (!((z0.Sweep_Dir == z1.Sweep_Dir) && ((z0.Sweep_Opened == z1.Sweep_Opened) && ((z0.Door_Stage == z1.Door_Stage) && ((z0.Door_Time == z1.Door_Time) && ((z0.Door_Since == z1.Door_Since) && ((z0.Door_Nudge == z1.Door_Nudge) && ((z0.Door_Cycles == z1.Door_Cycles) && ((z0.Motion_Command == z1.Motion_Command) && ((z0.Motion_Time == z1.Motion_Time) && ((z0.Motion_Floor == z1.Motion_Floor) && ((z0.Calls == z1.Calls) && ((z0.Shown == z1.Shown) && ((z0.Idle == z1.Idle) && ((z0.Fault == z1.Fault) && true))))))))))))))) then
 some (Sum.inr (Sum.inr ((false, ()), ())))
 else
 some (Sum.inl (((), (), (IntKind.i64.wrap (i + (1 : Int))), ()), ((a_Image_Phases, a_Image_Flags, a_Image_Leaving, a_Image_Entries, a_Store_Halves_0, a_Store_Halves_1, a_Store_Select, a_Contacts, a_Beliefs, a_Cars, a_Loads, a_Expect, a_Lit, a_Tick, a_Faults, a_Refused, ()), (b_Image_Phases, b_Image_Flags, b_Image_Leaving, b_Image_Entries, b_Store_Halves_0, b_Store_Halves_1, b_Store_Select, b_Contacts, b_Beliefs, b_Cars, b_Loads, b_Expect, b_Lit, b_Tick, b_Faults, b_Refused, ()), ())))
 else
 none
 else
 none
 else
 some (Sum.inr (Sum.inl (((), (), ()), ((a_Image_Phases, a_Image_Flags, a_Image_Leaving, a_Image_Entries, a_Store_Halves_0, a_Store_Halves_1, a_Store_Select, a_Contacts, a_Beliefs, a_Cars, a_Loads, a_Expect, a_Lit, a_Tick, a_Faults, a_Refused, ()), (b_Image_Phases, b_Image_Flags, b_Image_Leaving, b_Image_Entries, b_Store_Halves_0, b_Store_Halves_1, b_Store_Select, b_Contacts, b_Beliefs, b_Cars, b_Loads, b_Expect, b_Lit, b_Tick, b_Faults, b_Refused, ()), ()))))
noncomputable def nko' : (T'49 × (T'30 × T'30 × Unit)) → Option (((Unit × Unit × Unit) × (T'30 × T'30 × Unit)) ⊕ ((Bool × Unit) × Unit)) := iter (fun x => ngv' x.1.2.2.1 x.2.1.1 x.2.1.2.1 x.2.1.2.2.1 x.2.1.2.2.2.1 x.2.1.2.2.2.2.1 x.2.1.2.2.2.2.2.1 x.2.1.2.2.2.2.2.2.1 x.2.1.2.2.2.2.2.2.2.1 x.2.1.2.2.2.2.2.2.2.2.1 x.2.1.2.2.2.2.2.2.2.2.2.1 x.2.1.2.2.2.2.2.2.2.2.2.2.1 x.2.1.2.2.2.2.2.2.2.2.2.2.2.1 x.2.1.2.2.2.2.2.2.2.2.2.2.2.2.1 x.2.1.2.2.2.2.2.2.2.2.2.2.2.2.2.1 x.2.1.2.2.2.2.2.2.2.2.2.2.2.2.2.2.1 x.2.1.2.2.2.2.2.2.2.2.2.2.2.2.2.2.2.1 x.2.2.1.1 x.2.2.1.2.1 x.2.2.1.2.2.1 x.2.2.1.2.2.2.1 x.2.2.1.2.2.2.2.1 x.2.2.1.2.2.2.2.2.1 x.2.2.1.2.2.2.2.2.2.1 x.2.2.1.2.2.2.2.2.2.2.1 x.2.2.1.2.2.2.2.2.2.2.2.1 x.2.2.1.2.2.2.2.2.2.2.2.2.1 x.2.2.1.2.2.2.2.2.2.2.2.2.2.1 x.2.2.1.2.2.2.2.2.2.2.2.2.2.2.1 x.2.2.1.2.2.2.2.2.2.2.2.2.2.2.2.1 x.2.2.1.2.2.2.2.2.2.2.2.2.2.2.2.2.1 x.2.2.1.2.2.2.2.2.2.2.2.2.2.2.2.2.2.1 x.2.2.1.2.2.2.2.2.2.2.2.2.2.2.2.2.2.2.1) fuel
noncomputable def ngz' (i : Int) (a_Image_Phases : List (Int)) (a_Image_Flags a_Image_Leaving : List (Bool)) (a_Image_Entries : List (Entry)) (a_Store_Halves_0 a_Store_Halves_1 : ByteArray) (a_Store_Select : Int) (a_Contacts : List (Debounced)) (a_Beliefs : List (Belief)) (a_Cars : List (NewCar)) (a_Loads : List (Loaded)) (a_Expect : List (Int)) (a_Lit : List (Calls)) (a_Tick a_Faults a_Refused : Int) (b_Image_Phases : List (Int)) (b_Image_Flags b_Image_Leaving : List (Bool)) (b_Image_Entries : List (Entry)) (b_Store_Halves_0 b_Store_Halves_1 : ByteArray) (b_Store_Select : Int) (b_Contacts : List (Debounced)) (b_Beliefs : List (Belief)) (b_Cars : List (NewCar)) (b_Loads : List (Loaded)) (b_Expect : List (Int)) (b_Lit : List (Calls)) (b_Tick b_Faults b_Refused : Int) : Option (Sum (T'49 × (T'30 × T'30 × Unit)) (((Unit × Unit × Unit) × (T'30 × T'30 × Unit)) ⊕ ((Bool × Unit) × Unit))) :=
 bif (decide (i < ((List.length a_Beliefs : Nat) : Int))) then
 bif (inB i (List.length a_Beliefs)) then
 let z0 : Belief := (List.getD a_Beliefs (Int.toNat i) (Belief.mk (0 : Int) (0 : Int) (0 : Int) [] (0 : Int) false))
 bif (inB i (List.length b_Beliefs)) then
 let z1 : Belief := (List.getD b_Beliefs (Int.toNat i) (Belief.mk (0 : Int) (0 : Int) (0 : Int) [] (0 : Int) false))
 (nmi' z0.Floor z0.Dir z0.Door z0.Duties z0.Still z0.Late z1.Floor z1.Dir z1.Door z1.Duties z1.Still z1.Late).bind fun y1 =>
 bif (!y1.1.1) then
 some (Sum.inr (Sum.inr ((false, ()), ())))
 else
 some (Sum.inl (((), (), (IntKind.i64.wrap (i + (1 : Int))), ()), ((a_Image_Phases, a_Image_Flags, a_Image_Leaving, a_Image_Entries, a_Store_Halves_0, a_Store_Halves_1, a_Store_Select, a_Contacts, a_Beliefs, a_Cars, a_Loads, a_Expect, a_Lit, a_Tick, a_Faults, a_Refused, ()), (b_Image_Phases, b_Image_Flags, b_Image_Leaving, b_Image_Entries, b_Store_Halves_0, b_Store_Halves_1, b_Store_Select, b_Contacts, b_Beliefs, b_Cars, b_Loads, b_Expect, b_Lit, b_Tick, b_Faults, b_Refused, ()), ())))
 else
 none
 else
 none
 else
 some (Sum.inr (Sum.inl (((), (), ()), ((a_Image_Phases, a_Image_Flags, a_Image_Leaving, a_Image_Entries, a_Store_Halves_0, a_Store_Halves_1, a_Store_Select, a_Contacts, a_Beliefs, a_Cars, a_Loads, a_Expect, a_Lit, a_Tick, a_Faults, a_Refused, ()), (b_Image_Phases, b_Image_Flags, b_Image_Leaving, b_Image_Entries, b_Store_Halves_0, b_Store_Halves_1, b_Store_Select, b_Contacts, b_Beliefs, b_Cars, b_Loads, b_Expect, b_Lit, b_Tick, b_Faults, b_Refused, ()), ()))))
noncomputable def nkx' : (T'49 × (T'30 × T'30 × Unit)) → Option (((Unit × Unit × Unit) × (T'30 × T'30 × Unit)) ⊕ ((Bool × Unit) × Unit)) := iter (fun x => ngz' x.1.2.2.1 x.2.1.1 x.2.1.2.1 x.2.1.2.2.1 x.2.1.2.2.2.1 x.2.1.2.2.2.2.1 x.2.1.2.2.2.2.2.1 x.2.1.2.2.2.2.2.2.1 x.2.1.2.2.2.2.2.2.2.1 x.2.1.2.2.2.2.2.2.2.2.1 x.2.1.2.2.2.2.2.2.2.2.2.1 x.2.1.2.2.2.2.2.2.2.2.2.2.1 x.2.1.2.2.2.2.2.2.2.2.2.2.2.1 x.2.1.2.2.2.2.2.2.2.2.2.2.2.2.1 x.2.1.2.2.2.2.2.2.2.2.2.2.2.2.2.1 x.2.1.2.2.2.2.2.2.2.2.2.2.2.2.2.2.1 x.2.1.2.2.2.2.2.2.2.2.2.2.2.2.2.2.2.1 x.2.2.1.1 x.2.2.1.2.1 x.2.2.1.2.2.1 x.2.2.1.2.2.2.1 x.2.2.1.2.2.2.2.1 x.2.2.1.2.2.2.2.2.1 x.2.2.1.2.2.2.2.2.2.1 x.2.2.1.2.2.2.2.2.2.2.1 x.2.2.1.2.2.2.2.2.2.2.2.1 x.2.2.1.2.2.2.2.2.2.2.2.2.1 x.2.2.1.2.2.2.2.2.2.2.2.2.2.1 x.2.2.1.2.2.2.2.2.2.2.2.2.2.2.1 x.2.2.1.2.2.2.2.2.2.2.2.2.2.2.2.1 x.2.2.1.2.2.2.2.2.2.2.2.2.2.2.2.2.1 x.2.2.1.2.2.2.2.2.2.2.2.2.2.2.2.2.2.1 x.2.2.1.2.2.2.2.2.2.2.2.2.2.2.2.2.2.2.1) fuel
noncomputable def ngp' (i : Int) (a_Image_Phases : List (Int)) (a_Image_Flags a_Image_Leaving : List (Bool)) (a_Image_Entries : List (Entry)) (a_Store_Halves_0 a_Store_Halves_1 : ByteArray) (a_Store_Select : Int) (a_Contacts : List (Debounced)) (a_Beliefs : List (Belief)) (a_Cars : List (NewCar)) (a_Loads : List (Loaded)) (a_Expect : List (Int)) (a_Lit : List (Calls)) (a_Tick a_Faults a_Refused : Int) (b_Image_Phases : List (Int)) (b_Image_Flags b_Image_Leaving : List (Bool)) (b_Image_Entries : List (Entry)) (b_Store_Halves_0 b_Store_Halves_1 : ByteArray) (b_Store_Select : Int) (b_Contacts : List (Debounced)) (b_Beliefs : List (Belief)) (b_Cars : List (NewCar)) (b_Loads : List (Loaded)) (b_Expect : List (Int)) (b_Lit : List (Calls)) (b_Tick b_Faults b_Refused : Int) : Option (Sum (T'49 × (T'30 × T'30 × Unit)) (((Unit × Unit × Unit) × (T'30 × T'30 × Unit)) ⊕ ((Bool × Unit) × Unit))) :=
 bif (decide (i < ((List.length a_Contacts : Nat) : Int))) then
 bif (inB i (List.length a_Contacts)) then
 let z0 : Debounced := (List.getD a_Contacts (Int.toNat i) (Debounced.mk (0 : Int) false false false false (0 : Int) (0 : Int) (0 : Int) (0 : Int) (0 : Int) (0 : Int) (0 : Int) (0 : Int) (0 : Int) (0 : Int) (0 : Int) (0 : Int) (0 : Int) (0 : Int) (0 : Int) (0 : Int) (0 : Int) (0 : Int) (0 : Int) (0 : Int) (0 : Int) (0 : Int) (0 : Int) (0 : Int) (0 : Int) (0 : Int) (0 : Int) (0 : Int) (0 : Int) (0 : Int) (0 : Int) (0 : Int) (0 : Int) (0 : Int) (0 : Int) (0 : Int)))
 bif (inB i (List.length b_Contacts)) then
 let z1 : Debounced := (List.getD b_Contacts (Int.toNat i) (Debounced.mk (0 : Int) false false false false (0 : Int) (0 : Int) (0 : Int) (0 : Int) (0 : Int) (0 : Int) (0 : Int) (0 : Int) (0 : Int) (0 : Int) (0 : Int) (0 : Int) (0 : Int) (0 : Int) (0 : Int) (0 : Int) (0 : Int) (0 : Int) (0 : Int) (0 : Int) (0 : Int) (0 : Int) (0 : Int) (0 : Int) (0 : Int) (0 : Int) (0 : Int) (0 : Int) (0 : Int) (0 : Int) (0 : Int) (0 : Int) (0 : Int) (0 : Int) (0 : Int) (0 : Int)))
 bif (!((z0.Contacts_Floors == z1.Contacts_Floors) && ((z0.Contacts_Up == z1.Contacts_Up) && ((z0.Contacts_Down == z1.Contacts_Down) && ((z0.Contacts_Open == z1.Contacts_Open) && ((z0.Contacts_Closed == z1.Contacts_Closed) && ((z0.Count_0 == z1.Count_0) && ((z0.Count_1 == z1.Count_1) && ((z0.Count_2 == z1.Count_2) && ((z0.Count_3 == z1.Count_3) && ((z0.Count_4 == z1.Count_4) && ((z0.Count_5 == z1.Count_5) && ((z0.Count_6 == z1.Count_6) && ((z0.Count_7 == z1.Count_7) && ((z0.Count_8 == z1.Count_8) && ((z0.Count_9 == z1.Count_9) && ((z0.Count_10 == z1.Count_10) && ((z0.Count_11 == z1.Count_11) && ((z0.Count_12 == z1.Count_12) && ((z0.Count_13 == z1.Count_13) && ((z0.Count_14 == z1.Count_14) && ((z0.Count_15 == z1.Count_15) && ((z0.Count_16 == z1.Count_16) && ((z0.Count_17 == z1.Count_17) && ((z0.Count_18 == z1.Count_18) && ((z0.Count_19 == z1.Count_19) && ((z0.Count_20 == z1.Count_20) && ((z0.Count_21 == z1.Count_21) && ((z0.Count_22 == z1.Count_22) && ((z0.Count_23 == z1.Count_23) && ((z0.Count_24 == z1.Count_24) && ((z0.Count_25 == z1.Count_25) && ((z0.Count_26 == z1.Count_26) && ((z0.Count_27 == z1.Count_27) && ((z0.Count_28 == z1.Count_28) && ((z0.Count_29 == z1.Count_29) && ((z0.Count_30 == z1.Count_30) && ((z0.Count_31 == z1.Count_31) && ((z0.Count_32 == z1.Count_32) && ((z0.Count_33 == z1.Count_33) && ((z0.Count_34 == z1.Count_34) && ((z0.Count_35 == z1.Count_35) && true)))))))))))))))))))))))))))))))))))))))))) then
 some (Sum.inr (Sum.inr ((false, ()), ())))
 else
 some (Sum.inl (((), (), (IntKind.i64.wrap (i + (1 : Int))), ()), ((a_Image_Phases, a_Image_Flags, a_Image_Leaving, a_Image_Entries, a_Store_Halves_0, a_Store_Halves_1, a_Store_Select, a_Contacts, a_Beliefs, a_Cars, a_Loads, a_Expect, a_Lit, a_Tick, a_Faults, a_Refused, ()), (b_Image_Phases, b_Image_Flags, b_Image_Leaving, b_Image_Entries, b_Store_Halves_0, b_Store_Halves_1, b_Store_Select, b_Contacts, b_Beliefs, b_Cars, b_Loads, b_Expect, b_Lit, b_Tick, b_Faults, b_Refused, ()), ())))
 else
 none
 else
 none
 else
 some (Sum.inr (Sum.inl (((), (), ()), ((a_Image_Phases, a_Image_Flags, a_Image_Leaving, a_Image_Entries, a_Store_Halves_0, a_Store_Halves_1, a_Store_Select, a_Contacts, a_Beliefs, a_Cars, a_Loads, a_Expect, a_Lit, a_Tick, a_Faults, a_Refused, ()), (b_Image_Phases, b_Image_Flags, b_Image_Leaving, b_Image_Entries, b_Store_Halves_0, b_Store_Halves_1, b_Store_Select, b_Contacts, b_Beliefs, b_Cars, b_Loads, b_Expect, b_Lit, b_Tick, b_Faults, b_Refused, ()), ()))))
noncomputable def nkg' : (T'49 × (T'30 × T'30 × Unit)) → Option (((Unit × Unit × Unit) × (T'30 × T'30 × Unit)) ⊕ ((Bool × Unit) × Unit)) := iter (fun x => ngp' x.1.2.2.1 x.2.1.1 x.2.1.2.1 x.2.1.2.2.1 x.2.1.2.2.2.1 x.2.1.2.2.2.2.1 x.2.1.2.2.2.2.2.1 x.2.1.2.2.2.2.2.2.1 x.2.1.2.2.2.2.2.2.2.1 x.2.1.2.2.2.2.2.2.2.2.1 x.2.1.2.2.2.2.2.2.2.2.2.1 x.2.1.2.2.2.2.2.2.2.2.2.2.1 x.2.1.2.2.2.2.2.2.2.2.2.2.2.1 x.2.1.2.2.2.2.2.2.2.2.2.2.2.2.1 x.2.1.2.2.2.2.2.2.2.2.2.2.2.2.2.1 x.2.1.2.2.2.2.2.2.2.2.2.2.2.2.2.2.1 x.2.1.2.2.2.2.2.2.2.2.2.2.2.2.2.2.2.1 x.2.2.1.1 x.2.2.1.2.1 x.2.2.1.2.2.1 x.2.2.1.2.2.2.1 x.2.2.1.2.2.2.2.1 x.2.2.1.2.2.2.2.2.1 x.2.2.1.2.2.2.2.2.2.1 x.2.2.1.2.2.2.2.2.2.2.1 x.2.2.1.2.2.2.2.2.2.2.2.1 x.2.2.1.2.2.2.2.2.2.2.2.2.1 x.2.2.1.2.2.2.2.2.2.2.2.2.2.1 x.2.2.1.2.2.2.2.2.2.2.2.2.2.2.1 x.2.2.1.2.2.2.2.2.2.2.2.2.2.2.2.1 x.2.2.1.2.2.2.2.2.2.2.2.2.2.2.2.2.1 x.2.2.1.2.2.2.2.2.2.2.2.2.2.2.2.2.2.1 x.2.2.1.2.2.2.2.2.2.2.2.2.2.2.2.2.2.2.1) fuel
noncomputable def nej' (a_Image_Phases : List (Int)) (a_Image_Flags a_Image_Leaving : List (Bool)) (a_Image_Entries : List (Entry)) (a_Store_Halves_0 a_Store_Halves_1 : ByteArray) (a_Store_Select : Int) (a_Contacts : List (Debounced)) (a_Beliefs : List (Belief)) (a_Cars : List (NewCar)) (a_Loads : List (Loaded)) (a_Expect : List (Int)) (a_Lit : List (Calls)) (a_Tick a_Faults a_Refused : Int) (b_Image_Phases : List (Int)) (b_Image_Flags b_Image_Leaving : List (Bool)) (b_Image_Entries : List (Entry)) (b_Store_Halves_0 b_Store_Halves_1 : ByteArray) (b_Store_Select : Int) (b_Contacts : List (Debounced)) (b_Beliefs : List (Belief)) (b_Cars : List (NewCar)) (b_Loads : List (Loaded)) (b_Expect : List (Int)) (b_Lit : List (Calls)) (b_Tick b_Faults b_Refused : Int) : Option ((Bool × Unit) × Unit) :=
 (nmd' a_Image_Phases a_Image_Flags a_Image_Leaving a_Image_Entries b_Image_Phases b_Image_Flags b_Image_Leaving b_Image_Entries).bind fun y1 =>
 bif (!y1.1.1) then
 some ((false, ()), ())
 else
 bif (!((eqB a_Store_Halves_0 b_Store_Halves_0) && ((eqB a_Store_Halves_1 b_Store_Halves_1) && ((a_Store_Select == b_Store_Select) && true)))) then
 some ((false, ()), ())
 else
 bif (((List.length a_Contacts : Nat) : Int) != ((List.length b_Contacts : Nat) : Int)) then
 some ((false, ()), ())
 else
 bif (((List.length a_Beliefs : Nat) : Int) != ((List.length b_Beliefs : Nat) : Int)) then
 some ((false, ()), ())
 else
 bif (((List.length a_Cars : Nat) : Int) != ((List.length b_Cars : Nat) : Int)) then
 some ((false, ()), ())
 else
 bif (((List.length a_Loads : Nat) : Int) != ((List.length b_Loads : Nat) : Int)) then
 some ((false, ()), ())
 else
 (nh9' a_Lit b_Lit).bind fun y2 =>
 bif (!y2.1.1) then
 some ((false, ()), ())
 else
 (niq' a_Expect b_Expect).bind fun y3 =>
 bif (!y3.1.1) then
 some ((false, ()), ())
 else
 bif (a_Tick != b_Tick) then
 some ((false, ()), ())
 else
 bif (a_Faults != b_Faults) then
 some ((false, ()), ())
 else
 bif (a_Refused != b_Refused) then
 some ((false, ()), ())
 else
 (nkg' (((), (), (0 : Int), ()), ((a_Image_Phases, a_Image_Flags, a_Image_Leaving, a_Image_Entries, a_Store_Halves_0, a_Store_Halves_1, a_Store_Select, a_Contacts, a_Beliefs, a_Cars, a_Loads, a_Expect, a_Lit, a_Tick, a_Faults, a_Refused, ()), (b_Image_Phases, b_Image_Flags, b_Image_Leaving, b_Image_Entries, b_Store_Halves_0, b_Store_Halves_1, b_Store_Select, b_Contacts, b_Beliefs, b_Cars, b_Loads, b_Expect, b_Lit, b_Tick, b_Faults, b_Refused, ()), ()))).bind fun y4 =>
 (match y4 with
 | .inl y5 =>
 (nkx' (((), (), (0 : Int), ()), (y5.2.1, y5.2.2.1, ()))).bind fun y6 =>
 (match y6 with
 | .inl y7 =>
 (nko' (((), (), (0 : Int), ()), (y7.2.1, y7.2.2.1, ()))).bind fun y8 =>
 (match y8 with
 | .inl y9 =>
 (nj2' (((), (), (0 : Int), ()), (y9.2.1, y9.2.2.1, ()))).bind fun y10 =>
 (match y10 with
 | .inl y11 =>
 some ((true, ()), ())
 | .inr y11 =>
 some ((y11.1.1, ()), ()))
 | .inr y9 =>
 some ((y9.1.1, ()), ()))
 | .inr y7 =>
 some ((y7.1.1, ()), ()))
 | .inr y5 =>
 some ((y5.1.1, ()), ()))
noncomputable def nfy' (n : Int) : Option ((Bool × Unit) × Unit) :=
 Option.bind (bif (decide (n < (0 : Int))) then
 some ((true, ()), ())
 else
 some (((decide ((1000000 : Int) < n)), ()), ())) fun y1 =>
 some ((y1.1.1, ()), ())
noncomputable def nx' (s : List (Int)) (s7 s8 : Int) : Option (Sum (T'62 × Unit) ((Unit × Unit) ⊕ ((Int × Unit) × Unit))) :=
 bif (decide (s8 < s7)) then
 bif (inB s8 (List.length s)) then
 (nfy' (List.getD s (Int.toNat s8) (0 : Int))).bind fun y1 =>
 bif y1.1.1 then
 some (Sum.inr (Sum.inr ((s8, ()), ())))
 else
 some (Sum.inl ((s, (), s7, (IntKind.i64.wrap (s8 + (1 : Int))), ()), ()))
 else
 none
 else
 some (Sum.inr (Sum.inl ((), ())))
noncomputable def nbm' : (T'62 × Unit) → Option ((Unit × Unit) ⊕ ((Int × Unit) × Unit)) := iter (fun x => nx' x.1.1 x.1.2.2.1 x.1.2.2.2.1) fuel
noncomputable def nci' (s : List (Int)) : Option ((Int × Unit) × Unit) :=
 (nbm' ((s, (), ((List.length s : Nat) : Int), (0 : Int), ()), ())).bind fun y1 =>
 (match y1 with
 | .inl y2 =>
 some (((-1 : Int), ()), ())
 | .inr y2 =>
 some ((y2.1.1, ()), ()))
noncomputable def nb7' (s : List (Int)) : Option ((Bool × Unit) × Unit) :=
 (nci' s).bind fun y1 =>
 some (((decide ((0 : Int) ≤ y1.1.1)), ()), ())
noncomputable def nfh' (l : List (Int)) : Option ((Bool × Unit) × Unit) :=
 (nb7' l).bind fun y1 =>
 some (((!y1.1.1), ()), ())
noncomputable def ndh' (n s14_0 s14_1 s14_2 s14_3 s14_4 s14_5 s14_6 s14_7 s14_8 s14_9 s14_10 s14_11 s14_12 s14_13 s14_14 s14_15 s14_16 s14_17 s14_18 s14_19 s14_20 s14_21 s14_22 s14_23 s14_24 s14_25 s14_26 s14_27 s14_28 s14_29 s14_30 s14_31 s14_32 s14_33 s14_34 s14_35 s15 : Int) : Option (Sum ((Int × T'63 × Int × Unit) × Unit) ((Unit × Unit) ⊕ ((Bool × Unit) × Unit))) :=
 bif (decide (s15 < (36 : Int))) then
 bif (inB s15 36) then
 let z0 : Int := (List.getD [s14_0, s14_1, s14_2, s14_3, s14_4, s14_5, s14_6, s14_7, s14_8, s14_9, s14_10, s14_11, s14_12, s14_13, s14_14, s14_15, s14_16, s14_17, s14_18, s14_19, s14_20, s14_21, s14_22, s14_23, s14_24, s14_25, s14_26, s14_27, s14_28, s14_29, s14_30, s14_31, s14_32, s14_33, s14_34, s14_35] (Int.toNat s15) (0 : Int))
 bif (decide (z0 < (0 : Int))) then
 some (Sum.inr (Sum.inr ((false, ()), ())))
 else
 bif (decide (n ≤ z0)) then
 some (Sum.inr (Sum.inr ((false, ()), ())))
 else
 some (Sum.inl ((n, (s14_0, s14_1, s14_2, s14_3, s14_4, s14_5, s14_6, s14_7, s14_8, s14_9, s14_10, s14_11, s14_12, s14_13, s14_14, s14_15, s14_16, s14_17, s14_18, s14_19, s14_20, s14_21, s14_22, s14_23, s14_24, s14_25, s14_26, s14_27, s14_28, s14_29, s14_30, s14_31, s14_32, s14_33, s14_34, s14_35, ()), (IntKind.i64.wrap (s15 + (1 : Int))), ()), ()))
 else
 none
 else
 some (Sum.inr (Sum.inl ((), ())))
noncomputable def nfj' : ((Int × T'63 × Int × Unit) × Unit) → Option ((Unit × Unit) ⊕ ((Bool × Unit) × Unit)) := iter (fun x => ndh' x.1.1 x.1.2.1.1 x.1.2.1.2.1 x.1.2.1.2.2.1 x.1.2.1.2.2.2.1 x.1.2.1.2.2.2.2.1 x.1.2.1.2.2.2.2.2.1 x.1.2.1.2.2.2.2.2.2.1 x.1.2.1.2.2.2.2.2.2.2.1 x.1.2.1.2.2.2.2.2.2.2.2.1 x.1.2.1.2.2.2.2.2.2.2.2.2.1 x.1.2.1.2.2.2.2.2.2.2.2.2.2.1 x.1.2.1.2.2.2.2.2.2.2.2.2.2.2.1 x.1.2.1.2.2.2.2.2.2.2.2.2.2.2.2.1 x.1.2.1.2.2.2.2.2.2.2.2.2.2.2.2.2.1 x.1.2.1.2.2.2.2.2.2.2.2.2.2.2.2.2.2.1 x.1.2.1.2.2.2.2.2.2.2.2.2.2.2.2.2.2.2.1 x.1.2.1.2.2.2.2.2.2.2.2.2.2.2.2.2.2.2.2.1 x.1.2.1.2.2.2.2.2.2.2.2.2.2.2.2.2.2.2.2.2.1 x.1.2.1.2.2.2.2.2.2.2.2.2.2.2.2.2.2.2.2.2.2.1 x.1.2.1.2.2.2.2.2.2.2.2.2.2.2.2.2.2.2.2.2.2.2.1 x.1.2.1.2.2.2.2.2.2.2.2.2.2.2.2.2.2.2.2.2.2.2.2.1 x.1.2.1.2.2.2.2.2.2.2.2.2.2.2.2.2.2.2.2.2.2.2.2.2.1 x.1.2.1.2.2.2.2.2.2.2.2.2.2.2.2.2.2.2.2.2.2.2.2.2.2.1 x.1.2.1.2.2.2.2.2.2.2.2.2.2.2.2.2.2.2.2.2.2.2.2.2.2.2.1 x.1.2.1.2.2.2.2.2.2.2.2.2.2.2.2.2.2.2.2.2.2.2.2.2.2.2.2.1 x.1.2.1.2.2.2.2.2.2.2.2.2.2.2.2.2.2.2.2.2.2.2.2.2.2.2.2.2.1 x.1.2.1.2.2.2.2.2.2.2.2.2.2.2.2.2.2.2.2.2.2.2.2.2.2.2.2.2.2.1 x.1.2.1.2.2.2.2.2.2.2.2.2.2.2.2.2.2.2.2.2.2.2.2.2.2.2.2.2.2.2.1 x.1.2.1.2.2.2.2.2.2.2.2.2.2.2.2.2.2.2.2.2.2.2.2.2.2.2.2.2.2.2.2.1 x.1.2.1.2.2.2.2.2.2.2.2.2.2.2.2.2.2.2.2.2.2.2.2.2.2.2.2.2.2.2.2.2.1 x.1.2.1.2.2.2.2.2.2.2.2.2.2.2.2.2.2.2.2.2.2.2.2.2.2.2.2.2.2.2.2.2.2.1 x.1.2.1.2.2.2.2.2.2.2.2.2.2.2.2.2.2.2.2.2.2.2.2.2.2.2.2.2.2.2.2.2.2.2.1 x.1.2.1.2.2.2.2.2.2.2.2.2.2.2.2.2.2.2.2.2.2.2.2.2.2.2.2.2.2.2.2.2.2.2.2.1 x.1.2.1.2.2.2.2.2.2.2.2.2.2.2.2.2.2.2.2.2.2.2.2.2.2.2.2.2.2.2.2.2.2.2.2.2.1 x.1.2.1.2.2.2.2.2.2.2.2.2.2.2.2.2.2.2.2.2.2.2.2.2.2.2.2.2.2.2.2.2.2.2.2.2.2.1 x.1.2.1.2.2.2.2.2.2.2.2.2.2.2.2.2.2.2.2.2.2.2.2.2.2.2.2.2.2.2.2.2.2.2.2.2.2.2.1 x.1.2.2.1) fuel
noncomputable def nga' (n s_Contacts_Floors : Int) (s_Contacts_Up s_Contacts_Down s_Contacts_Open s_Contacts_Closed : Bool) (s_Count_0 s_Count_1 s_Count_2 s_Count_3 s_Count_4 s_Count_5 s_Count_6 s_Count_7 s_Count_8 s_Count_9 s_Count_10 s_Count_11 s_Count_12 s_Count_13 s_Count_14 s_Count_15 s_Count_16 s_Count_17 s_Count_18 s_Count_19 s_Count_20 s_Count_21 s_Count_22 s_Count_23 s_Count_24 s_Count_25 s_Count_26 s_Count_27 s_Count_28 s_Count_29 s_Count_30 s_Count_31 s_Count_32 s_Count_33 s_Count_34 s_Count_35 : Int) : Option ((Bool × Unit) × Unit) :=
 bif (decide (n < (1 : Int))) then
 some ((false, ()), ())
 else
 bif (decide ((16 : Int) < n)) then
 some ((false, ()), ())
 else
 (nfj' ((n, (s_Count_0, s_Count_1, s_Count_2, s_Count_3, s_Count_4, s_Count_5, s_Count_6, s_Count_7, s_Count_8, s_Count_9, s_Count_10, s_Count_11, s_Count_12, s_Count_13, s_Count_14, s_Count_15, s_Count_16, s_Count_17, s_Count_18, s_Count_19, s_Count_20, s_Count_21, s_Count_22, s_Count_23, s_Count_24, s_Count_25, s_Count_26, s_Count_27, s_Count_28, s_Count_29, s_Count_30, s_Count_31, s_Count_32, s_Count_33, s_Count_34, s_Count_35, ()), (0 : Int), ()), ())).bind fun y1 =>
 (match y1 with
 | .inl y2 =>
 some ((true, ()), ())
 | .inr y2 =>
 some ((y2.1.1, ()), ()))
noncomputable def nd7' (_ s_Contacts_Floors : Int) (s_Contacts_Up s_Contacts_Down s_Contacts_Open s_Contacts_Closed : Bool) (s_Count_0 s_Count_1 s_Count_2 s_Count_3 s_Count_4 s_Count_5 s_Count_6 s_Count_7 s_Count_8 s_Count_9 s_Count_10 s_Count_11 s_Count_12 s_Count_13 s_Count_14 s_Count_15 s_Count_16 s_Count_17 s_Count_18 s_Count_19 s_Count_20 s_Count_21 s_Count_22 s_Count_23 s_Count_24 s_Count_25 s_Count_26 s_Count_27 s_Count_28 s_Count_29 s_Count_30 s_Count_31 s_Count_32 s_Count_33 s_Count_34 s_Count_35 b0_Floors b0_Debounce b0_Room b0_Park : Int) (b0_Empty b0_Full b0_Over : Nat) (b0_Cars : List (Car)) : Option ((Bool × Unit) × (T'0 × Unit)) :=
 (nga' b0_Debounce s_Contacts_Floors s_Contacts_Up s_Contacts_Down s_Contacts_Open s_Contacts_Closed s_Count_0 s_Count_1 s_Count_2 s_Count_3 s_Count_4 s_Count_5 s_Count_6 s_Count_7 s_Count_8 s_Count_9 s_Count_10 s_Count_11 s_Count_12 s_Count_13 s_Count_14 s_Count_15 s_Count_16 s_Count_17 s_Count_18 s_Count_19 s_Count_20 s_Count_21 s_Count_22 s_Count_23 s_Count_24 s_Count_25 s_Count_26 s_Count_27 s_Count_28 s_Count_29 s_Count_30 s_Count_31 s_Count_32 s_Count_33 s_Count_34 s_Count_35).bind fun y1 =>
 some ((y1.1.1, ()), ((b0_Floors, b0_Debounce, b0_Room, b0_Park, b0_Empty, b0_Full, b0_Over, b0_Cars, ()), ()))
noncomputable def no' (s13 : List (Debounced)) (s14 s15 b0_Floors b0_Debounce b0_Room b0_Park : Int) (b0_Empty b0_Full b0_Over : Nat) (b0_Cars : List (Car)) : Option (Sum (T'64 × (T'0 × Unit)) ((Unit × (T'0 × Unit)) ⊕ ((Bool × Unit) × (T'0 × Unit)))) :=
 bif (decide (s15 < s14)) then
 bif (inB s15 (List.length s13)) then
 let z0 : Debounced := (List.getD s13 (Int.toNat s15) (Debounced.mk (0 : Int) false false false false (0 : Int) (0 : Int) (0 : Int) (0 : Int) (0 : Int) (0 : Int) (0 : Int) (0 : Int) (0 : Int) (0 : Int) (0 : Int) (0 : Int) (0 : Int) (0 : Int) (0 : Int) (0 : Int) (0 : Int) (0 : Int) (0 : Int) (0 : Int) (0 : Int) (0 : Int) (0 : Int) (0 : Int) (0 : Int) (0 : Int) (0 : Int) (0 : Int) (0 : Int) (0 : Int) (0 : Int) (0 : Int) (0 : Int) (0 : Int) (0 : Int) (0 : Int)))
 (nd7' s15 z0.Contacts_Floors z0.Contacts_Up z0.Contacts_Down z0.Contacts_Open z0.Contacts_Closed z0.Count_0 z0.Count_1 z0.Count_2 z0.Count_3 z0.Count_4 z0.Count_5 z0.Count_6 z0.Count_7 z0.Count_8 z0.Count_9 z0.Count_10 z0.Count_11 z0.Count_12 z0.Count_13 z0.Count_14 z0.Count_15 z0.Count_16 z0.Count_17 z0.Count_18 z0.Count_19 z0.Count_20 z0.Count_21 z0.Count_22 z0.Count_23 z0.Count_24 z0.Count_25 z0.Count_26 z0.Count_27 z0.Count_28 z0.Count_29 z0.Count_30 z0.Count_31 z0.Count_32 z0.Count_33 z0.Count_34 z0.Count_35 b0_Floors b0_Debounce b0_Room b0_Park b0_Empty b0_Full b0_Over b0_Cars).bind fun y1 =>
 bif (!y1.1.1) then
 some (Sum.inr (Sum.inr ((false, ()), (y1.2.1, ()))))
 else
 some (Sum.inl (((), s13, s14, (IntKind.i64.wrap (s15 + (1 : Int))), ()), (y1.2.1, ())))
 else
 none
 else
 some (Sum.inr (Sum.inl ((), ((b0_Floors, b0_Debounce, b0_Room, b0_Park, b0_Empty, b0_Full, b0_Over, b0_Cars, ()), ()))))
noncomputable def n6' : (T'64 × (T'0 × Unit)) → Option ((Unit × (T'0 × Unit)) ⊕ ((Bool × Unit) × (T'0 × Unit))) := iter (fun x => no' x.1.2.1 x.1.2.2.1 x.1.2.2.2.1 x.2.1.1 x.2.1.2.1 x.2.1.2.2.1 x.2.1.2.2.2.1 x.2.1.2.2.2.2.1 x.2.1.2.2.2.2.2.1 x.2.1.2.2.2.2.2.2.1 x.2.1.2.2.2.2.2.2.2.1) fuel
noncomputable def n9' (l : List (Debounced)) (n b0_Floors b0_Debounce b0_Room b0_Park : Int) (b0_Empty b0_Full b0_Over : Nat) (b0_Cars : List (Car)) : Option ((Bool × Unit) × (T'0 × Unit)) :=
 bif (((List.length l : Nat) : Int) != n) then
 some ((false, ()), ((b0_Floors, b0_Debounce, b0_Room, b0_Park, b0_Empty, b0_Full, b0_Over, b0_Cars, ()), ()))
 else
 (n6' (((), l, ((List.length l : Nat) : Int), (0 : Int), ()), ((b0_Floors, b0_Debounce, b0_Room, b0_Park, b0_Empty, b0_Full, b0_Over, b0_Cars, ()), ()))).bind fun y1 =>
 (match y1 with
 | .inl y2 =>
 some ((true, ()), (y2.2.1, ()))
 | .inr y2 =>
 some ((y2.1.1, ()), (y2.2.1, ())))
noncomputable def ncx' (n lo hi : Int) : Option ((Bool × Unit) × Unit) :=
 Option.bind (bif (decide (lo ≤ n)) then
 some (((decide (n ≤ hi)), ()), ())
 else
 some ((false, ()), ())) fun y1 =>
 some ((y1.1.1, ()), ())
noncomputable def nha' (a_Floor a_Dir a_Age b_Floor b_Dir b_Age : Int) : Option ((Int × Unit) × Unit) :=
 (nda' a_Floor b_Floor).bind fun y1 =>
 (nda' a_Dir b_Dir).bind fun y2 =>
 (nia' [y1.1.1, y2.1.1]).bind fun y3 =>
 some ((y3.1.1, ()), ())
noncomputable def ndn' (car : Int) (s59 : List (Duty)) (s60 s61 b_Floors b_Debounce b_Room b_Park : Int) (b_Empty b_Full b_Over : Nat) (b_Cars : List (Car)) (s_Floor s_Dir s_Door : Int) (s_Duties : List (Duty)) (s_Still : Int) (s_Late : Bool) : Option (Sum (T'65 × (T'0 × T'29 × Unit)) ((Unit × Unit) ⊕ ((Bool × Unit) × Unit))) :=
 bif (decide (s61 < s60)) then
 bif (inB s61 (List.length s59)) then
 let z0 : Duty := (List.getD s59 (Int.toNat s61) (Duty.mk (0 : Int) (0 : Int) (0 : Int)))
 Option.bind ((nd1' b_Floors b_Debounce b_Room b_Park b_Empty b_Full b_Over b_Cars z0.Floor z0.Dir).bind fun y1 =>
 bif (!y1.1.1) then
 some ((car, (), (), s59, s60, s61, true, ()), ((b_Floors, b_Debounce, b_Room, b_Park, b_Empty, b_Full, b_Over, b_Cars, ()), (s_Floor, s_Dir, s_Door, s_Duties, s_Still, s_Late, ()), ()))
 else
 bif (inB car (List.length b_Cars)) then
 (ncx' z0.Age (0 : Int) (List.getD b_Cars (Int.toNat car) (Car.mk (0 : Int) (0 : Int) (0 : Int) (0 : Int) (0 : Int) (0 : Int) (0 : Int) (0 : Int) (0 : Int))).Deadline).bind fun y2 =>
 bif (!y2.1.1) then
 some ((car, (), (), s59, s60, s61, true, ()), ((b_Floors, b_Debounce, b_Room, b_Park, b_Empty, b_Full, b_Over, b_Cars, ()), (s_Floor, s_Dir, s_Door, s_Duties, s_Still, s_Late, ()), ()))
 else
 bif (decide ((0 : Int) < s61)) then
 let z1 : Int := (IntKind.i64.wrap (s61 - (1 : Int)))
 bif (inB z1 (List.length s_Duties)) then
 let z2 : Duty := (List.getD s_Duties (Int.toNat z1) (Duty.mk (0 : Int) (0 : Int) (0 : Int)))
 (nha' z2.Floor z2.Dir z2.Age z0.Floor z0.Dir z0.Age).bind fun y3 =>
 some ((car, (), (), s59, s60, s61, (decide ((0 : Int) ≤ y3.1.1)), ()), ((b_Floors, b_Debounce, b_Room, b_Park, b_Empty, b_Full, b_Over, b_Cars, ()), (s_Floor, s_Dir, s_Door, s_Duties, s_Still, s_Late, ()), ()))
 else
 none
 else
 some ((car, (), (), s59, s60, s61, false, ()), ((b_Floors, b_Debounce, b_Room, b_Park, b_Empty, b_Full, b_Over, b_Cars, ()), (s_Floor, s_Dir, s_Door, s_Duties, s_Still, s_Late, ()), ()))
 else
 none) fun y4 =>
 bif y4.1.2.2.2.2.2.2.1 then
 some (Sum.inr (Sum.inr ((false, ()), ())))
 else
 some (Sum.inl ((y4.1.1, (), (), y4.1.2.2.2.1, y4.1.2.2.2.2.1, (IntKind.i64.wrap (y4.1.2.2.2.2.2.1 + (1 : Int))), ()), (y4.2.1, y4.2.2.1, ())))
 else
 none
 else
 some (Sum.inr (Sum.inl ((), ())))
noncomputable def nf0' : (T'65 × (T'0 × T'29 × Unit)) → Option ((Unit × Unit) ⊕ ((Bool × Unit) × Unit)) := iter (fun x => ndn' x.1.1 x.1.2.2.2.1 x.1.2.2.2.2.1 x.1.2.2.2.2.2.1 x.2.1.1 x.2.1.2.1 x.2.1.2.2.1 x.2.1.2.2.2.1 x.2.1.2.2.2.2.1 x.2.1.2.2.2.2.2.1 x.2.1.2.2.2.2.2.2.1 x.2.1.2.2.2.2.2.2.2.1 x.2.2.1.1 x.2.2.1.2.1 x.2.2.1.2.2.1 x.2.2.1.2.2.2.1 x.2.2.1.2.2.2.2.1 x.2.2.1.2.2.2.2.2.1) fuel
noncomputable def ng5' (b_Floors b_Debounce b_Room b_Park : Int) (b_Empty b_Full b_Over : Nat) (b_Cars : List (Car)) (car s_Floor s_Dir s_Door : Int) (s_Duties : List (Duty)) (s_Still : Int) (s_Late : Bool) : Option ((Bool × Unit) × Unit) :=
 Option.bind ((nby' b_Floors b_Debounce b_Room b_Park b_Empty b_Full b_Over b_Cars).bind fun y1 =>
 bif (y1.1.1 != (0 : Int)) then
 some ((car, (), (), true, ()), ((b_Floors, b_Debounce, b_Room, b_Park, b_Empty, b_Full, b_Over, b_Cars, ()), (s_Floor, s_Dir, s_Door, s_Duties, s_Still, s_Late, ()), ()))
 else
 (ncx' car (0 : Int) (IntKind.i64.wrap (((List.length b_Cars : Nat) : Int) - (1 : Int)))).bind fun y2 =>
 bif (!y2.1.1) then
 some ((car, (), (), true, ()), ((b_Floors, b_Debounce, b_Room, b_Park, b_Empty, b_Full, b_Over, b_Cars, ()), (s_Floor, s_Dir, s_Door, s_Duties, s_Still, s_Late, ()), ()))
 else
 (ncx' s_Floor (-1 : Int) (IntKind.i64.wrap (b_Floors - (1 : Int)))).bind fun y3 =>
 bif (!y3.1.1) then
 some ((car, (), (), true, ()), ((b_Floors, b_Debounce, b_Room, b_Park, b_Empty, b_Full, b_Over, b_Cars, ()), (s_Floor, s_Dir, s_Door, s_Duties, s_Still, s_Late, ()), ()))
 else
 (ncx' s_Dir (0 : Int) (3 : Int)).bind fun y4 =>
 bif (!y4.1.1) then
 some ((car, (), (), true, ()), ((b_Floors, b_Debounce, b_Room, b_Park, b_Empty, b_Full, b_Over, b_Cars, ()), (s_Floor, s_Dir, s_Door, s_Duties, s_Still, s_Late, ()), ()))
 else
 (ncx' s_Door (0 : Int) (3 : Int)).bind fun y5 =>
 bif (!y5.1.1) then
 some ((car, (), (), true, ()), ((b_Floors, b_Debounce, b_Room, b_Park, b_Empty, b_Full, b_Over, b_Cars, ()), (s_Floor, s_Dir, s_Door, s_Duties, s_Still, s_Late, ()), ()))
 else
 (ncx' s_Still (0 : Int) (1000000 : Int)).bind fun y6 =>
 bif (!y6.1.1) then
 some ((car, (), (), true, ()), ((b_Floors, b_Debounce, b_Room, b_Park, b_Empty, b_Full, b_Over, b_Cars, ()), (s_Floor, s_Dir, s_Door, s_Duties, s_Still, s_Late, ()), ()))
 else
 bif s_Late then
 some ((car, (), (), (decide ((0 : Int) < ((List.length s_Duties : Nat) : Int))), ()), ((b_Floors, b_Debounce, b_Room, b_Park, b_Empty, b_Full, b_Over, b_Cars, ()), (s_Floor, s_Dir, s_Door, s_Duties, s_Still, s_Late, ()), ()))
 else
 some ((car, (), (), false, ()), ((b_Floors, b_Debounce, b_Room, b_Park, b_Empty, b_Full, b_Over, b_Cars, ()), (s_Floor, s_Dir, s_Door, s_Duties, s_Still, s_Late, ()), ()))) fun y7 =>
 bif y7.1.2.2.2.1 then
 some ((false, ()), ())
 else
 (nf0' ((y7.1.1, (), (), y7.2.2.1.2.2.2.1, ((List.length y7.2.2.1.2.2.2.1 : Nat) : Int), (0 : Int), ()), (y7.2.1, y7.2.2.1, ()))).bind fun y8 =>
 (match y8 with
 | .inl y9 =>
 some ((true, ()), ())
 | .inr y9 =>
 some ((y9.1.1, ()), ()))
noncomputable def neb' (i s_Floor s_Dir s_Door : Int) (s_Duties : List (Duty)) (s_Still : Int) (s_Late : Bool) (b0_Floors b0_Debounce b0_Room b0_Park : Int) (b0_Empty b0_Full b0_Over : Nat) (b0_Cars : List (Car)) : Option ((Bool × Unit) × (T'0 × Unit)) :=
 (ng5' b0_Floors b0_Debounce b0_Room b0_Park b0_Empty b0_Full b0_Over b0_Cars i s_Floor s_Dir s_Door s_Duties s_Still s_Late).bind fun y1 =>
 some ((y1.1.1, ()), ((b0_Floors, b0_Debounce, b0_Room, b0_Park, b0_Empty, b0_Full, b0_Over, b0_Cars, ()), ()))
noncomputable def nq' (s13 : List (Belief)) (s14 s15 b0_Floors b0_Debounce b0_Room b0_Park : Int) (b0_Empty b0_Full b0_Over : Nat) (b0_Cars : List (Car)) : Option (Sum (T'66 × (T'0 × Unit)) ((Unit × (T'0 × Unit)) ⊕ ((Bool × Unit) × (T'0 × Unit)))) :=
 bif (decide (s15 < s14)) then
 bif (inB s15 (List.length s13)) then
 let z0 : Belief := (List.getD s13 (Int.toNat s15) (Belief.mk (0 : Int) (0 : Int) (0 : Int) [] (0 : Int) false))
 (neb' s15 z0.Floor z0.Dir z0.Door z0.Duties z0.Still z0.Late b0_Floors b0_Debounce b0_Room b0_Park b0_Empty b0_Full b0_Over b0_Cars).bind fun y1 =>
 bif (!y1.1.1) then
 some (Sum.inr (Sum.inr ((false, ()), (y1.2.1, ()))))
 else
 some (Sum.inl (((), s13, s14, (IntKind.i64.wrap (s15 + (1 : Int))), ()), (y1.2.1, ())))
 else
 none
 else
 some (Sum.inr (Sum.inl ((), ((b0_Floors, b0_Debounce, b0_Room, b0_Park, b0_Empty, b0_Full, b0_Over, b0_Cars, ()), ()))))
noncomputable def nbd' : (T'66 × (T'0 × Unit)) → Option ((Unit × (T'0 × Unit)) ⊕ ((Bool × Unit) × (T'0 × Unit))) := iter (fun x => nq' x.1.2.1 x.1.2.2.1 x.1.2.2.2.1 x.2.1.1 x.2.1.2.1 x.2.1.2.2.1 x.2.1.2.2.2.1 x.2.1.2.2.2.2.1 x.2.1.2.2.2.2.2.1 x.2.1.2.2.2.2.2.2.1 x.2.1.2.2.2.2.2.2.2.1) fuel
noncomputable def nbh' (l : List (Belief)) (n b0_Floors b0_Debounce b0_Room b0_Park : Int) (b0_Empty b0_Full b0_Over : Nat) (b0_Cars : List (Car)) : Option ((Bool × Unit) × (T'0 × Unit)) :=
 bif (((List.length l : Nat) : Int) != n) then
 some ((false, ()), ((b0_Floors, b0_Debounce, b0_Room, b0_Park, b0_Empty, b0_Full, b0_Over, b0_Cars, ()), ()))
 else
 (nbd' (((), l, ((List.length l : Nat) : Int), (0 : Int), ()), ((b0_Floors, b0_Debounce, b0_Room, b0_Park, b0_Empty, b0_Full, b0_Over, b0_Cars, ()), ()))).bind fun y1 =>
 (match y1 with
 | .inl y2 =>
 some ((true, ()), (y2.2.1, ()))
 | .inr y2 =>
 some ((y2.1.1, ()), (y2.2.1, ())))
noncomputable def ne0' (w_Dir w_Opened : Int) : Option ((Bool × Unit) × Unit) :=
 Option.bind (bif (decide ((0 : Int) ≤ w_Dir)) then
 bif (decide (w_Dir ≤ (2 : Int))) then
 bif (decide ((0 : Int) ≤ w_Opened)) then
 some (((decide (w_Opened ≤ (7 : Int))), ()), ())
 else
 some ((false, ()), ())
 else
 some ((false, ()), ())
 else
 some ((false, ()), ())) fun y1 =>
 some ((y1.1.1, ()), ())
noncomputable def ne3' (n : Int) : Option ((Bool × Unit) × Unit) :=
 Option.bind (bif (decide ((0 : Int) ≤ n)) then
 some (((decide (n ≤ (1000000 : Int))), ()), ())
 else
 some ((false, ()), ())) fun y1 =>
 some ((y1.1.1, ()), ())
noncomputable def nih' (s_Stage s_Time s_Since : Int) (s_Nudge : Bool) (s_Cycles : Int) : Option ((Bool × Unit) × Unit) :=
 bif (s_Stage == (0 : Int)) then
 some ((((s_Stage == (0 : Int)) && ((s_Time == (0 : Int)) && ((s_Since == (0 : Int)) && ((s_Nudge == false) && ((s_Cycles == (0 : Int)) && true))))), ()), ())
 else
 Option.bind (bif (decide ((0 : Int) ≤ s_Stage)) then
 bif (decide (s_Stage ≤ (3 : Int))) then
 (ne3' s_Time).bind fun y1 =>
 bif y1.1.1 then
 (ne3' s_Since).bind fun y2 =>
 bif y2.1.1 then
 (ne3' s_Cycles).bind fun y3 =>
 some ((y3.1.1, ()), ())
 else
 some ((false, ()), ())
 else
 some ((false, ()), ())
 else
 some ((false, ()), ())
 else
 some ((false, ()), ())) fun y4 =>
 some ((y4.1.1, ()), ())
noncomputable def nky' (floors floor command : Int) : Option ((Int × Bool × Unit) × Unit) :=
 Option.bind (bif (command != (1 : Int)) then
 some ((floors, floor, command, (command != (2 : Int)), ()), ())
 else
 some ((floors, floor, command, false, ()), ())) fun y1 =>
 bif y1.1.2.2.2.1 then
 some (((0 : Int), false, ()), ())
 else
 bif (inB y1.1.2.2.1 3) then
 let z0 : Int := (IntKind.i64.wrap (y1.1.2.1 + (List.getD [(0 : Int), (1 : Int), (-1 : Int)] (Int.toNat y1.1.2.2.1) (0 : Int))))
 Option.bind (bif (decide ((0 : Int) ≤ z0)) then
 some ((z0, (decide (z0 < y1.1.1)), ()), ())
 else
 some ((z0, false, ()), ())) fun y2 =>
 some ((y2.1.1, y2.1.2.1, ()), ())
 else
 none
noncomputable def nhc' (floors s_Command s_Time s_Floor : Int) : Option ((Bool × Unit) × Unit) :=
 bif (decide (floors < (2 : Int))) then
 some ((false, ()), ())
 else
 bif (decide ((32 : Int) < floors)) then
 some ((false, ()), ())
 else
 bif (decide (s_Time < (0 : Int))) then
 some ((false, ()), ())
 else
 bif (decide ((1000000 : Int) < s_Time)) then
 some ((false, ()), ())
 else
 bif (decide (s_Floor < (0 : Int))) then
 some ((false, ()), ())
 else
 bif (decide (floors ≤ s_Floor)) then
 some ((false, ()), ())
 else
 bif (s_Command == (0 : Int)) then
 some (((s_Floor == (0 : Int)), ()), ())
 else
 (nky' floors s_Floor s_Command).bind fun y1 =>
 some ((y1.1.2.1, ()), ())
end Go.Ovl
