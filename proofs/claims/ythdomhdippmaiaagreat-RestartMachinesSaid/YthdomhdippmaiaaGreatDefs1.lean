/- What each function of the program comes to: part 1. -/
import Derived.Test.YthdomhdippmaiaaGreatTy
namespace Go.Ovl
open Go Go.Ab
set_option maxRecDepth 100000
@[reducible] def T'0 : Type := (Int × Int × Int × Int × Nat × Nat × Nat × List (Car) × Unit)
@[reducible] def T'1 : Type := (Int × Int × Unit × Unit × Int × Unit)
@[reducible] def T'2 : Type := (Int × Int × List (Int) × Int × Int × Unit)
@[reducible] def T'3 : Type := (Unit × Bool × List (Car) × Int × Int × Unit)
@[reducible] def T'4 : Type := (List (Int) × List (Bool) × List (Bool) × List (Entry) × Unit)
@[reducible] def T'5 : Type := (ByteArray × Int × Int × Int × Unit)
@[reducible] def T'6 : Type := (ByteArray × Int × Int × Int × Int × Unit)
@[reducible] def T'7 : Type := (Int × Int × Int × Int × Int × Unit)
@[reducible] def T'8 : Type := (List (Record) × Int × Unit)
@[reducible] def T'9 : Type := (ByteArray × Unit × List (Record) × Int × Unit)
@[reducible] def T'10 : Type := (Int × List (Int) × Int × Int × Unit)
@[reducible] def T'11 : Type := (List (Entry) × Unit × Unit × Int × Int × Int × Unit)
@[reducible] def T'12 : Type := (Int × Int × Int × Int × Bool × Unit)
@[reducible] def T'13 : Type := (List (Entry) × Unit × Unit × Int × Int × Unit)
@[reducible] def T'14 : Type := (Unit × Unit × List (Record) × Int × Int × Unit)
@[reducible] def T'15 : Type := (Unit × Unit × List (Int) × Int × Int × Unit)
@[reducible] def T'16 : Type := (Unit × Unit × List (Entry) × Int × Int × Unit)
@[reducible] def T'17 : Type := ((List (Record) × Unit) × (Int × Unit) × Unit)
@[reducible] def T'18 : Type := ((List (Record) × Unit) × T'12 × Unit)
@[reducible] def T'19 : Type := (Unit × Unit × Int × Int × Unit)
@[reducible] def T'20 : Type := (T'4 × (List (Record) × Unit) × Unit)
@[reducible] def T'21 : Type := (Unit × List (Entry) × Int × Int × Unit)
@[reducible] def T'22 : Type := ((List (Record) × Unit) × Unit)
@[reducible] def T'23 : Type := (Unit × List (Int) × Unit)
@[reducible] def T'24 : Type := (ByteArray × ByteArray × Int × Unit)
@[reducible] def T'25 : Type := (T'24 × (Int × Unit) × Unit)
@[reducible] def T'26 : Type := (Int × Unit × Unit × Unit × Unit × List (Record) × Int × Int × Unit)
@[reducible] def T'27 : Type := (T'0 × T'24 × T'24 × T'23 × Unit)
@[reducible] def T'28 : Type := (Int × Unit × Unit × Unit × Unit × Unit)
@[reducible] def T'29 : Type := (Int × Int × Int × List (Duty) × Int × Bool × Unit)
@[reducible] def T'30 : Type := (List (Int) × List (Bool) × List (Bool) × List (Entry) × ByteArray × ByteArray × Int × List (Debounced) × List (Belief) × List (NewCar) × List (Loaded) × List (Int) × List (Calls) × Int × Int × Int × Unit)
@[reducible] def T'31 : Type := (Unit × Unit × Unit × Unit × Int × Int × Unit)
@[reducible] def T'32 : Type := (T'0 × T'4 × T'30 × T'30 × Unit)
@[reducible] def T'33 : Type := (Unit × Unit × Unit × Unit × Unit)
@[reducible] def T'34 : Type := (Unit × Unit × Unit × List (Entry) × Int × Int × Unit)
@[reducible] def T'35 : Type := (T'0 × T'30 × T'30 × Unit)
@[reducible] def T'36 : Type := (List (Debounced) × List (Debounced) × Int × Int × Unit)
@[reducible] def T'37 : Type := (List (Duty) × List (Duty) × Int × Int × Unit)
@[reducible] def T'38 : Type := (List (Belief) × Unit × List (Belief) × Int × Int × Unit)
@[reducible] def T'39 : Type := (List (NewCar) × List (NewCar) × Int × Int × Unit)
@[reducible] def T'40 : Type := (List (Loaded) × List (Loaded) × Int × Int × Unit)
@[reducible] def T'41 : Type := (List (Calls) × List (Calls) × Int × Int × Unit)
@[reducible] def T'42 : Type := (List (Int) × List (Int) × Int × Int × Unit)
@[reducible] def T'43 : Type := (List (Bool) × List (Bool) × Int × Int × Unit)
@[reducible] def T'44 : Type := (List (Entry) × List (Entry) × Int × Int × Unit)
@[reducible] def T'45 : Type := (Unit × Unit × List (Int) × Int × Unit)
@[reducible] def T'46 : Type := (Int × Int × Int × Int × Int × Int × Int × Int × Int × Unit)
@[reducible] def T'47 : Type := (Unit × Bool × Int × Unit)
@[reducible] def T'48 : Type := (List (Int) × Int × List (Record) × Int × Int × Int × Unit)
@[reducible] def T'49 : Type := (Unit × Unit × Int × Unit)
@[reducible] def T'50 : Type := (Int × Int × Unit × Int × Unit)
@[reducible] def T'51 : Type := (List (Entry) × Unit × List (Entry) × Bool × Int × Unit)
@[reducible] def T'52 : Type := (Unit × List (Entry) × Bool × Unit)
@[reducible] def T'53 : Type := (Unit × Unit × Unit × List (Record) × Int × Unit)
@[reducible] def T'54 : Type := (Unit × Unit × Unit × Int × Unit × Int × Unit)
@[reducible] def T'55 : Type := (Unit × Unit × Unit × Unit × Int × Unit)
@[reducible] def T'56 : Type := (List (Int) × Unit × Int × Int × Unit)
@[reducible] def T'57 : Type := (Int × Int × Int × Int × Int × Int × Int × Int × Int × Int × Int × Int × Int × Int × Int × Int × Int × Int × Int × Int × Int × Int × Int × Int × Int × Int × Int × Int × Int × Int × Int × Int × Int × Int × Int × Int × Unit)
@[reducible] def T'58 : Type := (Unit × List (Debounced) × Int × Int × Unit)
@[reducible] def T'59 : Type := (Int × Unit × Unit × List (Duty) × Int × Int × Unit)
@[reducible] def T'60 : Type := (Unit × List (Belief) × Int × Int × Unit)
@[reducible] def T'61 : Type := (Unit × List (NewCar) × Int × Int × Unit)
@[reducible] def T'62 : Type := (Unit × List (Loaded) × Int × Int × Unit)
@[reducible] def T'63 : Type := (List (Int) × Unit × Int × Unit)
@[reducible] def T'64 : Type := (List (Int) × Unit × Unit)
@[reducible] def T'65 : Type := (Int × Bool × Bool × Bool × Bool × Int × Int × Int × Int × Int × Int × Int × Int × Int × Int × Int × Int × Int × Int × Int × Int × Int × Int × Int × Int × Int × Int × Int × Int × Int × Int × Int × Int × Int × Int × Int × Int × Int × Int × Int × Int × Unit)
@[reducible] def T'66 : Type := (Int × Unit × Unit × Int × Unit)
@[reducible] def T'67 : Type := (List (Calls) × List (Calls) × Int × Unit)
@[reducible] def T'68 : Type := (List (Int) × List (Int) × Int × Unit)
@[reducible] def T'69 : Type := (Unit × Unit × Unit × Int × Unit)
@[reducible] def T'70 : Type := (Int × Int × Int × Int × Int × List (Duty) × Int × Bool × Int × Int × Int × Int × Int × Bool × Int × Int × Int × Int × Int × Int × Int × Bool × Unit)
@[reducible] def T'71 : Type := (T'70 × T'0 × T'30 × Unit)
@[reducible] def T'72 : Type := (ByteArray × Int × Int × Unit)
@[reducible] def T'73 : Type := (Int × ByteArray × Int × Unit × Unit × Int × Unit)
@[reducible] def T'74 : Type := (Int × Unit × Unit × Unit)
@[reducible] def T'75 : Type := (List (Record) × Unit × ByteArray × Int × Unit)
@[reducible] def T'76 : Type := (Unit × List (Record) × Int × Unit)
@[reducible] def T'77 : Type := (Unit × List (Record) × Unit)
noncomputable def nez' (p0 p1 i p2 p3 p4 p5 : Int) (p6 p7 p8 : Nat) (p9 : List (Car)) (p10 p11 p12 p13 : Int) (p14 p15 p16 : Nat) (p17 : List (Car)) : Option (Sum (T'1 × (T'0 × T'0 × Unit)) ((Unit × Unit × Unit) × (T'0 × T'0 × Unit))) :=
 bif (decide (i < p1)) then
 bif (p0 != (0 : Int)) then
 let z0 : List (Car) := [(Car.mk (100 : Int) (2 : Int) (6 : Int) (5 : Int) (4 : Int) (2 : Int) (3 : Int) (10 : Int) (Int.tmod i p0))]
 bif (Nat.ble ((List.length p17) + (List.length z0)) 2147483648) then
 some (Sum.inl ((p0, p1, (), (), (IntKind.i64.wrap (i + (1 : Int))), ()), ((p2, p3, p4, p5, p6, p7, p8, p9, ()), (p10, p11, p12, p13, p14, p15, p16, (p17 ++ z0), ()), ())))
 else
 none
 else
 none
 else
 some (Sum.inr (((), (), ()), ((p2, p3, p4, p5, p6, p7, p8, p9, ()), (p10, p11, p12, p13, p14, p15, p16, p17, ()), ())))
noncomputable def ngd' : (T'1 × (T'0 × T'0 × Unit)) → Option ((Unit × Unit × Unit) × (T'0 × T'0 × Unit)) := iter (fun x => nez' x.1.1 x.1.2.1 x.1.2.2.2.2.1 x.2.1.1 x.2.1.2.1 x.2.1.2.2.1 x.2.1.2.2.2.1 x.2.1.2.2.2.2.1 x.2.1.2.2.2.2.2.1 x.2.1.2.2.2.2.2.2.1 x.2.1.2.2.2.2.2.2.2.1 x.2.2.1.1 x.2.2.1.2.1 x.2.2.1.2.2.1 x.2.2.1.2.2.2.1 x.2.2.1.2.2.2.2.1 x.2.2.1.2.2.2.2.2.1 x.2.2.1.2.2.2.2.2.2.1 x.2.2.1.2.2.2.2.2.2.2.1) fuel
noncomputable def nkh' (p0 p1 : Int) : Option ((Unit × Unit) × (T'0 × Unit)) :=
 (ngd' ((p0, p1, (), (), (0 : Int), ()), (((0 : Int), (0 : Int), (0 : Int), (0 : Int), 0, 0, 0, ([] : List (Car)), ()), (p0, (1 : Int), (4000 : Int), (30 : Int), 4591870180066957722, 4605380978949069210, 4607632778762754458, ([] : List (Car)), ()), ()))).bind fun y1 =>
 some (((), ()), (y1.2.2.1, ()))
noncomputable def nc3' (n p0 : Int) : Option ((Unit × Unit) × (T'0 × Unit)) :=
 (nkh' (IntKind.i64.wrap ((2 : Int) + (IntKind.i64.wrap (Int.tmod n (7 : Int))))) (IntKind.i64.wrap ((1 : Int) + (IntKind.i64.wrap (Int.tmod (IntKind.u8.wrap (Int.tdiv n (7 : Int))) (3 : Int)))))).bind fun y1 =>
 some (((), ()), ((y1.2.1.1, y1.2.1.2.1, (IntKind.i64.wrap ((IntKind.i64.wrap ((IntKind.i64.wrap ((18 : Int) * ((List.length y1.2.1.2.2.2.2.2.2.2.1 : Nat) : Int))) + (24 : Int))) + (IntKind.i64.wrap p0))), y1.2.1.2.2.2.1, y1.2.1.2.2.2.2.1, y1.2.1.2.2.2.2.2.1, y1.2.1.2.2.2.2.2.2.1, y1.2.1.2.2.2.2.2.2.2.1, ()), ()))
noncomputable def nbx' (lo hi : Int) (s9 : List (Int)) (s10 s11 : Int) : Option (Sum (T'2 × Unit) ((Unit × Unit) ⊕ ((Bool × Unit) × Unit))) :=
 bif (decide (s11 < s10)) then
 bif (inB s11 (List.length s9)) then
 let z0 : Int := (List.getD s9 (Int.toNat s11) (0 : Int))
 bif (decide (z0 < lo)) then
 some (Sum.inr (Sum.inr ((false, ()), ())))
 else
 bif (decide (hi < z0)) then
 some (Sum.inr (Sum.inr ((false, ()), ())))
 else
 some (Sum.inl ((lo, hi, s9, s10, (IntKind.i64.wrap (s11 + (1 : Int))), ()), ()))
 else
 none
 else
 some (Sum.inr (Sum.inl ((), ())))
noncomputable def nfc' : (T'2 × Unit) → Option ((Unit × Unit) ⊕ ((Bool × Unit) × Unit)) := iter (fun x => nbx' x.1.1 x.1.2.1 x.1.2.2.1 x.1.2.2.2.1 x.1.2.2.2.2.1) fuel
noncomputable def nbg' (lo hi : Int) (l : List (Int)) : Option ((Bool × Unit) × Unit) :=
 (nfc' ((lo, hi, l, ((List.length l : Nat) : Int), (0 : Int), ()), ())).bind fun y1 =>
 (match y1 with
 | .inl y2 =>
 some ((true, ()), ())
 | .inr y2 =>
 some ((y2.1.1, ()), ()))
noncomputable def ngv' (p0 p1 p2 p3 p4 p5 p6 p7 p8 p9 : Int) : Option ((Bool × Unit) × Unit) :=
 Option.bind ((nbg' (1 : Int) (10000 : Int) [p0, p1, p2, p4, p5, p6, p7]).bind fun y1 =>
 bif y1.1.1 then
 (nbg' (0 : Int) (10000 : Int) [p3]).bind fun y2 =>
 bif y2.1.1 then
 bif (decide (p6 ≤ p7)) then
 (nbg' (0 : Int) (IntKind.i64.wrap (p9 - (1 : Int))) [p8]).bind fun y3 =>
 some ((y3.1.1, ()), ())
 else
 some ((false, ()), ())
 else
 some ((false, ()), ())
 else
 some ((false, ()), ())) fun y4 =>
 some ((y4.1.1, ()), ())
noncomputable def ng4' (p0 p1 p2 p3 : Int) (p4 p5 p6 : Nat) (p7 : List (Car)) : Option ((Bool × Unit) × Unit) :=
 Option.bind (bif (((FloatKind.format FloatKind.f64).order 0 p4) == some Ordering.lt) then
 bif (((FloatKind.format FloatKind.f64).order p4 p5) == some Ordering.lt) then
 bif (((FloatKind.format FloatKind.f64).order p5 p6) == some Ordering.lt) then
 some (((((FloatKind.format FloatKind.f64).order p6 9218868437227405311) == some Ordering.lt || ((FloatKind.format FloatKind.f64).order p6 9218868437227405311) == some Ordering.eq), ()), ())
 else
 some ((false, ()), ())
 else
 some ((false, ()), ())
 else
 some ((false, ()), ())) fun y1 =>
 some ((y1.1.1, ()), ())
noncomputable def ndi' (p0 : Bool) (s28 : List (Car)) (s29 s30 p1 p2 p3 p4 : Int) (p5 p6 p7 : Nat) (p8 : List (Car)) : Option (Sum (T'3 × (T'0 × Unit)) ((Unit × Bool × Unit) × (T'0 × Unit))) :=
 bif (decide (s30 < s29)) then
 bif (inB s30 (List.length s28)) then
 let z0 : Car := (List.getD s28 (Int.toNat s30) (Car.mk (0 : Int) (0 : Int) (0 : Int) (0 : Int) (0 : Int) (0 : Int) (0 : Int) (0 : Int) (0 : Int)))
 Option.bind (bif p0 then
 (ngv' z0.Deadline z0.Pulse z0.Quiet z0.Slack z0.Step z0.Travel z0.Dwell z0.Hold z0.Home p1).bind fun y1 =>
 some (((), y1.1.1, s28, s29, s30, ()), ((p1, p2, p3, p4, p5, p6, p7, p8, ()), ()))
 else
 some (((), false, s28, s29, s30, ()), ((p1, p2, p3, p4, p5, p6, p7, p8, ()), ()))) fun y2 =>
 some (Sum.inl (((), y2.1.2.1, y2.1.2.2.1, y2.1.2.2.2.1, (IntKind.i64.wrap (y2.1.2.2.2.2.1 + (1 : Int))), ()), (y2.2.1, ())))
 else
 none
 else
 some (Sum.inr (((), p0, ()), ((p1, p2, p3, p4, p5, p6, p7, p8, ()), ())))
noncomputable def nfm' : (T'3 × (T'0 × Unit)) → Option ((Unit × Bool × Unit) × (T'0 × Unit)) := iter (fun x => ndi' x.1.2.1 x.1.2.2.1 x.1.2.2.2.1 x.1.2.2.2.2.1 x.2.1.1 x.2.1.2.1 x.2.1.2.2.1 x.2.1.2.2.2.1 x.2.1.2.2.2.2.1 x.2.1.2.2.2.2.2.1 x.2.1.2.2.2.2.2.2.1 x.2.1.2.2.2.2.2.2.2.1) fuel
noncomputable def nca' (p0 p1 p2 p3 : Int) (p4 p5 p6 : Nat) (p7 : List (Car)) : Option ((Int × Unit) × Unit) :=
 (nbg' (2 : Int) (32 : Int) [p0]).bind fun y1 =>
 bif (!y1.1.1) then
 some (((10 : Int), ()), ())
 else
 (nbg' (1 : Int) (8 : Int) [((List.length p7 : Nat) : Int)]).bind fun y2 =>
 bif (!y2.1.1) then
 some (((11 : Int), ()), ())
 else
 Option.bind ((nbg' (1 : Int) (16 : Int) [p1]).bind fun y3 =>
 bif y3.1.1 then
 (nbg' (1 : Int) (10000 : Int) [p3]).bind fun y4 =>
 some (((), y4.1.1, ()), ((p0, p1, p2, p3, p4, p5, p6, p7, ()), ()))
 else
 some (((), false, ()), ((p0, p1, p2, p3, p4, p5, p6, p7, ()), ()))) fun y5 =>
 (nfm' (((), y5.1.2.1, y5.2.1.2.2.2.2.2.2.2.1, ((List.length y5.2.1.2.2.2.2.2.2.2.1 : Nat) : Int), (0 : Int), ()), (y5.2.1, ()))).bind fun y6 =>
 bif (!y6.1.2.1) then
 some (((12 : Int), ()), ())
 else
 (ng4' y6.2.1.1 y6.2.1.2.1 y6.2.1.2.2.1 y6.2.1.2.2.2.1 y6.2.1.2.2.2.2.1 y6.2.1.2.2.2.2.2.1 y6.2.1.2.2.2.2.2.2.1 y6.2.1.2.2.2.2.2.2.2.1).bind fun y7 =>
 bif (!y7.1.1) then
 some (((13 : Int), ()), ())
 else
 (nbg' (IntKind.i64.wrap ((IntKind.i64.wrap ((18 : Int) * ((List.length y6.2.1.2.2.2.2.2.2.2.1 : Nat) : Int))) + (24 : Int))) (65536 : Int) [y6.2.1.2.2.1]).bind fun y8 =>
 bif (!y8.1.1) then
 some (((14 : Int), ()), ())
 else
 some (((0 : Int), ()), ())
noncomputable def njl' (p0 p1 p2 p3 : Int) (p4 p5 p6 : Nat) (p7 : List (Car)) : Option ((Unit × Unit) × (T'4 × Unit)) :=
 (nca' p0 p1 p2 p3 p4 p5 p6 p7).bind fun y1 =>
 bif (y1.1.1 != (0 : Int)) then
 some (((), ()), ((([] : List (Int)), ([] : List (Bool)), ([] : List (Bool)), ([] : List (Entry)), ()), ()))
 else
 let z0 : Int := ((List.length p7 : Nat) : Int)
 bif (((decide ((0 : Int) ≤ z0)) && (decide (z0 ≤ z0))) && (decide (z0 ≤ (2147483648 : Int)))) then
 bif (((decide ((0 : Int) ≤ z0)) && (decide (z0 ≤ z0))) && (decide (z0 ≤ (2147483648 : Int)))) then
 bif (((decide ((0 : Int) ≤ z0)) && (decide (z0 ≤ z0))) && (decide (z0 ≤ (2147483648 : Int)))) then
 some (((), ()), (((List.replicate (Int.toNat z0) (0 : Int)), (List.replicate (Int.toNat z0) false), (List.replicate (Int.toNat z0) false), ([] : List (Entry)), ()), ()))
 else
 none
 else
 none
 else
 none
noncomputable def nh2' (p0 p1 : ByteArray) (p2 : Int) : Option ((ByteArray × Unit) × Unit) :=
 bif (p2 == (1 : Int)) then
 some ((p1, ()), ())
 else
 some ((p0, ()), ())
noncomputable def nj9' (s : ByteArray) (r s7 s8 s16 : Int) : Option (Sum (T'6 × Unit) (T'5 × Unit)) :=
 bif (decide (s16 < (8 : Int))) then
 let z0 : Int := (IntKind.u8.wrap (r * ((2 : Int) ^ (Min.min (Int.toNat (1 : Int)) (IntKind.bits IntKind.u8)))))
 let z1 : Int := (IntKind.u8.wrap ((Int.fdiv r ((2 : Int) ^ (Min.min (Int.toNat (7 : Int)) (IntKind.bits IntKind.u8)))) * (7 : Int)))
 some (Sum.inl ((s, (IntKind.u8.wrap (stk z0 z1 (BitVec.toNat ((BitVec.ofInt (IntKind.bits IntKind.u8) z0) ^^^ (BitVec.ofInt (IntKind.bits IntKind.u8) z1))))), s7, s8, (IntKind.i64.wrap (s16 + (1 : Int))), ()), ()))
 else
 some (Sum.inr ((s, r, s7, s8, ()), ()))
noncomputable def nkj' : (T'6 × Unit) → Option (T'5 × Unit) := iter (fun x => nj9' x.1.1 x.1.2.1 x.1.2.2.1 x.1.2.2.2.1 x.1.2.2.2.2.1) fuel
noncomputable def ngn' (s : ByteArray) (r s7 s8 : Int) : Option (Sum (T'5 × Unit) ((Int × Unit) × Unit)) :=
 bif (decide (s8 < s7)) then
 bif (inB s8 (ByteArray.size s)) then
 let z0 : Int := (nd1' s (Int.toNat s8))
 (nkj' ((s, (IntKind.u8.wrap (stk r z0 (BitVec.toNat ((BitVec.ofInt (IntKind.bits IntKind.u8) r) ^^^ (BitVec.ofInt (IntKind.bits IntKind.u8) z0))))), s7, s8, (0 : Int), ()), ())).bind fun y1 =>
 some (Sum.inl ((y1.1.1, y1.1.2.1, y1.1.2.2.1, (IntKind.i64.wrap (y1.1.2.2.2.1 + (1 : Int))), ()), ()))
 else
 none
 else
 some (Sum.inr ((r, ()), ()))
noncomputable def nkk' : (T'5 × Unit) → Option ((Int × Unit) × Unit) := iter (fun x => ngn' x.1.1 x.1.2.1 x.1.2.2.1 x.1.2.2.2.1) fuel
noncomputable def njw' (s : ByteArray) : Option ((Int × Unit) × Unit) :=
 (nkk' ((s, (0 : Int), ((ByteArray.size s : Nat) : Int), (0 : Int), ()), ())).bind fun y1 =>
 some ((y1.1.1, ()), ())
noncomputable def nf7' (p0 p1 dir : Int) : Option ((Bool × Unit) × Unit) :=
 Option.bind (bif (dir == (1 : Int)) then
 (nbg' (0 : Int) (IntKind.i64.wrap (p0 - (2 : Int))) [p1]).bind fun y1 =>
 bif y1.1.1 then
 some ((true, ()), ())
 else
 bif (dir == (2 : Int)) then
 (nbg' (1 : Int) (IntKind.i64.wrap (p0 - (1 : Int))) [p1]).bind fun y2 =>
 some ((y2.1.1, ()), ())
 else
 some ((false, ()), ())
 else
 bif (dir == (2 : Int)) then
 (nbg' (1 : Int) (IntKind.i64.wrap (p0 - (1 : Int))) [p1]).bind fun y3 =>
 some ((y3.1.1, ()), ())
 else
 some ((false, ()), ())) fun y4 =>
 some ((y4.1.1, ()), ())
noncomputable def ndz' (p0 p1 p2 p3 : Int) (p4 p5 p6 : Nat) (p7 : List (Car)) (p8 dir : Int) : Option ((Bool × Unit) × Unit) :=
 Option.bind ((nca' p0 p1 p2 p3 p4 p5 p6 p7).bind fun y1 =>
 bif (y1.1.1 == (0 : Int)) then
 (nf7' p0 p8 dir).bind fun y2 =>
 some ((y2.1.1, ()), ())
 else
 some ((false, ()), ())) fun y3 =>
 some ((y3.1.1, ()), ())
noncomputable def nco' (n lo hi : Int) : Option ((Bool × Unit) × Unit) :=
 Option.bind (bif (decide (lo ≤ n)) then
 some (((decide (n ≤ hi)), ()), ())
 else
 some ((false, ()), ())) fun y1 =>
 some ((y1.1.1, ()), ())
noncomputable def ngj' (p0 p1 p2 p3 : Int) (p4 p5 p6 : Nat) (p7 : List (Car)) (p8 p9 p10 p11 p12 : Int) : Option ((Bool × Unit) × Unit) :=
 (nca' p0 p1 p2 p3 p4 p5 p6 p7).bind fun y1 =>
 bif (y1.1.1 != (0 : Int)) then
 some ((false, ()), ())
 else
 (ndz' p0 p1 p2 p3 p4 p5 p6 p7 p9 p10).bind fun y2 =>
 Option.bind (bif (p9 == (0 : Int)) then
 bif (p10 == (0 : Int)) then
 (nco' p11 (0 : Int) (IntKind.i64.wrap (((List.length p7 : Nat) : Int) - (1 : Int)))).bind fun y3 =>
 some (((), (), y2.1.1, y3.1.1, ()), ((p0, p1, p2, p3, p4, p5, p6, p7, ()), (p8, p9, p10, p11, p12, ()), ()))
 else
 some (((), (), y2.1.1, false, ()), ((p0, p1, p2, p3, p4, p5, p6, p7, ()), (p8, p9, p10, p11, p12, ()), ()))
 else
 some (((), (), y2.1.1, false, ()), ((p0, p1, p2, p3, p4, p5, p6, p7, ()), (p8, p9, p10, p11, p12, ()), ()))) fun y4 =>
 bif (y4.2.2.1.1 == (1 : Int)) then
 Option.bind (bif y4.1.2.2.1 then
 bif (y4.2.2.1.2.2.2.1 == (0 : Int)) then
 some (((y4.2.2.1.2.2.2.2.1 == (0 : Int)), ()), ())
 else
 some ((false, ()), ())
 else
 some ((false, ()), ())) fun y5 =>
 some ((y5.1.1, ()), ())
 else
 bif (y4.2.2.1.1 == (2 : Int)) then
 Option.bind (bif y4.1.2.2.1 then
 bif (y4.2.2.1.2.2.2.1 == (0 : Int)) then
 some (((y4.2.2.1.2.2.2.2.1 == (0 : Int)), ()), ())
 else
 some ((false, ()), ())
 else
 some ((false, ()), ())) fun y6 =>
 some ((y6.1.1, ()), ())
 else
 bif (y4.2.2.1.1 == (3 : Int)) then
 Option.bind (bif y4.1.2.2.1 then
 (nco' y4.2.2.1.2.2.2.1 (-2 : Int) (IntKind.i64.wrap (((List.length y4.2.1.2.2.2.2.2.2.2.1 : Nat) : Int) - (1 : Int)))).bind fun y7 =>
 bif y7.1.1 then
 some (((y4.2.2.1.2.2.2.2.1 == (0 : Int)), ()), ())
 else
 some ((false, ()), ())
 else
 some ((false, ()), ())) fun y8 =>
 some ((y8.1.1, ()), ())
 else
 bif (y4.2.2.1.1 == (7 : Int)) then
 Option.bind (bif y4.1.2.2.1 then
 (nco' y4.2.2.1.2.2.2.1 (0 : Int) (1 : Int)).bind fun y9 =>
 bif y9.1.1 then
 (nco' y4.2.2.1.2.2.2.2.1 (0 : Int) (255 : Int)).bind fun y10 =>
 some ((y10.1.1, ()), ())
 else
 some ((false, ()), ())
 else
 some ((false, ()), ())) fun y11 =>
 some ((y11.1.1, ()), ())
 else
 bif (y4.2.2.1.1 == (4 : Int)) then
 Option.bind (bif y4.1.2.2.2.1 then
 (nco' y4.2.2.1.2.2.2.2.1 (0 : Int) (4 : Int)).bind fun y12 =>
 some ((y12.1.1, ()), ())
 else
 some ((false, ()), ())) fun y13 =>
 some ((y13.1.1, ()), ())
 else
 bif (y4.2.2.1.1 == (5 : Int)) then
 Option.bind (bif y4.1.2.2.2.1 then
 (nco' y4.2.2.1.2.2.2.2.1 (0 : Int) (1 : Int)).bind fun y14 =>
 some ((y14.1.1, ()), ())
 else
 some ((false, ()), ())) fun y15 =>
 some ((y15.1.1, ()), ())
 else
 bif (y4.2.2.1.1 == (6 : Int)) then
 Option.bind (bif y4.1.2.2.2.1 then
 (nco' y4.2.2.1.2.2.2.2.1 (0 : Int) (1 : Int)).bind fun y16 =>
 some ((y16.1.1, ()), ())
 else
 some ((false, ()), ())) fun y17 =>
 some ((y17.1.1, ()), ())
 else
 some ((false, ()), ())
noncomputable def nh1' (p0 p1 p2 p3 : Int) (p4 p5 p6 : Nat) (p7 : List (Car)) (s : ByteArray) : Option ((Unit × Int × Unit) × (T'7 × Unit)) :=
 (nca' p0 p1 p2 p3 p4 p5 p6 p7).bind fun y1 =>
 bif (y1.1.1 != (0 : Int)) then
 some (((), (1 : Int), ()), (((0 : Int), (0 : Int), (0 : Int), (0 : Int), (0 : Int), ()), ()))
 else
 bif (((ByteArray.size s : Nat) : Int) != (6 : Int)) then
 some (((), (4 : Int), ()), (((0 : Int), (0 : Int), (0 : Int), (0 : Int), (0 : Int), ()), ()))
 else
 bif (decide ((5 : Int) ≤ (((ByteArray.size s) : Nat) : Int))) then
 (njw' (ByteArray.extract s 0 5)).bind fun y2 =>
 bif (inB (5 : Int) (ByteArray.size s)) then
 bif (y2.1.1 != (nd1' s (Int.toNat (5 : Int)))) then
 some (((), (5 : Int), ()), (((0 : Int), (0 : Int), (0 : Int), (0 : Int), (0 : Int), ()), ()))
 else
 bif (inB (0 : Int) (ByteArray.size s)) then
 let z0 : Int := (IntKind.i64.wrap (nd1' s (Int.toNat (0 : Int))))
 bif (inB (1 : Int) (ByteArray.size s)) then
 let z1 : Int := (IntKind.i64.wrap (nd1' s (Int.toNat (1 : Int))))
 bif (inB (2 : Int) (ByteArray.size s)) then
 let z2 : Int := (IntKind.i64.wrap (nd1' s (Int.toNat (2 : Int))))
 bif (inB (3 : Int) (ByteArray.size s)) then
 let z3 : Int := (IntKind.i64.wrap ((IntKind.i64.wrap (nd1' s (Int.toNat (3 : Int)))) - (2 : Int)))
 bif (inB (4 : Int) (ByteArray.size s)) then
 let z4 : Int := (IntKind.i64.wrap (nd1' s (Int.toNat (4 : Int))))
 (ngj' p0 p1 p2 p3 p4 p5 p6 p7 z0 z1 z2 z3 z4).bind fun y3 =>
 bif (!y3.1.1) then
 some (((), (9 : Int), ()), (((0 : Int), (0 : Int), (0 : Int), (0 : Int), (0 : Int), ()), ()))
 else
 some (((), (0 : Int), ()), ((z0, z1, z2, z3, z4, ()), ()))
 else
 none
 else
 none
 else
 none
 else
 none
 else
 none
 else
 none
 else
 none
noncomputable def nc8' (s : ByteArray) (l : List (Record)) (p0 p1 p2 p3 p4 : Int) (p5 p6 p7 : Nat) (p8 : List (Car)) : Option (Sum (T'9 × (T'0 × Unit)) (T'8 × Unit)) :=
 bif (decide ((IntKind.i64.wrap (p0 + (6 : Int))) ≤ ((ByteArray.size s : Nat) : Int))) then
 let z0 : Int := (IntKind.i64.wrap (p0 + (6 : Int)))
 bif ((decide ((0 : Int) ≤ z0)) && (decide (z0 ≤ (((ByteArray.size s) : Nat) : Int)))) then
 bif ((decide ((0 : Int) ≤ p0)) && (decide (p0 ≤ (((Int.toNat z0) : Nat) : Int)))) then
 (nh1' p1 p2 p3 p4 p5 p6 p7 p8 (ByteArray.extract s (Int.toNat p0) (Int.toNat z0))).bind fun y1 =>
 bif (y1.1.2.1 != (0 : Int)) then
 some (Sum.inr ((l, p0, ()), ()))
 else
 let z1 : List (Record) := [(Record.mk y1.2.1.1 y1.2.1.2.1 y1.2.1.2.2.1 y1.2.1.2.2.2.1 y1.2.1.2.2.2.2.1)]
 bif (Nat.ble ((List.length l) + (List.length z1)) 2147483648) then
 some (Sum.inl ((s, (), (l ++ z1), (IntKind.i64.wrap (p0 + (6 : Int))), ()), ((p1, p2, p3, p4, p5, p6, p7, p8, ()), ())))
 else
 none
 else
 none
 else
 none
 else
 some (Sum.inr ((l, p0, ()), ()))
noncomputable def nh6' : (T'9 × (T'0 × Unit)) → Option (T'8 × Unit) := iter (fun x => nc8' x.1.1 x.1.2.2.1 x.1.2.2.2.1 x.2.1.1 x.2.1.2.1 x.2.1.2.2.1 x.2.1.2.2.2.1 x.2.1.2.2.2.2.1 x.2.1.2.2.2.2.2.1 x.2.1.2.2.2.2.2.2.1 x.2.1.2.2.2.2.2.2.2.1) fuel
noncomputable def njb' (p0 p1 p2 p3 : Int) (p4 p5 p6 : Nat) (p7 : List (Car)) (s : ByteArray) : Option (T'8 × Unit) :=
 (nh6' ((s, (), ([] : List (Record)), (0 : Int), ()), ((p0, p1, p2, p3, p4, p5, p6, p7, ()), ()))).bind fun y1 =>
 some ((y1.1.1, y1.1.2.1, ()), ())
noncomputable def nhv' (x_1 : Int) : Option ((Bool × Unit) × Unit) :=
 some (((x_1 != x_1), ()), ())
noncomputable def nc5' (x_1 y : Int) : Option ((Int × Unit) × Unit) :=
 (nhv' x_1).bind fun y1 =>
 (nhv' y).bind fun y2 =>
 bif y1.1.1 then
 bif y2.1.1 then
 some (((0 : Int), ()), ())
 else
 some (((-1 : Int), ()), ())
 else
 bif y2.1.1 then
 some (((1 : Int), ()), ())
 else
 bif (decide (x_1 < y)) then
 some (((-1 : Int), ()), ())
 else
 bif (decide (y < x_1)) then
 some (((1 : Int), ()), ())
 else
 some (((0 : Int), ()), ())
noncomputable def ngc' (p0 : Int) (s6 : List (Int)) (s7 s8 : Int) : Option (Sum (T'10 × Unit) (((Int × Unit) × Unit) ⊕ ((Int × Unit) × Unit))) :=
 bif (decide (s8 < s7)) then
 bif (inB s8 (List.length s6)) then
 let z0 : Int := (List.getD s6 (Int.toNat s8) (0 : Int))
 bif (z0 != p0) then
 some (Sum.inr (Sum.inr ((z0, ()), ())))
 else
 some (Sum.inl ((p0, s6, s7, (IntKind.i64.wrap (s8 + (1 : Int))), ()), ()))
 else
 none
 else
 some (Sum.inr (Sum.inl ((p0, ()), ())))
noncomputable def nih' : (T'10 × Unit) → Option (((Int × Unit) × Unit) ⊕ ((Int × Unit) × Unit)) := iter (fun x => ngc' x.1.1 x.1.2.1 x.1.2.2.1 x.1.2.2.2.1) fuel
noncomputable def nie' (p0 : List (Int)) : Option ((Int × Unit) × Unit) :=
 (nih' (((0 : Int), p0, ((List.length p0 : Nat) : Int), (0 : Int), ()), ())).bind fun y1 =>
 (match y1 with
 | .inl y2 =>
 some ((y2.1.1, ()), ())
 | .inr y2 =>
 some ((y2.1.1, ()), ()))
noncomputable def nfk' (p0 p1 p2 p3 : Int) (p4 : Bool) (p5 p6 p7 p8 : Int) (p9 : Bool) : Option ((Int × Unit) × Unit) :=
 (nc5' p0 p5).bind fun y1 =>
 (nc5' p1 p6).bind fun y2 =>
 (nie' [y1.1.1, y2.1.1]).bind fun y3 =>
 some ((y3.1.1, ()), ())
noncomputable def nx' (x_1 : List (Entry)) (n i j p0 p1 p2 p3 : Int) (p4 : Bool) : Option (Sum (T'11 × (T'12 × Unit)) (T'13 × (T'12 × Unit))) :=
 bif (decide (i < j)) then
 let z0 : Int := (IntKind.i64.wrap (Int.fdiv (IntKind.u64.wrap (IntKind.i64.wrap (i + j))) ((2 : Int) ^ (Min.min (Int.toNat (1 : Int)) (IntKind.bits IntKind.u64)))))
 bif (inB z0 (List.length x_1)) then
 let z1 : Entry := (List.getD x_1 (Int.toNat z0) (Entry.mk (0 : Int) (0 : Int) (0 : Int) (0 : Int) false))
 (nfk' z1.Floor z1.Dir z1.Car z1.Moves z1.Moved p0 p1 p2 p3 p4).bind fun y1 =>
 bif (decide (y1.1.1 < (0 : Int))) then
 some (Sum.inl ((x_1, (), (), n, (IntKind.i64.wrap (z0 + (1 : Int))), j, ()), ((p0, p1, p2, p3, p4, ()), ())))
 else
 some (Sum.inl ((x_1, (), (), n, i, z0, ()), ((p0, p1, p2, p3, p4, ()), ())))
 else
 none
 else
 some (Sum.inr ((x_1, (), (), n, i, ()), ((p0, p1, p2, p3, p4, ()), ())))
noncomputable def nw' : (T'11 × (T'12 × Unit)) → Option (T'13 × (T'12 × Unit)) := iter (fun x => nx' x.1.1 x.1.2.2.2.1 x.1.2.2.2.2.1 x.1.2.2.2.2.2.1 x.2.1.1 x.2.1.2.1 x.2.1.2.2.1 x.2.1.2.2.2.1 x.2.1.2.2.2.2.1) fuel
noncomputable def nba' (x_1 : List (Entry)) (p0 p1 p2 p3 : Int) (p4 : Bool) : Option ((Int × Bool × Unit) × Unit) :=
 let z0 : Int := ((List.length x_1 : Nat) : Int)
 (nw' ((x_1, (), (), z0, (0 : Int), z0, ()), ((p0, p1, p2, p3, p4, ()), ()))).bind fun y1 =>
 Option.bind (bif (decide (y1.1.2.2.2.2.1 < y1.1.2.2.2.1)) then
 bif (inB y1.1.2.2.2.2.1 (List.length y1.1.1)) then
 let z1 : Entry := (List.getD y1.1.1 (Int.toNat y1.1.2.2.2.2.1) (Entry.mk (0 : Int) (0 : Int) (0 : Int) (0 : Int) false))
 (nfk' z1.Floor z1.Dir z1.Car z1.Moves z1.Moved y1.2.1.1 y1.2.1.2.1 y1.2.1.2.2.1 y1.2.1.2.2.2.1 y1.2.1.2.2.2.2.1).bind fun y2 =>
 some ((y1.1.2.2.2.2.1, (y2.1.1 == (0 : Int)), ()), ())
 else
 none
 else
 some ((y1.1.2.2.2.2.1, false, ()), ())) fun y3 =>
 some ((y3.1.1, y3.1.2.1, ()), ())
noncomputable def nly' (p0 : List (Int)) (p1 p2 : List (Bool)) (p3 : List (Entry)) (p4 dir : Int) : Option ((Int × Bool × Unit) × Unit) :=
 (nba' p3 p4 dir (0 : Int) (0 : Int) false).bind fun y1 =>
 some ((y1.1.1, y1.1.2.1, ()), ())
noncomputable def ncr' (s : List (Entry)) (i : Int) (v : List (Entry)) : Option ((List (Entry) × Unit) × Unit) :=
 insF s i v
noncomputable def ncs' (s : List (Entry)) (i j : Int) : Option ((List (Entry) × Unit) × Unit) :=
 delF s i j
noncomputable def njz' (p0 p1 p2 p3 p4 : Int) (p5 : List (Int)) (p6 p7 : List (Bool)) (p8 : List (Entry)) : Option (Unit × (T'4 × Unit)) :=
 (nly' p5 p6 p7 p8 p1 p2).bind fun y1 =>
 bif (p0 == (4 : Int)) then
 bif (inB p3 (List.length p5)) then
 some ((), (((List.set p5 (Int.toNat p3) p4), p6, p7, p8, ()), ()))
 else
 none
 else
 bif (p0 == (5 : Int)) then
 bif (inB p3 (List.length p6)) then
 some ((), ((p5, (List.set p6 (Int.toNat p3) (p4 == (1 : Int))), p7, p8, ()), ()))
 else
 none
 else
 bif (p0 == (6 : Int)) then
 bif (inB p3 (List.length p7)) then
 some ((), ((p5, p6, (List.set p7 (Int.toNat p3) (p4 == (1 : Int))), p8, ()), ()))
 else
 none
 else
 bif (p0 == (1 : Int)) then
 bif (!y1.1.2.1) then
 (ncr' p8 y1.1.1 [(Entry.mk p1 p2 (-1 : Int) (0 : Int) false)]).bind fun y2 =>
 some ((), ((p5, p6, p7, y2.1.1, ()), ()))
 else
 some ((), ((p5, p6, p7, p8, ()), ()))
 else
 bif (p0 == (2 : Int)) then
 bif y1.1.2.1 then
 (ncs' p8 y1.1.1 (IntKind.i64.wrap (y1.1.1 + (1 : Int)))).bind fun y3 =>
 some ((), ((p5, p6, p7, y3.1.1, ()), ()))
 else
 some ((), ((p5, p6, p7, p8, ()), ()))
 else
 bif (p0 == (3 : Int)) then
 bif y1.1.2.1 then
 bif (inB y1.1.1 (List.length p8)) then
 let z0 : Nat := (Int.toNat y1.1.1)
 let z1 : Entry := (List.getD p8 z0 (Entry.mk (0 : Int) (0 : Int) (0 : Int) (0 : Int) false))
 some ((), ((p5, p6, p7, (List.set p8 z0 (Entry.mk z1.Floor z1.Dir p3 z1.Moves z1.Moved)), ()), ()))
 else
 none
 else
 some ((), ((p5, p6, p7, p8, ()), ()))
 else
 bif (p0 == (7 : Int)) then
 bif y1.1.2.1 then
 bif (inB y1.1.1 (List.length p8)) then
 let z2 : Nat := (Int.toNat y1.1.1)
 let z3 : Entry := (List.getD p8 z2 (Entry.mk (0 : Int) (0 : Int) (0 : Int) (0 : Int) false))
 let z4 : List (Entry) := (List.set p8 z2 (Entry.mk z3.Floor z3.Dir z3.Car p4 z3.Moved))
 bif (inB y1.1.1 (List.length z4)) then
 let z5 : Nat := (Int.toNat y1.1.1)
 let z6 : Entry := (List.getD z4 z5 (Entry.mk (0 : Int) (0 : Int) (0 : Int) (0 : Int) false))
 some ((), ((p5, p6, p7, (List.set z4 z5 (Entry.mk z6.Floor z6.Dir z6.Car z6.Moves (p3 == (1 : Int)))), ()), ()))
 else
 none
 else
 none
 else
 some ((), ((p5, p6, p7, p8, ()), ()))
 else
 some ((), ((p5, p6, p7, p8, ()), ()))
noncomputable def ne3' (s19 : List (Record)) (s20 s21 : Int) (p0 : List (Int)) (p1 p2 : List (Bool)) (p3 : List (Entry)) (p4 : List (Int)) (p5 p6 : List (Bool)) (p7 : List (Entry)) : Option (Sum (T'14 × (T'4 × T'4 × Unit)) ((Unit × Unit × Unit) × (T'4 × T'4 × Unit))) :=
 bif (decide (s21 < s20)) then
 bif (inB s21 (List.length s19)) then
 let z0 : Record := (List.getD s19 (Int.toNat s21) (Record.mk (0 : Int) (0 : Int) (0 : Int) (0 : Int) (0 : Int)))
 (njz' z0.Kind z0.Floor z0.Dir z0.Car z0.Value p4 p5 p6 p7).bind fun y1 =>
 some (Sum.inl (((), (), s19, s20, (IntKind.i64.wrap (s21 + (1 : Int))), ()), ((p0, p1, p2, p3, ()), y1.2.1, ())))
 else
 none
 else
 some (Sum.inr (((), (), ()), ((p0, p1, p2, p3, ()), (p4, p5, p6, p7, ()), ())))
noncomputable def nii' : (T'14 × (T'4 × T'4 × Unit)) → Option ((Unit × Unit × Unit) × (T'4 × T'4 × Unit)) := iter (fun x => ne3' x.1.2.2.1 x.1.2.2.2.1 x.1.2.2.2.2.1 x.2.1.1 x.2.1.2.1 x.2.1.2.2.1 x.2.1.2.2.2.1 x.2.2.1.1 x.2.2.1.2.1 x.2.2.1.2.2.1 x.2.2.1.2.2.2.1) fuel
noncomputable def nj1' (p0 p1 p2 p3 : Int) (p4 p5 p6 : Nat) (p7 : List (Car)) (p8 p9 : ByteArray) (p10 : Int) : Option ((Unit × Unit) × (T'4 × Unit)) :=
 (njl' p0 p1 p2 p3 p4 p5 p6 p7).bind fun y1 =>
 (nh2' p8 p9 p10).bind fun y2 =>
 (njb' p0 p1 p2 p3 p4 p5 p6 p7 y2.1.1).bind fun y3 =>
 (nii' (((), (), y3.1.1, ((List.length y3.1.1 : Nat) : Int), (0 : Int), ()), ((([] : List (Int)), ([] : List (Bool)), ([] : List (Bool)), ([] : List (Entry)), ()), y1.2.1, ()))).bind fun y4 =>
 some (((), ()), (y4.2.2.1, ()))
noncomputable def nc6' (p0 : Int) (p1 p2 : ByteArray) (p3 : Int) : Option ((Bool × Unit) × Unit) :=
 Option.bind (bif (decide ((1 : Int) ≤ p0)) then
 bif (decide (p0 ≤ (65536 : Int))) then
 bif (decide (((ByteArray.size p1 : Nat) : Int) ≤ p0)) then
 bif (decide (((ByteArray.size p2 : Nat) : Int) ≤ p0)) then
 bif (p3 == (0 : Int)) then
 some ((true, ()), ())
 else
 some (((p3 == (1 : Int)), ()), ())
 else
 some ((false, ()), ())
 else
 some ((false, ()), ())
 else
 some ((false, ()), ())
 else
 some ((false, ()), ())) fun y1 =>
 some ((y1.1.1, ()), ())
noncomputable def njg' (p0 p1 p2 p3 : Int) (p4 p5 p6 : Nat) (p7 : List (Car)) (p8 p9 p10 p11 : Int) (p12 : Bool) : Option ((Bool × Unit) × Unit) :=
 Option.bind ((ndz' p0 p1 p2 p3 p4 p5 p6 p7 p8 p9).bind fun y1 =>
 bif y1.1.1 then
 bif (decide ((-2 : Int) ≤ p10)) then
 bif (decide (p10 < ((List.length p7 : Nat) : Int))) then
 bif (decide ((0 : Int) ≤ p11)) then
 some (((decide (p11 ≤ (255 : Int))), ()), ())
 else
 some ((false, ()), ())
 else
 some ((false, ()), ())
 else
 some ((false, ()), ())
 else
 some ((false, ()), ())) fun y2 =>
 some ((y2.1.1, ()), ())
noncomputable def ndt' (s52 : List (Entry)) (s53 s54 p0 p1 p2 p3 : Int) (p4 p5 p6 : Nat) (p7 : List (Car)) (p8 : List (Int)) (p9 p10 : List (Bool)) (p11 : List (Entry)) : Option (Sum (T'16 × (T'0 × T'4 × Unit)) ((Unit × Unit) ⊕ ((Bool × Unit) × Unit))) :=
 bif (decide (s54 < s53)) then
 bif (inB s54 (List.length s52)) then
 let z0 : Entry := (List.getD s52 (Int.toNat s54) (Entry.mk (0 : Int) (0 : Int) (0 : Int) (0 : Int) false))
 Option.bind ((njg' p0 p1 p2 p3 p4 p5 p6 p7 z0.Floor z0.Dir z0.Car z0.Moves z0.Moved).bind fun y1 =>
 bif (!y1.1.1) then
 some (((), (), s52, s53, s54, true, ()), ((p0, p1, p2, p3, p4, p5, p6, p7, ()), (p8, p9, p10, p11, ()), ()))
 else
 bif (decide ((0 : Int) < s54)) then
 let z1 : Int := (IntKind.i64.wrap (s54 - (1 : Int)))
 bif (inB z1 (List.length p11)) then
 let z2 : Entry := (List.getD p11 (Int.toNat z1) (Entry.mk (0 : Int) (0 : Int) (0 : Int) (0 : Int) false))
 (nfk' z2.Floor z2.Dir z2.Car z2.Moves z2.Moved z0.Floor z0.Dir z0.Car z0.Moves z0.Moved).bind fun y2 =>
 some (((), (), s52, s53, s54, (decide ((0 : Int) ≤ y2.1.1)), ()), ((p0, p1, p2, p3, p4, p5, p6, p7, ()), (p8, p9, p10, p11, ()), ()))
 else
 none
 else
 some (((), (), s52, s53, s54, false, ()), ((p0, p1, p2, p3, p4, p5, p6, p7, ()), (p8, p9, p10, p11, ()), ()))) fun y3 =>
 bif y3.1.2.2.2.2.2.1 then
 some (Sum.inr (Sum.inr ((false, ()), ())))
 else
 some (Sum.inl (((), (), y3.1.2.2.1, y3.1.2.2.2.1, (IntKind.i64.wrap (y3.1.2.2.2.2.1 + (1 : Int))), ()), (y3.2.1, y3.2.2.1, ())))
 else
 none
 else
 some (Sum.inr (Sum.inl ((), ())))
noncomputable def nh5' : (T'16 × (T'0 × T'4 × Unit)) → Option ((Unit × Unit) ⊕ ((Bool × Unit) × Unit)) := iter (fun x => ndt' x.1.2.2.1 x.1.2.2.2.1 x.1.2.2.2.2.1 x.2.1.1 x.2.1.2.1 x.2.1.2.2.1 x.2.1.2.2.2.1 x.2.1.2.2.2.2.1 x.2.1.2.2.2.2.2.1 x.2.1.2.2.2.2.2.2.1 x.2.1.2.2.2.2.2.2.2.1 x.2.2.1.1 x.2.2.1.2.1 x.2.2.1.2.2.1 x.2.2.1.2.2.2.1) fuel
noncomputable def nel' (s38 : List (Int)) (s39 s40 p0 p1 p2 p3 : Int) (p4 p5 p6 : Nat) (p7 : List (Car)) (p8 : List (Int)) (p9 p10 : List (Bool)) (p11 : List (Entry)) : Option (Sum (T'15 × (T'0 × T'4 × Unit)) (((Unit × Unit × Unit) × (T'0 × T'4 × Unit)) ⊕ ((Bool × Unit) × Unit))) :=
 bif (decide (s40 < s39)) then
 bif (inB s40 (List.length s38)) then
 let z0 : Int := (List.getD s38 (Int.toNat s40) (0 : Int))
 bif (decide (z0 < (0 : Int))) then
 some (Sum.inr (Sum.inr ((false, ()), ())))
 else
 bif (decide ((4 : Int) < z0)) then
 some (Sum.inr (Sum.inr ((false, ()), ())))
 else
 some (Sum.inl (((), (), s38, s39, (IntKind.i64.wrap (s40 + (1 : Int))), ()), ((p0, p1, p2, p3, p4, p5, p6, p7, ()), (p8, p9, p10, p11, ()), ())))
 else
 none
 else
 some (Sum.inr (Sum.inl (((), (), ()), ((p0, p1, p2, p3, p4, p5, p6, p7, ()), (p8, p9, p10, p11, ()), ()))))
noncomputable def nh4' : (T'15 × (T'0 × T'4 × Unit)) → Option (((Unit × Unit × Unit) × (T'0 × T'4 × Unit)) ⊕ ((Bool × Unit) × Unit)) := iter (fun x => nel' x.1.2.2.1 x.1.2.2.2.1 x.1.2.2.2.2.1 x.2.1.1 x.2.1.2.1 x.2.1.2.2.1 x.2.1.2.2.2.1 x.2.1.2.2.2.2.1 x.2.1.2.2.2.2.2.1 x.2.1.2.2.2.2.2.2.1 x.2.1.2.2.2.2.2.2.2.1 x.2.2.1.1 x.2.2.1.2.1 x.2.2.1.2.2.1 x.2.2.1.2.2.2.1) fuel
noncomputable def nfl' (p0 p1 p2 p3 : Int) (p4 p5 p6 : Nat) (p7 : List (Car)) (p8 : List (Int)) (p9 p10 : List (Bool)) (p11 : List (Entry)) : Option ((Bool × Unit) × Unit) :=
 let z0 : Int := ((List.length p7 : Nat) : Int)
 (nca' p0 p1 p2 p3 p4 p5 p6 p7).bind fun y1 =>
 bif (y1.1.1 != (0 : Int)) then
 some ((false, ()), ())
 else
 bif (((List.length p8 : Nat) : Int) != z0) then
 some ((false, ()), ())
 else
 bif (((List.length p9 : Nat) : Int) != z0) then
 some ((false, ()), ())
 else
 bif (((List.length p10 : Nat) : Int) != z0) then
 some ((false, ()), ())
 else
 (nh4' (((), (), p8, ((List.length p8 : Nat) : Int), (0 : Int), ()), ((p0, p1, p2, p3, p4, p5, p6, p7, ()), (p8, p9, p10, p11, ()), ()))).bind fun y2 =>
 (match y2 with
 | .inl y3 =>
 (nh5' (((), (), y3.2.2.1.2.2.2.1, ((List.length y3.2.2.1.2.2.2.1 : Nat) : Int), (0 : Int), ()), (y3.2.1, y3.2.2.1, ()))).bind fun y4 =>
 (match y4 with
 | .inl y5 =>
 some ((true, ()), ())
 | .inr y5 =>
 some ((y5.1.1, ()), ()))
 | .inr y3 =>
 some ((y3.1.1, ()), ()))
noncomputable def ne4' (p0 p1 : Int) (b0 : List (Record)) (b1 : Int) : Option (Unit × T'17) :=
 let z0 : List (Record) := [(Record.mk p0 (0 : Int) (0 : Int) b1 p1)]
 bif (Nat.ble ((List.length b0) + (List.length z0)) 2147483648) then
 some ((), (((b0 ++ z0), ()), (b1, ()), ()))
 else
 none
noncomputable def ngm' (p0 : Bool) : Option ((Int × Unit) × Unit) :=
 bif p0 then
 some (((1 : Int), ()), ())
 else
 some (((0 : Int), ()), ())
noncomputable def ne7' (p0 car p1 : Int) (b0 : List (Record)) (p2 p3 p4 p5 : Int) (p6 : Bool) : Option (Unit × T'18) :=
 let z0 : List (Record) := [(Record.mk p0 p2 p3 car p1)]
 bif (Nat.ble ((List.length b0) + (List.length z0)) 2147483648) then
 some ((), (((b0 ++ z0), ()), (p2, p3, p4, p5, p6, ()), ()))
 else
 none
noncomputable def nd2' (s47 : List (Entry)) (s48 s49 : Int) (l : List (Record)) : Option (Sum (T'21 × T'22) ((Unit × Unit) × T'22)) :=
 bif (decide (s49 < s48)) then
 bif (inB s49 (List.length s47)) then
 let z0 : Entry := (List.getD s47 (Int.toNat s49) (Entry.mk (0 : Int) (0 : Int) (0 : Int) (0 : Int) false))
 (ne7' (1 : Int) (0 : Int) (0 : Int) l z0.Floor z0.Dir z0.Car z0.Moves z0.Moved).bind fun y1 =>
 (ne7' (3 : Int) y1.2.2.1.2.2.1 (0 : Int) y1.2.1.1 y1.2.2.1.1 y1.2.2.1.2.1 y1.2.2.1.2.2.1 y1.2.2.1.2.2.2.1 y1.2.2.1.2.2.2.2.1).bind fun y2 =>
 (ngm' y2.2.2.1.2.2.2.2.1).bind fun y3 =>
 (ne7' (7 : Int) y3.1.1 y2.2.2.1.2.2.2.1 y2.2.1.1 y2.2.2.1.1 y2.2.2.1.2.1 y2.2.2.1.2.2.1 y2.2.2.1.2.2.2.1 y2.2.2.1.2.2.2.2.1).bind fun y4 =>
 some (Sum.inl (((), s47, s48, (IntKind.i64.wrap (s49 + (1 : Int))), ()), ((y4.2.1.1, ()), ())))
 else
 none
 else
 some (Sum.inr (((), ()), ((l, ()), ())))
noncomputable def ng2' : (T'21 × T'22) → Option ((Unit × Unit) × T'22) := iter (fun x => nd2' x.1.2.1 x.1.2.2.1 x.1.2.2.2.1 x.2.1.1) fuel
noncomputable def nd4' (s17 s18 : Int) (p0 : List (Int)) (p1 p2 : List (Bool)) (p3 : List (Entry)) (l : List (Record)) : Option (Sum (T'19 × T'20) ((Unit × Unit × Unit) × T'20)) :=
 bif (decide (s18 < s17)) then
 bif (inB s18 (List.length p0)) then
 (ne4' (4 : Int) (List.getD p0 (Int.toNat s18) (0 : Int)) l s18).bind fun y1 =>
 bif (inB y1.2.2.1.1 (List.length p1)) then
 (ngm' (List.getD p1 (Int.toNat y1.2.2.1.1) false)).bind fun y2 =>
 (ne4' (5 : Int) y2.1.1 y1.2.1.1 y1.2.2.1.1).bind fun y3 =>
 bif (inB y3.2.2.1.1 (List.length p2)) then
 (ngm' (List.getD p2 (Int.toNat y3.2.2.1.1) false)).bind fun y4 =>
 (ne4' (6 : Int) y4.1.1 y3.2.1.1 y3.2.2.1.1).bind fun y5 =>
 some (Sum.inl (((), (), s17, (IntKind.i64.wrap (s18 + (1 : Int))), ()), ((p0, p1, p2, p3, ()), (y5.2.1.1, ()), ())))
 else
 none
 else
 none
 else
 none
 else
 some (Sum.inr (((), (), ()), ((p0, p1, p2, p3, ()), (l, ()), ())))
noncomputable def ng0' : (T'19 × T'20) → Option ((Unit × Unit × Unit) × T'20) := iter (fun x => nd4' x.1.2.2.1 x.1.2.2.2.1 x.2.1.1 x.2.1.2.1 x.2.1.2.2.1 x.2.1.2.2.2.1 x.2.2.1.1) fuel
noncomputable def nin' (p0 p1 p2 p3 : Int) (p4 p5 p6 : Nat) (p7 : List (Car)) (p8 : List (Int)) (p9 p10 : List (Bool)) (p11 : List (Entry)) : Option ((List (Record) × Unit) × Unit) :=
 (nfl' p0 p1 p2 p3 p4 p5 p6 p7 p8 p9 p10 p11).bind fun y1 =>
 bif (!y1.1.1) then
 some ((([] : List (Record)), ()), ())
 else
 (ng0' (((), (), ((List.length p8 : Nat) : Int), (0 : Int), ()), ((p8, p9, p10, p11, ()), (([] : List (Record)), ()), ()))).bind fun y2 =>
 (ng2' (((), y2.2.1.2.2.2.1, ((List.length y2.2.1.2.2.2.1 : Nat) : Int), (0 : Int), ()), ((y2.2.2.1.1, ()), ()))).bind fun y3 =>
 some ((y3.2.1.1, ()), ())
noncomputable def nht' (p0 p1 p2 p3 : Int) (p4 p5 p6 : Nat) (p7 : List (Car)) (p8 p9 p10 p11 p12 : Int) : Option ((ByteArray × Int × Unit) × Unit) :=
 (ngj' p0 p1 p2 p3 p4 p5 p6 p7 p8 p9 p10 p11 p12).bind fun y1 =>
 bif (!y1.1.1) then
 some (((ByteArray.mk (Array.mk [])), (1 : Int), ()), ())
 else
 let z0 : ByteArray := (textU [(IntKind.u8.wrap p8), (IntKind.u8.wrap p9), (IntKind.u8.wrap p10), (IntKind.u8.wrap (IntKind.i64.wrap (p11 + (2 : Int)))), (IntKind.u8.wrap p12)])
 (njw' z0).bind fun y2 =>
 let z1 : ByteArray := (textU [y2.1.1])
 bif (Nat.ble ((ByteArray.size z0) + (ByteArray.size z1)) 4611686018427387904) then
 some (((z0 ++ z1), (0 : Int), ()), ())
 else
 none
noncomputable def ncz' (s : ByteArray) (p0 : List (Int)) : Option ((Int × Unit × Unit) × (T'23 × Unit)) :=
 wsF (fun b => (b.toNat : Int)) s p0
noncomputable def nfd' (p0 : Int) (p1 p2 : ByteArray) (p3 p4 p5 : Int) : Option ((Int × Unit) × Unit) :=
 (nc6' p0 p1 p2 p3).bind fun y1 =>
 bif (!y1.1.1) then
 some (((1 : Int), ()), ())
 else
 Option.bind (bif (p4 != (0 : Int)) then
 some ((p5, (p4 != (1 : Int)), ()), ())
 else
 some ((p5, false, ()), ())) fun y2 =>
 bif y2.1.2.1 then
 some (((2 : Int), ()), ())
 else
 bif (decide (y2.1.1 < (0 : Int))) then
 some (((2 : Int), ()), ())
 else
 some (((0 : Int), ()), ())
noncomputable def nj4' (p0 p1 : ByteArray) (p2 b1 : Int) : Option (Unit × T'25) :=
 bif (inB b1 2) then
 let z0 : Nat := (Int.toNat b1)
 some ((), (((bif (Nat.beq z0 0) then (ByteArray.mk (Array.mk [])) else p0), (bif (Nat.beq z0 1) then (ByteArray.mk (Array.mk [])) else p1), p2, ()), (b1, ()), ()))
 else
 none
noncomputable def ner' (p0 : Int) (p1 p2 : ByteArray) (p3 p4 p5 b0 : Int) : Option ((Unit × Int × Int × Unit) × T'25) :=
 (nfd' p0 p1 p2 p3 p4 p5).bind fun y1 =>
 bif (y1.1.1 != (0 : Int)) then
 some (((), (0 : Int), y1.1.1, ()), (((ByteArray.mk (Array.mk [])), (ByteArray.mk (Array.mk [])), (0 : Int), ()), (b0, ()), ()))
 else
 bif (p5 == (0 : Int)) then
 some (((), (0 : Int), (8 : Int), ()), ((p1, p2, p3, ()), (b0, ()), ()))
 else
 (nj4' p1 p2 p3 b0).bind fun y2 =>
 some (((), (IntKind.i64.wrap (p5 - (1 : Int))), (0 : Int), ()), (y2.2.1, (y2.2.2.1.1, ()), ()))
noncomputable def njc' (p0 : Int) (p1 p2 : ByteArray) (p3 p4 p5 : Int) : Option ((Unit × Int × Int × Unit) × (T'24 × Unit)) :=
 (ner' p0 p1 p2 p3 p4 p5 p4).bind fun y1 =>
 some (((), y1.1.2.1, y1.1.2.2.1, ()), (y1.2.1, ()))
noncomputable def nds' (p0 : List (Int)) : Option ((ByteArray × Unit) × (T'23 × Unit)) :=
 bif someL p0 && List.all p0 (fun n => decide (0 ≤ n) && decide (n < 256)) then some ((textU p0, ()), (((), p0, ()), ())) else none
noncomputable def njf' (p0 : Int) (p1 p2 : ByteArray) (p3 p4 : Int) (p5 : ByteArray) (p6 : Int) : Option ((Unit × Int × Int × Unit) × (T'24 × Unit)) :=
 (nfd' p0 p1 p2 p3 p4 p6).bind fun y1 =>
 bif (y1.1.1 != (0 : Int)) then
 some (((), (0 : Int), y1.1.1, ()), (((ByteArray.mk (Array.mk [])), (ByteArray.mk (Array.mk [])), (0 : Int), ()), ()))
 else
 bif (inB p4 2) then
 bif (decide ((IntKind.i64.wrap (p0 - ((ByteArray.size (List.getD [p1, p2] (Int.toNat p4) (ByteArray.mk (Array.mk []))) : Nat) : Int))) < ((ByteArray.size p5 : Nat) : Int))) then
 some (((), (0 : Int), (7 : Int), ()), (((ByteArray.mk (Array.mk [])), (ByteArray.mk (Array.mk [])), (0 : Int), ()), ()))
 else
 bif (decide (p6 < ((ByteArray.size p5 : Nat) : Int))) then
 bif (inB p4 2) then
 let z0 : ByteArray := (List.getD [p1, p2] (Int.toNat p4) (ByteArray.mk (Array.mk [])))
 bif ((decide ((0 : Int) ≤ p6)) && (decide (p6 ≤ (((ByteArray.size p5) : Nat) : Int)))) then
 let z1 : ByteArray := (ByteArray.extract p5 0 (Int.toNat p6))
 bif (Nat.ble ((ByteArray.size z0) + (ByteArray.size z1)) 4611686018427387904) then
 let z2 : ByteArray := (z0 ++ z1)
 bif (inB p4 2) then
 let z3 : Nat := (Int.toNat p4)
 some (((), (0 : Int), (8 : Int), ()), (((bif (Nat.beq z3 0) then z2 else p1), (bif (Nat.beq z3 1) then z2 else p2), p3, ()), ()))
 else
 none
 else
 none
 else
 none
 else
 none
 else
 bif (inB p4 2) then
 let z4 : ByteArray := (List.getD [p1, p2] (Int.toNat p4) (ByteArray.mk (Array.mk [])))
 bif (Nat.ble ((ByteArray.size z4) + (ByteArray.size p5)) 4611686018427387904) then
 let z5 : ByteArray := (z4 ++ p5)
 bif (inB p4 2) then
 let z6 : Nat := (Int.toNat p4)
 some (((), (IntKind.i64.wrap (p6 - ((ByteArray.size p5 : Nat) : Int))), (0 : Int), ()), (((bif (Nat.beq z6 0) then z5 else p1), (bif (Nat.beq z6 1) then z5 else p2), p3, ()), ()))
 else
 none
 else
 none
 else
 none
 else
 none
noncomputable def njq' (p0 p1 : ByteArray) (p2 b1 : Int) : Option (Unit × T'25) :=
 some ((), ((p0, p1, b1, ()), (b1, ()), ()))
noncomputable def neg' (p0 : Int) (p1 p2 : ByteArray) (p3 p4 p5 b0 : Int) : Option ((Unit × Int × Int × Unit) × T'25) :=
 (nfd' p0 p1 p2 p3 p4 p5).bind fun y1 =>
 bif (y1.1.1 != (0 : Int)) then
 some (((), (0 : Int), y1.1.1, ()), (((ByteArray.mk (Array.mk [])), (ByteArray.mk (Array.mk [])), (0 : Int), ()), (b0, ()), ()))
 else
 bif (p5 == (0 : Int)) then
 some (((), (0 : Int), (8 : Int), ()), ((p1, p2, p3, ()), (b0, ()), ()))
 else
 (njq' p1 p2 p3 b0).bind fun y2 =>
 some (((), (IntKind.i64.wrap (p5 - (1 : Int))), (0 : Int), ()), (y2.2.1, (y2.2.2.1.1, ()), ()))
noncomputable def nio' (p0 : Int) (p1 p2 : ByteArray) (p3 p4 p5 : Int) : Option ((Unit × Int × Int × Unit) × (T'24 × Unit)) :=
 (neg' p0 p1 p2 p3 p4 p5 p4).bind fun y1 =>
 some (((), y1.1.2.1, y1.1.2.2.1, ()), (y1.2.1, ()))
noncomputable def nen' (p0 : Int) (s36 : List (Record)) (s37 s38 p1 p2 p3 p4 : Int) (p5 p6 p7 : Nat) (p8 : List (Car)) (p9 p10 : ByteArray) (p11 : Int) (p12 p13 : ByteArray) (p14 : Int) (p15 : List (Int)) : Option (Sum (T'26 × T'27) (T'28 × T'27)) :=
 bif (decide (s38 < s37)) then
 bif (inB s38 (List.length s36)) then
 let z0 : Record := (List.getD s36 (Int.toNat s38) (Record.mk (0 : Int) (0 : Int) (0 : Int) (0 : Int) (0 : Int)))
 (nht' p1 p2 p3 p4 p5 p6 p7 p8 z0.Kind z0.Floor z0.Dir z0.Car z0.Value).bind fun y1 =>
 (ncz' y1.1.1 p15).bind fun y2 =>
 some (Sum.inl ((p0, (), (), (), (), s36, s37, (IntKind.i64.wrap (s38 + (1 : Int))), ()), ((p1, p2, p3, p4, p5, p6, p7, p8, ()), (p9, p10, p11, ()), (p12, p13, p14, ()), ((), y2.2.1.2.1, ()), ())))
 else
 none
 else
 some (Sum.inr ((p0, (), (), (), (), ()), ((p1, p2, p3, p4, p5, p6, p7, p8, ()), (p9, p10, p11, ()), (p12, p13, p14, ()), ((), p15, ()), ())))
noncomputable def nhw' : (T'26 × T'27) → Option (T'28 × T'27) := iter (fun x => nen' x.1.1 x.1.2.2.2.2.2.1 x.1.2.2.2.2.2.2.1 x.1.2.2.2.2.2.2.2.1 x.2.1.1 x.2.1.2.1 x.2.1.2.2.1 x.2.1.2.2.2.1 x.2.1.2.2.2.2.1 x.2.1.2.2.2.2.2.1 x.2.1.2.2.2.2.2.2.1 x.2.1.2.2.2.2.2.2.2.1 x.2.2.1.1 x.2.2.1.2.1 x.2.2.1.2.2.1 x.2.2.2.1.1 x.2.2.2.1.2.1 x.2.2.2.1.2.2.1 x.2.2.2.2.1.2.1) fuel
noncomputable def ni9' (p0 p1 p2 p3 : Int) (p4 p5 p6 : Nat) (p7 : List (Car)) (p8 p9 : ByteArray) (p10 : Int) (p11 : List (Int)) (p12 p13 : List (Bool)) (p14 : List (Entry)) (p15 : Int) : Option ((Unit × Int × Int × Unit) × (T'24 × Unit)) :=
 (nc6' p2 p8 p9 p10).bind fun y1 =>
 bif (!y1.1.1) then
 some (((), (0 : Int), (1 : Int), ()), (((ByteArray.mk (Array.mk [])), (ByteArray.mk (Array.mk [])), (0 : Int), ()), ()))
 else
 bif (decide (p15 < (0 : Int))) then
 some (((), (0 : Int), (1 : Int), ()), (((ByteArray.mk (Array.mk [])), (ByteArray.mk (Array.mk [])), (0 : Int), ()), ()))
 else
 (nfl' p0 p1 p2 p3 p4 p5 p6 p7 p11 p12 p13 p14).bind fun y2 =>
 bif (!y2.1.1) then
 some (((), (0 : Int), (1 : Int), ()), (((ByteArray.mk (Array.mk [])), (ByteArray.mk (Array.mk [])), (0 : Int), ()), ()))
 else
 (nin' p0 p1 p2 p3 p4 p5 p6 p7 p11 p12 p13 p14).bind fun y3 =>
 (nhw' ((p15, (), (), (), (), y3.1.1, ((List.length y3.1.1 : Nat) : Int), (0 : Int), ()), ((p0, p1, p2, p3, p4, p5, p6, p7, ()), (p8, p9, p10, ()), ((ByteArray.mk (Array.mk [])), (ByteArray.mk (Array.mk [])), (0 : Int), ()), ((), ([] : List (Int)), ()), ()))).bind fun y4 =>
 let z0 : Int := (IntKind.i64.wrap ((1 : Int) - y4.2.2.1.2.2.1))
 (njc' y4.2.1.2.2.1 y4.2.2.1.1 y4.2.2.1.2.1 y4.2.2.1.2.2.1 z0 y4.1.1).bind fun y5 =>
 Option.bind (bif (y5.1.2.2.1 == (0 : Int)) then
 (nds' y4.2.2.2.2.1.2.1).bind fun y6 =>
 (njf' y4.2.1.2.2.1 y5.2.1.1 y5.2.1.2.1 y5.2.1.2.2.1 z0 y6.1.1 y5.1.2.1).bind fun y7 =>
 some ((y7.1.2.1, (), (), (), z0, y7.1.2.2.1, ()), (y4.2.1, y7.2.1, y4.2.2.2.1, ()))
 else
 some ((y5.1.2.1, (), (), (), z0, y5.1.2.2.1, ()), (y4.2.1, y5.2.1, y4.2.2.2.1, ()))) fun y8 =>
 bif (y8.1.2.2.2.2.2.1 == (0 : Int)) then
 (nio' y8.2.1.2.2.1 y8.2.2.1.1 y8.2.2.1.2.1 y8.2.2.1.2.2.1 y8.1.2.2.2.2.1 y8.1.1).bind fun y9 =>
 some (((), y9.1.2.1, y9.1.2.2.1, ()), (y9.2.1, ()))
 else
 some (((), y8.1.1, y8.1.2.2.2.2.2.1, ()), (y8.2.2.1, ()))
noncomputable def nja' (p0 p1 p2 p3 : Int) (p4 p5 p6 : Nat) (p7 : List (Car)) (p8 p9 : ByteArray) (p10 p11 : Int) : Option (T'19 × (T'24 × T'4 × Unit)) :=
 (nj1' p0 p1 p2 p3 p4 p5 p6 p7 p8 p9 p10).bind fun y1 =>
 (ni9' p0 p1 p2 p3 p4 p5 p6 p7 p8 p9 p10 y1.2.1.1 y1.2.1.2.1 y1.2.1.2.2.1 y1.2.1.2.2.2.1 p11).bind fun y2 =>
 bif (y2.1.2.2.1 != (0 : Int)) then
 some (((), (), (0 : Int), y2.1.2.2.1, ()), (y2.2.1, (([] : List (Int)), ([] : List (Bool)), ([] : List (Bool)), ([] : List (Entry)), ()), ()))
 else
 some (((), (), y2.1.2.1, (0 : Int), ()), (y2.2.1, y1.2.1, ()))
noncomputable def ney' (p0 p1 p2 p3 : Int) (p4 p5 p6 : Nat) (p7 : List (Car)) (p8 : List (Int)) (p9 p10 : List (Bool)) (p11 : List (Entry)) : Option ((Bool × Unit) × Unit) :=
 Option.bind ((nfl' p0 p1 p2 p3 p4 p5 p6 p7 p8 p9 p10 p11).bind fun y1 =>
 bif y1.1.1 then
 some (((decide ((IntKind.i64.wrap ((IntKind.i64.wrap ((18 : Int) * (IntKind.i64.wrap (((List.length p7 : Nat) : Int) + ((List.length p11 : Nat) : Int))))) + (6 : Int))) ≤ p2)), ()), ())
 else
 some ((false, ()), ())) fun y2 =>
 some ((y2.1.1, ()), ())
noncomputable def nex' (s : List (Int)) : Option ((List (Int) × Unit) × Unit) :=
 cloF s
noncomputable def nc9' (s : List (Bool)) : Option ((List (Bool) × Unit) × Unit) :=
 cloF s
noncomputable def ncv' (s : List (Entry)) : Option ((List (Entry) × Unit) × Unit) :=
 cloF s
noncomputable def ne9' (p0 : List (Int)) (p1 p2 : List (Bool)) (p3 : List (Entry)) : Option ((Unit × Unit) × (T'4 × Unit)) :=
 (nex' p0).bind fun y1 =>
 (nc9' p1).bind fun y2 =>
 (nc9' p2).bind fun y3 =>
 (ncv' p3).bind fun y4 =>
 some (((), ()), ((y1.1.1, y2.1.1, y3.1.1, y4.1.1, ()), ()))
noncomputable def nf9'  : Option ((Unit × Unit) × (T'29 × Unit)) :=
 some (((), ()), (((-1 : Int), (0 : Int), (0 : Int), ([] : List (Duty)), (0 : Int), false, ()), ()))
noncomputable def ndu' (s53 : List (Entry)) (s54 s55 p0 p1 p2 p3 : Int) (p4 p5 p6 : Nat) (p7 : List (Car)) (p8 : List (Int)) (p9 p10 : List (Bool)) (p11 : List (Entry)) (p12 p13 : ByteArray) (p14 : Int) (p15 : List (Debounced)) (p16 : List (Belief)) (p17 : List (NewCar)) (p18 : List (Loaded)) (p19 : List (Int)) (p20 : List (Calls)) (p21 p22 p23 : Int) (p24 : List (Int)) (p25 p26 : List (Bool)) (p27 : List (Entry)) (p28 p29 : ByteArray) (p30 : Int) (p31 : List (Debounced)) (p32 : List (Belief)) (p33 : List (NewCar)) (p34 : List (Loaded)) (p35 : List (Int)) (p36 : List (Calls)) (p37 p38 p39 : Int) : Option (Sum (T'34 × T'35) ((Unit × Unit × Unit) × (T'30 × T'30 × Unit))) :=
 bif (decide (s55 < s54)) then
 bif (inB s55 (List.length s53)) then
 let z0 : Entry := (List.getD s53 (Int.toNat s55) (Entry.mk (0 : Int) (0 : Int) (0 : Int) (0 : Int) false))
 Option.bind (bif (decide ((0 : Int) ≤ z0.Car)) then
 bif (inB z0.Car (List.length p7)) then
 some (((), (), (), (List.getD p7 (Int.toNat z0.Car) (Car.mk (0 : Int) (0 : Int) (0 : Int) (0 : Int) (0 : Int) (0 : Int) (0 : Int) (0 : Int) (0 : Int))).Deadline, s53, s54, s55, ()), ((p0, p1, p2, p3, p4, p5, p6, p7, ()), (p8, p9, p10, p11, p12, p13, p14, p15, p16, p17, p18, p19, p20, p21, p22, p23, ()), (p24, p25, p26, p27, p28, p29, p30, p31, p32, p33, p34, p35, p36, p37, p38, p39, ()), ()))
 else
 none
 else
 some (((), (), (), (0 : Int), s53, s54, s55, ()), ((p0, p1, p2, p3, p4, p5, p6, p7, ()), (p8, p9, p10, p11, p12, p13, p14, p15, p16, p17, p18, p19, p20, p21, p22, p23, ()), (p24, p25, p26, p27, p28, p29, p30, p31, p32, p33, p34, p35, p36, p37, p38, p39, ()), ()))) fun y1 =>
 let z1 : List (Int) := [y1.1.2.2.2.1]
 bif (Nat.ble ((List.length y1.2.2.2.1.2.2.2.2.2.2.2.2.2.2.2.1) + (List.length z1)) 2147483648) then
 some (Sum.inl (((), (), (), y1.1.2.2.2.2.1, y1.1.2.2.2.2.2.1, (IntKind.i64.wrap (y1.1.2.2.2.2.2.2.1 + (1 : Int))), ()), (y1.2.1, y1.2.2.1, (y1.2.2.2.1.1, y1.2.2.2.1.2.1, y1.2.2.2.1.2.2.1, y1.2.2.2.1.2.2.2.1, y1.2.2.2.1.2.2.2.2.1, y1.2.2.2.1.2.2.2.2.2.1, y1.2.2.2.1.2.2.2.2.2.2.1, y1.2.2.2.1.2.2.2.2.2.2.2.1, y1.2.2.2.1.2.2.2.2.2.2.2.2.1, y1.2.2.2.1.2.2.2.2.2.2.2.2.2.1, y1.2.2.2.1.2.2.2.2.2.2.2.2.2.2.1, (y1.2.2.2.1.2.2.2.2.2.2.2.2.2.2.2.1 ++ z1), y1.2.2.2.1.2.2.2.2.2.2.2.2.2.2.2.2.1, y1.2.2.2.1.2.2.2.2.2.2.2.2.2.2.2.2.2.1, y1.2.2.2.1.2.2.2.2.2.2.2.2.2.2.2.2.2.2.1, y1.2.2.2.1.2.2.2.2.2.2.2.2.2.2.2.2.2.2.2.1, ()), ())))
 else
 none
 else
 none
 else
 some (Sum.inr (((), (), ()), ((p8, p9, p10, p11, p12, p13, p14, p15, p16, p17, p18, p19, p20, p21, p22, p23, ()), (p24, p25, p26, p27, p28, p29, p30, p31, p32, p33, p34, p35, p36, p37, p38, p39, ()), ())))
noncomputable def neu' : (T'34 × T'35) → Option ((Unit × Unit × Unit) × (T'30 × T'30 × Unit)) := iter (fun x => ndu' x.1.2.2.2.1 x.1.2.2.2.2.1 x.1.2.2.2.2.2.1 x.2.1.1 x.2.1.2.1 x.2.1.2.2.1 x.2.1.2.2.2.1 x.2.1.2.2.2.2.1 x.2.1.2.2.2.2.2.1 x.2.1.2.2.2.2.2.2.1 x.2.1.2.2.2.2.2.2.2.1 x.2.2.1.1 x.2.2.1.2.1 x.2.2.1.2.2.1 x.2.2.1.2.2.2.1 x.2.2.1.2.2.2.2.1 x.2.2.1.2.2.2.2.2.1 x.2.2.1.2.2.2.2.2.2.1 x.2.2.1.2.2.2.2.2.2.2.1 x.2.2.1.2.2.2.2.2.2.2.2.1 x.2.2.1.2.2.2.2.2.2.2.2.2.1 x.2.2.1.2.2.2.2.2.2.2.2.2.2.1 x.2.2.1.2.2.2.2.2.2.2.2.2.2.2.1 x.2.2.1.2.2.2.2.2.2.2.2.2.2.2.2.1 x.2.2.1.2.2.2.2.2.2.2.2.2.2.2.2.2.1 x.2.2.1.2.2.2.2.2.2.2.2.2.2.2.2.2.2.1 x.2.2.1.2.2.2.2.2.2.2.2.2.2.2.2.2.2.2.1 x.2.2.2.1.1 x.2.2.2.1.2.1 x.2.2.2.1.2.2.1 x.2.2.2.1.2.2.2.1 x.2.2.2.1.2.2.2.2.1 x.2.2.2.1.2.2.2.2.2.1 x.2.2.2.1.2.2.2.2.2.2.1 x.2.2.2.1.2.2.2.2.2.2.2.1 x.2.2.2.1.2.2.2.2.2.2.2.2.1 x.2.2.2.1.2.2.2.2.2.2.2.2.2.1 x.2.2.2.1.2.2.2.2.2.2.2.2.2.2.1 x.2.2.2.1.2.2.2.2.2.2.2.2.2.2.2.1 x.2.2.2.1.2.2.2.2.2.2.2.2.2.2.2.2.1 x.2.2.2.1.2.2.2.2.2.2.2.2.2.2.2.2.2.1 x.2.2.2.1.2.2.2.2.2.2.2.2.2.2.2.2.2.2.1 x.2.2.2.1.2.2.2.2.2.2.2.2.2.2.2.2.2.2.2.1) fuel
noncomputable def ndw' (s42 s43 p0 p1 p2 p3 : Int) (p4 p5 p6 : Nat) (p7 : List (Car)) (p8 : List (Int)) (p9 p10 : List (Bool)) (p11 : List (Entry)) (p12 : List (Int)) (p13 p14 : List (Bool)) (p15 : List (Entry)) (p16 p17 : ByteArray) (p18 : Int) (p19 : List (Debounced)) (p20 : List (Belief)) (p21 : List (NewCar)) (p22 : List (Loaded)) (p23 : List (Int)) (p24 : List (Calls)) (p25 p26 p27 : Int) (p28 : List (Int)) (p29 p30 : List (Bool)) (p31 : List (Entry)) (p32 p33 : ByteArray) (p34 : Int) (p35 : List (Debounced)) (p36 : List (Belief)) (p37 : List (NewCar)) (p38 : List (Loaded)) (p39 : List (Int)) (p40 : List (Calls)) (p41 p42 p43 : Int) : Option (Sum (T'31 × T'32) (T'33 × T'32)) :=
 bif (decide (s43 < s42)) then
 (nf9').bind fun y1 =>
 let z0 : List (Belief) := [(Belief.mk y1.2.1.1 y1.2.1.2.1 y1.2.1.2.2.1 y1.2.1.2.2.2.1 y1.2.1.2.2.2.2.1 y1.2.1.2.2.2.2.2.1)]
 bif (Nat.ble ((List.length p36) + (List.length z0)) 2147483648) then
 some (Sum.inl (((), (), (), (), s42, (IntKind.i64.wrap (s43 + (1 : Int))), ()), ((p0, p1, p2, p3, p4, p5, p6, p7, ()), (p8, p9, p10, p11, ()), (p12, p13, p14, p15, p16, p17, p18, p19, p20, p21, p22, p23, p24, p25, p26, p27, ()), (p28, p29, p30, p31, p32, p33, p34, p35, (p36 ++ z0), p37, p38, p39, p40, p41, p42, p43, ()), ())))
 else
 none
 else
 some (Sum.inr (((), (), (), (), ()), ((p0, p1, p2, p3, p4, p5, p6, p7, ()), (p8, p9, p10, p11, ()), (p12, p13, p14, p15, p16, p17, p18, p19, p20, p21, p22, p23, p24, p25, p26, p27, ()), (p28, p29, p30, p31, p32, p33, p34, p35, p36, p37, p38, p39, p40, p41, p42, p43, ()), ())))
noncomputable def nev' : (T'31 × T'32) → Option (T'33 × T'32) := iter (fun x => ndw' x.1.2.2.2.2.1 x.1.2.2.2.2.2.1 x.2.1.1 x.2.1.2.1 x.2.1.2.2.1 x.2.1.2.2.2.1 x.2.1.2.2.2.2.1 x.2.1.2.2.2.2.2.1 x.2.1.2.2.2.2.2.2.1 x.2.1.2.2.2.2.2.2.2.1 x.2.2.1.1 x.2.2.1.2.1 x.2.2.1.2.2.1 x.2.2.1.2.2.2.1 x.2.2.2.1.1 x.2.2.2.1.2.1 x.2.2.2.1.2.2.1 x.2.2.2.1.2.2.2.1 x.2.2.2.1.2.2.2.2.1 x.2.2.2.1.2.2.2.2.2.1 x.2.2.2.1.2.2.2.2.2.2.1 x.2.2.2.1.2.2.2.2.2.2.2.1 x.2.2.2.1.2.2.2.2.2.2.2.2.1 x.2.2.2.1.2.2.2.2.2.2.2.2.2.1 x.2.2.2.1.2.2.2.2.2.2.2.2.2.2.1 x.2.2.2.1.2.2.2.2.2.2.2.2.2.2.2.1 x.2.2.2.1.2.2.2.2.2.2.2.2.2.2.2.2.1 x.2.2.2.1.2.2.2.2.2.2.2.2.2.2.2.2.2.1 x.2.2.2.1.2.2.2.2.2.2.2.2.2.2.2.2.2.2.1 x.2.2.2.1.2.2.2.2.2.2.2.2.2.2.2.2.2.2.2.1 x.2.2.2.2.1.1 x.2.2.2.2.1.2.1 x.2.2.2.2.1.2.2.1 x.2.2.2.2.1.2.2.2.1 x.2.2.2.2.1.2.2.2.2.1 x.2.2.2.2.1.2.2.2.2.2.1 x.2.2.2.2.1.2.2.2.2.2.2.1 x.2.2.2.2.1.2.2.2.2.2.2.2.1 x.2.2.2.2.1.2.2.2.2.2.2.2.2.1 x.2.2.2.2.1.2.2.2.2.2.2.2.2.2.1 x.2.2.2.2.1.2.2.2.2.2.2.2.2.2.2.1 x.2.2.2.2.1.2.2.2.2.2.2.2.2.2.2.2.1 x.2.2.2.2.1.2.2.2.2.2.2.2.2.2.2.2.2.1 x.2.2.2.2.1.2.2.2.2.2.2.2.2.2.2.2.2.2.1 x.2.2.2.2.1.2.2.2.2.2.2.2.2.2.2.2.2.2.2.1 x.2.2.2.2.1.2.2.2.2.2.2.2.2.2.2.2.2.2.2.2.1) fuel
noncomputable def nhy' (p0 p1 p2 p3 : Int) (p4 p5 p6 : Nat) (p7 : List (Car)) (p8 : List (Int)) (p9 p10 : List (Bool)) (p11 : List (Entry)) (p12 p13 : ByteArray) (p14 : Int) : Option ((Unit × Int × Unit) × (T'30 × Unit)) :=
 (ney' p0 p1 p2 p3 p4 p5 p6 p7 p8 p9 p10 p11).bind fun y1 =>
 bif (!y1.1.1) then
 some (((), (1 : Int), ()), ((([] : List (Int)), ([] : List (Bool)), ([] : List (Bool)), ([] : List (Entry)), (ByteArray.mk (Array.mk [])), (ByteArray.mk (Array.mk [])), (0 : Int), ([] : List (Debounced)), ([] : List (Belief)), ([] : List (NewCar)), ([] : List (Loaded)), ([] : List (Int)), ([] : List (Calls)), (0 : Int), (0 : Int), (0 : Int), ()), ()))
 else
 (nc6' p2 p12 p13 p14).bind fun y2 =>
 bif (!y2.1.1) then
 some (((), (1 : Int), ()), ((([] : List (Int)), ([] : List (Bool)), ([] : List (Bool)), ([] : List (Entry)), (ByteArray.mk (Array.mk [])), (ByteArray.mk (Array.mk [])), (0 : Int), ([] : List (Debounced)), ([] : List (Belief)), ([] : List (NewCar)), ([] : List (Loaded)), ([] : List (Int)), ([] : List (Calls)), (0 : Int), (0 : Int), (0 : Int), ()), ()))
 else
 let z0 : Int := ((List.length p7 : Nat) : Int)
 (ne9' p8 p9 p10 p11).bind fun y3 =>
 bif (((decide ((0 : Int) ≤ z0)) && (decide (z0 ≤ z0))) && (decide (z0 ≤ (2147483648 : Int)))) then
 bif (((decide ((0 : Int) ≤ z0)) && (decide (z0 ≤ z0))) && (decide (z0 ≤ (2147483648 : Int)))) then
 bif (((decide ((0 : Int) ≤ z0)) && (decide (z0 ≤ z0))) && (decide (z0 ≤ (2147483648 : Int)))) then
 bif (((decide ((0 : Int) ≤ z0)) && (decide (z0 ≤ z0))) && (decide (z0 ≤ (2147483648 : Int)))) then
 (nev' (((), (), (), (), ((List.length p7 : Nat) : Int), (0 : Int), ()), ((p0, p1, p2, p3, p4, p5, p6, p7, ()), (p8, p9, p10, p11, ()), (([] : List (Int)), ([] : List (Bool)), ([] : List (Bool)), ([] : List (Entry)), (ByteArray.mk (Array.mk [])), (ByteArray.mk (Array.mk [])), (0 : Int), ([] : List (Debounced)), ([] : List (Belief)), ([] : List (NewCar)), ([] : List (Loaded)), ([] : List (Int)), ([] : List (Calls)), (0 : Int), (0 : Int), (0 : Int), ()), (y3.2.1.1, y3.2.1.2.1, y3.2.1.2.2.1, y3.2.1.2.2.2.1, p12, p13, p14, (List.replicate (Int.toNat z0) (Debounced.mk (0 : Int) false false false false (0 : Int) (0 : Int) (0 : Int) (0 : Int) (0 : Int) (0 : Int) (0 : Int) (0 : Int) (0 : Int) (0 : Int) (0 : Int) (0 : Int) (0 : Int) (0 : Int) (0 : Int) (0 : Int) (0 : Int) (0 : Int) (0 : Int) (0 : Int) (0 : Int) (0 : Int) (0 : Int) (0 : Int) (0 : Int) (0 : Int) (0 : Int) (0 : Int) (0 : Int) (0 : Int) (0 : Int) (0 : Int) (0 : Int) (0 : Int) (0 : Int) (0 : Int))), ([] : List (Belief)), (List.replicate (Int.toNat z0) (NewCar.mk (0 : Int) (0 : Int) (0 : Int) (0 : Int) (0 : Int) false (0 : Int) (0 : Int) (0 : Int) (0 : Int) (0 : Int) (0 : Int) (0 : Int) false)), (List.replicate (Int.toNat z0) (Loaded.mk (0 : Int))), ([] : List (Int)), (List.replicate (Int.toNat z0) (Calls.mk (0 : Int) (0 : Int))), (0 : Int), (0 : Int), (0 : Int), ()), ()))).bind fun y4 =>
 (neu' (((), (), (), y4.2.2.1.2.2.2.1, ((List.length y4.2.2.1.2.2.2.1 : Nat) : Int), (0 : Int), ()), (y4.2.1, y4.2.2.2.1, y4.2.2.2.2.1, ()))).bind fun y5 =>
 some (((), (0 : Int), ()), (y5.2.2.1, ()))
 else
 none
 else
 none
 else
 none
 else
 none
noncomputable def ndj' (p0 p1 p2 p3 : Int) (p4 p5 p6 : Nat) (p7 : List (Car)) (p8 p9 : ByteArray) (p10 p11 : Int) : Option ((Unit × Int × Int × Unit) × (T'30 × Unit)) :=
 (nja' p0 p1 p2 p3 p4 p5 p6 p7 p8 p9 p10 p11).bind fun y1 =>
 bif (y1.1.2.2.2.1 != (0 : Int)) then
 some (((), (0 : Int), y1.1.2.2.2.1, ()), ((([] : List (Int)), ([] : List (Bool)), ([] : List (Bool)), ([] : List (Entry)), y1.2.1.1, y1.2.1.2.1, y1.2.1.2.2.1, ([] : List (Debounced)), ([] : List (Belief)), ([] : List (NewCar)), ([] : List (Loaded)), ([] : List (Int)), ([] : List (Calls)), (0 : Int), (0 : Int), (0 : Int), ()), ()))
 else
 Option.bind (some (((), (), (), (), y1.1.2.2.1, ()), ((p0, p1, p2, p3, p4, p5, p6, p7, ()), y1.2.1, (([] : List (Int)), ([] : List (Bool)), ([] : List (Bool)), ([] : List (Entry)), (ByteArray.mk (Array.mk [])), (ByteArray.mk (Array.mk [])), (0 : Int), ([] : List (Debounced)), ([] : List (Belief)), ([] : List (NewCar)), ([] : List (Loaded)), ([] : List (Int)), ([] : List (Calls)), (0 : Int), (0 : Int), (0 : Int), ()), y1.2.2.1, ()))) fun y2 =>
 (nhy' y2.2.1.1 y2.2.1.2.1 y2.2.1.2.2.1 y2.2.1.2.2.2.1 y2.2.1.2.2.2.2.1 y2.2.1.2.2.2.2.2.1 y2.2.1.2.2.2.2.2.2.1 y2.2.1.2.2.2.2.2.2.2.1 y2.2.2.2.2.1.1 y2.2.2.2.2.1.2.1 y2.2.2.2.2.1.2.2.1 y2.2.2.2.2.1.2.2.2.1 y2.2.2.1.1 y2.2.2.1.2.1 y2.2.2.1.2.2.1).bind fun y3 =>
 bif (y3.1.2.1 != (0 : Int)) then
 some (((), (0 : Int), y3.1.2.1, ()), ((([] : List (Int)), ([] : List (Bool)), ([] : List (Bool)), ([] : List (Entry)), (ByteArray.mk (Array.mk [])), (ByteArray.mk (Array.mk [])), (0 : Int), ([] : List (Debounced)), ([] : List (Belief)), ([] : List (NewCar)), ([] : List (Loaded)), ([] : List (Int)), ([] : List (Calls)), (0 : Int), (0 : Int), (0 : Int), ()), ()))
 else
 some (((), y2.1.2.2.2.2.1, (0 : Int), ()), (y3.2.1, ()))
noncomputable def nfu' (p0 p1 p2 p3 : Int) (p4 p5 p6 : Nat) (p7 : List (Car)) : Option ((Unit × Int × Unit) × (T'30 × Unit)) :=
 (nca' p0 p1 p2 p3 p4 p5 p6 p7).bind fun y1 =>
 bif (y1.1.1 != (0 : Int)) then
 some (((), (1 : Int), ()), ((([] : List (Int)), ([] : List (Bool)), ([] : List (Bool)), ([] : List (Entry)), (ByteArray.mk (Array.mk [])), (ByteArray.mk (Array.mk [])), (0 : Int), ([] : List (Debounced)), ([] : List (Belief)), ([] : List (NewCar)), ([] : List (Loaded)), ([] : List (Int)), ([] : List (Calls)), (0 : Int), (0 : Int), (0 : Int), ()), ()))
 else
 (ndj' p0 p1 p2 p3 p4 p5 p6 p7 (ByteArray.mk (Array.mk [])) (ByteArray.mk (Array.mk [])) (0 : Int) (1048576 : Int)).bind fun y2 =>
 some (((), y2.1.2.2.1, ()), (y2.2.1, ()))
noncomputable def n0' (s1 s2 : List (Debounced)) (s12 s13 : Int) : Option (Sum (T'36 × Unit) ((Unit × Unit) ⊕ ((Bool × Unit) × Unit))) :=
 bif (decide (s13 < s12)) then
 bif (inB s13 (List.length s1)) then
 let z0 : Debounced := (List.getD s1 (Int.toNat s13) (Debounced.mk (0 : Int) false false false false (0 : Int) (0 : Int) (0 : Int) (0 : Int) (0 : Int) (0 : Int) (0 : Int) (0 : Int) (0 : Int) (0 : Int) (0 : Int) (0 : Int) (0 : Int) (0 : Int) (0 : Int) (0 : Int) (0 : Int) (0 : Int) (0 : Int) (0 : Int) (0 : Int) (0 : Int) (0 : Int) (0 : Int) (0 : Int) (0 : Int) (0 : Int) (0 : Int) (0 : Int) (0 : Int) (0 : Int) (0 : Int) (0 : Int) (0 : Int) (0 : Int) (0 : Int)))
 bif (inB s13 (List.length s2)) then
 let z1 : Debounced := (List.getD s2 (Int.toNat s13) (Debounced.mk (0 : Int) false false false false (0 : Int) (0 : Int) (0 : Int) (0 : Int) (0 : Int) (0 : Int) (0 : Int) (0 : Int) (0 : Int) (0 : Int) (0 : Int) (0 : Int) (0 : Int) (0 : Int) (0 : Int) (0 : Int) (0 : Int) (0 : Int) (0 : Int) (0 : Int) (0 : Int) (0 : Int) (0 : Int) (0 : Int) (0 : Int) (0 : Int) (0 : Int) (0 : Int) (0 : Int) (0 : Int) (0 : Int) (0 : Int) (0 : Int) (0 : Int) (0 : Int) (0 : Int)))
 bif (!((z0.Contacts_Floors == z1.Contacts_Floors) && ((z0.Contacts_Up == z1.Contacts_Up) && ((z0.Contacts_Down == z1.Contacts_Down) && ((z0.Contacts_Open == z1.Contacts_Open) && ((z0.Contacts_Closed == z1.Contacts_Closed) && ((z0.Count_0 == z1.Count_0) && ((z0.Count_1 == z1.Count_1) && ((z0.Count_2 == z1.Count_2) && ((z0.Count_3 == z1.Count_3) && ((z0.Count_4 == z1.Count_4) && ((z0.Count_5 == z1.Count_5) && ((z0.Count_6 == z1.Count_6) && ((z0.Count_7 == z1.Count_7) && ((z0.Count_8 == z1.Count_8) && ((z0.Count_9 == z1.Count_9) && ((z0.Count_10 == z1.Count_10) && ((z0.Count_11 == z1.Count_11) && ((z0.Count_12 == z1.Count_12) && ((z0.Count_13 == z1.Count_13) && ((z0.Count_14 == z1.Count_14) && ((z0.Count_15 == z1.Count_15) && ((z0.Count_16 == z1.Count_16) && ((z0.Count_17 == z1.Count_17) && ((z0.Count_18 == z1.Count_18) && ((z0.Count_19 == z1.Count_19) && ((z0.Count_20 == z1.Count_20) && ((z0.Count_21 == z1.Count_21) && ((z0.Count_22 == z1.Count_22) && ((z0.Count_23 == z1.Count_23) && ((z0.Count_24 == z1.Count_24) && ((z0.Count_25 == z1.Count_25) && ((z0.Count_26 == z1.Count_26) && ((z0.Count_27 == z1.Count_27) && ((z0.Count_28 == z1.Count_28) && ((z0.Count_29 == z1.Count_29) && ((z0.Count_30 == z1.Count_30) && ((z0.Count_31 == z1.Count_31) && ((z0.Count_32 == z1.Count_32) && ((z0.Count_33 == z1.Count_33) && ((z0.Count_34 == z1.Count_34) && ((z0.Count_35 == z1.Count_35) && true)))))))))))))))))))))))))))))))))))))))))) then
 some (Sum.inr (Sum.inr ((false, ()), ())))
 else
 some (Sum.inl ((s1, s2, s12, (IntKind.i64.wrap (s13 + (1 : Int))), ()), ()))
 else
 none
 else
 none
 else
 some (Sum.inr (Sum.inl ((), ())))
noncomputable def nbq' : (T'36 × Unit) → Option ((Unit × Unit) ⊕ ((Bool × Unit) × Unit)) := iter (fun x => n0' x.1.1 x.1.2.1 x.1.2.2.1 x.1.2.2.2.1) fuel
noncomputable def nbs' (s1 s2 : List (Debounced)) : Option ((Bool × Unit) × Unit) :=
 bif (((List.length s1 : Nat) : Int) != ((List.length s2 : Nat) : Int)) then
 some ((false, ()), ())
 else
 (nbq' ((s1, s2, ((List.length s1 : Nat) : Int), (0 : Int), ()), ())).bind fun y1 =>
 (match y1 with
 | .inl y2 =>
 some ((true, ()), ())
 | .inr y2 =>
 some ((y2.1.1, ()), ()))
noncomputable def nbm' (s1 s2 : List (Duty)) (s12 s13 : Int) : Option (Sum (T'37 × Unit) ((Unit × Unit) ⊕ ((Bool × Unit) × Unit))) :=
 bif (decide (s13 < s12)) then
 bif (inB s13 (List.length s1)) then
 let z0 : Duty := (List.getD s1 (Int.toNat s13) (Duty.mk (0 : Int) (0 : Int) (0 : Int)))
 bif (inB s13 (List.length s2)) then
 let z1 : Duty := (List.getD s2 (Int.toNat s13) (Duty.mk (0 : Int) (0 : Int) (0 : Int)))
 bif (!((z0.Floor == z1.Floor) && ((z0.Dir == z1.Dir) && ((z0.Age == z1.Age) && true)))) then
 some (Sum.inr (Sum.inr ((false, ()), ())))
 else
 some (Sum.inl ((s1, s2, s12, (IntKind.i64.wrap (s13 + (1 : Int))), ()), ()))
 else
 none
 else
 none
 else
 some (Sum.inr (Sum.inl ((), ())))
noncomputable def nce' : (T'37 × Unit) → Option ((Unit × Unit) ⊕ ((Bool × Unit) × Unit)) := iter (fun x => nbm' x.1.1 x.1.2.1 x.1.2.2.1 x.1.2.2.2.1) fuel
noncomputable def nck' (s1 s2 : List (Duty)) : Option ((Bool × Unit) × Unit) :=
 bif (((List.length s1 : Nat) : Int) != ((List.length s2 : Nat) : Int)) then
 some ((false, ()), ())
 else
 (nce' ((s1, s2, ((List.length s1 : Nat) : Int), (0 : Int), ()), ())).bind fun y1 =>
 (match y1 with
 | .inl y2 =>
 some ((true, ()), ())
 | .inr y2 =>
 some ((y2.1.1, ()), ()))
noncomputable def njd' (p0 p1 p2 : Int) (p3 : List (Duty)) (p4 : Int) (p5 : Bool) (p6 p7 p8 : Int) (p9 : List (Duty)) (p10 : Int) (p11 : Bool) : Option ((Bool × Unit) × Unit) :=
 Option.bind (bif (p0 == p6) then
 bif (p1 == p7) then
 bif (p2 == p8) then
 (nck' p3 p9).bind fun y1 =>
 bif y1.1.1 then
 bif (p4 == p10) then
 some (((p5 == p11), ()), ())
 else
 some ((false, ()), ())
 else
 some ((false, ()), ())
 else
 some ((false, ()), ())
 else
 some ((false, ()), ())
 else
 some ((false, ()), ())) fun y2 =>
 some ((y2.1.1, ()), ())
noncomputable def ne' (s2 s15 : List (Belief)) (s16 s17 : Int) : Option (Sum (T'38 × Unit) ((Unit × Unit) ⊕ ((Bool × Unit) × Unit))) :=
 bif (decide (s17 < s16)) then
 bif (inB s17 (List.length s15)) then
 let z0 : Belief := (List.getD s15 (Int.toNat s17) (Belief.mk (0 : Int) (0 : Int) (0 : Int) [] (0 : Int) false))
 bif (inB s17 (List.length s2)) then
 let z1 : Belief := (List.getD s2 (Int.toNat s17) (Belief.mk (0 : Int) (0 : Int) (0 : Int) [] (0 : Int) false))
 (njd' z0.Floor z0.Dir z0.Door z0.Duties z0.Still z0.Late z1.Floor z1.Dir z1.Door z1.Duties z1.Still z1.Late).bind fun y1 =>
 bif (!y1.1.1) then
 some (Sum.inr (Sum.inr ((false, ()), ())))
 else
 some (Sum.inl ((s2, (), s15, s16, (IntKind.i64.wrap (s17 + (1 : Int))), ()), ()))
 else
 none
 else
 none
 else
 some (Sum.inr (Sum.inl ((), ())))
noncomputable def no' : (T'38 × Unit) → Option ((Unit × Unit) ⊕ ((Bool × Unit) × Unit)) := iter (fun x => ne' x.1.1 x.1.2.2.1 x.1.2.2.2.1 x.1.2.2.2.2.1) fuel
noncomputable def np' (s1 s2 : List (Belief)) : Option ((Bool × Unit) × Unit) :=
 bif (((List.length s1 : Nat) : Int) != ((List.length s2 : Nat) : Int)) then
 some ((false, ()), ())
 else
 (no' ((s2, (), s1, ((List.length s1 : Nat) : Int), (0 : Int), ()), ())).bind fun y1 =>
 (match y1 with
 | .inl y2 =>
 some ((true, ()), ())
 | .inr y2 =>
 some ((y2.1.1, ()), ()))
noncomputable def n8' (s1 s2 : List (NewCar)) (s12 s13 : Int) : Option (Sum (T'39 × Unit) ((Unit × Unit) ⊕ ((Bool × Unit) × Unit))) :=
 bif (decide (s13 < s12)) then
 bif (inB s13 (List.length s1)) then
 let z0 : NewCar := (List.getD s1 (Int.toNat s13) (NewCar.mk (0 : Int) (0 : Int) (0 : Int) (0 : Int) (0 : Int) false (0 : Int) (0 : Int) (0 : Int) (0 : Int) (0 : Int) (0 : Int) (0 : Int) false))
 bif (inB s13 (List.length s2)) then
 let z1 : NewCar := (List.getD s2 (Int.toNat s13) (NewCar.mk (0 : Int) (0 : Int) (0 : Int) (0 : Int) (0 : Int) false (0 : Int) (0 : Int) (0 : Int) (0 : Int) (0 : Int) (0 : Int) (0 : Int) false))
 bif (!((z0.Sweep_Dir == z1.Sweep_Dir) && ((z0.Sweep_Opened == z1.Sweep_Opened) && ((z0.Door_Stage == z1.Door_Stage) && ((z0.Door_Time == z1.Door_Time) && ((z0.Door_Since == z1.Door_Since) && ((z0.Door_Nudge == z1.Door_Nudge) && ((z0.Door_Cycles == z1.Door_Cycles) && ((z0.Motion_Command == z1.Motion_Command) && ((z0.Motion_Time == z1.Motion_Time) && ((z0.Motion_Floor == z1.Motion_Floor) && ((z0.Calls == z1.Calls) && ((z0.Shown == z1.Shown) && ((z0.Idle == z1.Idle) && ((z0.Fault == z1.Fault) && true))))))))))))))) then
 some (Sum.inr (Sum.inr ((false, ()), ())))
 else
 some (Sum.inl ((s1, s2, s12, (IntKind.i64.wrap (s13 + (1 : Int))), ()), ()))
 else
 none
 else
 none
 else
 some (Sum.inr (Sum.inl ((), ())))
noncomputable def nbz' : (T'39 × Unit) → Option ((Unit × Unit) ⊕ ((Bool × Unit) × Unit)) := iter (fun x => n8' x.1.1 x.1.2.1 x.1.2.2.1 x.1.2.2.2.1) fuel
noncomputable def nb6' (s1 s2 : List (NewCar)) : Option ((Bool × Unit) × Unit) :=
 bif (((List.length s1 : Nat) : Int) != ((List.length s2 : Nat) : Int)) then
 some ((false, ()), ())
 else
 (nbz' ((s1, s2, ((List.length s1 : Nat) : Int), (0 : Int), ()), ())).bind fun y1 =>
 (match y1 with
 | .inl y2 =>
 some ((true, ()), ())
 | .inr y2 =>
 some ((y2.1.1, ()), ()))
noncomputable def n7' (s1 s2 : List (Loaded)) (s12 s13 : Int) : Option (Sum (T'40 × Unit) ((Unit × Unit) ⊕ ((Bool × Unit) × Unit))) :=
 bif (decide (s13 < s12)) then
 bif (inB s13 (List.length s1)) then
 bif (inB s13 (List.length s2)) then
 bif (!(((List.getD s1 (Int.toNat s13) (Loaded.mk (0 : Int))).Class == (List.getD s2 (Int.toNat s13) (Loaded.mk (0 : Int))).Class) && true)) then
 some (Sum.inr (Sum.inr ((false, ()), ())))
 else
 some (Sum.inl ((s1, s2, s12, (IntKind.i64.wrap (s13 + (1 : Int))), ()), ()))
 else
 none
 else
 none
 else
 some (Sum.inr (Sum.inl ((), ())))
noncomputable def nby' : (T'40 × Unit) → Option ((Unit × Unit) ⊕ ((Bool × Unit) × Unit)) := iter (fun x => n7' x.1.1 x.1.2.1 x.1.2.2.1 x.1.2.2.2.1) fuel
noncomputable def nb8' (s1 s2 : List (Loaded)) : Option ((Bool × Unit) × Unit) :=
 bif (((List.length s1 : Nat) : Int) != ((List.length s2 : Nat) : Int)) then
 some ((false, ()), ())
 else
 (nby' ((s1, s2, ((List.length s1 : Nat) : Int), (0 : Int), ()), ())).bind fun y1 =>
 (match y1 with
 | .inl y2 =>
 some ((true, ()), ())
 | .inr y2 =>
 some ((y2.1.1, ()), ()))
noncomputable def nbe' (s1 s2 : List (Calls)) (s12 s13 : Int) : Option (Sum (T'41 × Unit) ((Unit × Unit) ⊕ ((Bool × Unit) × Unit))) :=
 bif (decide (s13 < s12)) then
 bif (inB s13 (List.length s1)) then
 let z0 : Calls := (List.getD s1 (Int.toNat s13) (Calls.mk (0 : Int) (0 : Int)))
 bif (inB s13 (List.length s2)) then
 let z1 : Calls := (List.getD s2 (Int.toNat s13) (Calls.mk (0 : Int) (0 : Int)))
 bif (!((z0.Up == z1.Up) && ((z0.Down == z1.Down) && true))) then
 some (Sum.inr (Sum.inr ((false, ()), ())))
 else
 some (Sum.inl ((s1, s2, s12, (IntKind.i64.wrap (s13 + (1 : Int))), ()), ()))
 else
 none
 else
 none
 else
 some (Sum.inr (Sum.inl ((), ())))
noncomputable def nb9' : (T'41 × Unit) → Option ((Unit × Unit) ⊕ ((Bool × Unit) × Unit)) := iter (fun x => nbe' x.1.1 x.1.2.1 x.1.2.2.1 x.1.2.2.2.1) fuel
noncomputable def ncf' (s1 s2 : List (Calls)) : Option ((Bool × Unit) × Unit) :=
 bif (((List.length s1 : Nat) : Int) != ((List.length s2 : Nat) : Int)) then
 some ((false, ()), ())
 else
 (nb9' ((s1, s2, ((List.length s1 : Nat) : Int), (0 : Int), ()), ())).bind fun y1 =>
 (match y1 with
 | .inl y2 =>
 some ((true, ()), ())
 | .inr y2 =>
 some ((y2.1.1, ()), ()))
noncomputable def ncc' (s1 s2 : List (Int)) (s12 s13 : Int) : Option (Sum (T'42 × Unit) ((Unit × Unit) ⊕ ((Bool × Unit) × Unit))) :=
 bif (decide (s13 < s12)) then
 bif (inB s13 (List.length s1)) then
 bif (inB s13 (List.length s2)) then
 bif ((List.getD s1 (Int.toNat s13) (0 : Int)) != (List.getD s2 (Int.toNat s13) (0 : Int))) then
 some (Sum.inr (Sum.inr ((false, ()), ())))
 else
 some (Sum.inl ((s1, s2, s12, (IntKind.i64.wrap (s13 + (1 : Int))), ()), ()))
 else
 none
 else
 none
 else
 some (Sum.inr (Sum.inl ((), ())))
noncomputable def nda' : (T'42 × Unit) → Option ((Unit × Unit) ⊕ ((Bool × Unit) × Unit)) := iter (fun x => ncc' x.1.1 x.1.2.1 x.1.2.2.1 x.1.2.2.2.1) fuel
noncomputable def ncu' (s1 s2 : List (Int)) : Option ((Bool × Unit) × Unit) :=
 bif (((List.length s1 : Nat) : Int) != ((List.length s2 : Nat) : Int)) then
 some ((false, ()), ())
 else
 (nda' ((s1, s2, ((List.length s1 : Nat) : Int), (0 : Int), ()), ())).bind fun y1 =>
 (match y1 with
 | .inl y2 =>
 some ((true, ()), ())
 | .inr y2 =>
 some ((y2.1.1, ()), ()))
noncomputable def nb1' (s1 s2 : List (Bool)) (s12 s13 : Int) : Option (Sum (T'43 × Unit) ((Unit × Unit) ⊕ ((Bool × Unit) × Unit))) :=
 bif (decide (s13 < s12)) then
 bif (inB s13 (List.length s1)) then
 bif (inB s13 (List.length s2)) then
 bif (!((List.getD s1 (Int.toNat s13) false) == (List.getD s2 (Int.toNat s13) false))) then
 some (Sum.inr (Sum.inr ((false, ()), ())))
 else
 some (Sum.inl ((s1, s2, s12, (IntKind.i64.wrap (s13 + (1 : Int))), ()), ()))
 else
 none
 else
 none
 else
 some (Sum.inr (Sum.inl ((), ())))
noncomputable def nc0' : (T'43 × Unit) → Option ((Unit × Unit) ⊕ ((Bool × Unit) × Unit)) := iter (fun x => nb1' x.1.1 x.1.2.1 x.1.2.2.1 x.1.2.2.2.1) fuel
noncomputable def ncp' (s1 s2 : List (Bool)) : Option ((Bool × Unit) × Unit) :=
 bif (((List.length s1 : Nat) : Int) != ((List.length s2 : Nat) : Int)) then
 some ((false, ()), ())
 else
 (nc0' ((s1, s2, ((List.length s1 : Nat) : Int), (0 : Int), ()), ())).bind fun y1 =>
 (match y1 with
 | .inl y2 =>
 some ((true, ()), ())
 | .inr y2 =>
 some ((y2.1.1, ()), ()))
noncomputable def nbd' (s1 s2 : List (Entry)) (s12 s13 : Int) : Option (Sum (T'44 × Unit) ((Unit × Unit) ⊕ ((Bool × Unit) × Unit))) :=
 bif (decide (s13 < s12)) then
 bif (inB s13 (List.length s1)) then
 let z0 : Entry := (List.getD s1 (Int.toNat s13) (Entry.mk (0 : Int) (0 : Int) (0 : Int) (0 : Int) false))
 bif (inB s13 (List.length s2)) then
 let z1 : Entry := (List.getD s2 (Int.toNat s13) (Entry.mk (0 : Int) (0 : Int) (0 : Int) (0 : Int) false))
 bif (!((z0.Floor == z1.Floor) && ((z0.Dir == z1.Dir) && ((z0.Car == z1.Car) && ((z0.Moves == z1.Moves) && ((z0.Moved == z1.Moved) && true)))))) then
 some (Sum.inr (Sum.inr ((false, ()), ())))
 else
 some (Sum.inl ((s1, s2, s12, (IntKind.i64.wrap (s13 + (1 : Int))), ()), ()))
 else
 none
 else
 none
 else
 some (Sum.inr (Sum.inl ((), ())))
noncomputable def nb7' : (T'44 × Unit) → Option ((Unit × Unit) ⊕ ((Bool × Unit) × Unit)) := iter (fun x => nbd' x.1.1 x.1.2.1 x.1.2.2.1 x.1.2.2.2.1) fuel
noncomputable def ncd' (s1 s2 : List (Entry)) : Option ((Bool × Unit) × Unit) :=
 bif (((List.length s1 : Nat) : Int) != ((List.length s2 : Nat) : Int)) then
 some ((false, ()), ())
 else
 (nb7' ((s1, s2, ((List.length s1 : Nat) : Int), (0 : Int), ()), ())).bind fun y1 =>
 (match y1 with
 | .inl y2 =>
 some ((true, ()), ())
 | .inr y2 =>
 some ((y2.1.1, ()), ()))
noncomputable def nl2' (p0 : List (Int)) (p1 p2 : List (Bool)) (p3 : List (Entry)) (p4 : List (Int)) (p5 p6 : List (Bool)) (p7 : List (Entry)) : Option ((Bool × Unit) × Unit) :=
 Option.bind ((ncu' p0 p4).bind fun y1 =>
 bif y1.1.1 then
 (ncp' p1 p5).bind fun y2 =>
 bif y2.1.1 then
 (ncp' p2 p6).bind fun y3 =>
 bif y3.1.1 then
 (ncd' p3 p7).bind fun y4 =>
 some ((y4.1.1, ()), ())
 else
 some ((false, ()), ())
 else
 some ((false, ()), ())
 else
 some ((false, ()), ())) fun y5 =>
 some ((y5.1.1, ()), ())
noncomputable def ncn' (p0 : List (Int)) (p1 p2 : List (Bool)) (p3 : List (Entry)) (p4 p5 : ByteArray) (p6 : Int) (p7 : List (Debounced)) (p8 : List (Belief)) (p9 : List (NewCar)) (p10 : List (Loaded)) (p11 : List (Int)) (p12 : List (Calls)) (p13 p14 p15 : Int) (p16 : List (Int)) (p17 p18 : List (Bool)) (p19 : List (Entry)) (p20 p21 : ByteArray) (p22 : Int) (p23 : List (Debounced)) (p24 : List (Belief)) (p25 : List (NewCar)) (p26 : List (Loaded)) (p27 : List (Int)) (p28 : List (Calls)) (p29 p30 p31 : Int) : Option ((Bool × Unit) × Unit) :=
 Option.bind ((nbs' p7 p23).bind fun y1 =>
 bif y1.1.1 then
 (np' p8 p24).bind fun y2 =>
 bif y2.1.1 then
 (nb6' p9 p25).bind fun y3 =>
 bif y3.1.1 then
 (nb8' p10 p26).bind fun y4 =>
 bif y4.1.1 then
 (ncf' p12 p28).bind fun y5 =>
 some (((), (), y5.1.1, ()), ((p0, p1, p2, p3, p4, p5, p6, p7, p8, p9, p10, p11, p12, p13, p14, p15, ()), (p16, p17, p18, p19, p20, p21, p22, p23, p24, p25, p26, p27, p28, p29, p30, p31, ()), ()))
 else
 some (((), (), false, ()), ((p0, p1, p2, p3, p4, p5, p6, p7, p8, p9, p10, p11, p12, p13, p14, p15, ()), (p16, p17, p18, p19, p20, p21, p22, p23, p24, p25, p26, p27, p28, p29, p30, p31, ()), ()))
 else
 some (((), (), false, ()), ((p0, p1, p2, p3, p4, p5, p6, p7, p8, p9, p10, p11, p12, p13, p14, p15, ()), (p16, p17, p18, p19, p20, p21, p22, p23, p24, p25, p26, p27, p28, p29, p30, p31, ()), ()))
 else
 some (((), (), false, ()), ((p0, p1, p2, p3, p4, p5, p6, p7, p8, p9, p10, p11, p12, p13, p14, p15, ()), (p16, p17, p18, p19, p20, p21, p22, p23, p24, p25, p26, p27, p28, p29, p30, p31, ()), ()))
 else
 some (((), (), false, ()), ((p0, p1, p2, p3, p4, p5, p6, p7, p8, p9, p10, p11, p12, p13, p14, p15, ()), (p16, p17, p18, p19, p20, p21, p22, p23, p24, p25, p26, p27, p28, p29, p30, p31, ()), ()))) fun y6 =>
 Option.bind (bif y6.1.2.2.1 then
 (nl2' y6.2.1.1 y6.2.1.2.1 y6.2.1.2.2.1 y6.2.1.2.2.2.1 y6.2.2.1.1 y6.2.2.1.2.1 y6.2.2.1.2.2.1 y6.2.2.1.2.2.2.1).bind fun y7 =>
 bif y7.1.1 then
 bif ((eqB y6.2.1.2.2.2.2.1 y6.2.2.1.2.2.2.2.1) && ((eqB y6.2.1.2.2.2.2.2.1 y6.2.2.1.2.2.2.2.2.1) && ((y6.2.1.2.2.2.2.2.2.1 == y6.2.2.1.2.2.2.2.2.2.1) && true))) then
 (ncu' y6.2.1.2.2.2.2.2.2.2.2.2.2.2.1 y6.2.2.1.2.2.2.2.2.2.2.2.2.2.2.1).bind fun y8 =>
 bif y8.1.1 then
 bif (y6.2.1.2.2.2.2.2.2.2.2.2.2.2.2.2.1 == y6.2.2.1.2.2.2.2.2.2.2.2.2.2.2.2.2.1) then
 bif (y6.2.1.2.2.2.2.2.2.2.2.2.2.2.2.2.2.1 == y6.2.2.1.2.2.2.2.2.2.2.2.2.2.2.2.2.2.1) then
 some (((y6.2.1.2.2.2.2.2.2.2.2.2.2.2.2.2.2.2.1 == y6.2.2.1.2.2.2.2.2.2.2.2.2.2.2.2.2.2.2.1), ()), ())
 else
 some ((false, ()), ())
 else
 some ((false, ()), ())
 else
 some ((false, ()), ())
 else
 some ((false, ()), ())
 else
 some ((false, ()), ())
 else
 some ((false, ()), ())) fun y9 =>
 some ((y9.1.1, ()), ())
noncomputable def ng3'  : Option ((Bool × Unit) × Unit) :=
 (nc3' (9 : Int) (90 : Int)).bind fun y1 =>
 Option.bind (some (((), ()), (y1.2.1, ()))) fun y2 =>
 (nfu' y2.2.1.1 y2.2.1.2.1 y2.2.1.2.2.1 y2.2.1.2.2.2.1 y2.2.1.2.2.2.2.1 y2.2.1.2.2.2.2.2.1 y2.2.1.2.2.2.2.2.2.1 y2.2.1.2.2.2.2.2.2.2.1).bind fun y3 =>
 (ndj' y2.2.1.1 y2.2.1.2.1 y2.2.1.2.2.1 y2.2.1.2.2.2.1 y2.2.1.2.2.2.2.1 y2.2.1.2.2.2.2.2.1 y2.2.1.2.2.2.2.2.2.1 y2.2.1.2.2.2.2.2.2.2.1 y3.2.1.2.2.2.2.1 y3.2.1.2.2.2.2.2.1 y3.2.1.2.2.2.2.2.2.1 (100 : Int)).bind fun y4 =>
 (ndj' y2.2.1.1 y2.2.1.2.1 y2.2.1.2.2.1 y2.2.1.2.2.2.1 y2.2.1.2.2.2.2.1 y2.2.1.2.2.2.2.2.1 y2.2.1.2.2.2.2.2.2.1 y2.2.1.2.2.2.2.2.2.2.1 y3.2.1.2.2.2.2.1 y3.2.1.2.2.2.2.2.1 y3.2.1.2.2.2.2.2.2.1 (0 : Int)).bind fun y5 =>
 Option.bind (bif (y3.1.2.1 == (0 : Int)) then
 bif (((List.length y3.2.1.2.2.2.2.2.2.2.2.1 : Nat) : Int) == (2 : Int)) then
 bif (inB (1 : Int) (List.length y3.2.1.2.2.2.2.2.2.2.2.1)) then
 bif ((List.getD y3.2.1.2.2.2.2.2.2.2.2.1 (Int.toNat (1 : Int)) (Belief.mk (0 : Int) (0 : Int) (0 : Int) [] (0 : Int) false)).Floor == (-1 : Int)) then
 bif (((List.length y3.2.1.1 : Nat) : Int) == (2 : Int)) then
 bif (y4.1.2.2.1 == (0 : Int)) then
 bif (y4.1.2.1 == (62 : Int)) then
 (ncn' y4.2.1.1 y4.2.1.2.1 y4.2.1.2.2.1 y4.2.1.2.2.2.1 y4.2.1.2.2.2.2.1 y4.2.1.2.2.2.2.2.1 y4.2.1.2.2.2.2.2.2.1 y4.2.1.2.2.2.2.2.2.2.1 y4.2.1.2.2.2.2.2.2.2.2.1 y4.2.1.2.2.2.2.2.2.2.2.2.1 y4.2.1.2.2.2.2.2.2.2.2.2.2.1 y4.2.1.2.2.2.2.2.2.2.2.2.2.2.1 y4.2.1.2.2.2.2.2.2.2.2.2.2.2.2.1 y4.2.1.2.2.2.2.2.2.2.2.2.2.2.2.2.1 y4.2.1.2.2.2.2.2.2.2.2.2.2.2.2.2.2.1 y4.2.1.2.2.2.2.2.2.2.2.2.2.2.2.2.2.2.1 y4.2.1.1 y4.2.1.2.1 y4.2.1.2.2.1 y4.2.1.2.2.2.1 y4.2.1.2.2.2.2.1 y4.2.1.2.2.2.2.2.1 y4.2.1.2.2.2.2.2.2.1 y4.2.1.2.2.2.2.2.2.2.1 y4.2.1.2.2.2.2.2.2.2.2.1 y4.2.1.2.2.2.2.2.2.2.2.2.1 y4.2.1.2.2.2.2.2.2.2.2.2.2.1 y4.2.1.2.2.2.2.2.2.2.2.2.2.2.1 y4.2.1.2.2.2.2.2.2.2.2.2.2.2.2.1 y4.2.1.2.2.2.2.2.2.2.2.2.2.2.2.2.1 y4.2.1.2.2.2.2.2.2.2.2.2.2.2.2.2.2.1 y4.2.1.2.2.2.2.2.2.2.2.2.2.2.2.2.2.2.1).bind fun y6 =>
 bif y6.1.1 then
 some (((y5.1.2.2.1 == (8 : Int)), ()), ())
 else
 some ((false, ()), ())
 else
 some ((false, ()), ())
 else
 some ((false, ()), ())
 else
 some ((false, ()), ())
 else
 some ((false, ()), ())
 else
 none
 else
 some ((false, ()), ())
 else
 some ((false, ()), ())) fun y7 =>
 some ((y7.1.1, ()), ())
noncomputable def nd5' (n lo hi : Int) : Option ((Bool × Unit) × Unit) :=
 Option.bind (bif (decide (lo ≤ n)) then
 some (((decide (n ≤ hi)), ()), ())
 else
 some ((false, ()), ())) fun y1 =>
 some ((y1.1.1, ()), ())
noncomputable def nd0' (l : List (Int)) (i p0 p1 p2 p3 : Int) (p4 p5 p6 : Nat) (p7 : List (Car)) (p8 p9 p10 p11 p12 p13 p14 p15 p16 : Int) : Option (Sum (T'45 × (T'0 × T'46 × Unit)) (((Unit × Unit × Unit) × (T'0 × T'46 × Unit)) ⊕ ((Bool × Unit) × Unit))) :=
 bif (decide (i < (7 : Int))) then
 bif (inB i (List.length l)) then
 (nd5' (List.getD l (Int.toNat i) (0 : Int)) (1 : Int) (10000 : Int)).bind fun y1 =>
 bif (!y1.1.1) then
 some (Sum.inr (Sum.inr ((false, ()), ())))
 else
 some (Sum.inl (((), (), l, (IntKind.i64.wrap (i + (1 : Int))), ()), ((p0, p1, p2, p3, p4, p5, p6, p7, ()), (p8, p9, p10, p11, p12, p13, p14, p15, p16, ()), ())))
 else
 none
 else
 some (Sum.inr (Sum.inl (((), (), ()), ((p0, p1, p2, p3, p4, p5, p6, p7, ()), (p8, p9, p10, p11, p12, p13, p14, p15, p16, ()), ()))))
noncomputable def nje' : (T'45 × (T'0 × T'46 × Unit)) → Option (((Unit × Unit × Unit) × (T'0 × T'46 × Unit)) ⊕ ((Bool × Unit) × Unit)) := iter (fun x => nd0' x.1.2.2.1 x.1.2.2.2.1 x.2.1.1 x.2.1.2.1 x.2.1.2.2.1 x.2.1.2.2.2.1 x.2.1.2.2.2.2.1 x.2.1.2.2.2.2.2.1 x.2.1.2.2.2.2.2.2.1 x.2.1.2.2.2.2.2.2.2.1 x.2.2.1.1 x.2.2.1.2.1 x.2.2.1.2.2.1 x.2.2.1.2.2.2.1 x.2.2.1.2.2.2.2.1 x.2.2.1.2.2.2.2.2.1 x.2.2.1.2.2.2.2.2.2.1 x.2.2.1.2.2.2.2.2.2.2.1 x.2.2.1.2.2.2.2.2.2.2.2.1) fuel
noncomputable def nk6' (p0 p1 p2 p3 : Int) (p4 p5 p6 : Nat) (p7 : List (Car)) (p8 p9 p10 p11 p12 p13 p14 p15 p16 : Int) : Option ((Bool × Unit) × Unit) :=
 bif (decide (p11 < (0 : Int))) then
 some ((false, ()), ())
 else
 bif (decide ((10000 : Int) < p11)) then
 some ((false, ()), ())
 else
 (nje' (((), (), [p8, p9, p10, p12, p13, p14, p15, (IntKind.i64.wrap (p11 + (1 : Int)))], (0 : Int), ()), ((p0, p1, p2, p3, p4, p5, p6, p7, ()), (p8, p9, p10, p11, p12, p13, p14, p15, p16, ()), ()))).bind fun y1 =>
 (match y1 with
 | .inl y2 =>
 Option.bind (bif (decide (y2.2.2.1.2.2.2.2.2.2.1 ≤ y2.2.2.1.2.2.2.2.2.2.2.1)) then
 (nd5' y2.2.2.1.2.2.2.2.2.2.2.2.1 (0 : Int) (IntKind.i64.wrap (y2.2.1.1 - (1 : Int)))).bind fun y3 =>
 some ((y3.1.1, ()), ())
 else
 some ((false, ()), ())) fun y4 =>
 some ((y4.1.1, ()), ())
 | .inr y2 =>
 some ((y2.1.1, ()), ()))
noncomputable def nfg' (ok : Bool) (i p0 p1 p2 p3 : Int) (p4 p5 p6 : Nat) (p7 : List (Car)) : Option (Sum (T'47 × (T'0 × Unit)) ((Unit × Bool × Unit) × (T'0 × Unit))) :=
 bif (decide (i < ((List.length p7 : Nat) : Int))) then
 Option.bind (bif ok then
 bif (inB i (List.length p7)) then
 let z0 : Car := (List.getD p7 (Int.toNat i) (Car.mk (0 : Int) (0 : Int) (0 : Int) (0 : Int) (0 : Int) (0 : Int) (0 : Int) (0 : Int) (0 : Int)))
 (nk6' p0 p1 p2 p3 p4 p5 p6 p7 z0.Deadline z0.Pulse z0.Quiet z0.Slack z0.Step z0.Travel z0.Dwell z0.Hold z0.Home).bind fun y1 =>
 some (((), y1.1.1, i, ()), ((p0, p1, p2, p3, p4, p5, p6, p7, ()), ()))
 else
 none
 else
 some (((), false, i, ()), ((p0, p1, p2, p3, p4, p5, p6, p7, ()), ()))) fun y2 =>
 some (Sum.inl (((), y2.1.2.1, (IntKind.i64.wrap (y2.1.2.2.1 + (1 : Int))), ()), (y2.2.1, ())))
 else
 some (Sum.inr (((), ok, ()), ((p0, p1, p2, p3, p4, p5, p6, p7, ()), ())))
noncomputable def ni4' : (T'47 × (T'0 × Unit)) → Option ((Unit × Bool × Unit) × (T'0 × Unit)) := iter (fun x => nfg' x.1.2.1 x.1.2.2.1 x.2.1.1 x.2.1.2.1 x.2.1.2.2.1 x.2.1.2.2.2.1 x.2.1.2.2.2.2.1 x.2.1.2.2.2.2.2.1 x.2.1.2.2.2.2.2.2.1 x.2.1.2.2.2.2.2.2.2.1) fuel
noncomputable def nc2' (p0 p1 p2 p3 : Int) (p4 p5 p6 : Nat) (p7 : List (Car)) : Option ((Int × Unit) × Unit) :=
 (nd5' p0 (2 : Int) (32 : Int)).bind fun y1 =>
 bif (!y1.1.1) then
 some (((10 : Int), ()), ())
 else
 (nd5' ((List.length p7 : Nat) : Int) (1 : Int) (8 : Int)).bind fun y2 =>
 bif (!y2.1.1) then
 some (((11 : Int), ()), ())
 else
 Option.bind ((nd5' p1 (1 : Int) (16 : Int)).bind fun y3 =>
 bif y3.1.1 then
 (nd5' p3 (1 : Int) (10000 : Int)).bind fun y4 =>
 some (((), y4.1.1, ()), ((p0, p1, p2, p3, p4, p5, p6, p7, ()), ()))
 else
 some (((), false, ()), ((p0, p1, p2, p3, p4, p5, p6, p7, ()), ()))) fun y5 =>
 (ni4' (((), y5.1.2.1, (0 : Int), ()), (y5.2.1, ()))).bind fun y6 =>
 bif (!y6.1.2.1) then
 some (((12 : Int), ()), ())
 else
 bif (((FloatKind.format FloatKind.f64).order 0 y6.2.1.2.2.2.2.1) == some Ordering.lt) then
 bif (((FloatKind.format FloatKind.f64).order y6.2.1.2.2.2.2.1 y6.2.1.2.2.2.2.2.1) == some Ordering.lt) then
 bif (((FloatKind.format FloatKind.f64).order y6.2.1.2.2.2.2.2.1 y6.2.1.2.2.2.2.2.2.1) == some Ordering.lt) then
 bif (!(((FloatKind.format FloatKind.f64).order y6.2.1.2.2.2.2.2.2.1 9218868437227405311) == some Ordering.lt || ((FloatKind.format FloatKind.f64).order y6.2.1.2.2.2.2.2.2.1 9218868437227405311) == some Ordering.eq)) then
 some (((13 : Int), ()), ())
 else
 (nd5' y6.2.1.2.2.1 (IntKind.i64.wrap ((IntKind.i64.wrap ((18 : Int) * ((List.length y6.2.1.2.2.2.2.2.2.2.1 : Nat) : Int))) + (24 : Int))) (65536 : Int)).bind fun y7 =>
 bif (!y7.1.1) then
 some (((14 : Int), ()), ())
 else
 some (((0 : Int), ()), ())
 else
 some (((13 : Int), ()), ())
 else
 some (((13 : Int), ()), ())
 else
 some (((13 : Int), ()), ())
noncomputable def nha' (p0 p1 p2 p3 : Int) (p4 p5 p6 : Nat) (p7 : List (Car)) : Option ((Unit × Unit) × (T'4 × Unit)) :=
 (nc2' p0 p1 p2 p3 p4 p5 p6 p7).bind fun y1 =>
 bif (y1.1.1 != (0 : Int)) then
 some (((), ()), ((([] : List (Int)), ([] : List (Bool)), ([] : List (Bool)), ([] : List (Entry)), ()), ()))
 else
 let z0 : Int := ((List.length p7 : Nat) : Int)
 bif (((decide ((0 : Int) ≤ z0)) && (decide (z0 ≤ z0))) && (decide (z0 ≤ (2147483648 : Int)))) then
 bif (((decide ((0 : Int) ≤ z0)) && (decide (z0 ≤ z0))) && (decide (z0 ≤ (2147483648 : Int)))) then
 bif (((decide ((0 : Int) ≤ z0)) && (decide (z0 ≤ z0))) && (decide (z0 ≤ (2147483648 : Int)))) then
 some (((), ()), (((List.replicate (Int.toNat z0) (0 : Int)), (List.replicate (Int.toNat z0) false), (List.replicate (Int.toNat z0) false), ([] : List (Entry)), ()), ()))
 else
 none
 else
 none
 else
 none
noncomputable def ndq' (l : List (Int)) (p0 : Int) (out : List (Record)) (f c i : Int) : Option (Sum (T'48 × Unit) ((List (Record) × Unit) × Unit)) :=
 bif (decide ((IntKind.i64.wrap (i + (1 : Int))) < ((List.length l : Nat) : Int))) then
 bif (decide (((List.length out : Nat) : Int) < p0)) then
 bif (inB i (List.length l)) then
 let z0 : Int := (IntKind.i64.wrap (List.getD l (Int.toNat i) (0 : Int)))
 let z1 : Int := (IntKind.i64.wrap (i + (1 : Int)))
 bif (inB z1 (List.length l)) then
 let z2 : Int := (IntKind.i64.wrap (List.getD l (Int.toNat z1) (0 : Int)))
 let z3 : Int := (IntKind.i64.wrap ((1 : Int) + (Int.tmod z0 (7 : Int))))
 Option.bind (bif (z3 == (4 : Int)) then
 bif (c != (0 : Int)) then
 some ((l, p0, out, f, c, i, z0, (), ()), ((z3, (0 : Int), (0 : Int), (Int.tmod (IntKind.i64.wrap (Int.tdiv z0 (7 : Int))) c), (Int.tmod z2 (5 : Int)), ()), ()))
 else
 none
 else
 bif (z3 == (5 : Int)) then
 bif (c != (0 : Int)) then
 some ((l, p0, out, f, c, i, z0, (), ()), ((z3, (0 : Int), (0 : Int), (Int.tmod (IntKind.i64.wrap (Int.tdiv z0 (7 : Int))) c), (Int.tmod z2 (2 : Int)), ()), ()))
 else
 none
 else
 bif (z3 == (6 : Int)) then
 bif (c != (0 : Int)) then
 some ((l, p0, out, f, c, i, z0, (), ()), ((z3, (0 : Int), (0 : Int), (Int.tmod (IntKind.i64.wrap (Int.tdiv z0 (7 : Int))) c), (Int.tmod z2 (2 : Int)), ()), ()))
 else
 none
 else
 let z4 : Int := (IntKind.i64.wrap ((1 : Int) + (Int.tmod z2 (2 : Int))))
 let z5 : Int := (IntKind.i64.wrap (f - (1 : Int)))
 bif (z5 != (0 : Int)) then
 let z6 : Int := (Int.tmod (IntKind.i64.wrap (Int.tdiv z2 (2 : Int))) z5)
 bif (z4 == (2 : Int)) then
 some ((l, p0, out, f, c, i, z0, (), ()), ((z3, (IntKind.i64.wrap (z6 + (1 : Int))), z4, (0 : Int), (0 : Int), ()), ()))
 else
 some ((l, p0, out, f, c, i, z0, (), ()), ((z3, z6, z4, (0 : Int), (0 : Int), ()), ()))
 else
 none) fun y1 =>
 Option.bind (bif (y1.2.1.1 == (3 : Int)) then
 let z7 : Int := (IntKind.i64.wrap (y1.1.2.2.2.2.1 + (2 : Int)))
 bif (z7 != (0 : Int)) then
 some ((y1.1.1, y1.1.2.1, y1.1.2.2.1, y1.1.2.2.2.1, y1.1.2.2.2.2.1, y1.1.2.2.2.2.2.1, y1.1.2.2.2.2.2.2.1, (), ()), ((y1.2.1.1, y1.2.1.2.1, y1.2.1.2.2.1, (IntKind.i64.wrap ((Int.tmod (IntKind.i64.wrap (Int.tdiv y1.1.2.2.2.2.2.2.1 (7 : Int))) z7) - (2 : Int))), y1.2.1.2.2.2.2.1, ()), ()))
 else
 none
 else
 some ((y1.1.1, y1.1.2.1, y1.1.2.2.1, y1.1.2.2.2.1, y1.1.2.2.2.2.1, y1.1.2.2.2.2.2.1, y1.1.2.2.2.2.2.2.1, (), ()), (y1.2.1, ()))) fun y2 =>
 bif (y2.2.1.1 == (7 : Int)) then
 let z8 : List (Record) := [(Record.mk y2.2.1.1 y2.2.1.2.1 y2.2.1.2.2.1 (Int.tmod (IntKind.i64.wrap (Int.tdiv y2.1.2.2.2.2.2.2.1 (7 : Int))) (2 : Int)) (IntKind.i64.wrap (Int.tdiv y2.1.2.2.2.2.2.2.1 (14 : Int))))]
 bif (Nat.ble ((List.length y2.1.2.2.1) + (List.length z8)) 2147483648) then
 some (Sum.inl ((y2.1.1, y2.1.2.1, (y2.1.2.2.1 ++ z8), y2.1.2.2.2.1, y2.1.2.2.2.2.1, (IntKind.i64.wrap (y2.1.2.2.2.2.2.1 + (2 : Int))), ()), ()))
 else
 none
 else
 let z9 : List (Record) := [(Record.mk y2.2.1.1 y2.2.1.2.1 y2.2.1.2.2.1 y2.2.1.2.2.2.1 y2.2.1.2.2.2.2.1)]
 bif (Nat.ble ((List.length y2.1.2.2.1) + (List.length z9)) 2147483648) then
 some (Sum.inl ((y2.1.1, y2.1.2.1, (y2.1.2.2.1 ++ z9), y2.1.2.2.2.1, y2.1.2.2.2.2.1, (IntKind.i64.wrap (y2.1.2.2.2.2.2.1 + (2 : Int))), ()), ()))
 else
 none
 else
 none
 else
 none
 else
 some (Sum.inr ((out, ()), ()))
 else
 some (Sum.inr ((out, ()), ()))
noncomputable def nhs' : (T'48 × Unit) → Option ((List (Record) × Unit) × Unit) := iter (fun x => ndq' x.1.1 x.1.2.1 x.1.2.2.1 x.1.2.2.2.1 x.1.2.2.2.2.1 x.1.2.2.2.2.2.1) fuel
noncomputable def njk' (p0 p1 p2 p3 : Int) (p4 p5 p6 : Nat) (p7 : List (Car)) (l : List (Int)) (p8 : Int) : Option ((List (Record) × Unit) × Unit) :=
 (nhs' ((l, p8, ([] : List (Record)), p0, ((List.length p7 : Nat) : Int), (0 : Int), ()), ())).bind fun y1 =>
 some ((y1.1.1, ()), ())
noncomputable def nge' (p0 p1 p2 p3 : Int) (p4 p5 p6 : Nat) (p7 : List (Car)) (p8 dir : Int) : Option ((Bool × Unit) × Unit) :=
 (nc2' p0 p1 p2 p3 p4 p5 p6 p7).bind fun y1 =>
 bif (y1.1.1 != (0 : Int)) then
 some ((false, ()), ())
 else
 Option.bind (bif (dir == (1 : Int)) then
 (nd5' p8 (0 : Int) (IntKind.i64.wrap (p0 - (2 : Int)))).bind fun y2 =>
 bif y2.1.1 then
 some ((true, ()), ())
 else
 bif (dir == (2 : Int)) then
 (nd5' p8 (1 : Int) (IntKind.i64.wrap (p0 - (1 : Int)))).bind fun y3 =>
 some ((y3.1.1, ()), ())
 else
 some ((false, ()), ())
 else
 bif (dir == (2 : Int)) then
 (nd5' p8 (1 : Int) (IntKind.i64.wrap (p0 - (1 : Int)))).bind fun y4 =>
 some ((y4.1.1, ()), ())
 else
 some ((false, ()), ())) fun y5 =>
 some ((y5.1.1, ()), ())
noncomputable def nj8' (p0 p1 p2 p3 : Int) (p4 : Bool) (p5 p6 p7 p8 : Int) (p9 : Bool) : Option ((Bool × Unit) × Unit) :=
 Option.bind (bif (decide (p0 < p5)) then
 some ((true, ()), ())
 else
 bif (p0 == p5) then
 some (((decide (p1 < p6)), ()), ())
 else
 some ((false, ()), ())) fun y1 =>
 some ((y1.1.1, ()), ())
noncomputable def ndo' (n i p0 p1 p2 p3 : Int) (p4 p5 p6 : Nat) (p7 : List (Car)) (p8 : List (Int)) (p9 p10 : List (Bool)) (p11 : List (Entry)) : Option (Sum (T'19 × (T'0 × T'4 × Unit)) ((Unit × Unit) ⊕ ((Bool × Unit) × Unit))) :=
 bif (decide (i < ((List.length p11 : Nat) : Int))) then
 bif (inB i (List.length p11)) then
 let z0 : Entry := (List.getD p11 (Int.toNat i) (Entry.mk (0 : Int) (0 : Int) (0 : Int) (0 : Int) false))
 Option.bind ((nge' p0 p1 p2 p3 p4 p5 p6 p7 z0.Floor z0.Dir).bind fun y1 =>
 bif (!y1.1.1) then
 some (((), (), n, i, true, ()), ((p0, p1, p2, p3, p4, p5, p6, p7, ()), (p8, p9, p10, p11, ()), ()))
 else
 bif (decide (z0.Car < (-2 : Int))) then
 some (((), (), n, i, true, ()), ((p0, p1, p2, p3, p4, p5, p6, p7, ()), (p8, p9, p10, p11, ()), ()))
 else
 bif (decide (n ≤ z0.Car)) then
 some (((), (), n, i, true, ()), ((p0, p1, p2, p3, p4, p5, p6, p7, ()), (p8, p9, p10, p11, ()), ()))
 else
 bif (decide (z0.Moves < (0 : Int))) then
 some (((), (), n, i, true, ()), ((p0, p1, p2, p3, p4, p5, p6, p7, ()), (p8, p9, p10, p11, ()), ()))
 else
 bif (decide ((255 : Int) < z0.Moves)) then
 some (((), (), n, i, true, ()), ((p0, p1, p2, p3, p4, p5, p6, p7, ()), (p8, p9, p10, p11, ()), ()))
 else
 bif (decide ((0 : Int) < i)) then
 let z1 : Int := (IntKind.i64.wrap (i - (1 : Int)))
 bif (inB z1 (List.length p11)) then
 let z2 : Entry := (List.getD p11 (Int.toNat z1) (Entry.mk (0 : Int) (0 : Int) (0 : Int) (0 : Int) false))
 (nj8' z2.Floor z2.Dir z2.Car z2.Moves z2.Moved z0.Floor z0.Dir z0.Car z0.Moves z0.Moved).bind fun y2 =>
 some (((), (), n, i, (!y2.1.1), ()), ((p0, p1, p2, p3, p4, p5, p6, p7, ()), (p8, p9, p10, p11, ()), ()))
 else
 none
 else
 some (((), (), n, i, false, ()), ((p0, p1, p2, p3, p4, p5, p6, p7, ()), (p8, p9, p10, p11, ()), ()))) fun y3 =>
 bif y3.1.2.2.2.2.1 then
 some (Sum.inr (Sum.inr ((false, ()), ())))
 else
 some (Sum.inl (((), (), y3.1.2.2.1, (IntKind.i64.wrap (y3.1.2.2.2.1 + (1 : Int))), ()), (y3.2.1, y3.2.2.1, ())))
 else
 none
 else
 some (Sum.inr (Sum.inl ((), ())))
noncomputable def nh7' : (T'19 × (T'0 × T'4 × Unit)) → Option ((Unit × Unit) ⊕ ((Bool × Unit) × Unit)) := iter (fun x => ndo' x.1.2.2.1 x.1.2.2.2.1 x.2.1.1 x.2.1.2.1 x.2.1.2.2.1 x.2.1.2.2.2.1 x.2.1.2.2.2.2.1 x.2.1.2.2.2.2.2.1 x.2.1.2.2.2.2.2.2.1 x.2.1.2.2.2.2.2.2.2.1 x.2.2.1.1 x.2.2.1.2.1 x.2.2.1.2.2.1 x.2.2.1.2.2.2.1) fuel
noncomputable def nej' (n i p0 p1 p2 p3 : Int) (p4 p5 p6 : Nat) (p7 : List (Car)) (p8 : List (Int)) (p9 p10 : List (Bool)) (p11 : List (Entry)) : Option (Sum (T'19 × (T'0 × T'4 × Unit)) ((T'49 × (T'0 × T'4 × Unit)) ⊕ ((Bool × Unit) × Unit))) :=
 bif (decide (i < n)) then
 bif (inB i (List.length p8)) then
 bif (decide ((List.getD p8 (Int.toNat i) (0 : Int)) < (0 : Int))) then
 some (Sum.inr (Sum.inr ((false, ()), ())))
 else
 bif (inB i (List.length p8)) then
 bif (decide ((4 : Int) < (List.getD p8 (Int.toNat i) (0 : Int)))) then
 some (Sum.inr (Sum.inr ((false, ()), ())))
 else
 some (Sum.inl (((), (), n, (IntKind.i64.wrap (i + (1 : Int))), ()), ((p0, p1, p2, p3, p4, p5, p6, p7, ()), (p8, p9, p10, p11, ()), ())))
 else
 none
 else
 none
 else
 some (Sum.inr (Sum.inl (((), (), n, ()), ((p0, p1, p2, p3, p4, p5, p6, p7, ()), (p8, p9, p10, p11, ()), ()))))
noncomputable def nhu' : (T'19 × (T'0 × T'4 × Unit)) → Option ((T'49 × (T'0 × T'4 × Unit)) ⊕ ((Bool × Unit) × Unit)) := iter (fun x => nej' x.1.2.2.1 x.1.2.2.2.1 x.2.1.1 x.2.1.2.1 x.2.1.2.2.1 x.2.1.2.2.2.1 x.2.1.2.2.2.2.1 x.2.1.2.2.2.2.2.1 x.2.1.2.2.2.2.2.2.1 x.2.1.2.2.2.2.2.2.2.1 x.2.2.1.1 x.2.2.1.2.1 x.2.2.1.2.2.1 x.2.2.1.2.2.2.1) fuel
noncomputable def neq' (p0 p1 p2 p3 : Int) (p4 p5 p6 : Nat) (p7 : List (Car)) (p8 : List (Int)) (p9 p10 : List (Bool)) (p11 : List (Entry)) : Option ((Bool × Unit) × Unit) :=
 let z0 : Int := ((List.length p7 : Nat) : Int)
 (nc2' p0 p1 p2 p3 p4 p5 p6 p7).bind fun y1 =>
 bif (y1.1.1 != (0 : Int)) then
 some ((false, ()), ())
 else
 bif (((List.length p8 : Nat) : Int) != z0) then
 some ((false, ()), ())
 else
 bif (((List.length p9 : Nat) : Int) != z0) then
 some ((false, ()), ())
 else
 bif (((List.length p10 : Nat) : Int) != z0) then
 some ((false, ()), ())
 else
 (nhu' (((), (), z0, (0 : Int), ()), ((p0, p1, p2, p3, p4, p5, p6, p7, ()), (p8, p9, p10, p11, ()), ()))).bind fun y2 =>
 (match y2 with
 | .inl y3 =>
 (nh7' (((), (), y3.1.2.2.1, (0 : Int), ()), (y3.2.1, y3.2.2.1, ()))).bind fun y4 =>
 (match y4 with
 | .inl y5 =>
 some ((true, ()), ())
 | .inr y5 =>
 some ((y5.1.1, ()), ()))
 | .inr y3 =>
 some ((y3.1.1, ()), ()))
noncomputable def nf1' (n lo hi : Int) : Option ((Bool × Unit) × Unit) :=
 Option.bind (bif (decide (lo ≤ n)) then
 some (((decide (n ≤ hi)), ()), ())
 else
 some ((false, ()), ())) fun y1 =>
 some ((y1.1.1, ()), ())
noncomputable def nhp' (p0 p1 p2 p3 : Int) (p4 p5 p6 : Nat) (p7 : List (Car)) (p8 p9 p10 p11 p12 : Int) : Option ((Bool × Unit) × Unit) :=
 (nc2' p0 p1 p2 p3 p4 p5 p6 p7).bind fun y1 =>
 bif (y1.1.1 != (0 : Int)) then
 some ((false, ()), ())
 else
 (nge' p0 p1 p2 p3 p4 p5 p6 p7 p9 p10).bind fun y2 =>
 Option.bind ((nf1' p11 (0 : Int) (IntKind.i64.wrap (((List.length p7 : Nat) : Int) - (1 : Int)))).bind fun y3 =>
 bif y3.1.1 then
 bif (p9 == (0 : Int)) then
 some (((), (), y2.1.1, (p10 == (0 : Int)), ()), ((p0, p1, p2, p3, p4, p5, p6, p7, ()), (p8, p9, p10, p11, p12, ()), ()))
 else
 some (((), (), y2.1.1, false, ()), ((p0, p1, p2, p3, p4, p5, p6, p7, ()), (p8, p9, p10, p11, p12, ()), ()))
 else
 some (((), (), y2.1.1, false, ()), ((p0, p1, p2, p3, p4, p5, p6, p7, ()), (p8, p9, p10, p11, p12, ()), ()))) fun y4 =>
 bif (y4.2.2.1.1 == (1 : Int)) then
 Option.bind (bif y4.1.2.2.1 then
 bif (y4.2.2.1.2.2.2.1 == (0 : Int)) then
 some (((y4.2.2.1.2.2.2.2.1 == (0 : Int)), ()), ())
 else
 some ((false, ()), ())
 else
 some ((false, ()), ())) fun y5 =>
 some ((y5.1.1, ()), ())
 else
 bif (y4.2.2.1.1 == (2 : Int)) then
 Option.bind (bif y4.1.2.2.1 then
 bif (y4.2.2.1.2.2.2.1 == (0 : Int)) then
 some (((y4.2.2.1.2.2.2.2.1 == (0 : Int)), ()), ())
 else
 some ((false, ()), ())
 else
 some ((false, ()), ())) fun y6 =>
 some ((y6.1.1, ()), ())
 else
 bif (y4.2.2.1.1 == (3 : Int)) then
 Option.bind (bif y4.1.2.2.1 then
 (nf1' y4.2.2.1.2.2.2.1 (-2 : Int) (IntKind.i64.wrap (((List.length y4.2.1.2.2.2.2.2.2.2.1 : Nat) : Int) - (1 : Int)))).bind fun y7 =>
 bif y7.1.1 then
 some (((y4.2.2.1.2.2.2.2.1 == (0 : Int)), ()), ())
 else
 some ((false, ()), ())
 else
 some ((false, ()), ())) fun y8 =>
 some ((y8.1.1, ()), ())
 else
 bif (y4.2.2.1.1 == (4 : Int)) then
 Option.bind (bif y4.1.2.2.2.1 then
 (nf1' y4.2.2.1.2.2.2.2.1 (0 : Int) (4 : Int)).bind fun y9 =>
 some ((y9.1.1, ()), ())
 else
 some ((false, ()), ())) fun y10 =>
 some ((y10.1.1, ()), ())
 else
 bif (y4.2.2.1.1 == (5 : Int)) then
 Option.bind (bif y4.1.2.2.2.1 then
 (nf1' y4.2.2.1.2.2.2.2.1 (0 : Int) (1 : Int)).bind fun y11 =>
 some ((y11.1.1, ()), ())
 else
 some ((false, ()), ())) fun y12 =>
 some ((y12.1.1, ()), ())
 else
 bif (y4.2.2.1.1 == (6 : Int)) then
 Option.bind (bif y4.1.2.2.2.1 then
 (nf1' y4.2.2.1.2.2.2.2.1 (0 : Int) (1 : Int)).bind fun y13 =>
 some ((y13.1.1, ()), ())
 else
 some ((false, ()), ())) fun y14 =>
 some ((y14.1.1, ()), ())
 else
 bif (y4.2.2.1.1 == (7 : Int)) then
 Option.bind (bif y4.1.2.2.1 then
 (nf1' y4.2.2.1.2.2.2.1 (0 : Int) (1 : Int)).bind fun y15 =>
 bif y15.1.1 then
 (nf1' y4.2.2.1.2.2.2.2.1 (0 : Int) (255 : Int)).bind fun y16 =>
 some ((y16.1.1, ()), ())
 else
 some ((false, ()), ())
 else
 some ((false, ()), ())) fun y17 =>
 some ((y17.1.1, ()), ())
 else
 some ((false, ()), ())
noncomputable def ngh' (p0 dir i : Int) (p1 : List (Int)) (p2 p3 : List (Bool)) (p4 : List (Entry)) : Option (Sum (T'50 × (T'4 × Unit)) ((Unit × Unit) ⊕ ((Int × Unit) × Unit))) :=
 bif (decide (i < ((List.length p4 : Nat) : Int))) then
 Option.bind (bif (inB i (List.length p4)) then
 bif ((List.getD p4 (Int.toNat i) (Entry.mk (0 : Int) (0 : Int) (0 : Int) (0 : Int) false)).Floor == p0) then
 bif (inB i (List.length p4)) then
 some ((p0, dir, (), i, ((List.getD p4 (Int.toNat i) (Entry.mk (0 : Int) (0 : Int) (0 : Int) (0 : Int) false)).Dir == dir), ()), ((p1, p2, p3, p4, ()), ()))
 else
 none
 else
 some ((p0, dir, (), i, false, ()), ((p1, p2, p3, p4, ()), ()))
 else
 none) fun y1 =>
 bif y1.1.2.2.2.2.1 then
 some (Sum.inr (Sum.inr ((y1.1.2.2.2.1, ()), ())))
 else
 some (Sum.inl ((y1.1.1, y1.1.2.1, (), (IntKind.i64.wrap (y1.1.2.2.2.1 + (1 : Int))), ()), (y1.2.1, ())))
 else
 some (Sum.inr (Sum.inl ((), ())))
noncomputable def nj5' : (T'50 × (T'4 × Unit)) → Option ((Unit × Unit) ⊕ ((Int × Unit) × Unit)) := iter (fun x => ngh' x.1.1 x.1.2.1 x.1.2.2.2.1 x.2.1.1 x.2.1.2.1 x.2.1.2.2.1 x.2.1.2.2.2.1) fuel
noncomputable def nl4' (p0 : List (Int)) (p1 p2 : List (Bool)) (p3 : List (Entry)) (p4 dir : Int) : Option ((Int × Unit) × Unit) :=
 (nj5' ((p4, dir, (), (0 : Int), ()), ((p0, p1, p2, p3, ()), ()))).bind fun y1 =>
 (match y1 with
 | .inl y2 =>
 some (((-1 : Int), ()), ())
 | .inr y2 =>
 some ((y2.1.1, ()), ()))
noncomputable def nek' (l out : List (Entry)) (p0 : Bool) (i p1 p2 p3 p4 : Int) (p5 : Bool) : Option (Sum (T'51 × (T'12 × Unit)) (T'52 × (T'12 × Unit))) :=
 bif (decide (i < ((List.length l : Nat) : Int))) then
 Option.bind (Option.bind (bif (!p0) then
 bif (inB i (List.length l)) then
 let z0 : Entry := (List.getD l (Int.toNat i) (Entry.mk (0 : Int) (0 : Int) (0 : Int) (0 : Int) false))
 (nj8' p1 p2 p3 p4 p5 z0.Floor z0.Dir z0.Car z0.Moves z0.Moved).bind fun y1 =>
 some ((l, (), out, p0, i, y1.1.1, ()), ((p1, p2, p3, p4, p5, ()), ()))
 else
 none
 else
 some ((l, (), out, p0, i, false, ()), ((p1, p2, p3, p4, p5, ()), ()))) fun y2 =>
 bif y2.1.2.2.2.2.2.1 then
 let z1 : List (Entry) := [(Entry.mk y2.2.1.1 y2.2.1.2.1 y2.2.1.2.2.1 y2.2.1.2.2.2.1 y2.2.1.2.2.2.2.1)]
 bif (Nat.ble ((List.length y2.1.2.2.1) + (List.length z1)) 2147483648) then
 some ((y2.1.1, (), (y2.1.2.2.1 ++ z1), true, y2.1.2.2.2.2.1, ()), (y2.2.1, ()))
 else
 none
 else
 some ((y2.1.1, (), y2.1.2.2.1, y2.1.2.2.2.1, y2.1.2.2.2.2.1, ()), (y2.2.1, ()))) fun y3 =>
 bif (inB y3.1.2.2.2.2.1 (List.length y3.1.1)) then
 let z2 : Entry := (List.getD y3.1.1 (Int.toNat y3.1.2.2.2.2.1) (Entry.mk (0 : Int) (0 : Int) (0 : Int) (0 : Int) false))
 let z3 : List (Entry) := [(Entry.mk z2.Floor z2.Dir z2.Car z2.Moves z2.Moved)]
 bif (Nat.ble ((List.length y3.1.2.2.1) + (List.length z3)) 2147483648) then
 some (Sum.inl ((y3.1.1, (), (y3.1.2.2.1 ++ z3), y3.1.2.2.2.1, (IntKind.i64.wrap (y3.1.2.2.2.2.1 + (1 : Int))), ()), (y3.2.1, ())))
 else
 none
 else
 none
 else
 some (Sum.inr (((), out, p0, ()), ((p1, p2, p3, p4, p5, ()), ())))
noncomputable def nhx' : (T'51 × (T'12 × Unit)) → Option (T'52 × (T'12 × Unit)) := iter (fun x => nek' x.1.1 x.1.2.2.1 x.1.2.2.2.1 x.1.2.2.2.2.1 x.2.1.1 x.2.1.2.1 x.2.1.2.2.1 x.2.1.2.2.2.1 x.2.1.2.2.2.2.1) fuel
noncomputable def nji' (l : List (Entry)) (p0 p1 p2 p3 : Int) (p4 : Bool) : Option ((List (Entry) × Unit) × Unit) :=
 (nhx' ((l, (), ([] : List (Entry)), false, (0 : Int), ()), ((p0, p1, p2, p3, p4, ()), ()))).bind fun y1 =>
 bif (!y1.1.2.2.1) then
 let z0 : List (Entry) := [(Entry.mk y1.2.1.1 y1.2.1.2.1 y1.2.1.2.2.1 y1.2.1.2.2.2.1 y1.2.1.2.2.2.2.1)]
 bif (Nat.ble ((List.length y1.1.2.1) + (List.length z0)) 2147483648) then
 some (((y1.1.2.1 ++ z0), ()), ())
 else
 none
 else
 some ((y1.1.2.1, ()), ())
noncomputable def niv' (p0 p1 p2 p3 : Int) (p4 p5 p6 : Nat) (p7 : List (Car)) (p8 : List (Int)) (p9 p10 : List (Bool)) (p11 : List (Entry)) (p12 p13 p14 p15 p16 : Int) : Option ((Unit × Int × Unit) × (T'4 × Unit)) :=
 (neq' p0 p1 p2 p3 p4 p5 p6 p7 p8 p9 p10 p11).bind fun y1 =>
 bif (!y1.1.1) then
 some (((), (1 : Int), ()), ((([] : List (Int)), ([] : List (Bool)), ([] : List (Bool)), ([] : List (Entry)), ()), ()))
 else
 (nhp' p0 p1 p2 p3 p4 p5 p6 p7 p12 p13 p14 p15 p16).bind fun y2 =>
 bif (!y2.1.1) then
 some (((), (1 : Int), ()), ((([] : List (Int)), ([] : List (Bool)), ([] : List (Bool)), ([] : List (Entry)), ()), ()))
 else
 bif (Nat.ble ((List.length ([] : List (Int))) + (List.length p8)) 2147483648) then
 let z0 : List (Int) := (([] : List (Int)) ++ p8)
 bif (Nat.ble ((List.length ([] : List (Bool))) + (List.length p9)) 2147483648) then
 let z1 : List (Bool) := (([] : List (Bool)) ++ p9)
 bif (Nat.ble ((List.length ([] : List (Bool))) + (List.length p10)) 2147483648) then
 let z2 : List (Bool) := (([] : List (Bool)) ++ p10)
 bif (Nat.ble ((List.length ([] : List (Entry))) + (List.length p11)) 2147483648) then
 let z3 : List (Entry) := (([] : List (Entry)) ++ p11)
 (nl4' z0 z1 z2 z3 p13 p14).bind fun y3 =>
 bif (p12 == (4 : Int)) then
 bif (inB p15 (List.length z0)) then
 some (((), (0 : Int), ()), (((List.set z0 (Int.toNat p15) p16), z1, z2, z3, ()), ()))
 else
 none
 else
 bif (p12 == (5 : Int)) then
 bif (inB p15 (List.length z1)) then
 some (((), (0 : Int), ()), ((z0, (List.set z1 (Int.toNat p15) (p16 == (1 : Int))), z2, z3, ()), ()))
 else
 none
 else
 bif (p12 == (6 : Int)) then
 bif (inB p15 (List.length z2)) then
 some (((), (0 : Int), ()), ((z0, z1, (List.set z2 (Int.toNat p15) (p16 == (1 : Int))), z3, ()), ()))
 else
 none
 else
 Option.bind (bif (p12 == (1 : Int)) then
 some (((), (), (), y3.1.1, (decide (y3.1.1 < (0 : Int))), ()), ((z0, z1, z2, z3, ()), (p12, p13, p14, p15, p16, ()), (([] : List (Int)), ([] : List (Bool)), ([] : List (Bool)), ([] : List (Entry)), ()), ()))
 else
 some (((), (), (), y3.1.1, false, ()), ((z0, z1, z2, z3, ()), (p12, p13, p14, p15, p16, ()), (([] : List (Int)), ([] : List (Bool)), ([] : List (Bool)), ([] : List (Entry)), ()), ()))) fun y4 =>
 bif y4.1.2.2.2.2.1 then
 (nji' y4.2.1.2.2.2.1 y4.2.2.1.2.1 y4.2.2.1.2.2.1 (-1 : Int) (0 : Int) false).bind fun y5 =>
 some (((), (0 : Int), ()), ((y4.2.1.1, y4.2.1.2.1, y4.2.1.2.2.1, y5.1.1, ()), ()))
 else
 bif (decide (y4.1.2.2.2.1 < (0 : Int))) then
 some (((), (0 : Int), ()), (y4.2.1, ()))
 else
 bif (y4.2.2.1.1 == (2 : Int)) then
 Option.bind (some (((), (), y4.1.2.2.2.1, ()), (y4.2.1, y4.2.2.2.1, ()))) fun y6 =>
 bif ((decide ((0 : Int) ≤ y6.1.2.2.1)) && (decide (y6.1.2.2.1 ≤ (((List.length y6.2.1.2.2.2.1) : Nat) : Int)))) then
 let z4 : List (Entry) := (List.drop 0 (List.take (Int.toNat y6.1.2.2.1) y6.2.1.2.2.2.1))
 bif (Nat.ble ((List.length ([] : List (Entry))) + (List.length z4)) 2147483648) then
 let z5 : List (Entry) := (([] : List (Entry)) ++ z4)
 let z6 : Int := (IntKind.i64.wrap (y6.1.2.2.1 + (1 : Int)))
 bif ((decide ((0 : Int) ≤ z6)) && (decide (z6 ≤ (((List.length y6.2.1.2.2.2.1) : Nat) : Int)))) then
 let z7 : List (Entry) := (List.drop (Int.toNat z6) (List.take (List.length y6.2.1.2.2.2.1) y6.2.1.2.2.2.1))
 bif (Nat.ble ((List.length z5) + (List.length z7)) 2147483648) then
 some (((), (0 : Int), ()), ((y6.2.1.1, y6.2.1.2.1, y6.2.1.2.2.1, (z5 ++ z7), ()), ()))
 else
 none
 else
 none
 else
 none
 else
 none
 else
 bif (y4.2.2.1.1 == (3 : Int)) then
 bif (inB y4.1.2.2.2.1 (List.length y4.2.1.2.2.2.1)) then
 let z8 : Nat := (Int.toNat y4.1.2.2.2.1)
 let z9 : Entry := (List.getD y4.2.1.2.2.2.1 z8 (Entry.mk (0 : Int) (0 : Int) (0 : Int) (0 : Int) false))
 some (((), (0 : Int), ()), ((y4.2.1.1, y4.2.1.2.1, y4.2.1.2.2.1, (List.set y4.2.1.2.2.2.1 z8 (Entry.mk z9.Floor z9.Dir y4.2.2.1.2.2.2.1 z9.Moves z9.Moved)), ()), ()))
 else
 none
 else
 bif (y4.2.2.1.1 == (7 : Int)) then
 bif (inB y4.1.2.2.2.1 (List.length y4.2.1.2.2.2.1)) then
 let z10 : Nat := (Int.toNat y4.1.2.2.2.1)
 let z11 : Entry := (List.getD y4.2.1.2.2.2.1 z10 (Entry.mk (0 : Int) (0 : Int) (0 : Int) (0 : Int) false))
 let z12 : List (Entry) := (List.set y4.2.1.2.2.2.1 z10 (Entry.mk z11.Floor z11.Dir z11.Car y4.2.2.1.2.2.2.2.1 z11.Moved))
 bif (inB y4.1.2.2.2.1 (List.length z12)) then
 let z13 : Nat := (Int.toNat y4.1.2.2.2.1)
 let z14 : Entry := (List.getD z12 z13 (Entry.mk (0 : Int) (0 : Int) (0 : Int) (0 : Int) false))
 some (((), (0 : Int), ()), ((y4.2.1.1, y4.2.1.2.1, y4.2.1.2.2.1, (List.set z12 z13 (Entry.mk z14.Floor z14.Dir z14.Car z14.Moves (y4.2.2.1.2.2.2.1 == (1 : Int)))), ()), ()))
 else
 none
 else
 none
 else
 some (((), (0 : Int), ()), (y4.2.1, ()))
 else
 none
 else
 none
 else
 none
 else
 none
noncomputable def nff' (x_1 : List (Record)) (i p0 p1 p2 p3 : Int) (p4 p5 p6 : Nat) (p7 : List (Car)) (p8 : List (Int)) (p9 p10 : List (Bool)) (p11 : List (Entry)) (p12 : List (Int)) (p13 p14 : List (Bool)) (p15 : List (Entry)) : Option (Sum (T'53 × (T'0 × T'4 × T'4 × Unit)) ((Unit × Unit × Unit) × (T'4 × T'4 × Unit))) :=
 bif (decide (i < ((List.length x_1 : Nat) : Int))) then
 bif (inB i (List.length x_1)) then
 let z0 : Record := (List.getD x_1 (Int.toNat i) (Record.mk (0 : Int) (0 : Int) (0 : Int) (0 : Int) (0 : Int)))
 (niv' p0 p1 p2 p3 p4 p5 p6 p7 p12 p13 p14 p15 z0.Kind z0.Floor z0.Dir z0.Car z0.Value).bind fun y1 =>
 some (Sum.inl (((), (), (), x_1, (IntKind.i64.wrap (i + (1 : Int))), ()), ((p0, p1, p2, p3, p4, p5, p6, p7, ()), (p8, p9, p10, p11, ()), y1.2.1, ())))
 else
 none
 else
 some (Sum.inr (((), (), ()), ((p8, p9, p10, p11, ()), (p12, p13, p14, p15, ()), ())))
noncomputable def ni6' : (T'53 × (T'0 × T'4 × T'4 × Unit)) → Option ((Unit × Unit × Unit) × (T'4 × T'4 × Unit)) := iter (fun x => nff' x.1.2.2.2.1 x.1.2.2.2.2.1 x.2.1.1 x.2.1.2.1 x.2.1.2.2.1 x.2.1.2.2.2.1 x.2.1.2.2.2.2.1 x.2.1.2.2.2.2.2.1 x.2.1.2.2.2.2.2.2.1 x.2.1.2.2.2.2.2.2.2.1 x.2.2.1.1 x.2.2.1.2.1 x.2.2.1.2.2.1 x.2.2.1.2.2.2.1 x.2.2.2.1.1 x.2.2.2.1.2.1 x.2.2.2.1.2.2.1 x.2.2.2.1.2.2.2.1) fuel
noncomputable def niy' (p0 p1 p2 p3 : Int) (p4 p5 p6 : Nat) (p7 : List (Car)) (l : List (Int)) : Option ((Unit × Unit) × (T'4 × Unit)) :=
 (nha' p0 p1 p2 p3 p4 p5 p6 p7).bind fun y1 =>
 (njk' p0 p1 p2 p3 p4 p5 p6 p7 l (60 : Int)).bind fun y2 =>
 (ni6' (((), (), (), y2.1.1, (0 : Int), ()), ((p0, p1, p2, p3, p4, p5, p6, p7, ()), (([] : List (Int)), ([] : List (Bool)), ([] : List (Bool)), ([] : List (Entry)), ()), y1.2.1, ()))).bind fun y3 =>
 some (((), ()), (y3.2.2.1, ()))
noncomputable def nip' (p0 p1 p2 p3 : Int) (p4 p5 p6 : Nat) (p7 : List (Car)) (p8 : List (Int)) (p9 p10 : List (Bool)) (p11 : List (Entry)) : Option ((Bool × Unit) × Unit) :=
 Option.bind ((neq' p0 p1 p2 p3 p4 p5 p6 p7 p8 p9 p10 p11).bind fun y1 =>
 bif y1.1.1 then
 some (((decide ((IntKind.i64.wrap ((IntKind.i64.wrap ((18 : Int) * (IntKind.i64.wrap (((List.length p7 : Nat) : Int) + ((List.length p11 : Nat) : Int))))) + (6 : Int))) ≤ p2)), ()), ())
 else
 some ((false, ()), ())) fun y2 =>
 some ((y2.1.1, ()), ())
noncomputable def nep' (p0 : Int) (p1 p2 : ByteArray) (p3 : Int) : Option ((Bool × Unit) × Unit) :=
 Option.bind (bif (decide ((1 : Int) ≤ p0)) then
 bif (decide (p0 ≤ (65536 : Int))) then
 bif (decide (((ByteArray.size p1 : Nat) : Int) ≤ p0)) then
 bif (decide (((ByteArray.size p2 : Nat) : Int) ≤ p0)) then
 bif (p3 == (0 : Int)) then
 some ((true, ()), ())
 else
 some (((p3 == (1 : Int)), ()), ())
 else
 some ((false, ()), ())
 else
 some ((false, ()), ())
 else
 some ((false, ()), ())
 else
 some ((false, ()), ())) fun y1 =>
 some ((y1.1.1, ()), ())
noncomputable def njr'  : Option ((Unit × Unit) × (T'29 × Unit)) :=
 some (((), ()), (((-1 : Int), (0 : Int), (0 : Int), ([] : List (Duty)), (0 : Int), false, ()), ()))
noncomputable def nfh' (i p0 p1 p2 p3 : Int) (p4 p5 p6 : Nat) (p7 : List (Car)) (p8 : List (Int)) (p9 p10 : List (Bool)) (p11 : List (Entry)) (p12 : List (Int)) (p13 p14 : List (Bool)) (p15 : List (Entry)) (p16 p17 : ByteArray) (p18 : Int) (p19 : List (Debounced)) (p20 : List (Belief)) (p21 : List (NewCar)) (p22 : List (Loaded)) (p23 : List (Int)) (p24 : List (Calls)) (p25 p26 p27 : Int) (p28 : List (Int)) (p29 p30 : List (Bool)) (p31 : List (Entry)) (p32 p33 : ByteArray) (p34 : Int) (p35 : List (Debounced)) (p36 : List (Belief)) (p37 : List (NewCar)) (p38 : List (Loaded)) (p39 : List (Int)) (p40 : List (Calls)) (p41 p42 p43 : Int) : Option (Sum (T'55 × T'32) ((Unit × Unit × Unit) × (T'30 × T'30 × Unit))) :=
 bif (decide (i < ((List.length p11 : Nat) : Int))) then
 Option.bind (bif (inB i (List.length p11)) then
 let z0 : Entry := (List.getD p11 (Int.toNat i) (Entry.mk (0 : Int) (0 : Int) (0 : Int) (0 : Int) false))
 bif (decide ((0 : Int) ≤ z0.Car)) then
 bif (inB z0.Car (List.length p7)) then
 some (((), (), (), (), i, (List.getD p7 (Int.toNat z0.Car) (Car.mk (0 : Int) (0 : Int) (0 : Int) (0 : Int) (0 : Int) (0 : Int) (0 : Int) (0 : Int) (0 : Int))).Deadline, ()), ((p0, p1, p2, p3, p4, p5, p6, p7, ()), (p8, p9, p10, p11, ()), (p12, p13, p14, p15, p16, p17, p18, p19, p20, p21, p22, p23, p24, p25, p26, p27, ()), (p28, p29, p30, p31, p32, p33, p34, p35, p36, p37, p38, p39, p40, p41, p42, p43, ()), ()))
 else
 none
 else
 some (((), (), (), (), i, (0 : Int), ()), ((p0, p1, p2, p3, p4, p5, p6, p7, ()), (p8, p9, p10, p11, ()), (p12, p13, p14, p15, p16, p17, p18, p19, p20, p21, p22, p23, p24, p25, p26, p27, ()), (p28, p29, p30, p31, p32, p33, p34, p35, p36, p37, p38, p39, p40, p41, p42, p43, ()), ()))
 else
 none) fun y1 =>
 let z1 : List (Int) := [y1.1.2.2.2.2.2.1]
 bif (Nat.ble ((List.length y1.2.2.2.2.1.2.2.2.2.2.2.2.2.2.2.2.1) + (List.length z1)) 2147483648) then
 some (Sum.inl (((), (), (), (), (IntKind.i64.wrap (y1.1.2.2.2.2.1 + (1 : Int))), ()), (y1.2.1, y1.2.2.1, y1.2.2.2.1, (y1.2.2.2.2.1.1, y1.2.2.2.2.1.2.1, y1.2.2.2.2.1.2.2.1, y1.2.2.2.2.1.2.2.2.1, y1.2.2.2.2.1.2.2.2.2.1, y1.2.2.2.2.1.2.2.2.2.2.1, y1.2.2.2.2.1.2.2.2.2.2.2.1, y1.2.2.2.2.1.2.2.2.2.2.2.2.1, y1.2.2.2.2.1.2.2.2.2.2.2.2.2.1, y1.2.2.2.2.1.2.2.2.2.2.2.2.2.2.1, y1.2.2.2.2.1.2.2.2.2.2.2.2.2.2.2.1, (y1.2.2.2.2.1.2.2.2.2.2.2.2.2.2.2.2.1 ++ z1), y1.2.2.2.2.1.2.2.2.2.2.2.2.2.2.2.2.2.1, y1.2.2.2.2.1.2.2.2.2.2.2.2.2.2.2.2.2.2.1, y1.2.2.2.2.1.2.2.2.2.2.2.2.2.2.2.2.2.2.2.1, y1.2.2.2.2.1.2.2.2.2.2.2.2.2.2.2.2.2.2.2.2.1, ()), ())))
 else
 none
 else
 some (Sum.inr (((), (), ()), ((p12, p13, p14, p15, p16, p17, p18, p19, p20, p21, p22, p23, p24, p25, p26, p27, ()), (p28, p29, p30, p31, p32, p33, p34, p35, p36, p37, p38, p39, p40, p41, p42, p43, ()), ())))
noncomputable def ng9' : (T'55 × T'32) → Option ((Unit × Unit × Unit) × (T'30 × T'30 × Unit)) := iter (fun x => nfh' x.1.2.2.2.2.1 x.2.1.1 x.2.1.2.1 x.2.1.2.2.1 x.2.1.2.2.2.1 x.2.1.2.2.2.2.1 x.2.1.2.2.2.2.2.1 x.2.1.2.2.2.2.2.2.1 x.2.1.2.2.2.2.2.2.2.1 x.2.2.1.1 x.2.2.1.2.1 x.2.2.1.2.2.1 x.2.2.1.2.2.2.1 x.2.2.2.1.1 x.2.2.2.1.2.1 x.2.2.2.1.2.2.1 x.2.2.2.1.2.2.2.1 x.2.2.2.1.2.2.2.2.1 x.2.2.2.1.2.2.2.2.2.1 x.2.2.2.1.2.2.2.2.2.2.1 x.2.2.2.1.2.2.2.2.2.2.2.1 x.2.2.2.1.2.2.2.2.2.2.2.2.1 x.2.2.2.1.2.2.2.2.2.2.2.2.2.1 x.2.2.2.1.2.2.2.2.2.2.2.2.2.2.1 x.2.2.2.1.2.2.2.2.2.2.2.2.2.2.2.1 x.2.2.2.1.2.2.2.2.2.2.2.2.2.2.2.2.1 x.2.2.2.1.2.2.2.2.2.2.2.2.2.2.2.2.2.1 x.2.2.2.1.2.2.2.2.2.2.2.2.2.2.2.2.2.2.1 x.2.2.2.1.2.2.2.2.2.2.2.2.2.2.2.2.2.2.2.1 x.2.2.2.2.1.1 x.2.2.2.2.1.2.1 x.2.2.2.2.1.2.2.1 x.2.2.2.2.1.2.2.2.1 x.2.2.2.2.1.2.2.2.2.1 x.2.2.2.2.1.2.2.2.2.2.1 x.2.2.2.2.1.2.2.2.2.2.2.1 x.2.2.2.2.1.2.2.2.2.2.2.2.1 x.2.2.2.2.1.2.2.2.2.2.2.2.2.1 x.2.2.2.2.1.2.2.2.2.2.2.2.2.2.1 x.2.2.2.2.1.2.2.2.2.2.2.2.2.2.2.1 x.2.2.2.2.1.2.2.2.2.2.2.2.2.2.2.2.1 x.2.2.2.2.1.2.2.2.2.2.2.2.2.2.2.2.2.1 x.2.2.2.2.1.2.2.2.2.2.2.2.2.2.2.2.2.2.1 x.2.2.2.2.1.2.2.2.2.2.2.2.2.2.2.2.2.2.2.1 x.2.2.2.2.1.2.2.2.2.2.2.2.2.2.2.2.2.2.2.2.1) fuel
noncomputable def nfj' (n i p0 p1 p2 p3 : Int) (p4 p5 p6 : Nat) (p7 : List (Car)) (p8 : List (Int)) (p9 p10 : List (Bool)) (p11 : List (Entry)) (p12 : List (Int)) (p13 p14 : List (Bool)) (p15 : List (Entry)) (p16 p17 : ByteArray) (p18 : Int) (p19 : List (Debounced)) (p20 : List (Belief)) (p21 : List (NewCar)) (p22 : List (Loaded)) (p23 : List (Int)) (p24 : List (Calls)) (p25 p26 p27 : Int) (p28 : List (Int)) (p29 p30 : List (Bool)) (p31 : List (Entry)) (p32 p33 : ByteArray) (p34 : Int) (p35 : List (Debounced)) (p36 : List (Belief)) (p37 : List (NewCar)) (p38 : List (Loaded)) (p39 : List (Int)) (p40 : List (Calls)) (p41 p42 p43 : Int) : Option (Sum (T'54 × T'32) (T'33 × T'32)) :=
 bif (decide (i < n)) then
 (njr').bind fun y1 =>
 let z0 : List (Belief) := [(Belief.mk y1.2.1.1 y1.2.1.2.1 y1.2.1.2.2.1 y1.2.1.2.2.2.1 y1.2.1.2.2.2.2.1 y1.2.1.2.2.2.2.2.1)]
 bif (Nat.ble ((List.length p36) + (List.length z0)) 2147483648) then
 some (Sum.inl (((), (), (), n, (), (IntKind.i64.wrap (i + (1 : Int))), ()), ((p0, p1, p2, p3, p4, p5, p6, p7, ()), (p8, p9, p10, p11, ()), (p12, p13, p14, p15, p16, p17, p18, p19, p20, p21, p22, p23, p24, p25, p26, p27, ()), (p28, p29, p30, p31, p32, p33, p34, p35, (p36 ++ z0), p37, p38, p39, p40, p41, p42, p43, ()), ())))
 else
 none
 else
 some (Sum.inr (((), (), (), (), ()), ((p0, p1, p2, p3, p4, p5, p6, p7, ()), (p8, p9, p10, p11, ()), (p12, p13, p14, p15, p16, p17, p18, p19, p20, p21, p22, p23, p24, p25, p26, p27, ()), (p28, p29, p30, p31, p32, p33, p34, p35, p36, p37, p38, p39, p40, p41, p42, p43, ()), ())))
noncomputable def nhd' : (T'54 × T'32) → Option (T'33 × T'32) := iter (fun x => nfj' x.1.2.2.2.1 x.1.2.2.2.2.2.1 x.2.1.1 x.2.1.2.1 x.2.1.2.2.1 x.2.1.2.2.2.1 x.2.1.2.2.2.2.1 x.2.1.2.2.2.2.2.1 x.2.1.2.2.2.2.2.2.1 x.2.1.2.2.2.2.2.2.2.1 x.2.2.1.1 x.2.2.1.2.1 x.2.2.1.2.2.1 x.2.2.1.2.2.2.1 x.2.2.2.1.1 x.2.2.2.1.2.1 x.2.2.2.1.2.2.1 x.2.2.2.1.2.2.2.1 x.2.2.2.1.2.2.2.2.1 x.2.2.2.1.2.2.2.2.2.1 x.2.2.2.1.2.2.2.2.2.2.1 x.2.2.2.1.2.2.2.2.2.2.2.1 x.2.2.2.1.2.2.2.2.2.2.2.2.1 x.2.2.2.1.2.2.2.2.2.2.2.2.2.1 x.2.2.2.1.2.2.2.2.2.2.2.2.2.2.1 x.2.2.2.1.2.2.2.2.2.2.2.2.2.2.2.1 x.2.2.2.1.2.2.2.2.2.2.2.2.2.2.2.2.1 x.2.2.2.1.2.2.2.2.2.2.2.2.2.2.2.2.2.1 x.2.2.2.1.2.2.2.2.2.2.2.2.2.2.2.2.2.2.1 x.2.2.2.1.2.2.2.2.2.2.2.2.2.2.2.2.2.2.2.1 x.2.2.2.2.1.1 x.2.2.2.2.1.2.1 x.2.2.2.2.1.2.2.1 x.2.2.2.2.1.2.2.2.1 x.2.2.2.2.1.2.2.2.2.1 x.2.2.2.2.1.2.2.2.2.2.1 x.2.2.2.2.1.2.2.2.2.2.2.1 x.2.2.2.2.1.2.2.2.2.2.2.2.1 x.2.2.2.2.1.2.2.2.2.2.2.2.2.1 x.2.2.2.2.1.2.2.2.2.2.2.2.2.2.1 x.2.2.2.2.1.2.2.2.2.2.2.2.2.2.2.1 x.2.2.2.2.1.2.2.2.2.2.2.2.2.2.2.2.1 x.2.2.2.2.1.2.2.2.2.2.2.2.2.2.2.2.2.1 x.2.2.2.2.1.2.2.2.2.2.2.2.2.2.2.2.2.2.1 x.2.2.2.2.1.2.2.2.2.2.2.2.2.2.2.2.2.2.2.1 x.2.2.2.2.1.2.2.2.2.2.2.2.2.2.2.2.2.2.2.2.1) fuel
noncomputable def nf3' (p0 p1 p2 p3 : Int) (p4 p5 p6 : Nat) (p7 : List (Car)) (p8 : List (Int)) (p9 p10 : List (Bool)) (p11 : List (Entry)) (p12 p13 : ByteArray) (p14 : Int) : Option ((Unit × Int × Unit) × (T'30 × Unit)) :=
 (nip' p0 p1 p2 p3 p4 p5 p6 p7 p8 p9 p10 p11).bind fun y1 =>
 bif (!y1.1.1) then
 some (((), (1 : Int), ()), ((([] : List (Int)), ([] : List (Bool)), ([] : List (Bool)), ([] : List (Entry)), (ByteArray.mk (Array.mk [])), (ByteArray.mk (Array.mk [])), (0 : Int), ([] : List (Debounced)), ([] : List (Belief)), ([] : List (NewCar)), ([] : List (Loaded)), ([] : List (Int)), ([] : List (Calls)), (0 : Int), (0 : Int), (0 : Int), ()), ()))
 else
 (nep' p2 p12 p13 p14).bind fun y2 =>
 bif (!y2.1.1) then
 some (((), (1 : Int), ()), ((([] : List (Int)), ([] : List (Bool)), ([] : List (Bool)), ([] : List (Entry)), (ByteArray.mk (Array.mk [])), (ByteArray.mk (Array.mk [])), (0 : Int), ([] : List (Debounced)), ([] : List (Belief)), ([] : List (NewCar)), ([] : List (Loaded)), ([] : List (Int)), ([] : List (Calls)), (0 : Int), (0 : Int), (0 : Int), ()), ()))
 else
 let z0 : Int := ((List.length p7 : Nat) : Int)
 bif (((decide ((0 : Int) ≤ z0)) && (decide (z0 ≤ z0))) && (decide (z0 ≤ (2147483648 : Int)))) then
 bif (((decide ((0 : Int) ≤ z0)) && (decide (z0 ≤ z0))) && (decide (z0 ≤ (2147483648 : Int)))) then
 bif (((decide ((0 : Int) ≤ z0)) && (decide (z0 ≤ z0))) && (decide (z0 ≤ (2147483648 : Int)))) then
 bif (((decide ((0 : Int) ≤ z0)) && (decide (z0 ≤ z0))) && (decide (z0 ≤ (2147483648 : Int)))) then
 (nhd' (((), (), (), z0, (), (0 : Int), ()), ((p0, p1, p2, p3, p4, p5, p6, p7, ()), (p8, p9, p10, p11, ()), (([] : List (Int)), ([] : List (Bool)), ([] : List (Bool)), ([] : List (Entry)), (ByteArray.mk (Array.mk [])), (ByteArray.mk (Array.mk [])), (0 : Int), ([] : List (Debounced)), ([] : List (Belief)), ([] : List (NewCar)), ([] : List (Loaded)), ([] : List (Int)), ([] : List (Calls)), (0 : Int), (0 : Int), (0 : Int), ()), (p8, p9, p10, p11, p12, p13, p14, (List.replicate (Int.toNat z0) (Debounced.mk (0 : Int) false false false false (0 : Int) (0 : Int) (0 : Int) (0 : Int) (0 : Int) (0 : Int) (0 : Int) (0 : Int) (0 : Int) (0 : Int) (0 : Int) (0 : Int) (0 : Int) (0 : Int) (0 : Int) (0 : Int) (0 : Int) (0 : Int) (0 : Int) (0 : Int) (0 : Int) (0 : Int) (0 : Int) (0 : Int) (0 : Int) (0 : Int) (0 : Int) (0 : Int) (0 : Int) (0 : Int) (0 : Int) (0 : Int) (0 : Int) (0 : Int) (0 : Int) (0 : Int))), ([] : List (Belief)), (List.replicate (Int.toNat z0) (NewCar.mk (0 : Int) (0 : Int) (0 : Int) (0 : Int) (0 : Int) false (0 : Int) (0 : Int) (0 : Int) (0 : Int) (0 : Int) (0 : Int) (0 : Int) false)), (List.replicate (Int.toNat z0) (Loaded.mk (0 : Int))), ([] : List (Int)), (List.replicate (Int.toNat z0) (Calls.mk (0 : Int) (0 : Int))), (0 : Int), (0 : Int), (0 : Int), ()), ()))).bind fun y3 =>
 (ng9' (((), (), (), (), (0 : Int), ()), (y3.2.1, y3.2.2.1, y3.2.2.2.1, y3.2.2.2.2.1, ()))).bind fun y4 =>
 some (((), (0 : Int), ()), (y4.2.2.1, ()))
 else
 none
 else
 none
 else
 none
 else
 none
noncomputable def nft' (n : Int) : Option ((Bool × Unit) × Unit) :=
 Option.bind (bif (decide (n < (0 : Int))) then
 some ((true, ()), ())
 else
 some (((decide ((1000000 : Int) < n)), ()), ())) fun y1 =>
 some ((y1.1.1, ()), ())
noncomputable def ny' (s : List (Int)) (s7 s8 : Int) : Option (Sum (T'56 × Unit) ((Unit × Unit) ⊕ ((Int × Unit) × Unit))) :=
 bif (decide (s8 < s7)) then
 bif (inB s8 (List.length s)) then
 (nft' (List.getD s (Int.toNat s8) (0 : Int))).bind fun y1 =>
 bif y1.1.1 then
 some (Sum.inr (Sum.inr ((s8, ()), ())))
 else
 some (Sum.inl ((s, (), s7, (IntKind.i64.wrap (s8 + (1 : Int))), ()), ()))
 else
 none
 else
 some (Sum.inr (Sum.inl ((), ())))
noncomputable def nbo' : (T'56 × Unit) → Option ((Unit × Unit) ⊕ ((Int × Unit) × Unit)) := iter (fun x => ny' x.1.1 x.1.2.2.1 x.1.2.2.2.1) fuel
noncomputable def ncg' (s : List (Int)) : Option ((Int × Unit) × Unit) :=
 (nbo' ((s, (), ((List.length s : Nat) : Int), (0 : Int), ()), ())).bind fun y1 =>
 (match y1 with
 | .inl y2 =>
 some (((-1 : Int), ()), ())
 | .inr y2 =>
 some ((y2.1.1, ()), ()))
noncomputable def nb5' (s : List (Int)) : Option ((Bool × Unit) × Unit) :=
 (ncg' s).bind fun y1 =>
 some (((decide ((0 : Int) ≤ y1.1.1)), ()), ())
noncomputable def ne5' (l : List (Int)) : Option ((Bool × Unit) × Unit) :=
 (nb5' l).bind fun y1 =>
 some (((!y1.1.1), ()), ())
noncomputable def ndb' (n p0 p1 p2 p3 p4 p5 p6 p7 p8 p9 p10 p11 p12 p13 p14 p15 p16 p17 p18 p19 p20 p21 p22 p23 p24 p25 p26 p27 p28 p29 p30 p31 p32 p33 p34 p35 s15 : Int) : Option (Sum ((Int × T'57 × Int × Unit) × Unit) ((Unit × Unit) ⊕ ((Bool × Unit) × Unit))) :=
 bif (decide (s15 < (36 : Int))) then
 bif (inB s15 36) then
 let z0 : Int := (List.getD [p0, p1, p2, p3, p4, p5, p6, p7, p8, p9, p10, p11, p12, p13, p14, p15, p16, p17, p18, p19, p20, p21, p22, p23, p24, p25, p26, p27, p28, p29, p30, p31, p32, p33, p34, p35] (Int.toNat s15) (0 : Int))
 bif (decide (z0 < (0 : Int))) then
 some (Sum.inr (Sum.inr ((false, ()), ())))
 else
 bif (decide (n ≤ z0)) then
 some (Sum.inr (Sum.inr ((false, ()), ())))
 else
 some (Sum.inl ((n, (p0, p1, p2, p3, p4, p5, p6, p7, p8, p9, p10, p11, p12, p13, p14, p15, p16, p17, p18, p19, p20, p21, p22, p23, p24, p25, p26, p27, p28, p29, p30, p31, p32, p33, p34, p35, ()), (IntKind.i64.wrap (s15 + (1 : Int))), ()), ()))
 else
 none
 else
 some (Sum.inr (Sum.inl ((), ())))
noncomputable def nfb' : ((Int × T'57 × Int × Unit) × Unit) → Option ((Unit × Unit) ⊕ ((Bool × Unit) × Unit)) := iter (fun x => ndb' x.1.1 x.1.2.1.1 x.1.2.1.2.1 x.1.2.1.2.2.1 x.1.2.1.2.2.2.1 x.1.2.1.2.2.2.2.1 x.1.2.1.2.2.2.2.2.1 x.1.2.1.2.2.2.2.2.2.1 x.1.2.1.2.2.2.2.2.2.2.1 x.1.2.1.2.2.2.2.2.2.2.2.1 x.1.2.1.2.2.2.2.2.2.2.2.2.1 x.1.2.1.2.2.2.2.2.2.2.2.2.2.1 x.1.2.1.2.2.2.2.2.2.2.2.2.2.2.1 x.1.2.1.2.2.2.2.2.2.2.2.2.2.2.2.1 x.1.2.1.2.2.2.2.2.2.2.2.2.2.2.2.2.1 x.1.2.1.2.2.2.2.2.2.2.2.2.2.2.2.2.2.1 x.1.2.1.2.2.2.2.2.2.2.2.2.2.2.2.2.2.2.1 x.1.2.1.2.2.2.2.2.2.2.2.2.2.2.2.2.2.2.2.1 x.1.2.1.2.2.2.2.2.2.2.2.2.2.2.2.2.2.2.2.2.1 x.1.2.1.2.2.2.2.2.2.2.2.2.2.2.2.2.2.2.2.2.2.1 x.1.2.1.2.2.2.2.2.2.2.2.2.2.2.2.2.2.2.2.2.2.2.1 x.1.2.1.2.2.2.2.2.2.2.2.2.2.2.2.2.2.2.2.2.2.2.2.1 x.1.2.1.2.2.2.2.2.2.2.2.2.2.2.2.2.2.2.2.2.2.2.2.2.1 x.1.2.1.2.2.2.2.2.2.2.2.2.2.2.2.2.2.2.2.2.2.2.2.2.2.1 x.1.2.1.2.2.2.2.2.2.2.2.2.2.2.2.2.2.2.2.2.2.2.2.2.2.2.1 x.1.2.1.2.2.2.2.2.2.2.2.2.2.2.2.2.2.2.2.2.2.2.2.2.2.2.2.1 x.1.2.1.2.2.2.2.2.2.2.2.2.2.2.2.2.2.2.2.2.2.2.2.2.2.2.2.2.1 x.1.2.1.2.2.2.2.2.2.2.2.2.2.2.2.2.2.2.2.2.2.2.2.2.2.2.2.2.2.1 x.1.2.1.2.2.2.2.2.2.2.2.2.2.2.2.2.2.2.2.2.2.2.2.2.2.2.2.2.2.2.1 x.1.2.1.2.2.2.2.2.2.2.2.2.2.2.2.2.2.2.2.2.2.2.2.2.2.2.2.2.2.2.2.1 x.1.2.1.2.2.2.2.2.2.2.2.2.2.2.2.2.2.2.2.2.2.2.2.2.2.2.2.2.2.2.2.2.1 x.1.2.1.2.2.2.2.2.2.2.2.2.2.2.2.2.2.2.2.2.2.2.2.2.2.2.2.2.2.2.2.2.2.1 x.1.2.1.2.2.2.2.2.2.2.2.2.2.2.2.2.2.2.2.2.2.2.2.2.2.2.2.2.2.2.2.2.2.2.1 x.1.2.1.2.2.2.2.2.2.2.2.2.2.2.2.2.2.2.2.2.2.2.2.2.2.2.2.2.2.2.2.2.2.2.2.1 x.1.2.1.2.2.2.2.2.2.2.2.2.2.2.2.2.2.2.2.2.2.2.2.2.2.2.2.2.2.2.2.2.2.2.2.2.1 x.1.2.1.2.2.2.2.2.2.2.2.2.2.2.2.2.2.2.2.2.2.2.2.2.2.2.2.2.2.2.2.2.2.2.2.2.2.1 x.1.2.1.2.2.2.2.2.2.2.2.2.2.2.2.2.2.2.2.2.2.2.2.2.2.2.2.2.2.2.2.2.2.2.2.2.2.2.1 x.1.2.2.1) fuel
noncomputable def nf6' (n p0 : Int) (p1 p2 p3 p4 : Bool) (p5 p6 p7 p8 p9 p10 p11 p12 p13 p14 p15 p16 p17 p18 p19 p20 p21 p22 p23 p24 p25 p26 p27 p28 p29 p30 p31 p32 p33 p34 p35 p36 p37 p38 p39 p40 : Int) : Option ((Bool × Unit) × Unit) :=
 bif (decide (n < (1 : Int))) then
 some ((false, ()), ())
 else
 bif (decide ((16 : Int) < n)) then
 some ((false, ()), ())
 else
 (nfb' ((n, (p5, p6, p7, p8, p9, p10, p11, p12, p13, p14, p15, p16, p17, p18, p19, p20, p21, p22, p23, p24, p25, p26, p27, p28, p29, p30, p31, p32, p33, p34, p35, p36, p37, p38, p39, p40, ()), (0 : Int), ()), ())).bind fun y1 =>
 (match y1 with
 | .inl y2 =>
 some ((true, ()), ())
 | .inr y2 =>
 some ((y2.1.1, ()), ()))
noncomputable def nd9' (_ p0 : Int) (p1 p2 p3 p4 : Bool) (p5 p6 p7 p8 p9 p10 p11 p12 p13 p14 p15 p16 p17 p18 p19 p20 p21 p22 p23 p24 p25 p26 p27 p28 p29 p30 p31 p32 p33 p34 p35 p36 p37 p38 p39 p40 p41 p42 p43 p44 : Int) (p45 p46 p47 : Nat) (p48 : List (Car)) : Option ((Bool × Unit) × (T'0 × Unit)) :=
 (nf6' p42 p0 p1 p2 p3 p4 p5 p6 p7 p8 p9 p10 p11 p12 p13 p14 p15 p16 p17 p18 p19 p20 p21 p22 p23 p24 p25 p26 p27 p28 p29 p30 p31 p32 p33 p34 p35 p36 p37 p38 p39 p40).bind fun y1 =>
 some ((y1.1.1, ()), ((p41, p42, p43, p44, p45, p46, p47, p48, ()), ()))
noncomputable def nq' (s13 : List (Debounced)) (s14 s15 p0 p1 p2 p3 : Int) (p4 p5 p6 : Nat) (p7 : List (Car)) : Option (Sum (T'58 × (T'0 × Unit)) ((Unit × (T'0 × Unit)) ⊕ ((Bool × Unit) × (T'0 × Unit)))) :=
 bif (decide (s15 < s14)) then
 bif (inB s15 (List.length s13)) then
 let z0 : Debounced := (List.getD s13 (Int.toNat s15) (Debounced.mk (0 : Int) false false false false (0 : Int) (0 : Int) (0 : Int) (0 : Int) (0 : Int) (0 : Int) (0 : Int) (0 : Int) (0 : Int) (0 : Int) (0 : Int) (0 : Int) (0 : Int) (0 : Int) (0 : Int) (0 : Int) (0 : Int) (0 : Int) (0 : Int) (0 : Int) (0 : Int) (0 : Int) (0 : Int) (0 : Int) (0 : Int) (0 : Int) (0 : Int) (0 : Int) (0 : Int) (0 : Int) (0 : Int) (0 : Int) (0 : Int) (0 : Int) (0 : Int) (0 : Int)))
 (nd9' s15 z0.Contacts_Floors z0.Contacts_Up z0.Contacts_Down z0.Contacts_Open z0.Contacts_Closed z0.Count_0 z0.Count_1 z0.Count_2 z0.Count_3 z0.Count_4 z0.Count_5 z0.Count_6 z0.Count_7 z0.Count_8 z0.Count_9 z0.Count_10 z0.Count_11 z0.Count_12 z0.Count_13 z0.Count_14 z0.Count_15 z0.Count_16 z0.Count_17 z0.Count_18 z0.Count_19 z0.Count_20 z0.Count_21 z0.Count_22 z0.Count_23 z0.Count_24 z0.Count_25 z0.Count_26 z0.Count_27 z0.Count_28 z0.Count_29 z0.Count_30 z0.Count_31 z0.Count_32 z0.Count_33 z0.Count_34 z0.Count_35 p0 p1 p2 p3 p4 p5 p6 p7).bind fun y1 =>
 bif (!y1.1.1) then
 some (Sum.inr (Sum.inr ((false, ()), (y1.2.1, ()))))
 else
 some (Sum.inl (((), s13, s14, (IntKind.i64.wrap (s15 + (1 : Int))), ()), (y1.2.1, ())))
 else
 none
 else
 some (Sum.inr (Sum.inl ((), ((p0, p1, p2, p3, p4, p5, p6, p7, ()), ()))))
noncomputable def n9' : (T'58 × (T'0 × Unit)) → Option ((Unit × (T'0 × Unit)) ⊕ ((Bool × Unit) × (T'0 × Unit))) := iter (fun x => nq' x.1.2.1 x.1.2.2.1 x.1.2.2.2.1 x.2.1.1 x.2.1.2.1 x.2.1.2.2.1 x.2.1.2.2.2.1 x.2.1.2.2.2.2.1 x.2.1.2.2.2.2.2.1 x.2.1.2.2.2.2.2.2.1 x.2.1.2.2.2.2.2.2.2.1) fuel
noncomputable def nbc' (l : List (Debounced)) (n p0 p1 p2 p3 : Int) (p4 p5 p6 : Nat) (p7 : List (Car)) : Option ((Bool × Unit) × (T'0 × Unit)) :=
 bif (((List.length l : Nat) : Int) != n) then
 some ((false, ()), ((p0, p1, p2, p3, p4, p5, p6, p7, ()), ()))
 else
 (n9' (((), l, ((List.length l : Nat) : Int), (0 : Int), ()), ((p0, p1, p2, p3, p4, p5, p6, p7, ()), ()))).bind fun y1 =>
 (match y1 with
 | .inl y2 =>
 some ((true, ()), (y2.2.1, ()))
 | .inr y2 =>
 some ((y2.1.1, ()), (y2.2.1, ())))
noncomputable def nct' (n lo hi : Int) : Option ((Bool × Unit) × Unit) :=
 Option.bind (bif (decide (lo ≤ n)) then
 some (((decide (n ≤ hi)), ()), ())
 else
 some ((false, ()), ())) fun y1 =>
 some ((y1.1.1, ()), ())
noncomputable def ngx' (p0 p1 p2 p3 p4 p5 : Int) : Option ((Int × Unit) × Unit) :=
 (nc5' p0 p3).bind fun y1 =>
 (nc5' p1 p4).bind fun y2 =>
 (nie' [y1.1.1, y2.1.1]).bind fun y3 =>
 some ((y3.1.1, ()), ())
noncomputable def ndf' (car : Int) (s59 : List (Duty)) (s60 s61 p0 p1 p2 p3 : Int) (p4 p5 p6 : Nat) (p7 : List (Car)) (p8 p9 p10 : Int) (p11 : List (Duty)) (p12 : Int) (p13 : Bool) : Option (Sum (T'59 × (T'0 × T'29 × Unit)) ((Unit × Unit) ⊕ ((Bool × Unit) × Unit))) :=
 bif (decide (s61 < s60)) then
 bif (inB s61 (List.length s59)) then
 let z0 : Duty := (List.getD s59 (Int.toNat s61) (Duty.mk (0 : Int) (0 : Int) (0 : Int)))
 Option.bind ((ndz' p0 p1 p2 p3 p4 p5 p6 p7 z0.Floor z0.Dir).bind fun y1 =>
 bif (!y1.1.1) then
 some ((car, (), (), s59, s60, s61, true, ()), ((p0, p1, p2, p3, p4, p5, p6, p7, ()), (p8, p9, p10, p11, p12, p13, ()), ()))
 else
 bif (inB car (List.length p7)) then
 (nct' z0.Age (0 : Int) (List.getD p7 (Int.toNat car) (Car.mk (0 : Int) (0 : Int) (0 : Int) (0 : Int) (0 : Int) (0 : Int) (0 : Int) (0 : Int) (0 : Int))).Deadline).bind fun y2 =>
 bif (!y2.1.1) then
 some ((car, (), (), s59, s60, s61, true, ()), ((p0, p1, p2, p3, p4, p5, p6, p7, ()), (p8, p9, p10, p11, p12, p13, ()), ()))
 else
 bif (decide ((0 : Int) < s61)) then
 let z1 : Int := (IntKind.i64.wrap (s61 - (1 : Int)))
 bif (inB z1 (List.length p11)) then
 let z2 : Duty := (List.getD p11 (Int.toNat z1) (Duty.mk (0 : Int) (0 : Int) (0 : Int)))
 (ngx' z2.Floor z2.Dir z2.Age z0.Floor z0.Dir z0.Age).bind fun y3 =>
 some ((car, (), (), s59, s60, s61, (decide ((0 : Int) ≤ y3.1.1)), ()), ((p0, p1, p2, p3, p4, p5, p6, p7, ()), (p8, p9, p10, p11, p12, p13, ()), ()))
 else
 none
 else
 some ((car, (), (), s59, s60, s61, false, ()), ((p0, p1, p2, p3, p4, p5, p6, p7, ()), (p8, p9, p10, p11, p12, p13, ()), ()))
 else
 none) fun y4 =>
 bif y4.1.2.2.2.2.2.2.1 then
 some (Sum.inr (Sum.inr ((false, ()), ())))
 else
 some (Sum.inl ((y4.1.1, (), (), y4.1.2.2.2.1, y4.1.2.2.2.2.1, (IntKind.i64.wrap (y4.1.2.2.2.2.2.1 + (1 : Int))), ()), (y4.2.1, y4.2.2.1, ())))
 else
 none
 else
 some (Sum.inr (Sum.inl ((), ())))
noncomputable def nfq' : (T'59 × (T'0 × T'29 × Unit)) → Option ((Unit × Unit) ⊕ ((Bool × Unit) × Unit)) := iter (fun x => ndf' x.1.1 x.1.2.2.2.1 x.1.2.2.2.2.1 x.1.2.2.2.2.2.1 x.2.1.1 x.2.1.2.1 x.2.1.2.2.1 x.2.1.2.2.2.1 x.2.1.2.2.2.2.1 x.2.1.2.2.2.2.2.1 x.2.1.2.2.2.2.2.2.1 x.2.1.2.2.2.2.2.2.2.1 x.2.2.1.1 x.2.2.1.2.1 x.2.2.1.2.2.1 x.2.2.1.2.2.2.1 x.2.2.1.2.2.2.2.1 x.2.2.1.2.2.2.2.2.1) fuel
noncomputable def ng1' (p0 p1 p2 p3 : Int) (p4 p5 p6 : Nat) (p7 : List (Car)) (car p8 p9 p10 : Int) (p11 : List (Duty)) (p12 : Int) (p13 : Bool) : Option ((Bool × Unit) × Unit) :=
 Option.bind ((nca' p0 p1 p2 p3 p4 p5 p6 p7).bind fun y1 =>
 bif (y1.1.1 != (0 : Int)) then
 some ((car, (), (), true, ()), ((p0, p1, p2, p3, p4, p5, p6, p7, ()), (p8, p9, p10, p11, p12, p13, ()), ()))
 else
 (nct' car (0 : Int) (IntKind.i64.wrap (((List.length p7 : Nat) : Int) - (1 : Int)))).bind fun y2 =>
 bif (!y2.1.1) then
 some ((car, (), (), true, ()), ((p0, p1, p2, p3, p4, p5, p6, p7, ()), (p8, p9, p10, p11, p12, p13, ()), ()))
 else
 (nct' p8 (-1 : Int) (IntKind.i64.wrap (p0 - (1 : Int)))).bind fun y3 =>
 bif (!y3.1.1) then
 some ((car, (), (), true, ()), ((p0, p1, p2, p3, p4, p5, p6, p7, ()), (p8, p9, p10, p11, p12, p13, ()), ()))
 else
 (nct' p9 (0 : Int) (3 : Int)).bind fun y4 =>
 bif (!y4.1.1) then
 some ((car, (), (), true, ()), ((p0, p1, p2, p3, p4, p5, p6, p7, ()), (p8, p9, p10, p11, p12, p13, ()), ()))
 else
 (nct' p10 (0 : Int) (3 : Int)).bind fun y5 =>
 bif (!y5.1.1) then
 some ((car, (), (), true, ()), ((p0, p1, p2, p3, p4, p5, p6, p7, ()), (p8, p9, p10, p11, p12, p13, ()), ()))
 else
 (nct' p12 (0 : Int) (1000000 : Int)).bind fun y6 =>
 bif (!y6.1.1) then
 some ((car, (), (), true, ()), ((p0, p1, p2, p3, p4, p5, p6, p7, ()), (p8, p9, p10, p11, p12, p13, ()), ()))
 else
 bif p13 then
 some ((car, (), (), (decide ((0 : Int) < ((List.length p11 : Nat) : Int))), ()), ((p0, p1, p2, p3, p4, p5, p6, p7, ()), (p8, p9, p10, p11, p12, p13, ()), ()))
 else
 some ((car, (), (), false, ()), ((p0, p1, p2, p3, p4, p5, p6, p7, ()), (p8, p9, p10, p11, p12, p13, ()), ()))) fun y7 =>
 bif y7.1.2.2.2.1 then
 some ((false, ()), ())
 else
 (nfq' ((y7.1.1, (), (), y7.2.2.1.2.2.2.1, ((List.length y7.2.2.1.2.2.2.1 : Nat) : Int), (0 : Int), ()), (y7.2.1, y7.2.2.1, ()))).bind fun y8 =>
 (match y8 with
 | .inl y9 =>
 some ((true, ()), ())
 | .inr y9 =>
 some ((y9.1.1, ()), ()))
noncomputable def nd7' (i p0 p1 p2 : Int) (p3 : List (Duty)) (p4 : Int) (p5 : Bool) (p6 p7 p8 p9 : Int) (p10 p11 p12 : Nat) (p13 : List (Car)) : Option ((Bool × Unit) × (T'0 × Unit)) :=
 (ng1' p6 p7 p8 p9 p10 p11 p12 p13 i p0 p1 p2 p3 p4 p5).bind fun y1 =>
 some ((y1.1.1, ()), ((p6, p7, p8, p9, p10, p11, p12, p13, ()), ()))
noncomputable def ns' (s13 : List (Belief)) (s14 s15 p0 p1 p2 p3 : Int) (p4 p5 p6 : Nat) (p7 : List (Car)) : Option (Sum (T'60 × (T'0 × Unit)) ((Unit × (T'0 × Unit)) ⊕ ((Bool × Unit) × (T'0 × Unit)))) :=
 bif (decide (s15 < s14)) then
 bif (inB s15 (List.length s13)) then
 let z0 : Belief := (List.getD s13 (Int.toNat s15) (Belief.mk (0 : Int) (0 : Int) (0 : Int) [] (0 : Int) false))
 (nd7' s15 z0.Floor z0.Dir z0.Door z0.Duties z0.Still z0.Late p0 p1 p2 p3 p4 p5 p6 p7).bind fun y1 =>
 bif (!y1.1.1) then
 some (Sum.inr (Sum.inr ((false, ()), (y1.2.1, ()))))
 else
 some (Sum.inl (((), s13, s14, (IntKind.i64.wrap (s15 + (1 : Int))), ()), (y1.2.1, ())))
 else
 none
 else
 some (Sum.inr (Sum.inl ((), ((p0, p1, p2, p3, p4, p5, p6, p7, ()), ()))))
noncomputable def nbh' : (T'60 × (T'0 × Unit)) → Option ((Unit × (T'0 × Unit)) ⊕ ((Bool × Unit) × (T'0 × Unit))) := iter (fun x => ns' x.1.2.1 x.1.2.2.1 x.1.2.2.2.1 x.2.1.1 x.2.1.2.1 x.2.1.2.2.1 x.2.1.2.2.2.1 x.2.1.2.2.2.2.1 x.2.1.2.2.2.2.2.1 x.2.1.2.2.2.2.2.2.1 x.2.1.2.2.2.2.2.2.2.1) fuel
noncomputable def nbl' (l : List (Belief)) (n p0 p1 p2 p3 : Int) (p4 p5 p6 : Nat) (p7 : List (Car)) : Option ((Bool × Unit) × (T'0 × Unit)) :=
 bif (((List.length l : Nat) : Int) != n) then
 some ((false, ()), ((p0, p1, p2, p3, p4, p5, p6, p7, ()), ()))
 else
 (nbh' (((), l, ((List.length l : Nat) : Int), (0 : Int), ()), ((p0, p1, p2, p3, p4, p5, p6, p7, ()), ()))).bind fun y1 =>
 (match y1 with
 | .inl y2 =>
 some ((true, ()), (y2.2.1, ()))
 | .inr y2 =>
 some ((y2.1.1, ()), (y2.2.1, ())))
noncomputable def new' (p0 p1 : Int) : Option ((Bool × Unit) × Unit) :=
 Option.bind (bif (decide ((0 : Int) ≤ p0)) then
 bif (decide (p0 ≤ (2 : Int))) then
 bif (decide ((0 : Int) ≤ p1)) then
 some (((decide (p1 ≤ (7 : Int))), ()), ())
 else
 some ((false, ()), ())
 else
 some ((false, ()), ())
 else
 some ((false, ()), ())) fun y1 =>
 some ((y1.1.1, ()), ())
noncomputable def ne1' (n : Int) : Option ((Bool × Unit) × Unit) :=
 Option.bind (bif (decide ((0 : Int) ≤ n)) then
 some (((decide (n ≤ (1000000 : Int))), ()), ())
 else
 some ((false, ()), ())) fun y1 =>
 some ((y1.1.1, ()), ())
noncomputable def nis' (p0 p1 p2 : Int) (p3 : Bool) (p4 : Int) : Option ((Bool × Unit) × Unit) :=
 bif (p0 == (0 : Int)) then
 some ((((p0 == (0 : Int)) && ((p1 == (0 : Int)) && ((p2 == (0 : Int)) && ((p3 == false) && ((p4 == (0 : Int)) && true))))), ()), ())
 else
 Option.bind (bif (decide ((0 : Int) ≤ p0)) then
 bif (decide (p0 ≤ (3 : Int))) then
 (ne1' p1).bind fun y1 =>
 bif y1.1.1 then
 (ne1' p2).bind fun y2 =>
 bif y2.1.1 then
 (ne1' p4).bind fun y3 =>
 some ((y3.1.1, ()), ())
 else
 some ((false, ()), ())
 else
 some ((false, ()), ())
 else
 some ((false, ()), ())
 else
 some ((false, ()), ())) fun y4 =>
 some ((y4.1.1, ()), ())
noncomputable def nj3' (p0 p1 p2 : Int) : Option ((Int × Bool × Unit) × Unit) :=
 Option.bind (bif (p2 != (1 : Int)) then
 some ((p0, p1, p2, (p2 != (2 : Int)), ()), ())
 else
 some ((p0, p1, p2, false, ()), ())) fun y1 =>
 bif y1.1.2.2.2.1 then
 some (((0 : Int), false, ()), ())
 else
 bif (inB y1.1.2.2.1 3) then
 let z0 : Int := (IntKind.i64.wrap (y1.1.2.1 + (List.getD [(0 : Int), (1 : Int), (-1 : Int)] (Int.toNat y1.1.2.2.1) (0 : Int))))
 Option.bind (bif (decide ((0 : Int) ≤ z0)) then
 some ((z0, (decide (z0 < y1.1.1)), ()), ())
 else
 some ((z0, false, ()), ())) fun y2 =>
 some ((y2.1.1, y2.1.2.1, ()), ())
 else
 none
noncomputable def ngw' (p0 p1 p2 p3 : Int) : Option ((Bool × Unit) × Unit) :=
 bif (decide (p0 < (2 : Int))) then
 some ((false, ()), ())
 else
 bif (decide ((32 : Int) < p0)) then
 some ((false, ()), ())
 else
 bif (decide (p2 < (0 : Int))) then
 some ((false, ()), ())
 else
 bif (decide ((1000000 : Int) < p2)) then
 some ((false, ()), ())
 else
 bif (decide (p3 < (0 : Int))) then
 some ((false, ()), ())
 else
 bif (decide (p0 ≤ p3)) then
 some ((false, ()), ())
 else
 bif (p1 == (0 : Int)) then
 some (((p3 == (0 : Int)), ()), ())
 else
 (nj3' p0 p3 p1).bind fun y1 =>
 some ((y1.1.2.1, ()), ())
noncomputable def ng5' (p0 p1 p2 p3 : Int) (p4 p5 p6 : Nat) (p7 : List (Car)) (p8 p9 p10 p11 p12 : Int) (p13 : Bool) (p14 p15 p16 p17 p18 p19 p20 : Int) (p21 : Bool) : Option ((Bool × Unit) × Unit) :=
 Option.bind ((nca' p0 p1 p2 p3 p4 p5 p6 p7).bind fun y1 =>
 bif (y1.1.1 != (0 : Int)) then
 some (((), (), true, ()), ((p0, p1, p2, p3, p4, p5, p6, p7, ()), (p8, p9, p10, p11, p12, p13, p14, p15, p16, p17, p18, p19, p20, p21, ()), ()))
 else
 bif p21 then
 some (((), (), (!((p8 == (0 : Int)) && ((p9 == (0 : Int)) && ((p10 == (0 : Int)) && ((p11 == (0 : Int)) && ((p12 == (0 : Int)) && ((p13 == false) && ((p14 == (0 : Int)) && ((p15 == (0 : Int)) && ((p16 == (0 : Int)) && ((p17 == (0 : Int)) && ((p18 == (0 : Int)) && ((p19 == (0 : Int)) && ((p20 == (0 : Int)) && ((p21 == true) && true))))))))))))))), ()), ((p0, p1, p2, p3, p4, p5, p6, p7, ()), (p8, p9, p10, p11, p12, p13, p14, p15, p16, p17, p18, p19, p20, p21, ()), ()))
 else
 some (((), (), false, ()), ((p0, p1, p2, p3, p4, p5, p6, p7, ()), (p8, p9, p10, p11, p12, p13, p14, p15, p16, p17, p18, p19, p20, p21, ()), ()))) fun y2 =>
 bif y2.1.2.2.1 then
 some ((false, ()), ())
 else
 Option.bind ((new' y2.2.2.1.1 y2.2.2.1.2.1).bind fun y3 =>
 bif (!y3.1.1) then
 some (((), (), true, ()), (y2.2.1, y2.2.2.1, ()))
 else
 (nis' y2.2.2.1.2.2.1 y2.2.2.1.2.2.2.1 y2.2.2.1.2.2.2.2.1 y2.2.2.1.2.2.2.2.2.1 y2.2.2.1.2.2.2.2.2.2.1).bind fun y4 =>
 bif (!y4.1.1) then
 some (((), (), true, ()), (y2.2.1, y2.2.2.1, ()))
 else
 (ngw' y2.2.1.1 y2.2.2.1.2.2.2.2.2.2.2.1 y2.2.2.1.2.2.2.2.2.2.2.2.1 y2.2.2.1.2.2.2.2.2.2.2.2.2.1).bind fun y5 =>
 bif (!y5.1.1) then
 some (((), (), true, ()), (y2.2.1, y2.2.2.1, ()))
 else
 bif (!((y2.2.2.1.2.2.1 == (0 : Int)) && ((y2.2.2.1.2.2.2.1 == (0 : Int)) && ((y2.2.2.1.2.2.2.2.1 == (0 : Int)) && ((y2.2.2.1.2.2.2.2.2.1 == false) && ((y2.2.2.1.2.2.2.2.2.2.1 == (0 : Int)) && true)))))) then
 some (((), (), (!((y2.2.2.1.2.2.2.2.2.2.2.1 == (0 : Int)) && ((y2.2.2.1.2.2.2.2.2.2.2.2.1 == (0 : Int)) && ((y2.2.2.1.2.2.2.2.2.2.2.2.2.1 == (0 : Int)) && true)))), ()), (y2.2.1, y2.2.2.1, ()))
 else
 some (((), (), false, ()), (y2.2.1, y2.2.2.1, ()))) fun y6 =>
 bif y6.1.2.2.1 then
 some ((false, ()), ())
 else
 Option.bind (bif (decide ((0 : Int) ≤ y6.2.1.1)) then
 bif ((Int.fdiv y6.2.2.1.2.2.2.2.2.2.2.2.2.2.1 ((2 : Int) ^ (Min.min (Int.toNat y6.2.1.1) (IntKind.bits IntKind.u32)))) == (0 : Int)) then
 bif (decide ((0 : Int) ≤ y6.2.2.1.2.2.2.2.2.2.2.2.2.2.2.1)) then
 bif (decide (y6.2.2.1.2.2.2.2.2.2.2.2.2.2.2.1 ≤ (2 : Int))) then
 bif (decide ((0 : Int) ≤ y6.2.2.1.2.2.2.2.2.2.2.2.2.2.2.2.1)) then
 some (((decide (y6.2.2.1.2.2.2.2.2.2.2.2.2.2.2.2.1 ≤ (1000000 : Int))), ()), ())
 else
 some ((false, ()), ())
 else
 some ((false, ()), ())
 else
 some ((false, ()), ())
 else
 some ((false, ()), ())
 else
 none) fun y7 =>
 some ((y7.1.1, ()), ())
noncomputable def nd8' (_ p0 p1 p2 p3 p4 : Int) (p5 : Bool) (p6 p7 p8 p9 p10 p11 p12 : Int) (p13 : Bool) (p14 p15 p16 p17 : Int) (p18 p19 p20 : Nat) (p21 : List (Car)) : Option ((Bool × Unit) × (T'0 × Unit)) :=
 (ng5' p14 p15 p16 p17 p18 p19 p20 p21 p0 p1 p2 p3 p4 p5 p6 p7 p8 p9 p10 p11 p12 p13).bind fun y1 =>
 some ((y1.1.1, ()), ((p14, p15, p16, p17, p18, p19, p20, p21, ()), ()))
noncomputable def nt' (s13 : List (NewCar)) (s14 s15 p0 p1 p2 p3 : Int) (p4 p5 p6 : Nat) (p7 : List (Car)) : Option (Sum (T'61 × (T'0 × Unit)) ((Unit × (T'0 × Unit)) ⊕ ((Bool × Unit) × (T'0 × Unit)))) :=
 bif (decide (s15 < s14)) then
 bif (inB s15 (List.length s13)) then
 let z0 : NewCar := (List.getD s13 (Int.toNat s15) (NewCar.mk (0 : Int) (0 : Int) (0 : Int) (0 : Int) (0 : Int) false (0 : Int) (0 : Int) (0 : Int) (0 : Int) (0 : Int) (0 : Int) (0 : Int) false))
 (nd8' s15 z0.Sweep_Dir z0.Sweep_Opened z0.Door_Stage z0.Door_Time z0.Door_Since z0.Door_Nudge z0.Door_Cycles z0.Motion_Command z0.Motion_Time z0.Motion_Floor z0.Calls z0.Shown z0.Idle z0.Fault p0 p1 p2 p3 p4 p5 p6 p7).bind fun y1 =>
 bif (!y1.1.1) then
 some (Sum.inr (Sum.inr ((false, ()), (y1.2.1, ()))))
 else
 some (Sum.inl (((), s13, s14, (IntKind.i64.wrap (s15 + (1 : Int))), ()), (y1.2.1, ())))
 else
 none
 else
 some (Sum.inr (Sum.inl ((), ((p0, p1, p2, p3, p4, p5, p6, p7, ()), ()))))
noncomputable def nbi' : (T'61 × (T'0 × Unit)) → Option ((Unit × (T'0 × Unit)) ⊕ ((Bool × Unit) × (T'0 × Unit))) := iter (fun x => nt' x.1.2.1 x.1.2.2.1 x.1.2.2.2.1 x.2.1.1 x.2.1.2.1 x.2.1.2.2.1 x.2.1.2.2.2.1 x.2.1.2.2.2.2.1 x.2.1.2.2.2.2.2.1 x.2.1.2.2.2.2.2.2.1 x.2.1.2.2.2.2.2.2.2.1) fuel
noncomputable def nbk' (l : List (NewCar)) (n p0 p1 p2 p3 : Int) (p4 p5 p6 : Nat) (p7 : List (Car)) : Option ((Bool × Unit) × (T'0 × Unit)) :=
 bif (((List.length l : Nat) : Int) != n) then
 some ((false, ()), ((p0, p1, p2, p3, p4, p5, p6, p7, ()), ()))
 else
 (nbi' (((), l, ((List.length l : Nat) : Int), (0 : Int), ()), ((p0, p1, p2, p3, p4, p5, p6, p7, ()), ()))).bind fun y1 =>
 (match y1 with
 | .inl y2 =>
 some ((true, ()), (y2.2.1, ()))
 | .inr y2 =>
 some ((y2.1.1, ()), (y2.2.1, ())))
noncomputable def nf8' (_ p0 : Int) : Option ((Bool × Unit) × Unit) :=
 Option.bind (bif (decide ((0 : Int) ≤ p0)) then
 some (((decide (p0 ≤ (4 : Int))), ()), ())
 else
 some ((false, ()), ())) fun y1 =>
 some ((y1.1.1, ()), ())
noncomputable def nz' (s13 : List (Loaded)) (s14 s15 : Int) : Option (Sum (T'62 × Unit) ((Unit × Unit) ⊕ ((Bool × Unit) × Unit))) :=
 bif (decide (s15 < s14)) then
 bif (inB s15 (List.length s13)) then
 (nf8' s15 (List.getD s13 (Int.toNat s15) (Loaded.mk (0 : Int))).Class).bind fun y1 =>
 bif (!y1.1.1) then
 some (Sum.inr (Sum.inr ((false, ()), ())))
 else
 some (Sum.inl (((), s13, s14, (IntKind.i64.wrap (s15 + (1 : Int))), ()), ()))
 else
 none
 else
 some (Sum.inr (Sum.inl ((), ())))
noncomputable def nbp' : (T'62 × Unit) → Option ((Unit × Unit) ⊕ ((Bool × Unit) × Unit)) := iter (fun x => nz' x.1.2.1 x.1.2.2.1 x.1.2.2.2.1) fuel
noncomputable def nbt' (l : List (Loaded)) (n : Int) : Option ((Bool × Unit) × Unit) :=
 bif (((List.length l : Nat) : Int) != n) then
 some ((false, ()), ())
 else
 (nbp' (((), l, ((List.length l : Nat) : Int), (0 : Int), ()), ())).bind fun y1 =>
 (match y1 with
 | .inl y2 =>
 some ((true, ()), ())
 | .inr y2 =>
 some ((y2.1.1, ()), ()))
noncomputable def nbr' (p0 p1 p2 p3 : Int) (p4 p5 p6 : Nat) (p7 : List (Car)) (p8 : List (Int)) (p9 p10 : List (Bool)) (p11 : List (Entry)) (p12 p13 : ByteArray) (p14 : Int) (p15 : List (Debounced)) (p16 : List (Belief)) (p17 : List (NewCar)) (p18 : List (Loaded)) (p19 : List (Int)) (p20 : List (Calls)) (p21 p22 p23 : Int) : Option ((Bool × Unit) × Unit) :=
 let z0 : Int := ((List.length p7 : Nat) : Int)
 (ney' p0 p1 p2 p3 p4 p5 p6 p7 p8 p9 p10 p11).bind fun y1 =>
 bif (!y1.1.1) then
 some ((false, ()), ())
 else
 (nc6' p2 p12 p13 p14).bind fun y2 =>
 bif (!y2.1.1) then
 some ((false, ()), ())
 else
 bif (((List.length p19 : Nat) : Int) != ((List.length p11 : Nat) : Int)) then
 some ((false, ()), ())
 else
 (ne5' p19).bind fun y3 =>
 bif (!y3.1.1) then
 some ((false, ()), ())
 else
 (ne5' [p21, p22, p23]).bind fun y4 =>
 bif (!y4.1.1) then
 some ((false, ()), ())
 else
 (nbc' p15 z0 p0 p1 p2 p3 p4 p5 p6 p7).bind fun y5 =>
 (nbl' p16 z0 y5.2.1.1 y5.2.1.2.1 y5.2.1.2.2.1 y5.2.1.2.2.2.1 y5.2.1.2.2.2.2.1 y5.2.1.2.2.2.2.2.1 y5.2.1.2.2.2.2.2.2.1 y5.2.1.2.2.2.2.2.2.2.1).bind fun y6 =>
 (nbk' p17 z0 y6.2.1.1 y6.2.1.2.1 y6.2.1.2.2.1 y6.2.1.2.2.2.1 y6.2.1.2.2.2.2.1 y6.2.1.2.2.2.2.2.1 y6.2.1.2.2.2.2.2.2.1 y6.2.1.2.2.2.2.2.2.2.1).bind fun y7 =>
 (nbt' p18 z0).bind fun y8 =>
 Option.bind (bif y5.1.1 then
 bif y6.1.1 then
 bif y7.1.1 then
 bif y8.1.1 then
 some (((((List.length p20 : Nat) : Int) == z0), ()), ())
 else
 some ((false, ()), ())
 else
 some ((false, ()), ())
 else
 some ((false, ()), ())
 else
 some ((false, ()), ())) fun y9 =>
 some ((y9.1.1, ()), ())
noncomputable def nd6' (p0 : List (Int)) (i : Int) (p1 : List (Int)) (p2 p3 : List (Bool)) (p4 : List (Entry)) : Option (Sum (T'63 × (T'4 × Unit)) ((T'64 × (T'4 × Unit)) ⊕ ((Bool × Unit) × Unit))) :=
 bif (decide (i < ((List.length p0 : Nat) : Int))) then
 bif (inB i (List.length p0)) then
 bif (decide ((List.getD p0 (Int.toNat i) (0 : Int)) < (0 : Int))) then
 some (Sum.inr (Sum.inr ((false, ()), ())))
 else
 bif (inB i (List.length p0)) then
 bif (decide ((1000000 : Int) < (List.getD p0 (Int.toNat i) (0 : Int)))) then
 some (Sum.inr (Sum.inr ((false, ()), ())))
 else
 some (Sum.inl ((p0, (), (IntKind.i64.wrap (i + (1 : Int))), ()), ((p1, p2, p3, p4, ()), ())))
 else
 none
 else
 none
 else
 some (Sum.inr (Sum.inl ((p0, (), ()), ((p1, p2, p3, p4, ()), ()))))
noncomputable def ng6' : (T'63 × (T'4 × Unit)) → Option ((T'64 × (T'4 × Unit)) ⊕ ((Bool × Unit) × Unit)) := iter (fun x => nd6' x.1.1 x.1.2.2.1 x.2.1.1 x.2.1.2.1 x.2.1.2.2.1 x.2.1.2.2.2.1) fuel
noncomputable def niu' (p0 : List (Int)) (p1 p2 : List (Bool)) (p3 : List (Entry)) (p4 : List (Int)) : Option ((Bool × Unit) × Unit) :=
 (ng6' ((p4, (), (0 : Int), ()), ((p0, p1, p2, p3, ()), ()))).bind fun y1 =>
 (match y1 with
 | .inl y2 =>
 some (((((List.length y2.1.1 : Nat) : Int) == ((List.length y2.2.1.2.2.2.1 : Nat) : Int)), ()), ())
 | .inr y2 =>
 some ((y2.1.1, ()), ()))
noncomputable def nhi' (n : Int) : Option ((Bool × Unit) × Unit) :=
 Option.bind (bif (decide ((0 : Int) ≤ n)) then
 some (((decide (n ≤ (1000000 : Int))), ()), ())
 else
 some ((false, ()), ())) fun y1 =>
 some ((y1.1.1, ()), ())
noncomputable def nei' (n i p0 : Int) (p1 p2 p3 p4 : Bool) (p5 p6 p7 p8 p9 p10 p11 p12 p13 p14 p15 p16 p17 p18 p19 p20 p21 p22 p23 p24 p25 p26 p27 p28 p29 p30 p31 p32 p33 p34 p35 p36 p37 p38 p39 p40 : Int) : Option (Sum ((Int × Unit × Int × Unit) × (T'65 × Unit)) ((Unit × Unit) ⊕ ((Bool × Unit) × Unit))) :=
 bif (decide (i < (36 : Int))) then
 bif (inB i 36) then
 bif (decide ((List.getD [p5, p6, p7, p8, p9, p10, p11, p12, p13, p14, p15, p16, p17, p18, p19, p20, p21, p22, p23, p24, p25, p26, p27, p28, p29, p30, p31, p32, p33, p34, p35, p36, p37, p38, p39, p40] (Int.toNat i) (0 : Int)) < (0 : Int))) then
 some (Sum.inr (Sum.inr ((false, ()), ())))
 else
 bif (inB i 36) then
 bif (decide (n ≤ (List.getD [p5, p6, p7, p8, p9, p10, p11, p12, p13, p14, p15, p16, p17, p18, p19, p20, p21, p22, p23, p24, p25, p26, p27, p28, p29, p30, p31, p32, p33, p34, p35, p36, p37, p38, p39, p40] (Int.toNat i) (0 : Int)))) then
 some (Sum.inr (Sum.inr ((false, ()), ())))
 else
 some (Sum.inl ((n, (), (IntKind.i64.wrap (i + (1 : Int))), ()), ((p0, p1, p2, p3, p4, p5, p6, p7, p8, p9, p10, p11, p12, p13, p14, p15, p16, p17, p18, p19, p20, p21, p22, p23, p24, p25, p26, p27, p28, p29, p30, p31, p32, p33, p34, p35, p36, p37, p38, p39, p40, ()), ())))
 else
 none
 else
 none
 else
 some (Sum.inr (Sum.inl ((), ())))
noncomputable def nh0' : ((Int × Unit × Int × Unit) × (T'65 × Unit)) → Option ((Unit × Unit) ⊕ ((Bool × Unit) × Unit)) := iter (fun x => nei' x.1.1 x.1.2.2.1 x.2.1.1 x.2.1.2.1 x.2.1.2.2.1 x.2.1.2.2.2.1 x.2.1.2.2.2.2.1 x.2.1.2.2.2.2.2.1 x.2.1.2.2.2.2.2.2.1 x.2.1.2.2.2.2.2.2.2.1 x.2.1.2.2.2.2.2.2.2.2.1 x.2.1.2.2.2.2.2.2.2.2.2.1 x.2.1.2.2.2.2.2.2.2.2.2.2.1 x.2.1.2.2.2.2.2.2.2.2.2.2.2.1 x.2.1.2.2.2.2.2.2.2.2.2.2.2.2.1 x.2.1.2.2.2.2.2.2.2.2.2.2.2.2.2.1 x.2.1.2.2.2.2.2.2.2.2.2.2.2.2.2.2.1 x.2.1.2.2.2.2.2.2.2.2.2.2.2.2.2.2.2.1 x.2.1.2.2.2.2.2.2.2.2.2.2.2.2.2.2.2.2.1 x.2.1.2.2.2.2.2.2.2.2.2.2.2.2.2.2.2.2.2.1 x.2.1.2.2.2.2.2.2.2.2.2.2.2.2.2.2.2.2.2.2.1 x.2.1.2.2.2.2.2.2.2.2.2.2.2.2.2.2.2.2.2.2.2.1 x.2.1.2.2.2.2.2.2.2.2.2.2.2.2.2.2.2.2.2.2.2.2.1 x.2.1.2.2.2.2.2.2.2.2.2.2.2.2.2.2.2.2.2.2.2.2.2.1 x.2.1.2.2.2.2.2.2.2.2.2.2.2.2.2.2.2.2.2.2.2.2.2.2.1 x.2.1.2.2.2.2.2.2.2.2.2.2.2.2.2.2.2.2.2.2.2.2.2.2.2.1 x.2.1.2.2.2.2.2.2.2.2.2.2.2.2.2.2.2.2.2.2.2.2.2.2.2.2.1 x.2.1.2.2.2.2.2.2.2.2.2.2.2.2.2.2.2.2.2.2.2.2.2.2.2.2.2.1 x.2.1.2.2.2.2.2.2.2.2.2.2.2.2.2.2.2.2.2.2.2.2.2.2.2.2.2.2.1 x.2.1.2.2.2.2.2.2.2.2.2.2.2.2.2.2.2.2.2.2.2.2.2.2.2.2.2.2.2.1 x.2.1.2.2.2.2.2.2.2.2.2.2.2.2.2.2.2.2.2.2.2.2.2.2.2.2.2.2.2.2.1 x.2.1.2.2.2.2.2.2.2.2.2.2.2.2.2.2.2.2.2.2.2.2.2.2.2.2.2.2.2.2.2.1 x.2.1.2.2.2.2.2.2.2.2.2.2.2.2.2.2.2.2.2.2.2.2.2.2.2.2.2.2.2.2.2.2.1 x.2.1.2.2.2.2.2.2.2.2.2.2.2.2.2.2.2.2.2.2.2.2.2.2.2.2.2.2.2.2.2.2.2.1 x.2.1.2.2.2.2.2.2.2.2.2.2.2.2.2.2.2.2.2.2.2.2.2.2.2.2.2.2.2.2.2.2.2.2.1 x.2.1.2.2.2.2.2.2.2.2.2.2.2.2.2.2.2.2.2.2.2.2.2.2.2.2.2.2.2.2.2.2.2.2.2.1 x.2.1.2.2.2.2.2.2.2.2.2.2.2.2.2.2.2.2.2.2.2.2.2.2.2.2.2.2.2.2.2.2.2.2.2.2.1 x.2.1.2.2.2.2.2.2.2.2.2.2.2.2.2.2.2.2.2.2.2.2.2.2.2.2.2.2.2.2.2.2.2.2.2.2.2.1 x.2.1.2.2.2.2.2.2.2.2.2.2.2.2.2.2.2.2.2.2.2.2.2.2.2.2.2.2.2.2.2.2.2.2.2.2.2.2.1 x.2.1.2.2.2.2.2.2.2.2.2.2.2.2.2.2.2.2.2.2.2.2.2.2.2.2.2.2.2.2.2.2.2.2.2.2.2.2.2.1 x.2.1.2.2.2.2.2.2.2.2.2.2.2.2.2.2.2.2.2.2.2.2.2.2.2.2.2.2.2.2.2.2.2.2.2.2.2.2.2.2.1 x.2.1.2.2.2.2.2.2.2.2.2.2.2.2.2.2.2.2.2.2.2.2.2.2.2.2.2.2.2.2.2.2.2.2.2.2.2.2.2.2.2.1 x.2.1.2.2.2.2.2.2.2.2.2.2.2.2.2.2.2.2.2.2.2.2.2.2.2.2.2.2.2.2.2.2.2.2.2.2.2.2.2.2.2.2.1) fuel
noncomputable def ni7' (n p0 : Int) (p1 p2 p3 p4 : Bool) (p5 p6 p7 p8 p9 p10 p11 p12 p13 p14 p15 p16 p17 p18 p19 p20 p21 p22 p23 p24 p25 p26 p27 p28 p29 p30 p31 p32 p33 p34 p35 p36 p37 p38 p39 p40 : Int) : Option ((Bool × Unit) × Unit) :=
 bif (decide (n < (1 : Int))) then
 some ((false, ()), ())
 else
 bif (decide ((16 : Int) < n)) then
 some ((false, ()), ())
 else
 (nh0' ((n, (), (0 : Int), ()), ((p0, p1, p2, p3, p4, p5, p6, p7, p8, p9, p10, p11, p12, p13, p14, p15, p16, p17, p18, p19, p20, p21, p22, p23, p24, p25, p26, p27, p28, p29, p30, p31, p32, p33, p34, p35, p36, p37, p38, p39, p40, ()), ()))).bind fun y1 =>
 (match y1 with
 | .inl y2 =>
 some ((true, ()), ())
 | .inr y2 =>
 some ((y2.1.1, ()), ()))
noncomputable def ngy' (n lo hi : Int) : Option ((Bool × Unit) × Unit) :=
 Option.bind (bif (decide (lo ≤ n)) then
 some (((decide (n ≤ hi)), ()), ())
 else
 some ((false, ()), ())) fun y1 =>
 some ((y1.1.1, ()), ())
noncomputable def neh' (car i p0 p1 p2 p3 : Int) (p4 p5 p6 : Nat) (p7 : List (Car)) (p8 p9 p10 : Int) (p11 : List (Duty)) (p12 : Int) (p13 : Bool) : Option (Sum (T'66 × (T'0 × T'29 × Unit)) ((Unit × Unit) ⊕ ((Bool × Unit) × Unit))) :=
 bif (decide (i < ((List.length p11 : Nat) : Int))) then
 bif (inB i (List.length p11)) then
 let z0 : Duty := (List.getD p11 (Int.toNat i) (Duty.mk (0 : Int) (0 : Int) (0 : Int)))
 (nge' p0 p1 p2 p3 p4 p5 p6 p7 z0.Floor z0.Dir).bind fun y1 =>
 bif (!y1.1.1) then
 some (Sum.inr (Sum.inr ((false, ()), ())))
 else
 bif (inB car (List.length p7)) then
 (ngy' z0.Age (0 : Int) (List.getD p7 (Int.toNat car) (Car.mk (0 : Int) (0 : Int) (0 : Int) (0 : Int) (0 : Int) (0 : Int) (0 : Int) (0 : Int) (0 : Int))).Deadline).bind fun y2 =>
 bif (!y2.1.1) then
 some (Sum.inr (Sum.inr ((false, ()), ())))
 else
 Option.bind (bif (decide ((0 : Int) < i)) then
 let z1 : Int := (IntKind.i64.wrap (i - (1 : Int)))
 bif (inB z1 (List.length p11)) then
 let z2 : Int := (IntKind.i64.wrap (i - (1 : Int)))
 bif (inB z2 (List.length p11)) then
 some ((car, (), (), i, (decide ((IntKind.i64.wrap ((IntKind.i64.wrap ((4 : Int) * z0.Floor)) + z0.Dir)) ≤ (IntKind.i64.wrap ((IntKind.i64.wrap ((4 : Int) * (List.getD p11 (Int.toNat z1) (Duty.mk (0 : Int) (0 : Int) (0 : Int))).Floor)) + (List.getD p11 (Int.toNat z2) (Duty.mk (0 : Int) (0 : Int) (0 : Int))).Dir)))), ()), ((p0, p1, p2, p3, p4, p5, p6, p7, ()), (p8, p9, p10, p11, p12, p13, ()), ()))
 else
 none
 else
 none
 else
 some ((car, (), (), i, false, ()), ((p0, p1, p2, p3, p4, p5, p6, p7, ()), (p8, p9, p10, p11, p12, p13, ()), ()))) fun y3 =>
 bif y3.1.2.2.2.2.1 then
 some (Sum.inr (Sum.inr ((false, ()), ())))
 else
 some (Sum.inl ((y3.1.1, (), (), (IntKind.i64.wrap (y3.1.2.2.2.1 + (1 : Int))), ()), (y3.2.1, y3.2.2.1, ())))
 else
 none
 else
 none
 else
 some (Sum.inr (Sum.inl ((), ())))
noncomputable def nh3' : (T'66 × (T'0 × T'29 × Unit)) → Option ((Unit × Unit) ⊕ ((Bool × Unit) × Unit)) := iter (fun x => neh' x.1.1 x.1.2.2.2.1 x.2.1.1 x.2.1.2.1 x.2.1.2.2.1 x.2.1.2.2.2.1 x.2.1.2.2.2.2.1 x.2.1.2.2.2.2.2.1 x.2.1.2.2.2.2.2.2.1 x.2.1.2.2.2.2.2.2.2.1 x.2.2.1.1 x.2.2.1.2.1 x.2.2.1.2.2.1 x.2.2.1.2.2.2.1 x.2.2.1.2.2.2.2.1 x.2.2.1.2.2.2.2.2.1) fuel
noncomputable def njh' (p0 p1 p2 p3 : Int) (p4 p5 p6 : Nat) (p7 : List (Car)) (car p8 p9 p10 : Int) (p11 : List (Duty)) (p12 : Int) (p13 : Bool) : Option ((Bool × Unit) × Unit) :=
 Option.bind ((nc2' p0 p1 p2 p3 p4 p5 p6 p7).bind fun y1 =>
 bif (y1.1.1 != (0 : Int)) then
 some ((car, (), (), true, ()), ((p0, p1, p2, p3, p4, p5, p6, p7, ()), (p8, p9, p10, p11, p12, p13, ()), ()))
 else
 (ngy' car (0 : Int) (IntKind.i64.wrap (((List.length p7 : Nat) : Int) - (1 : Int)))).bind fun y2 =>
 bif (!y2.1.1) then
 some ((car, (), (), true, ()), ((p0, p1, p2, p3, p4, p5, p6, p7, ()), (p8, p9, p10, p11, p12, p13, ()), ()))
 else
 (ngy' p8 (-1 : Int) (IntKind.i64.wrap (p0 - (1 : Int)))).bind fun y3 =>
 bif (!y3.1.1) then
 some ((car, (), (), true, ()), ((p0, p1, p2, p3, p4, p5, p6, p7, ()), (p8, p9, p10, p11, p12, p13, ()), ()))
 else
 (ngy' p9 (0 : Int) (3 : Int)).bind fun y4 =>
 bif (!y4.1.1) then
 some ((car, (), (), true, ()), ((p0, p1, p2, p3, p4, p5, p6, p7, ()), (p8, p9, p10, p11, p12, p13, ()), ()))
 else
 (ngy' p10 (0 : Int) (3 : Int)).bind fun y5 =>
 bif (!y5.1.1) then
 some ((car, (), (), true, ()), ((p0, p1, p2, p3, p4, p5, p6, p7, ()), (p8, p9, p10, p11, p12, p13, ()), ()))
 else
 (ngy' p12 (0 : Int) (1000000 : Int)).bind fun y6 =>
 bif (!y6.1.1) then
 some ((car, (), (), true, ()), ((p0, p1, p2, p3, p4, p5, p6, p7, ()), (p8, p9, p10, p11, p12, p13, ()), ()))
 else
 bif p13 then
 some ((car, (), (), (decide ((0 : Int) < ((List.length p11 : Nat) : Int))), ()), ((p0, p1, p2, p3, p4, p5, p6, p7, ()), (p8, p9, p10, p11, p12, p13, ()), ()))
 else
 some ((car, (), (), false, ()), ((p0, p1, p2, p3, p4, p5, p6, p7, ()), (p8, p9, p10, p11, p12, p13, ()), ()))) fun y7 =>
 bif y7.1.2.2.2.1 then
 some ((false, ()), ())
 else
 (nh3' ((y7.1.1, (), (), (0 : Int), ()), (y7.2.1, y7.2.2.1, ()))).bind fun y8 =>
 (match y8 with
 | .inl y9 =>
 some ((true, ()), ())
 | .inr y9 =>
 some ((y9.1.1, ()), ()))
noncomputable def ni2' (p0 p1 : Int) : Option ((Bool × Unit) × Unit) :=
 Option.bind (bif (decide ((0 : Int) ≤ p0)) then
 bif (decide (p0 ≤ (2 : Int))) then
 bif (decide ((0 : Int) ≤ p1)) then
 some (((decide (p1 ≤ (7 : Int))), ()), ())
 else
 some ((false, ()), ())
 else
 some ((false, ()), ())
 else
 some ((false, ()), ())) fun y1 =>
 some ((y1.1.1, ()), ())
noncomputable def nkv' (n : Int) : Option ((Bool × Unit) × Unit) :=
 Option.bind (bif (decide ((0 : Int) ≤ n)) then
 some (((decide (n ≤ (1000000 : Int))), ()), ())
 else
 some ((false, ()), ())) fun y1 =>
 some ((y1.1.1, ()), ())
noncomputable def ni8' (p0 p1 p2 : Int) (p3 : Bool) (p4 : Int) : Option ((Bool × Unit) × Unit) :=
 bif (p0 == (0 : Int)) then
 some ((((p0 == (0 : Int)) && ((p1 == (0 : Int)) && ((p2 == (0 : Int)) && ((p3 == false) && ((p4 == (0 : Int)) && true))))), ()), ())
 else
 Option.bind (bif (decide ((0 : Int) < p0)) then
 bif (decide (p0 ≤ (3 : Int))) then
 (nkv' p1).bind fun y1 =>
 bif y1.1.1 then
 (nkv' p2).bind fun y2 =>
 bif y2.1.1 then
 (nkv' p4).bind fun y3 =>
 some ((y3.1.1, ()), ())
 else
 some ((false, ()), ())
 else
 some ((false, ()), ())
 else
 some ((false, ()), ())
 else
 some ((false, ()), ())) fun y4 =>
 some ((y4.1.1, ()), ())
noncomputable def nfy' (p0 n : Int) : Option ((Bool × Unit) × Unit) :=
 Option.bind (bif (decide ((0 : Int) ≤ n)) then
 some (((decide (n < p0)), ()), ())
 else
 some ((false, ()), ())) fun y1 =>
 some ((y1.1.1, ()), ())
noncomputable def nib' (p0 p1 p2 : Int) : Option ((Int × Unit) × Unit) :=
 bif (p0 == (1 : Int)) then
 some (((IntKind.i64.wrap (p2 + (1 : Int))), ()), ())
 else
 some (((IntKind.i64.wrap (p2 - (1 : Int))), ()), ())
noncomputable def ni3' (p0 p1 p2 p3 : Int) : Option ((Bool × Unit) × Unit) :=
 bif (decide (p0 < (2 : Int))) then
 some ((false, ()), ())
 else
 bif (decide ((32 : Int) < p0)) then
 some ((false, ()), ())
 else
 bif (decide (p2 < (0 : Int))) then
 some ((false, ()), ())
 else
 bif (decide ((1000000 : Int) < p2)) then
 some ((false, ()), ())
 else
 bif (p1 == (0 : Int)) then
 some (((p3 == (0 : Int)), ()), ())
 else
 bif (p1 == (1 : Int)) then
 Option.bind ((nfy' p0 p3).bind fun y1 =>
 bif y1.1.1 then
 (nib' p1 p2 p3).bind fun y2 =>
 (nfy' p0 y2.1.1).bind fun y3 =>
 some ((y3.1.1, ()), ())
 else
 some ((false, ()), ())) fun y4 =>
 some ((y4.1.1, ()), ())
 else
 bif (p1 == (2 : Int)) then
 Option.bind ((nfy' p0 p3).bind fun y5 =>
 bif y5.1.1 then
 (nib' p1 p2 p3).bind fun y6 =>
 (nfy' p0 y6.1.1).bind fun y7 =>
 some ((y7.1.1, ()), ())
 else
 some ((false, ()), ())) fun y8 =>
 some ((y8.1.1, ()), ())
 else
 some ((false, ()), ())
noncomputable def njj' (p0 p1 p2 p3 : Int) (p4 p5 p6 : Nat) (p7 : List (Car)) (p8 p9 p10 p11 p12 : Int) (p13 : Bool) (p14 p15 p16 p17 p18 p19 p20 : Int) (p21 : Bool) : Option ((Bool × Unit) × Unit) :=
 (nc2' p0 p1 p2 p3 p4 p5 p6 p7).bind fun y1 =>
 bif (y1.1.1 != (0 : Int)) then
 some ((false, ()), ())
 else
 bif p21 then
 some ((((p8 == (0 : Int)) && ((p9 == (0 : Int)) && ((p10 == (0 : Int)) && ((p11 == (0 : Int)) && ((p12 == (0 : Int)) && ((p13 == false) && ((p14 == (0 : Int)) && ((p15 == (0 : Int)) && ((p16 == (0 : Int)) && ((p17 == (0 : Int)) && ((p18 == (0 : Int)) && ((p19 == (0 : Int)) && ((p20 == (0 : Int)) && ((p21 == true) && true)))))))))))))), ()), ())
 else
 Option.bind ((ni2' p8 p9).bind fun y2 =>
 bif (!y2.1.1) then
 some (((), (), true, ()), ((p0, p1, p2, p3, p4, p5, p6, p7, ()), (p8, p9, p10, p11, p12, p13, p14, p15, p16, p17, p18, p19, p20, p21, ()), ()))
 else
 (ni8' p10 p11 p12 p13 p14).bind fun y3 =>
 bif (!y3.1.1) then
 some (((), (), true, ()), ((p0, p1, p2, p3, p4, p5, p6, p7, ()), (p8, p9, p10, p11, p12, p13, p14, p15, p16, p17, p18, p19, p20, p21, ()), ()))
 else
 (ni3' p0 p15 p16 p17).bind fun y4 =>
 bif (!y4.1.1) then
 some (((), (), true, ()), ((p0, p1, p2, p3, p4, p5, p6, p7, ()), (p8, p9, p10, p11, p12, p13, p14, p15, p16, p17, p18, p19, p20, p21, ()), ()))
 else
 bif (!((p10 == (0 : Int)) && ((p11 == (0 : Int)) && ((p12 == (0 : Int)) && ((p13 == false) && ((p14 == (0 : Int)) && true)))))) then
 some (((), (), (!((p15 == (0 : Int)) && ((p16 == (0 : Int)) && ((p17 == (0 : Int)) && true)))), ()), ((p0, p1, p2, p3, p4, p5, p6, p7, ()), (p8, p9, p10, p11, p12, p13, p14, p15, p16, p17, p18, p19, p20, p21, ()), ()))
 else
 some (((), (), false, ()), ((p0, p1, p2, p3, p4, p5, p6, p7, ()), (p8, p9, p10, p11, p12, p13, p14, p15, p16, p17, p18, p19, p20, p21, ()), ()))) fun y5 =>
 bif y5.1.2.2.1 then
 some ((false, ()), ())
 else
 Option.bind (let z0 : Int := (IntKind.u64.wrap y5.2.1.1)
 bif (decide ((0 : Int) ≤ z0)) then
 bif ((Int.fdiv (IntKind.u64.wrap y5.2.2.1.2.2.2.2.2.2.2.2.2.2.1) ((2 : Int) ^ (Min.min (Int.toNat z0) (IntKind.bits IntKind.u64)))) == (0 : Int)) then
 bif (decide ((0 : Int) ≤ y5.2.2.1.2.2.2.2.2.2.2.2.2.2.2.1)) then
 bif (decide (y5.2.2.1.2.2.2.2.2.2.2.2.2.2.2.1 ≤ (2 : Int))) then
 bif (decide ((0 : Int) ≤ y5.2.2.1.2.2.2.2.2.2.2.2.2.2.2.2.1)) then
 some (((decide (y5.2.2.1.2.2.2.2.2.2.2.2.2.2.2.2.1 ≤ (1000000 : Int))), ()), ())
 else
 some ((false, ()), ())
 else
 some ((false, ()), ())
 else
 some ((false, ()), ())
 else
 some ((false, ()), ())
 else
 none) fun y6 =>
 some ((y6.1.1, ()), ())
noncomputable def ndx' (n i p0 p1 p2 p3 : Int) (p4 p5 p6 : Nat) (p7 : List (Car)) (p8 : List (Int)) (p9 p10 : List (Bool)) (p11 : List (Entry)) (p12 p13 : ByteArray) (p14 : Int) (p15 : List (Debounced)) (p16 : List (Belief)) (p17 : List (NewCar)) (p18 : List (Loaded)) (p19 : List (Int)) (p20 : List (Calls)) (p21 p22 p23 : Int) : Option (Sum (T'19 × (T'0 × T'30 × Unit)) ((Unit × Unit) ⊕ ((Bool × Unit) × Unit))) :=
 bif (decide (i < n)) then
 bif (inB i (List.length p15)) then
 let z0 : Debounced := (List.getD p15 (Int.toNat i) (Debounced.mk (0 : Int) false false false false (0 : Int) (0 : Int) (0 : Int) (0 : Int) (0 : Int) (0 : Int) (0 : Int) (0 : Int) (0 : Int) (0 : Int) (0 : Int) (0 : Int) (0 : Int) (0 : Int) (0 : Int) (0 : Int) (0 : Int) (0 : Int) (0 : Int) (0 : Int) (0 : Int) (0 : Int) (0 : Int) (0 : Int) (0 : Int) (0 : Int) (0 : Int) (0 : Int) (0 : Int) (0 : Int) (0 : Int) (0 : Int) (0 : Int) (0 : Int) (0 : Int) (0 : Int)))
 (ni7' p1 z0.Contacts_Floors z0.Contacts_Up z0.Contacts_Down z0.Contacts_Open z0.Contacts_Closed z0.Count_0 z0.Count_1 z0.Count_2 z0.Count_3 z0.Count_4 z0.Count_5 z0.Count_6 z0.Count_7 z0.Count_8 z0.Count_9 z0.Count_10 z0.Count_11 z0.Count_12 z0.Count_13 z0.Count_14 z0.Count_15 z0.Count_16 z0.Count_17 z0.Count_18 z0.Count_19 z0.Count_20 z0.Count_21 z0.Count_22 z0.Count_23 z0.Count_24 z0.Count_25 z0.Count_26 z0.Count_27 z0.Count_28 z0.Count_29 z0.Count_30 z0.Count_31 z0.Count_32 z0.Count_33 z0.Count_34 z0.Count_35).bind fun y1 =>
 bif (!y1.1.1) then
 some (Sum.inr (Sum.inr ((false, ()), ())))
 else
 bif (inB i (List.length p16)) then
 let z1 : Belief := (List.getD p16 (Int.toNat i) (Belief.mk (0 : Int) (0 : Int) (0 : Int) [] (0 : Int) false))
 (njh' p0 p1 p2 p3 p4 p5 p6 p7 i z1.Floor z1.Dir z1.Door z1.Duties z1.Still z1.Late).bind fun y2 =>
 bif (!y2.1.1) then
 some (Sum.inr (Sum.inr ((false, ()), ())))
 else
 bif (inB i (List.length p17)) then
 let z2 : NewCar := (List.getD p17 (Int.toNat i) (NewCar.mk (0 : Int) (0 : Int) (0 : Int) (0 : Int) (0 : Int) false (0 : Int) (0 : Int) (0 : Int) (0 : Int) (0 : Int) (0 : Int) (0 : Int) false))
 (njj' p0 p1 p2 p3 p4 p5 p6 p7 z2.Sweep_Dir z2.Sweep_Opened z2.Door_Stage z2.Door_Time z2.Door_Since z2.Door_Nudge z2.Door_Cycles z2.Motion_Command z2.Motion_Time z2.Motion_Floor z2.Calls z2.Shown z2.Idle z2.Fault).bind fun y3 =>
 bif (!y3.1.1) then
 some (Sum.inr (Sum.inr ((false, ()), ())))
 else
 bif (inB i (List.length p18)) then
 bif (decide ((List.getD p18 (Int.toNat i) (Loaded.mk (0 : Int))).Class < (0 : Int))) then
 some (Sum.inr (Sum.inr ((false, ()), ())))
 else
 bif (inB i (List.length p18)) then
 bif (decide ((4 : Int) < (List.getD p18 (Int.toNat i) (Loaded.mk (0 : Int))).Class)) then
 some (Sum.inr (Sum.inr ((false, ()), ())))
 else
 some (Sum.inl (((), (), n, (IntKind.i64.wrap (i + (1 : Int))), ()), ((p0, p1, p2, p3, p4, p5, p6, p7, ()), (p8, p9, p10, p11, p12, p13, p14, p15, p16, p17, p18, p19, p20, p21, p22, p23, ()), ())))
 else
 none
 else
 none
 else
 none
 else
 none
 else
 none
 else
 some (Sum.inr (Sum.inl ((), ())))
noncomputable def nf4' : (T'19 × (T'0 × T'30 × Unit)) → Option ((Unit × Unit) ⊕ ((Bool × Unit) × Unit)) := iter (fun x => ndx' x.1.2.2.1 x.1.2.2.2.1 x.2.1.1 x.2.1.2.1 x.2.1.2.2.1 x.2.1.2.2.2.1 x.2.1.2.2.2.2.1 x.2.1.2.2.2.2.2.1 x.2.1.2.2.2.2.2.2.1 x.2.1.2.2.2.2.2.2.2.1 x.2.2.1.1 x.2.2.1.2.1 x.2.2.1.2.2.1 x.2.2.1.2.2.2.1 x.2.2.1.2.2.2.2.1 x.2.2.1.2.2.2.2.2.1 x.2.2.1.2.2.2.2.2.2.1 x.2.2.1.2.2.2.2.2.2.2.1 x.2.2.1.2.2.2.2.2.2.2.2.1 x.2.2.1.2.2.2.2.2.2.2.2.2.1 x.2.2.1.2.2.2.2.2.2.2.2.2.2.1 x.2.2.1.2.2.2.2.2.2.2.2.2.2.2.1 x.2.2.1.2.2.2.2.2.2.2.2.2.2.2.2.1 x.2.2.1.2.2.2.2.2.2.2.2.2.2.2.2.2.1 x.2.2.1.2.2.2.2.2.2.2.2.2.2.2.2.2.2.1 x.2.2.1.2.2.2.2.2.2.2.2.2.2.2.2.2.2.2.1) fuel
noncomputable def neo' (p0 p1 p2 p3 : Int) (p4 p5 p6 : Nat) (p7 : List (Car)) (p8 : List (Int)) (p9 p10 : List (Bool)) (p11 : List (Entry)) (p12 p13 : ByteArray) (p14 : Int) (p15 : List (Debounced)) (p16 : List (Belief)) (p17 : List (NewCar)) (p18 : List (Loaded)) (p19 : List (Int)) (p20 : List (Calls)) (p21 p22 p23 : Int) : Option ((Bool × Unit) × Unit) :=
 let z0 : Int := ((List.length p7 : Nat) : Int)
 (nc2' p0 p1 p2 p3 p4 p5 p6 p7).bind fun y1 =>
 bif (y1.1.1 != (0 : Int)) then
 some ((false, ()), ())
 else
 (nip' p0 p1 p2 p3 p4 p5 p6 p7 p8 p9 p10 p11).bind fun y2 =>
 bif (!y2.1.1) then
 some ((false, ()), ())
 else
 (nep' p2 p12 p13 p14).bind fun y3 =>
 bif (!y3.1.1) then
 some ((false, ()), ())
 else
 bif (((List.length p15 : Nat) : Int) != z0) then
 some ((false, ()), ())
 else
 bif (((List.length p16 : Nat) : Int) != z0) then
 some ((false, ()), ())
 else
 bif (((List.length p17 : Nat) : Int) != z0) then
 some ((false, ()), ())
 else
 bif (((List.length p18 : Nat) : Int) != z0) then
 some ((false, ()), ())
 else
 bif (((List.length p20 : Nat) : Int) != z0) then
 some ((false, ()), ())
 else
 (niu' p8 p9 p10 p11 p19).bind fun y4 =>
 bif (!y4.1.1) then
 some ((false, ()), ())
 else
 (nhi' p21).bind fun y5 =>
 bif (!y5.1.1) then
 some ((false, ()), ())
 else
 (nhi' p22).bind fun y6 =>
 bif (!y6.1.1) then
 some ((false, ()), ())
 else
 (nhi' p23).bind fun y7 =>
 bif (!y7.1.1) then
 some ((false, ()), ())
 else
 (nf4' (((), (), z0, (0 : Int), ()), ((p0, p1, p2, p3, p4, p5, p6, p7, ()), (p8, p9, p10, p11, p12, p13, p14, p15, p16, p17, p18, p19, p20, p21, p22, p23, ()), ()))).bind fun y8 =>
 (match y8 with
 | .inl y9 =>
 some ((true, ()), ())
 | .inr y9 =>
 some ((y9.1.1, ()), ()))
end Go.Ovl
