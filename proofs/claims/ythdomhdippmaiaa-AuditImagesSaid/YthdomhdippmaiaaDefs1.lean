/- What each function of the program comes to: part 1. -/
import Derived.Test.YthdomhdippmaiaaTy
namespace Go.Ovl
open Go Go.Ab
set_option maxRecDepth 100000
@[reducible] def T'0 : Type := (Int × Int × Int × Int × Nat × Nat × Nat × List (Car) × Unit)
@[reducible] def T'1 : Type := (Int × Int × Unit × Unit × Int × Unit)
@[reducible] def T'2 : Type := (Int × Int × Int × Int × Bool × Bool × Int × List (CarOutput) × Unit)
@[reducible] def T'3 : Type := ((Int × Int × Unit) × Unit)
@[reducible] def T'4 : Type := (Unit × Unit × Bool × List (CarOutput) × Int × Int × Unit)
@[reducible] def T'5 : Type := ((Int × Int × Unit) × (Int × Int × Unit) × Unit)
@[reducible] def T'6 : Type := (Unit × Unit × Bool × Unit)
@[reducible] def T'7 : Type := (List (CarOutput) × Int × Int × Unit)
@[reducible] def T'8 : Type := (List (CarOutput) × List (CarOutput) × Int × Int × Unit)
@[reducible] def T'9 : Type := (Int × List (CarOutput) × Int × Int × Unit)
@[reducible] def T'10 : Type := (Unit × Unit × List (Outputs) × Int × Int × Unit)
@[reducible] def T'11 : Type := (Unit × Unit × List (Int) × Int × Unit)
@[reducible] def T'12 : Type := (Int × Int × Int × Int × Int × Int × Int × Int × Int × Unit)
@[reducible] def T'13 : Type := (Unit × Bool × Int × Unit)
@[reducible] def T'14 : Type := (List (Int) × List (Bool) × List (Bool) × List (Entry) × Unit)
@[reducible] def T'15 : Type := (List (Int) × Int × List (Record) × Int × Int × Int × Unit)
@[reducible] def T'16 : Type := (Unit × Unit × Int × Int × Unit)
@[reducible] def T'17 : Type := (Unit × Unit × Int × Unit)
@[reducible] def T'18 : Type := (Int × Int × Unit × Int × Unit)
@[reducible] def T'19 : Type := (List (Entry) × Unit × List (Entry) × Bool × Int × Unit)
@[reducible] def T'20 : Type := (Int × Int × Int × Int × Bool × Unit)
@[reducible] def T'21 : Type := (Unit × List (Entry) × Bool × Unit)
@[reducible] def T'22 : Type := (Unit × Unit × Unit × List (Record) × Int × Unit)
@[reducible] def T'23 : Type := (T'0 × T'14 × T'14 × Unit)
@[reducible] def T'24 : Type := (Int × Int × Int × List (Duty) × Int × Bool × Unit)
@[reducible] def T'25 : Type := (List (Int) × List (Bool) × List (Bool) × List (Entry) × ByteArray × ByteArray × Int × List (Debounced) × List (Belief) × List (NewCar) × List (Loaded) × List (Int) × List (Calls) × Int × Int × Int × Unit)
@[reducible] def T'26 : Type := (Unit × Unit × Unit × Int × Unit × Int × Unit)
@[reducible] def T'27 : Type := (T'0 × T'14 × T'25 × T'25 × Unit)
@[reducible] def T'28 : Type := (Unit × Unit × Unit × Unit × Unit)
@[reducible] def T'29 : Type := (Unit × Unit × Unit × Unit × Int × Unit)
@[reducible] def T'30 : Type := (ByteArray × Int × Int × Unit)
@[reducible] def T'31 : Type := (ByteArray × Int × Int × Int × Unit)
@[reducible] def T'32 : Type := (Int × Int × Int × Int × Int × Unit)
@[reducible] def T'33 : Type := (List (Record) × Int × Unit)
@[reducible] def T'34 : Type := (ByteArray × Unit × List (Record) × Int × Unit)
@[reducible] def T'35 : Type := (ByteArray × ByteArray × Int × Unit)
@[reducible] def T'36 : Type := (Unit × List (Record) × Int × Unit)
@[reducible] def T'37 : Type := (Unit × List (Record) × Unit)
@[reducible] def T'38 : Type := (List (Record) × Unit × ByteArray × Int × Unit)
@[reducible] def T'39 : Type := (Int × ByteArray × Int × Unit × Unit × Int × Unit)
@[reducible] def T'40 : Type := (Int × Unit × Unit × Unit)
@[reducible] def T'41 : Type := (Unit × List (Entry) × Int × Int × Unit)
@[reducible] def T'42 : Type := (Int × Int × List (Int) × Int × Int × Unit)
@[reducible] def T'43 : Type := (Unit × Bool × List (Car) × Int × Int × Unit)
@[reducible] def T'44 : Type := (ByteArray × Int × Int × Int × Int × Unit)
@[reducible] def T'45 : Type := (Int × List (Int) × Int × Int × Unit)
@[reducible] def T'46 : Type := (List (Entry) × Unit × Unit × Int × Int × Int × Unit)
@[reducible] def T'47 : Type := (List (Entry) × Unit × Unit × Int × Int × Unit)
@[reducible] def T'48 : Type := (Unit × Unit × List (Record) × Int × Int × Unit)
@[reducible] def T'49 : Type := (List (Int) × List (Int) × Int × Int × Unit)
@[reducible] def T'50 : Type := (List (Bool) × List (Bool) × Int × Int × Unit)
@[reducible] def T'51 : Type := (List (Entry) × List (Entry) × Int × Int × Unit)
@[reducible] def T'52 : Type := (Unit × List (Image) × Int × Int × Unit)
@[reducible] def T'53 : Type := (List (Duty) × List (Duty) × Int × Int × Unit)
@[reducible] def T'54 : Type := (Unit × Unit × List (Int) × Int × Int × Unit)
@[reducible] def T'55 : Type := (Unit × Unit × List (Entry) × Int × Int × Unit)
@[reducible] def T'56 : Type := ((List (Record) × Unit) × (Int × Unit) × Unit)
@[reducible] def T'57 : Type := ((List (Record) × Unit) × T'20 × Unit)
@[reducible] def T'58 : Type := (T'14 × (List (Record) × Unit) × Unit)
@[reducible] def T'59 : Type := ((List (Record) × Unit) × Unit)
@[reducible] def T'60 : Type := (Unit × List (Int) × Unit)
@[reducible] def T'61 : Type := (T'35 × (Int × Unit) × Unit)
@[reducible] def T'62 : Type := (Int × Unit × Unit × Unit × Unit × List (Record) × Int × Int × Unit)
@[reducible] def T'63 : Type := (T'0 × T'35 × T'35 × T'60 × Unit)
@[reducible] def T'64 : Type := (Int × Unit × Unit × Unit × Unit × Unit)
@[reducible] def T'65 : Type := (Unit × Unit × Unit × Unit × Int × Int × Unit)
@[reducible] def T'66 : Type := (Unit × Unit × Unit × List (Entry) × Int × Int × Unit)
@[reducible] def T'67 : Type := (T'0 × T'25 × T'25 × Unit)
@[reducible] def T'68 : Type := (List (Debounced) × List (Debounced) × Int × Int × Unit)
@[reducible] def T'69 : Type := (List (Belief) × Unit × List (Belief) × Int × Int × Unit)
@[reducible] def T'70 : Type := (List (NewCar) × List (NewCar) × Int × Int × Unit)
@[reducible] def T'71 : Type := (List (Loaded) × List (Loaded) × Int × Int × Unit)
@[reducible] def T'72 : Type := (List (Calls) × List (Calls) × Int × Int × Unit)
@[reducible] def T'73 : Type := (List (Int) × List (Int) × Int × Unit)
@[reducible] def T'74 : Type := (List (Calls) × List (Calls) × Int × Unit)
@[reducible] def T'75 : Type := (T'0 × T'2 × List (Outputs) × Unit)
@[reducible] def T'76 : Type := (T'0 × T'35 × T'14 × T'32 × Int × Unit)
noncomputable def nds' (p0 p1 i p2 p3 p4 p5 : Int) (p6 p7 p8 : Nat) (p9 : List (Car)) (p10 p11 p12 p13 : Int) (p14 p15 p16 : Nat) (p17 : List (Car)) : Option (Sum (T'1 × (T'0 × T'0 × Unit)) ((Unit × Unit × Unit) × (T'0 × T'0 × Unit))) :=
 bif (decide (i < p1)) then
 bif (p0 != (0 : Int)) then
 let z0 : List (Car) := [(Car.mk (100 : Int) (2 : Int) (6 : Int) (5 : Int) (4 : Int) (2 : Int) (3 : Int) (10 : Int) (Int.tmod i p0))]
 bif (Nat.ble ((List.length p17) + (List.length z0)) 2147483648) then
 some (Sum.inl ((p0, p1, (), (), (IntKind.i64.wrap (i + (1 : Int))), ()), ((p2, p3, p4, p5, p6, p7, p8, p9, ()), (p10, p11, p12, p13, p14, p15, p16, (p17 ++ z0), ()), ())))
 else
 none
 else
 none
 else
 some (Sum.inr (((), (), ()), ((p2, p3, p4, p5, p6, p7, p8, p9, ()), (p10, p11, p12, p13, p14, p15, p16, p17, ()), ())))
noncomputable def nex' : (T'1 × (T'0 × T'0 × Unit)) → Option ((Unit × Unit × Unit) × (T'0 × T'0 × Unit)) := iter (fun x => nds' x.1.1 x.1.2.1 x.1.2.2.2.2.1 x.2.1.1 x.2.1.2.1 x.2.1.2.2.1 x.2.1.2.2.2.1 x.2.1.2.2.2.2.1 x.2.1.2.2.2.2.2.1 x.2.1.2.2.2.2.2.2.1 x.2.1.2.2.2.2.2.2.2.1 x.2.2.1.1 x.2.2.1.2.1 x.2.2.1.2.2.1 x.2.2.1.2.2.2.1 x.2.2.1.2.2.2.2.1 x.2.2.1.2.2.2.2.2.1 x.2.2.1.2.2.2.2.2.2.1 x.2.2.1.2.2.2.2.2.2.2.1) fuel
noncomputable def nh8' (p0 p1 : Int) : Option ((Unit × Unit) × (T'0 × Unit)) :=
 (nex' ((p0, p1, (), (), (0 : Int), ()), (((0 : Int), (0 : Int), (0 : Int), (0 : Int), 0, 0, 0, ([] : List (Car)), ()), (p0, (1 : Int), (4000 : Int), (30 : Int), 4591870180066957722, 4605380978949069210, 4607632778762754458, ([] : List (Car)), ()), ()))).bind fun y1 =>
 some (((), ()), (y1.2.2.1, ()))
noncomputable def nbb' (n p0 : Int) : Option ((Unit × Unit) × (T'0 × Unit)) :=
 (nh8' (IntKind.i64.wrap ((2 : Int) + (IntKind.i64.wrap (Int.tmod n (7 : Int))))) (IntKind.i64.wrap ((1 : Int) + (IntKind.i64.wrap (Int.tmod (IntKind.u8.wrap (Int.tdiv n (7 : Int))) (3 : Int)))))).bind fun y1 =>
 some (((), ()), ((y1.2.1.1, y1.2.1.2.1, (IntKind.i64.wrap ((IntKind.i64.wrap ((IntKind.i64.wrap ((18 : Int) * ((List.length y1.2.1.2.2.2.2.2.2.2.1 : Nat) : Int))) + (24 : Int))) + (IntKind.i64.wrap p0))), y1.2.1.2.2.2.1, y1.2.1.2.2.2.2.1, y1.2.1.2.2.2.2.2.1, y1.2.1.2.2.2.2.2.2.1, y1.2.1.2.2.2.2.2.2.2.1, ()), ()))
noncomputable def nfr' (p0 p1 p2 p3 : Int) (p4 p5 p6 : Nat) (p7 : List (Car)) : Option ((Unit × Unit) × (T'2 × Unit)) :=
 let z0 : Int := ((List.length p7 : Nat) : Int)
 bif (((decide ((0 : Int) ≤ z0)) && (decide (z0 ≤ z0))) && (decide (z0 ≤ (2147483648 : Int)))) then
 some (((), ()), (((0 : Int), (0 : Int), (0 : Int), (0 : Int), false, false, (0 : Int), (List.replicate (Int.toNat z0) (CarOutput.mk (0 : Int) (0 : Int) false (0 : Int) (0 : Int) false (0 : Int) (0 : Int) false)), ()), ()))
 else
 none
noncomputable def nih' (p0 p1 p2 p3 : Int) : Option ((Unit × Unit) × T'3) :=
 some (((), ()), (((IntKind.u32.wrap (stk p0 p2 (BitVec.toNat ((BitVec.ofInt (IntKind.bits IntKind.u32) p0) &&& (BitVec.ofInt (IntKind.bits IntKind.u32) p2))))), (IntKind.u32.wrap (stk p1 p3 (BitVec.toNat ((BitVec.ofInt (IntKind.bits IntKind.u32) p1) &&& (BitVec.ofInt (IntKind.bits IntKind.u32) p3))))), ()), ()))
noncomputable def nnq' (p0 p1 p2 p3 : Int) : Option ((Unit × Unit) × T'3) :=
 some (((), ()), (((IntKind.u32.wrap (stk p0 p2 (BitVec.toNat ((BitVec.ofInt (IntKind.bits IntKind.u32) p0) ||| (BitVec.ofInt (IntKind.bits IntKind.u32) p2))))), (IntKind.u32.wrap (stk p1 p3 (BitVec.toNat ((BitVec.ofInt (IntKind.bits IntKind.u32) p1) ||| (BitVec.ofInt (IntKind.bits IntKind.u32) p3))))), ()), ()))
noncomputable def noj' (p0 : Bool) (s8 : List (CarOutput)) (s9 s10 p1 p2 p3 p4 : Int) : Option (Sum (T'4 × T'5) (T'6 × T'5)) :=
 bif (decide (s10 < s9)) then
 bif (inB s10 (List.length s8)) then
 let z0 : CarOutput := (List.getD s8 (Int.toNat s10) (CarOutput.mk (0 : Int) (0 : Int) false (0 : Int) (0 : Int) false (0 : Int) (0 : Int) false))
 Option.bind (bif p0 then
 some (((), (), true, (), s8, s9, s10, ()), ((p1, p2, ()), (p3, p4, ()), (z0.Coils_Inject_Up, z0.Coils_Inject_Down, z0.Coils_CutOut, z0.Lantern_Up, z0.Lantern_Down, z0.Gong, z0.Command, z0.Phase, z0.Flag, ()), ()))
 else
 (nih' p3 p4 z0.Lantern_Up z0.Lantern_Down).bind fun y1 =>
 some (((), (), (!((y1.2.1.1 == (0 : Int)) && ((y1.2.1.2.1 == (0 : Int)) && true))), (), s8, s9, s10, ()), ((p1, p2, ()), (p3, p4, ()), (z0.Coils_Inject_Up, z0.Coils_Inject_Down, z0.Coils_CutOut, z0.Lantern_Up, z0.Lantern_Down, z0.Gong, z0.Command, z0.Phase, z0.Flag, ()), ()))) fun y2 =>
 (nnq' y2.2.2.1.1 y2.2.2.1.2.1 y2.2.2.2.1.2.2.2.1 y2.2.2.2.1.2.2.2.2.1).bind fun y3 =>
 some (Sum.inl (((), (), y2.1.2.2.1, y2.1.2.2.2.2.1, y2.1.2.2.2.2.2.1, (IntKind.i64.wrap (y2.1.2.2.2.2.2.2.1 + (1 : Int))), ()), (y2.2.1, y3.2.1, ())))
 else
 none
 else
 some (Sum.inr (((), (), p0, ()), ((p1, p2, ()), (p3, p4, ()), ())))
noncomputable def ngk' : (T'4 × T'5) → Option (T'6 × T'5) := iter (fun x => noj' x.1.2.2.1 x.1.2.2.2.1 x.1.2.2.2.2.1 x.1.2.2.2.2.2.1 x.2.1.1 x.2.1.2.1 x.2.2.1.1 x.2.2.1.2.1) fuel
noncomputable def nlb' (l : List (CarOutput)) : Option ((Unit × Bool × Unit) × T'3) :=
 (ngk' (((), (), false, l, ((List.length l : Nat) : Int), (0 : Int), ()), (((0 : Int), (0 : Int), ()), ((0 : Int), (0 : Int), ()), ()))).bind fun y1 =>
 some (((), y1.1.2.2.1, ()), (y1.2.2.1, ()))
noncomputable def nfk' (p0 p1 p2 p3 : Int) : Option ((Unit × Unit) × T'3) :=
 some (((), ()), (((IntKind.u32.wrap (stk p0 p2 (BitVec.toNat ((BitVec.ofInt (IntKind.bits IntKind.u32) p0) &&& (~~~ (BitVec.ofInt (IntKind.bits IntKind.u32) p2)))))), (IntKind.u32.wrap (stk p1 p3 (BitVec.toNat ((BitVec.ofInt (IntKind.bits IntKind.u32) p1) &&& (~~~ (BitVec.ofInt (IntKind.bits IntKind.u32) p3)))))), ()), ()))
noncomputable def nm0' (p0 : Int) : Option ((Bool × Unit) × Unit) :=
 Option.bind (bif (p0 == (0 : Int)) then
 some ((true, ()), ())
 else
 some (((p0 == (1 : Int)), ()), ())) fun y1 =>
 some ((y1.1.1, ()), ())
noncomputable def nnz' (p0 p1 p2 : Int) (p3 : Bool) : Option ((Bool × Unit) × Unit) :=
 Option.bind (bif ((p1 == (0 : Int)) && ((p2 == (0 : Int)) && true)) then
 some ((true, ()), ())
 else
 bif (!p3) then
 (nm0' p0).bind fun y1 =>
 some ((y1.1.1, ()), ())
 else
 some ((false, ()), ())) fun y2 =>
 some ((y2.1.1, ()), ())
noncomputable def nqx' (s5 : List (CarOutput)) (s6 s7 : Int) : Option (Sum (T'7 × Unit) ((Unit × Unit) ⊕ ((Bool × Unit) × Unit))) :=
 bif (decide (s7 < s6)) then
 bif (inB s7 (List.length s5)) then
 let z0 : CarOutput := (List.getD s5 (Int.toNat s7) (CarOutput.mk (0 : Int) (0 : Int) false (0 : Int) (0 : Int) false (0 : Int) (0 : Int) false))
 (nnz' z0.Phase z0.Coils_Inject_Up z0.Coils_Inject_Down z0.Coils_CutOut).bind fun y1 =>
 bif (!y1.1.1) then
 some (Sum.inr (Sum.inr ((false, ()), ())))
 else
 some (Sum.inl ((s5, s6, (IntKind.i64.wrap (s7 + (1 : Int))), ()), ()))
 else
 none
 else
 some (Sum.inr (Sum.inl ((), ())))
noncomputable def ni3' : (T'7 × Unit) → Option ((Unit × Unit) ⊕ ((Bool × Unit) × Unit)) := iter (fun x => nqx' x.1.1 x.1.2.1 x.1.2.2.1) fuel
noncomputable def nnu' (l : List (CarOutput)) : Option ((Bool × Unit) × Unit) :=
 (ni3' ((l, ((List.length l : Nat) : Int), (0 : Int), ()), ())).bind fun y1 =>
 (match y1 with
 | .inl y2 =>
 some ((true, ()), ())
 | .inr y2 =>
 some ((y2.1.1, ()), ()))
noncomputable def nkx' (p0 p1 : Int) : Option ((Bool × Unit) × Unit) :=
 Option.bind (bif (p1 == (0 : Int)) then
 some ((true, ()), ())
 else
 bif (p0 == (3 : Int)) then
 some ((true, ()), ())
 else
 some (((p0 == (4 : Int)), ()), ())) fun y1 =>
 some ((y1.1.1, ()), ())
noncomputable def no8' (s5 : List (CarOutput)) (s6 s7 : Int) : Option (Sum (T'7 × Unit) ((Unit × Unit) ⊕ ((Bool × Unit) × Unit))) :=
 bif (decide (s7 < s6)) then
 bif (inB s7 (List.length s5)) then
 let z0 : CarOutput := (List.getD s5 (Int.toNat s7) (CarOutput.mk (0 : Int) (0 : Int) false (0 : Int) (0 : Int) false (0 : Int) (0 : Int) false))
 (nkx' z0.Phase z0.Command).bind fun y1 =>
 bif (!y1.1.1) then
 some (Sum.inr (Sum.inr ((false, ()), ())))
 else
 some (Sum.inl ((s5, s6, (IntKind.i64.wrap (s7 + (1 : Int))), ()), ()))
 else
 none
 else
 some (Sum.inr (Sum.inl ((), ())))
noncomputable def nge' : (T'7 × Unit) → Option ((Unit × Unit) ⊕ ((Bool × Unit) × Unit)) := iter (fun x => no8' x.1.1 x.1.2.1 x.1.2.2.1) fuel
noncomputable def nle' (l : List (CarOutput)) : Option ((Bool × Unit) × Unit) :=
 (nge' ((l, ((List.length l : Nat) : Int), (0 : Int), ()), ())).bind fun y1 =>
 (match y1 with
 | .inl y2 =>
 some ((true, ()), ())
 | .inr y2 =>
 some ((y2.1.1, ()), ()))
noncomputable def not' (p0 to : Int) : Option ((Bool × Unit) × Unit) :=
 twoF edgeB p0 to
noncomputable def nqw' (p0 s7 : List (CarOutput)) (s8 s9 : Int) : Option (Sum (T'8 × Unit) ((Unit × Unit) ⊕ ((Bool × Unit) × Unit))) :=
 bif (decide (s9 < s8)) then
 bif (inB s9 (List.length s7)) then
 let z0 : CarOutput := (List.getD s7 (Int.toNat s9) (CarOutput.mk (0 : Int) (0 : Int) false (0 : Int) (0 : Int) false (0 : Int) (0 : Int) false))
 Option.bind (bif (inB s9 (List.length p0)) then
 bif (z0.Phase != (List.getD p0 (Int.toNat s9) (CarOutput.mk (0 : Int) (0 : Int) false (0 : Int) (0 : Int) false (0 : Int) (0 : Int) false)).Phase) then
 bif (inB s9 (List.length p0)) then
 (not' (List.getD p0 (Int.toNat s9) (CarOutput.mk (0 : Int) (0 : Int) false (0 : Int) (0 : Int) false (0 : Int) (0 : Int) false)).Phase z0.Phase).bind fun y1 =>
 some ((p0, s7, s8, s9, (!y1.1.1), ()), ())
 else
 none
 else
 some ((p0, s7, s8, s9, false, ()), ())
 else
 none) fun y2 =>
 bif y2.1.2.2.2.2.1 then
 some (Sum.inr (Sum.inr ((false, ()), ())))
 else
 some (Sum.inl ((y2.1.1, y2.1.2.1, y2.1.2.2.1, (IntKind.i64.wrap (y2.1.2.2.2.1 + (1 : Int))), ()), ()))
 else
 none
 else
 some (Sum.inr (Sum.inl ((), ())))
noncomputable def nin' : (T'8 × Unit) → Option ((Unit × Unit) ⊕ ((Bool × Unit) × Unit)) := iter (fun x => nqw' x.1.1 x.1.2.1 x.1.2.2.1 x.1.2.2.2.1) fuel
noncomputable def nnr' (p0 l : List (CarOutput)) : Option ((Bool × Unit) × Unit) :=
 (nin' ((p0, l, ((List.length l : Nat) : Int), (0 : Int), ()), ())).bind fun y1 =>
 (match y1 with
 | .inl y2 =>
 some ((true, ()), ())
 | .inr y2 =>
 some ((y2.1.1, ()), ()))
noncomputable def nd5' (p0 p1 : Int) : Option ((Bool × Unit) × Unit) :=
 some ((((p0 == (0 : Int)) && ((p1 == (0 : Int)) && true)), ()), ())
noncomputable def npm' (n : Int) (s6 : List (CarOutput)) (s7 s8 : Int) : Option (Sum (T'9 × Unit) ((Int × Unit) × Unit)) :=
 bif (decide (s8 < s7)) then
 bif (inB s8 (List.length s6)) then
 let z0 : CarOutput := (List.getD s6 (Int.toNat s8) (CarOutput.mk (0 : Int) (0 : Int) false (0 : Int) (0 : Int) false (0 : Int) (0 : Int) false))
 Option.bind (bif (z0.Phase == (1 : Int)) then
 some ((n, s6, s7, s8, true, ()), ())
 else
 bif (z0.Phase == (2 : Int)) then
 some ((n, s6, s7, s8, true, ()), ())
 else
 some ((n, s6, s7, s8, (z0.Phase == (3 : Int)), ()), ())) fun y1 =>
 bif y1.1.2.2.2.2.1 then
 some (Sum.inl (((IntKind.i64.wrap (y1.1.1 + (1 : Int))), y1.1.2.1, y1.1.2.2.1, (IntKind.i64.wrap (y1.1.2.2.2.1 + (1 : Int))), ()), ()))
 else
 some (Sum.inl ((y1.1.1, y1.1.2.1, y1.1.2.2.1, (IntKind.i64.wrap (y1.1.2.2.2.1 + (1 : Int))), ()), ()))
 else
 none
 else
 some (Sum.inr ((n, ()), ()))
noncomputable def ngw' : (T'9 × Unit) → Option ((Int × Unit) × Unit) := iter (fun x => npm' x.1.1 x.1.2.1 x.1.2.2.1 x.1.2.2.2.1) fuel
noncomputable def nl1' (l : List (CarOutput)) : Option ((Int × Unit) × Unit) :=
 (ngw' (((0 : Int), l, ((List.length l : Nat) : Int), (0 : Int), ()), ())).bind fun y1 =>
 some ((y1.1.1, ()), ())
noncomputable def ndd' (p0 p1 p2 p3 : Int) (p4 p5 p6 : Nat) (p7 : List (Car)) (p8 p9 p10 p11 : Int) (p12 p13 : Bool) (p14 : Int) (p15 : List (CarOutput)) (p16 p17 p18 p19 : Int) (p20 p21 : Bool) (p22 : Int) (p23 : List (CarOutput)) : Option ((Int × Unit) × Unit) :=
 let z0 : Int := ((List.length p15 : Nat) : Int)
 let z1 : Int := ((List.length p23 : Nat) : Int)
 let z2 : Int := (bif (decide (z1 < z0)) then z1 else z0)
 bif ((decide ((0 : Int) ≤ z2)) && (decide (z2 ≤ (((List.length p23) : Nat) : Int)))) then
 let z3 : List (CarOutput) := (List.drop 0 (List.take (Int.toNat z2) p23))
 (nlb' z3).bind fun y1 =>
 (nfk' p8 p9 p16 p17).bind fun y2 =>
 bif y1.1.2.1 then
 some (((1 : Int), ()), ())
 else
 (nnu' z3).bind fun y3 =>
 bif (!y3.1.1) then
 some (((2 : Int), ()), ())
 else
 (nle' z3).bind fun y4 =>
 bif (!y4.1.1) then
 some (((3 : Int), ()), ())
 else
 (nnr' p15 z3).bind fun y5 =>
 bif (!y5.1.1) then
 some (((4 : Int), ()), ())
 else
 bif (((List.length p15 : Nat) : Int) != z2) then
 some (((4 : Int), ()), ())
 else
 bif (((List.length p23 : Nat) : Int) != z2) then
 some (((4 : Int), ()), ())
 else
 bif (((List.length p7 : Nat) : Int) != z2) then
 some (((4 : Int), ()), ())
 else
 (nfk' p18 p19 p8 p9).bind fun y6 =>
 (nd5' y6.2.1.1 y6.2.1.2.1).bind fun y7 =>
 bif (!y7.1.1) then
 some (((6 : Int), ()), ())
 else
 (nfk' p18 p19 y1.2.1.1 y1.2.1.2.1).bind fun y8 =>
 (nd5' y8.2.1.1 y8.2.1.2.1).bind fun y9 =>
 bif (!y9.1.1) then
 some (((6 : Int), ()), ())
 else
 (nfk' y2.2.1.1 y2.2.1.2.1 p18 p19).bind fun y10 =>
 (nd5' y10.2.1.1 y10.2.1.2.1).bind fun y11 =>
 bif (!y11.1.1) then
 some (((5 : Int), ()), ())
 else
 (nih' p16 p17 p18 p19).bind fun y12 =>
 (nih' p8 p9 y12.2.1.1 y12.2.1.2.1).bind fun y13 =>
 (nd5' y13.2.1.1 y13.2.1.2.1).bind fun y14 =>
 bif (!y14.1.1) then
 some (((5 : Int), ()), ())
 else
 Option.bind (bif p20 then
 bif (!((p16 == p8) && ((p17 == p9) && true))) then
 some (((), true, ()), ((p16, p17, p18, p19, p20, p21, p22, p23, ()), ()))
 else
 (nd5' p18 p19).bind fun y15 =>
 some (((), (!y15.1.1), ()), ((p16, p17, p18, p19, p20, p21, p22, p23, ()), ()))
 else
 some (((), false, ()), ((p16, p17, p18, p19, p20, p21, p22, p23, ()), ()))) fun y16 =>
 bif y16.1.2.1 then
 some (((7 : Int), ()), ())
 else
 (nl1' y16.2.1.2.2.2.2.2.2.2.1).bind fun y17 =>
 bif (decide ((1 : Int) < y17.1.1)) then
 some (((8 : Int), ()), ())
 else
 some (((0 : Int), ()), ())
 else
 none
noncomputable def nqu' (s11 : List (Outputs)) (s12 s13 p0 p1 p2 p3 : Int) (p4 p5 p6 : Nat) (p7 : List (Car)) (p8 p9 p10 p11 : Int) (p12 p13 : Bool) (p14 : Int) (p15 : List (CarOutput)) : Option (Sum (T'10 × (T'0 × T'2 × Unit)) ((Unit × Unit) ⊕ ((Int × Int × Unit) × Unit))) :=
 bif (decide (s13 < s12)) then
 bif (inB s13 (List.length s11)) then
 let z0 : Outputs := (List.getD s11 (Int.toNat s13) (Outputs.mk (0 : Int) (0 : Int) (0 : Int) (0 : Int) false false (0 : Int) []))
 (ndd' p0 p1 p2 p3 p4 p5 p6 p7 p8 p9 p10 p11 p12 p13 p14 p15 z0.Lamps_Up z0.Lamps_Down z0.Served_Up z0.Served_Down z0.Bad z0.Full z0.Status z0.Cars).bind fun y1 =>
 bif (y1.1.1 != (0 : Int)) then
 some (Sum.inr (Sum.inr ((s13, y1.1.1, ()), ())))
 else
 some (Sum.inl (((), (), s11, s12, (IntKind.i64.wrap (s13 + (1 : Int))), ()), ((p0, p1, p2, p3, p4, p5, p6, p7, ()), (z0.Lamps_Up, z0.Lamps_Down, z0.Served_Up, z0.Served_Down, z0.Bad, z0.Full, z0.Status, z0.Cars, ()), ())))
 else
 none
 else
 some (Sum.inr (Sum.inl ((), ())))
noncomputable def ni2' : (T'10 × (T'0 × T'2 × Unit)) → Option ((Unit × Unit) ⊕ ((Int × Int × Unit) × Unit)) := iter (fun x => nqu' x.1.2.2.1 x.1.2.2.2.1 x.1.2.2.2.2.1 x.2.1.1 x.2.1.2.1 x.2.1.2.2.1 x.2.1.2.2.2.1 x.2.1.2.2.2.2.1 x.2.1.2.2.2.2.2.1 x.2.1.2.2.2.2.2.2.1 x.2.1.2.2.2.2.2.2.2.1 x.2.2.1.1 x.2.2.1.2.1 x.2.2.1.2.2.1 x.2.2.1.2.2.2.1 x.2.2.1.2.2.2.2.1 x.2.2.1.2.2.2.2.2.1 x.2.2.1.2.2.2.2.2.2.1 x.2.2.1.2.2.2.2.2.2.2.1) fuel
noncomputable def nkb' (p0 p1 p2 p3 : Int) (p4 p5 p6 : Nat) (p7 : List (Car)) (p8 p9 p10 p11 : Int) (p12 p13 : Bool) (p14 : Int) (p15 : List (CarOutput)) (l : List (Outputs)) : Option ((Int × Int × Unit) × Unit) :=
 (ni2' (((), (), l, ((List.length l : Nat) : Int), (0 : Int), ()), ((p0, p1, p2, p3, p4, p5, p6, p7, ()), (p8, p9, p10, p11, p12, p13, p14, p15, ()), ()))).bind fun y1 =>
 (match y1 with
 | .inl y2 =>
 some (((-1 : Int), (0 : Int), ()), ())
 | .inr y2 =>
 some ((y2.1.1, y2.1.2.1, ()), ()))
noncomputable def nc5'  : Option ((Bool × Unit) × Unit) :=
 (nbb' (9 : Int) (90 : Int)).bind fun y1 =>
 (nfr' y1.2.1.1 y1.2.1.2.1 y1.2.1.2.2.1 y1.2.1.2.2.2.1 y1.2.1.2.2.2.2.1 y1.2.1.2.2.2.2.2.1 y1.2.1.2.2.2.2.2.2.1 y1.2.1.2.2.2.2.2.2.2.1).bind fun y2 =>
 bif (((List.length y2.2.1.2.2.2.2.2.2.2.1 : Nat) : Int) != (2 : Int)) then
 some ((false, ()), ())
 else
 (nfr' y1.2.1.1 y1.2.1.2.1 y1.2.1.2.2.1 y1.2.1.2.2.2.1 y1.2.1.2.2.2.2.1 y1.2.1.2.2.2.2.2.1 y1.2.1.2.2.2.2.2.2.1 y1.2.1.2.2.2.2.2.2.2.1).bind fun y3 =>
 bif (inB (1 : Int) (List.length y3.2.1.2.2.2.2.2.2.2.1)) then
 let z0 : Nat := (Int.toNat (1 : Int))
 let z1 : CarOutput := (List.getD y3.2.1.2.2.2.2.2.2.2.1 z0 (CarOutput.mk (0 : Int) (0 : Int) false (0 : Int) (0 : Int) false (0 : Int) (0 : Int) false))
 (nfr' y1.2.1.1 y1.2.1.2.1 y1.2.1.2.2.1 y1.2.1.2.2.2.1 y1.2.1.2.2.2.2.1 y1.2.1.2.2.2.2.2.1 y1.2.1.2.2.2.2.2.2.1 y1.2.1.2.2.2.2.2.2.2.1).bind fun y4 =>
 bif (inB (0 : Int) (List.length y4.2.1.2.2.2.2.2.2.2.1)) then
 let z2 : Nat := (Int.toNat (0 : Int))
 let z3 : CarOutput := (List.getD y4.2.1.2.2.2.2.2.2.2.1 z2 (CarOutput.mk (0 : Int) (0 : Int) false (0 : Int) (0 : Int) false (0 : Int) (0 : Int) false))
 let z4 : List (CarOutput) := (List.set y4.2.1.2.2.2.2.2.2.2.1 z2 (CarOutput.mk z3.Coils_Inject_Up z3.Coils_Inject_Down z3.Coils_CutOut (1 : Int) (0 : Int) z3.Gong z3.Command z3.Phase z3.Flag))
 bif (inB (1 : Int) (List.length z4)) then
 let z5 : Nat := (Int.toNat (1 : Int))
 let z6 : CarOutput := (List.getD z4 z5 (CarOutput.mk (0 : Int) (0 : Int) false (0 : Int) (0 : Int) false (0 : Int) (0 : Int) false))
 Option.bind (some (((), (), (), (), ()), (y1.2.1, y2.2.1, (y3.2.1.1, y3.2.1.2.1, y3.2.1.2.2.1, y3.2.1.2.2.2.1, y3.2.1.2.2.2.2.1, y3.2.1.2.2.2.2.2.1, y3.2.1.2.2.2.2.2.2.1, (List.set y3.2.1.2.2.2.2.2.2.2.1 z0 (CarOutput.mk z1.Coils_Inject_Up z1.Coils_Inject_Down z1.Coils_CutOut z1.Lantern_Up z1.Lantern_Down z1.Gong z1.Command (4 : Int) z1.Flag)), ()), (y4.2.1.1, y4.2.1.2.1, y4.2.1.2.2.1, y4.2.1.2.2.2.1, y4.2.1.2.2.2.2.1, y4.2.1.2.2.2.2.2.1, y4.2.1.2.2.2.2.2.2.1, (List.set z4 z5 (CarOutput.mk z6.Coils_Inject_Up z6.Coils_Inject_Down z6.Coils_CutOut (3 : Int) (0 : Int) z6.Gong z6.Command z6.Phase z6.Flag)), ()), ()))) fun y5 =>
 (nkb' y5.2.1.1 y5.2.1.2.1 y5.2.1.2.2.1 y5.2.1.2.2.2.1 y5.2.1.2.2.2.2.1 y5.2.1.2.2.2.2.2.1 y5.2.1.2.2.2.2.2.2.1 y5.2.1.2.2.2.2.2.2.2.1 y5.2.2.1.1 y5.2.2.1.2.1 y5.2.2.1.2.2.1 y5.2.2.1.2.2.2.1 y5.2.2.1.2.2.2.2.1 y5.2.2.1.2.2.2.2.2.1 y5.2.2.1.2.2.2.2.2.2.1 y5.2.2.1.2.2.2.2.2.2.2.1 [(Outputs.mk y5.2.2.1.1 y5.2.2.1.2.1 y5.2.2.1.2.2.1 y5.2.2.1.2.2.2.1 y5.2.2.1.2.2.2.2.1 y5.2.2.1.2.2.2.2.2.1 y5.2.2.1.2.2.2.2.2.2.1 y5.2.2.1.2.2.2.2.2.2.2.1), (Outputs.mk y5.2.2.2.1.1 y5.2.2.2.1.2.1 y5.2.2.2.1.2.2.1 y5.2.2.2.1.2.2.2.1 y5.2.2.2.1.2.2.2.2.1 y5.2.2.2.1.2.2.2.2.2.1 y5.2.2.2.1.2.2.2.2.2.2.1 y5.2.2.2.1.2.2.2.2.2.2.2.1)]).bind fun y6 =>
 Option.bind ((ndd' y5.2.1.1 y5.2.1.2.1 y5.2.1.2.2.1 y5.2.1.2.2.2.1 y5.2.1.2.2.2.2.1 y5.2.1.2.2.2.2.2.1 y5.2.1.2.2.2.2.2.2.1 y5.2.1.2.2.2.2.2.2.2.1 y5.2.2.1.1 y5.2.2.1.2.1 y5.2.2.1.2.2.1 y5.2.2.1.2.2.2.1 y5.2.2.1.2.2.2.2.1 y5.2.2.1.2.2.2.2.2.1 y5.2.2.1.2.2.2.2.2.2.1 y5.2.2.1.2.2.2.2.2.2.2.1 y5.2.2.2.1.1 y5.2.2.2.1.2.1 y5.2.2.2.1.2.2.1 y5.2.2.2.1.2.2.2.1 y5.2.2.2.1.2.2.2.2.1 y5.2.2.2.1.2.2.2.2.2.1 y5.2.2.2.1.2.2.2.2.2.2.1 y5.2.2.2.1.2.2.2.2.2.2.2.1).bind fun y7 =>
 bif (y7.1.1 == (4 : Int)) then
 (ndd' y5.2.1.1 y5.2.1.2.1 y5.2.1.2.2.1 y5.2.1.2.2.2.1 y5.2.1.2.2.2.2.1 y5.2.1.2.2.2.2.2.1 y5.2.1.2.2.2.2.2.2.1 y5.2.1.2.2.2.2.2.2.2.1 y5.2.2.1.1 y5.2.2.1.2.1 y5.2.2.1.2.2.1 y5.2.2.1.2.2.2.1 y5.2.2.1.2.2.2.2.1 y5.2.2.1.2.2.2.2.2.1 y5.2.2.1.2.2.2.2.2.2.1 y5.2.2.1.2.2.2.2.2.2.2.1 y5.2.2.2.2.1.1 y5.2.2.2.2.1.2.1 y5.2.2.2.2.1.2.2.1 y5.2.2.2.2.1.2.2.2.1 y5.2.2.2.2.1.2.2.2.2.1 y5.2.2.2.2.1.2.2.2.2.2.1 y5.2.2.2.2.1.2.2.2.2.2.2.1 y5.2.2.2.2.1.2.2.2.2.2.2.2.1).bind fun y8 =>
 bif (y8.1.1 == (1 : Int)) then
 bif (y6.1.1 == (1 : Int)) then
 bif (y6.1.2.1 == (4 : Int)) then
 (ndd' y5.2.1.1 y5.2.1.2.1 y5.2.1.2.2.1 y5.2.1.2.2.2.1 y5.2.1.2.2.2.2.1 y5.2.1.2.2.2.2.2.1 y5.2.1.2.2.2.2.2.2.1 y5.2.1.2.2.2.2.2.2.2.1 y5.2.2.1.1 y5.2.2.1.2.1 y5.2.2.1.2.2.1 y5.2.2.1.2.2.2.1 y5.2.2.1.2.2.2.2.1 y5.2.2.1.2.2.2.2.2.1 y5.2.2.1.2.2.2.2.2.2.1 y5.2.2.1.2.2.2.2.2.2.2.1 y5.2.2.1.1 y5.2.2.1.2.1 y5.2.2.1.2.2.1 y5.2.2.1.2.2.2.1 y5.2.2.1.2.2.2.2.1 y5.2.2.1.2.2.2.2.2.1 y5.2.2.1.2.2.2.2.2.2.1 y5.2.2.1.2.2.2.2.2.2.2.1).bind fun y9 =>
 some (((y9.1.1 == (0 : Int)), ()), ())
 else
 some ((false, ()), ())
 else
 some ((false, ()), ())
 else
 some ((false, ()), ())
 else
 some ((false, ()), ())) fun y10 =>
 some ((y10.1.1, ()), ())
 else
 none
 else
 none
 else
 none
noncomputable def ncx' (n lo hi : Int) : Option ((Bool × Unit) × Unit) :=
 Option.bind (bif (decide (lo ≤ n)) then
 some (((decide (n ≤ hi)), ()), ())
 else
 some ((false, ()), ())) fun y1 =>
 some ((y1.1.1, ()), ())
noncomputable def ncr' (l : List (Int)) (i p0 p1 p2 p3 : Int) (p4 p5 p6 : Nat) (p7 : List (Car)) (p8 p9 p10 p11 p12 p13 p14 p15 p16 : Int) : Option (Sum (T'11 × (T'0 × T'12 × Unit)) (((Unit × Unit × Unit) × (T'0 × T'12 × Unit)) ⊕ ((Bool × Unit) × Unit))) :=
 bif (decide (i < (7 : Int))) then
 bif (inB i (List.length l)) then
 (ncx' (List.getD l (Int.toNat i) (0 : Int)) (1 : Int) (10000 : Int)).bind fun y1 =>
 bif (!y1.1.1) then
 some (Sum.inr (Sum.inr ((false, ()), ())))
 else
 some (Sum.inl (((), (), l, (IntKind.i64.wrap (i + (1 : Int))), ()), ((p0, p1, p2, p3, p4, p5, p6, p7, ()), (p8, p9, p10, p11, p12, p13, p14, p15, p16, ()), ())))
 else
 none
 else
 some (Sum.inr (Sum.inl (((), (), ()), ((p0, p1, p2, p3, p4, p5, p6, p7, ()), (p8, p9, p10, p11, p12, p13, p14, p15, p16, ()), ()))))
noncomputable def nhh' : (T'11 × (T'0 × T'12 × Unit)) → Option (((Unit × Unit × Unit) × (T'0 × T'12 × Unit)) ⊕ ((Bool × Unit) × Unit)) := iter (fun x => ncr' x.1.2.2.1 x.1.2.2.2.1 x.2.1.1 x.2.1.2.1 x.2.1.2.2.1 x.2.1.2.2.2.1 x.2.1.2.2.2.2.1 x.2.1.2.2.2.2.2.1 x.2.1.2.2.2.2.2.2.1 x.2.1.2.2.2.2.2.2.2.1 x.2.2.1.1 x.2.2.1.2.1 x.2.2.1.2.2.1 x.2.2.1.2.2.2.1 x.2.2.1.2.2.2.2.1 x.2.2.1.2.2.2.2.2.1 x.2.2.1.2.2.2.2.2.2.1 x.2.2.1.2.2.2.2.2.2.2.1 x.2.2.1.2.2.2.2.2.2.2.2.1) fuel
noncomputable def nji' (p0 p1 p2 p3 : Int) (p4 p5 p6 : Nat) (p7 : List (Car)) (p8 p9 p10 p11 p12 p13 p14 p15 p16 : Int) : Option ((Bool × Unit) × Unit) :=
 bif (decide (p11 < (0 : Int))) then
 some ((false, ()), ())
 else
 bif (decide ((10000 : Int) < p11)) then
 some ((false, ()), ())
 else
 (nhh' (((), (), [p8, p9, p10, p12, p13, p14, p15, (IntKind.i64.wrap (p11 + (1 : Int)))], (0 : Int), ()), ((p0, p1, p2, p3, p4, p5, p6, p7, ()), (p8, p9, p10, p11, p12, p13, p14, p15, p16, ()), ()))).bind fun y1 =>
 (match y1 with
 | .inl y2 =>
 Option.bind (bif (decide (y2.2.2.1.2.2.2.2.2.2.1 ≤ y2.2.2.1.2.2.2.2.2.2.2.1)) then
 (ncx' y2.2.2.1.2.2.2.2.2.2.2.2.1 (0 : Int) (IntKind.i64.wrap (y2.2.1.1 - (1 : Int)))).bind fun y3 =>
 some ((y3.1.1, ()), ())
 else
 some ((false, ()), ())) fun y4 =>
 some ((y4.1.1, ()), ())
 | .inr y2 =>
 some ((y2.1.1, ()), ()))
noncomputable def nd1' (ok : Bool) (i p0 p1 p2 p3 : Int) (p4 p5 p6 : Nat) (p7 : List (Car)) : Option (Sum (T'13 × (T'0 × Unit)) ((Unit × Bool × Unit) × (T'0 × Unit))) :=
 bif (decide (i < ((List.length p7 : Nat) : Int))) then
 Option.bind (bif ok then
 bif (inB i (List.length p7)) then
 let z0 : Car := (List.getD p7 (Int.toNat i) (Car.mk (0 : Int) (0 : Int) (0 : Int) (0 : Int) (0 : Int) (0 : Int) (0 : Int) (0 : Int) (0 : Int)))
 (nji' p0 p1 p2 p3 p4 p5 p6 p7 z0.Deadline z0.Pulse z0.Quiet z0.Slack z0.Step z0.Travel z0.Dwell z0.Hold z0.Home).bind fun y1 =>
 some (((), y1.1.1, i, ()), ((p0, p1, p2, p3, p4, p5, p6, p7, ()), ()))
 else
 none
 else
 some (((), false, i, ()), ((p0, p1, p2, p3, p4, p5, p6, p7, ()), ()))) fun y2 =>
 some (Sum.inl (((), y2.1.2.1, (IntKind.i64.wrap (y2.1.2.2.1 + (1 : Int))), ()), (y2.2.1, ())))
 else
 some (Sum.inr (((), ok, ()), ((p0, p1, p2, p3, p4, p5, p6, p7, ()), ())))
noncomputable def ng8' : (T'13 × (T'0 × Unit)) → Option ((Unit × Bool × Unit) × (T'0 × Unit)) := iter (fun x => nd1' x.1.2.1 x.1.2.2.1 x.2.1.1 x.2.1.2.1 x.2.1.2.2.1 x.2.1.2.2.2.1 x.2.1.2.2.2.2.1 x.2.1.2.2.2.2.2.1 x.2.1.2.2.2.2.2.2.1 x.2.1.2.2.2.2.2.2.2.1) fuel
noncomputable def nc4' (p0 p1 p2 p3 : Int) (p4 p5 p6 : Nat) (p7 : List (Car)) : Option ((Int × Unit) × Unit) :=
 (ncx' p0 (2 : Int) (32 : Int)).bind fun y1 =>
 bif (!y1.1.1) then
 some (((10 : Int), ()), ())
 else
 (ncx' ((List.length p7 : Nat) : Int) (1 : Int) (8 : Int)).bind fun y2 =>
 bif (!y2.1.1) then
 some (((11 : Int), ()), ())
 else
 Option.bind ((ncx' p1 (1 : Int) (16 : Int)).bind fun y3 =>
 bif y3.1.1 then
 (ncx' p3 (1 : Int) (10000 : Int)).bind fun y4 =>
 some (((), y4.1.1, ()), ((p0, p1, p2, p3, p4, p5, p6, p7, ()), ()))
 else
 some (((), false, ()), ((p0, p1, p2, p3, p4, p5, p6, p7, ()), ()))) fun y5 =>
 (ng8' (((), y5.1.2.1, (0 : Int), ()), (y5.2.1, ()))).bind fun y6 =>
 bif (!y6.1.2.1) then
 some (((12 : Int), ()), ())
 else
 bif (((FloatKind.format FloatKind.f64).order 0 y6.2.1.2.2.2.2.1) == some Ordering.lt) then
 bif (((FloatKind.format FloatKind.f64).order y6.2.1.2.2.2.2.1 y6.2.1.2.2.2.2.2.1) == some Ordering.lt) then
 bif (((FloatKind.format FloatKind.f64).order y6.2.1.2.2.2.2.2.1 y6.2.1.2.2.2.2.2.2.1) == some Ordering.lt) then
 bif (!(((FloatKind.format FloatKind.f64).order y6.2.1.2.2.2.2.2.2.1 9218868437227405311) == some Ordering.lt || ((FloatKind.format FloatKind.f64).order y6.2.1.2.2.2.2.2.2.1 9218868437227405311) == some Ordering.eq)) then
 some (((13 : Int), ()), ())
 else
 (ncx' y6.2.1.2.2.1 (IntKind.i64.wrap ((IntKind.i64.wrap ((18 : Int) * ((List.length y6.2.1.2.2.2.2.2.2.2.1 : Nat) : Int))) + (24 : Int))) (65536 : Int)).bind fun y7 =>
 bif (!y7.1.1) then
 some (((14 : Int), ()), ())
 else
 some (((0 : Int), ()), ())
 else
 some (((13 : Int), ()), ())
 else
 some (((13 : Int), ()), ())
 else
 some (((13 : Int), ()), ())
noncomputable def nfp' (p0 p1 p2 p3 : Int) (p4 p5 p6 : Nat) (p7 : List (Car)) : Option ((Unit × Unit) × (T'14 × Unit)) :=
 (nc4' p0 p1 p2 p3 p4 p5 p6 p7).bind fun y1 =>
 bif (y1.1.1 != (0 : Int)) then
 some (((), ()), ((([] : List (Int)), ([] : List (Bool)), ([] : List (Bool)), ([] : List (Entry)), ()), ()))
 else
 let z0 : Int := ((List.length p7 : Nat) : Int)
 bif (((decide ((0 : Int) ≤ z0)) && (decide (z0 ≤ z0))) && (decide (z0 ≤ (2147483648 : Int)))) then
 bif (((decide ((0 : Int) ≤ z0)) && (decide (z0 ≤ z0))) && (decide (z0 ≤ (2147483648 : Int)))) then
 bif (((decide ((0 : Int) ≤ z0)) && (decide (z0 ≤ z0))) && (decide (z0 ≤ (2147483648 : Int)))) then
 some (((), ()), (((List.replicate (Int.toNat z0) (0 : Int)), (List.replicate (Int.toNat z0) false), (List.replicate (Int.toNat z0) false), ([] : List (Entry)), ()), ()))
 else
 none
 else
 none
 else
 none
noncomputable def ncn' (l : List (Int)) (p0 : Int) (out : List (Record)) (f c i : Int) : Option (Sum (T'15 × Unit) ((List (Record) × Unit) × Unit)) :=
 bif (decide ((IntKind.i64.wrap (i + (1 : Int))) < ((List.length l : Nat) : Int))) then
 bif (decide (((List.length out : Nat) : Int) < p0)) then
 bif (inB i (List.length l)) then
 let z0 : Int := (IntKind.i64.wrap (List.getD l (Int.toNat i) (0 : Int)))
 let z1 : Int := (IntKind.i64.wrap (i + (1 : Int)))
 bif (inB z1 (List.length l)) then
 let z2 : Int := (IntKind.i64.wrap (List.getD l (Int.toNat z1) (0 : Int)))
 let z3 : Int := (IntKind.i64.wrap ((1 : Int) + (Int.tmod z0 (7 : Int))))
 Option.bind (bif (z3 == (4 : Int)) then
 bif (c != (0 : Int)) then
 some ((l, p0, out, f, c, i, z0, (), ()), ((z3, (0 : Int), (0 : Int), (Int.tmod (IntKind.i64.wrap (Int.tdiv z0 (7 : Int))) c), (Int.tmod z2 (5 : Int)), ()), ()))
 else
 none
 else
 bif (z3 == (5 : Int)) then
 bif (c != (0 : Int)) then
 some ((l, p0, out, f, c, i, z0, (), ()), ((z3, (0 : Int), (0 : Int), (Int.tmod (IntKind.i64.wrap (Int.tdiv z0 (7 : Int))) c), (Int.tmod z2 (2 : Int)), ()), ()))
 else
 none
 else
 bif (z3 == (6 : Int)) then
 bif (c != (0 : Int)) then
 some ((l, p0, out, f, c, i, z0, (), ()), ((z3, (0 : Int), (0 : Int), (Int.tmod (IntKind.i64.wrap (Int.tdiv z0 (7 : Int))) c), (Int.tmod z2 (2 : Int)), ()), ()))
 else
 none
 else
 let z4 : Int := (IntKind.i64.wrap ((1 : Int) + (Int.tmod z2 (2 : Int))))
 let z5 : Int := (IntKind.i64.wrap (f - (1 : Int)))
 bif (z5 != (0 : Int)) then
 let z6 : Int := (Int.tmod (IntKind.i64.wrap (Int.tdiv z2 (2 : Int))) z5)
 bif (z4 == (2 : Int)) then
 some ((l, p0, out, f, c, i, z0, (), ()), ((z3, (IntKind.i64.wrap (z6 + (1 : Int))), z4, (0 : Int), (0 : Int), ()), ()))
 else
 some ((l, p0, out, f, c, i, z0, (), ()), ((z3, z6, z4, (0 : Int), (0 : Int), ()), ()))
 else
 none) fun y1 =>
 Option.bind (bif (y1.2.1.1 == (3 : Int)) then
 let z7 : Int := (IntKind.i64.wrap (y1.1.2.2.2.2.1 + (2 : Int)))
 bif (z7 != (0 : Int)) then
 some ((y1.1.1, y1.1.2.1, y1.1.2.2.1, y1.1.2.2.2.1, y1.1.2.2.2.2.1, y1.1.2.2.2.2.2.1, y1.1.2.2.2.2.2.2.1, (), ()), ((y1.2.1.1, y1.2.1.2.1, y1.2.1.2.2.1, (IntKind.i64.wrap ((Int.tmod (IntKind.i64.wrap (Int.tdiv y1.1.2.2.2.2.2.2.1 (7 : Int))) z7) - (2 : Int))), y1.2.1.2.2.2.2.1, ()), ()))
 else
 none
 else
 some ((y1.1.1, y1.1.2.1, y1.1.2.2.1, y1.1.2.2.2.1, y1.1.2.2.2.2.1, y1.1.2.2.2.2.2.1, y1.1.2.2.2.2.2.2.1, (), ()), (y1.2.1, ()))) fun y2 =>
 bif (y2.2.1.1 == (7 : Int)) then
 let z8 : List (Record) := [(Record.mk y2.2.1.1 y2.2.1.2.1 y2.2.1.2.2.1 (Int.tmod (IntKind.i64.wrap (Int.tdiv y2.1.2.2.2.2.2.2.1 (7 : Int))) (2 : Int)) (IntKind.i64.wrap (Int.tdiv y2.1.2.2.2.2.2.2.1 (14 : Int))))]
 bif (Nat.ble ((List.length y2.1.2.2.1) + (List.length z8)) 2147483648) then
 some (Sum.inl ((y2.1.1, y2.1.2.1, (y2.1.2.2.1 ++ z8), y2.1.2.2.2.1, y2.1.2.2.2.2.1, (IntKind.i64.wrap (y2.1.2.2.2.2.2.1 + (2 : Int))), ()), ()))
 else
 none
 else
 let z9 : List (Record) := [(Record.mk y2.2.1.1 y2.2.1.2.1 y2.2.1.2.2.1 y2.2.1.2.2.2.1 y2.2.1.2.2.2.2.1)]
 bif (Nat.ble ((List.length y2.1.2.2.1) + (List.length z9)) 2147483648) then
 some (Sum.inl ((y2.1.1, y2.1.2.1, (y2.1.2.2.1 ++ z9), y2.1.2.2.2.1, y2.1.2.2.2.2.1, (IntKind.i64.wrap (y2.1.2.2.2.2.2.1 + (2 : Int))), ()), ()))
 else
 none
 else
 none
 else
 none
 else
 some (Sum.inr ((out, ()), ()))
 else
 some (Sum.inr ((out, ()), ()))
noncomputable def nf9' : (T'15 × Unit) → Option ((List (Record) × Unit) × Unit) := iter (fun x => ncn' x.1.1 x.1.2.1 x.1.2.2.1 x.1.2.2.2.1 x.1.2.2.2.2.1 x.1.2.2.2.2.2.1) fuel
noncomputable def ng7' (p0 p1 p2 p3 : Int) (p4 p5 p6 : Nat) (p7 : List (Car)) (l : List (Int)) (p8 : Int) : Option ((List (Record) × Unit) × Unit) :=
 (nf9' ((l, p8, ([] : List (Record)), p0, ((List.length p7 : Nat) : Int), (0 : Int), ()), ())).bind fun y1 =>
 some ((y1.1.1, ()), ())
noncomputable def ngf' (p0 p1 p2 p3 : Int) (p4 p5 p6 : Nat) (p7 : List (Car)) (p8 dir : Int) : Option ((Bool × Unit) × Unit) :=
 (nc4' p0 p1 p2 p3 p4 p5 p6 p7).bind fun y1 =>
 bif (y1.1.1 != (0 : Int)) then
 some ((false, ()), ())
 else
 Option.bind (bif (dir == (1 : Int)) then
 (ncx' p8 (0 : Int) (IntKind.i64.wrap (p0 - (2 : Int)))).bind fun y2 =>
 bif y2.1.1 then
 some ((true, ()), ())
 else
 bif (dir == (2 : Int)) then
 (ncx' p8 (1 : Int) (IntKind.i64.wrap (p0 - (1 : Int)))).bind fun y3 =>
 some ((y3.1.1, ()), ())
 else
 some ((false, ()), ())
 else
 bif (dir == (2 : Int)) then
 (ncx' p8 (1 : Int) (IntKind.i64.wrap (p0 - (1 : Int)))).bind fun y4 =>
 some ((y4.1.1, ()), ())
 else
 some ((false, ()), ())) fun y5 =>
 some ((y5.1.1, ()), ())
noncomputable def nh7' (p0 p1 p2 p3 : Int) (p4 : Bool) (p5 p6 p7 p8 : Int) (p9 : Bool) : Option ((Bool × Unit) × Unit) :=
 Option.bind (bif (decide (p0 < p5)) then
 some ((true, ()), ())
 else
 bif (p0 == p5) then
 some (((decide (p1 < p6)), ()), ())
 else
 some ((false, ()), ())) fun y1 =>
 some ((y1.1.1, ()), ())
noncomputable def ncm' (n i p0 p1 p2 p3 : Int) (p4 p5 p6 : Nat) (p7 : List (Car)) (p8 : List (Int)) (p9 p10 : List (Bool)) (p11 : List (Entry)) : Option (Sum (T'16 × (T'0 × T'14 × Unit)) ((Unit × Unit) ⊕ ((Bool × Unit) × Unit))) :=
 bif (decide (i < ((List.length p11 : Nat) : Int))) then
 bif (inB i (List.length p11)) then
 let z0 : Entry := (List.getD p11 (Int.toNat i) (Entry.mk (0 : Int) (0 : Int) (0 : Int) (0 : Int) false))
 Option.bind ((ngf' p0 p1 p2 p3 p4 p5 p6 p7 z0.Floor z0.Dir).bind fun y1 =>
 bif (!y1.1.1) then
 some (((), (), n, i, true, ()), ((p0, p1, p2, p3, p4, p5, p6, p7, ()), (p8, p9, p10, p11, ()), ()))
 else
 bif (decide (z0.Car < (-2 : Int))) then
 some (((), (), n, i, true, ()), ((p0, p1, p2, p3, p4, p5, p6, p7, ()), (p8, p9, p10, p11, ()), ()))
 else
 bif (decide (n ≤ z0.Car)) then
 some (((), (), n, i, true, ()), ((p0, p1, p2, p3, p4, p5, p6, p7, ()), (p8, p9, p10, p11, ()), ()))
 else
 bif (decide (z0.Moves < (0 : Int))) then
 some (((), (), n, i, true, ()), ((p0, p1, p2, p3, p4, p5, p6, p7, ()), (p8, p9, p10, p11, ()), ()))
 else
 bif (decide ((255 : Int) < z0.Moves)) then
 some (((), (), n, i, true, ()), ((p0, p1, p2, p3, p4, p5, p6, p7, ()), (p8, p9, p10, p11, ()), ()))
 else
 bif (decide ((0 : Int) < i)) then
 let z1 : Int := (IntKind.i64.wrap (i - (1 : Int)))
 bif (inB z1 (List.length p11)) then
 let z2 : Entry := (List.getD p11 (Int.toNat z1) (Entry.mk (0 : Int) (0 : Int) (0 : Int) (0 : Int) false))
 (nh7' z2.Floor z2.Dir z2.Car z2.Moves z2.Moved z0.Floor z0.Dir z0.Car z0.Moves z0.Moved).bind fun y2 =>
 some (((), (), n, i, (!y2.1.1), ()), ((p0, p1, p2, p3, p4, p5, p6, p7, ()), (p8, p9, p10, p11, ()), ()))
 else
 none
 else
 some (((), (), n, i, false, ()), ((p0, p1, p2, p3, p4, p5, p6, p7, ()), (p8, p9, p10, p11, ()), ()))) fun y3 =>
 bif y3.1.2.2.2.2.1 then
 some (Sum.inr (Sum.inr ((false, ()), ())))
 else
 some (Sum.inl (((), (), y3.1.2.2.1, (IntKind.i64.wrap (y3.1.2.2.2.1 + (1 : Int))), ()), (y3.2.1, y3.2.2.1, ())))
 else
 none
 else
 some (Sum.inr (Sum.inl ((), ())))
noncomputable def nf7' : (T'16 × (T'0 × T'14 × Unit)) → Option ((Unit × Unit) ⊕ ((Bool × Unit) × Unit)) := iter (fun x => ncm' x.1.2.2.1 x.1.2.2.2.1 x.2.1.1 x.2.1.2.1 x.2.1.2.2.1 x.2.1.2.2.2.1 x.2.1.2.2.2.2.1 x.2.1.2.2.2.2.2.1 x.2.1.2.2.2.2.2.2.1 x.2.1.2.2.2.2.2.2.2.1 x.2.2.1.1 x.2.2.1.2.1 x.2.2.1.2.2.1 x.2.2.1.2.2.2.1) fuel
noncomputable def ndc' (n i p0 p1 p2 p3 : Int) (p4 p5 p6 : Nat) (p7 : List (Car)) (p8 : List (Int)) (p9 p10 : List (Bool)) (p11 : List (Entry)) : Option (Sum (T'16 × (T'0 × T'14 × Unit)) ((T'17 × (T'0 × T'14 × Unit)) ⊕ ((Bool × Unit) × Unit))) :=
 bif (decide (i < n)) then
 bif (inB i (List.length p8)) then
 bif (decide ((List.getD p8 (Int.toNat i) (0 : Int)) < (0 : Int))) then
 some (Sum.inr (Sum.inr ((false, ()), ())))
 else
 bif (inB i (List.length p8)) then
 bif (decide ((4 : Int) < (List.getD p8 (Int.toNat i) (0 : Int)))) then
 some (Sum.inr (Sum.inr ((false, ()), ())))
 else
 some (Sum.inl (((), (), n, (IntKind.i64.wrap (i + (1 : Int))), ()), ((p0, p1, p2, p3, p4, p5, p6, p7, ()), (p8, p9, p10, p11, ()), ())))
 else
 none
 else
 none
 else
 some (Sum.inr (Sum.inl (((), (), n, ()), ((p0, p1, p2, p3, p4, p5, p6, p7, ()), (p8, p9, p10, p11, ()), ()))))
noncomputable def nf8' : (T'16 × (T'0 × T'14 × Unit)) → Option ((T'17 × (T'0 × T'14 × Unit)) ⊕ ((Bool × Unit) × Unit)) := iter (fun x => ndc' x.1.2.2.1 x.1.2.2.2.1 x.2.1.1 x.2.1.2.1 x.2.1.2.2.1 x.2.1.2.2.2.1 x.2.1.2.2.2.2.1 x.2.1.2.2.2.2.2.1 x.2.1.2.2.2.2.2.2.1 x.2.1.2.2.2.2.2.2.2.1 x.2.2.1.1 x.2.2.1.2.1 x.2.2.1.2.2.1 x.2.2.1.2.2.2.1) fuel
noncomputable def nce' (p0 p1 p2 p3 : Int) (p4 p5 p6 : Nat) (p7 : List (Car)) (p8 : List (Int)) (p9 p10 : List (Bool)) (p11 : List (Entry)) : Option ((Bool × Unit) × Unit) :=
 let z0 : Int := ((List.length p7 : Nat) : Int)
 (nc4' p0 p1 p2 p3 p4 p5 p6 p7).bind fun y1 =>
 bif (y1.1.1 != (0 : Int)) then
 some ((false, ()), ())
 else
 bif (((List.length p8 : Nat) : Int) != z0) then
 some ((false, ()), ())
 else
 bif (((List.length p9 : Nat) : Int) != z0) then
 some ((false, ()), ())
 else
 bif (((List.length p10 : Nat) : Int) != z0) then
 some ((false, ()), ())
 else
 (nf8' (((), (), z0, (0 : Int), ()), ((p0, p1, p2, p3, p4, p5, p6, p7, ()), (p8, p9, p10, p11, ()), ()))).bind fun y2 =>
 (match y2 with
 | .inl y3 =>
 (nf7' (((), (), y3.1.2.2.1, (0 : Int), ()), (y3.2.1, y3.2.2.1, ()))).bind fun y4 =>
 (match y4 with
 | .inl y5 =>
 some ((true, ()), ())
 | .inr y5 =>
 some ((y5.1.1, ()), ()))
 | .inr y3 =>
 some ((y3.1.1, ()), ()))
noncomputable def nei' (n lo hi : Int) : Option ((Bool × Unit) × Unit) :=
 Option.bind (bif (decide (lo ≤ n)) then
 some (((decide (n ≤ hi)), ()), ())
 else
 some ((false, ()), ())) fun y1 =>
 some ((y1.1.1, ()), ())
noncomputable def nek' (p0 p1 p2 p3 : Int) (p4 p5 p6 : Nat) (p7 : List (Car)) (p8 p9 p10 p11 p12 : Int) : Option ((Bool × Unit) × Unit) :=
 (nc4' p0 p1 p2 p3 p4 p5 p6 p7).bind fun y1 =>
 bif (y1.1.1 != (0 : Int)) then
 some ((false, ()), ())
 else
 (ngf' p0 p1 p2 p3 p4 p5 p6 p7 p9 p10).bind fun y2 =>
 Option.bind ((nei' p11 (0 : Int) (IntKind.i64.wrap (((List.length p7 : Nat) : Int) - (1 : Int)))).bind fun y3 =>
 bif y3.1.1 then
 bif (p9 == (0 : Int)) then
 some (((), (), y2.1.1, (p10 == (0 : Int)), ()), ((p0, p1, p2, p3, p4, p5, p6, p7, ()), (p8, p9, p10, p11, p12, ()), ()))
 else
 some (((), (), y2.1.1, false, ()), ((p0, p1, p2, p3, p4, p5, p6, p7, ()), (p8, p9, p10, p11, p12, ()), ()))
 else
 some (((), (), y2.1.1, false, ()), ((p0, p1, p2, p3, p4, p5, p6, p7, ()), (p8, p9, p10, p11, p12, ()), ()))) fun y4 =>
 bif (y4.2.2.1.1 == (1 : Int)) then
 Option.bind (bif y4.1.2.2.1 then
 bif (y4.2.2.1.2.2.2.1 == (0 : Int)) then
 some (((y4.2.2.1.2.2.2.2.1 == (0 : Int)), ()), ())
 else
 some ((false, ()), ())
 else
 some ((false, ()), ())) fun y5 =>
 some ((y5.1.1, ()), ())
 else
 bif (y4.2.2.1.1 == (2 : Int)) then
 Option.bind (bif y4.1.2.2.1 then
 bif (y4.2.2.1.2.2.2.1 == (0 : Int)) then
 some (((y4.2.2.1.2.2.2.2.1 == (0 : Int)), ()), ())
 else
 some ((false, ()), ())
 else
 some ((false, ()), ())) fun y6 =>
 some ((y6.1.1, ()), ())
 else
 bif (y4.2.2.1.1 == (3 : Int)) then
 Option.bind (bif y4.1.2.2.1 then
 (nei' y4.2.2.1.2.2.2.1 (-2 : Int) (IntKind.i64.wrap (((List.length y4.2.1.2.2.2.2.2.2.2.1 : Nat) : Int) - (1 : Int)))).bind fun y7 =>
 bif y7.1.1 then
 some (((y4.2.2.1.2.2.2.2.1 == (0 : Int)), ()), ())
 else
 some ((false, ()), ())
 else
 some ((false, ()), ())) fun y8 =>
 some ((y8.1.1, ()), ())
 else
 bif (y4.2.2.1.1 == (4 : Int)) then
 Option.bind (bif y4.1.2.2.2.1 then
 (nei' y4.2.2.1.2.2.2.2.1 (0 : Int) (4 : Int)).bind fun y9 =>
 some ((y9.1.1, ()), ())
 else
 some ((false, ()), ())) fun y10 =>
 some ((y10.1.1, ()), ())
 else
 bif (y4.2.2.1.1 == (5 : Int)) then
 Option.bind (bif y4.1.2.2.2.1 then
 (nei' y4.2.2.1.2.2.2.2.1 (0 : Int) (1 : Int)).bind fun y11 =>
 some ((y11.1.1, ()), ())
 else
 some ((false, ()), ())) fun y12 =>
 some ((y12.1.1, ()), ())
 else
 bif (y4.2.2.1.1 == (6 : Int)) then
 Option.bind (bif y4.1.2.2.2.1 then
 (nei' y4.2.2.1.2.2.2.2.1 (0 : Int) (1 : Int)).bind fun y13 =>
 some ((y13.1.1, ()), ())
 else
 some ((false, ()), ())) fun y14 =>
 some ((y14.1.1, ()), ())
 else
 bif (y4.2.2.1.1 == (7 : Int)) then
 Option.bind (bif y4.1.2.2.1 then
 (nei' y4.2.2.1.2.2.2.1 (0 : Int) (1 : Int)).bind fun y15 =>
 bif y15.1.1 then
 (nei' y4.2.2.1.2.2.2.2.1 (0 : Int) (255 : Int)).bind fun y16 =>
 some ((y16.1.1, ()), ())
 else
 some ((false, ()), ())
 else
 some ((false, ()), ())) fun y17 =>
 some ((y17.1.1, ()), ())
 else
 some ((false, ()), ())
noncomputable def nez' (p0 dir i : Int) (p1 : List (Int)) (p2 p3 : List (Bool)) (p4 : List (Entry)) : Option (Sum (T'18 × (T'14 × Unit)) ((Unit × Unit) ⊕ ((Int × Unit) × Unit))) :=
 bif (decide (i < ((List.length p4 : Nat) : Int))) then
 Option.bind (bif (inB i (List.length p4)) then
 bif ((List.getD p4 (Int.toNat i) (Entry.mk (0 : Int) (0 : Int) (0 : Int) (0 : Int) false)).Floor == p0) then
 bif (inB i (List.length p4)) then
 some ((p0, dir, (), i, ((List.getD p4 (Int.toNat i) (Entry.mk (0 : Int) (0 : Int) (0 : Int) (0 : Int) false)).Dir == dir), ()), ((p1, p2, p3, p4, ()), ()))
 else
 none
 else
 some ((p0, dir, (), i, false, ()), ((p1, p2, p3, p4, ()), ()))
 else
 none) fun y1 =>
 bif y1.1.2.2.2.2.1 then
 some (Sum.inr (Sum.inr ((y1.1.2.2.2.1, ()), ())))
 else
 some (Sum.inl ((y1.1.1, y1.1.2.1, (), (IntKind.i64.wrap (y1.1.2.2.2.1 + (1 : Int))), ()), (y1.2.1, ())))
 else
 some (Sum.inr (Sum.inl ((), ())))
noncomputable def nif' : (T'18 × (T'14 × Unit)) → Option ((Unit × Unit) ⊕ ((Int × Unit) × Unit)) := iter (fun x => nez' x.1.1 x.1.2.1 x.1.2.2.2.1 x.2.1.1 x.2.1.2.1 x.2.1.2.2.1 x.2.1.2.2.2.1) fuel
noncomputable def niu' (p0 : List (Int)) (p1 p2 : List (Bool)) (p3 : List (Entry)) (p4 dir : Int) : Option ((Int × Unit) × Unit) :=
 (nif' ((p4, dir, (), (0 : Int), ()), ((p0, p1, p2, p3, ()), ()))).bind fun y1 =>
 (match y1 with
 | .inl y2 =>
 some (((-1 : Int), ()), ())
 | .inr y2 =>
 some ((y2.1.1, ()), ()))
noncomputable def nc8' (l out : List (Entry)) (p0 : Bool) (i p1 p2 p3 p4 : Int) (p5 : Bool) : Option (Sum (T'19 × (T'20 × Unit)) (T'21 × (T'20 × Unit))) :=
 bif (decide (i < ((List.length l : Nat) : Int))) then
 Option.bind (Option.bind (bif (!p0) then
 bif (inB i (List.length l)) then
 let z0 : Entry := (List.getD l (Int.toNat i) (Entry.mk (0 : Int) (0 : Int) (0 : Int) (0 : Int) false))
 (nh7' p1 p2 p3 p4 p5 z0.Floor z0.Dir z0.Car z0.Moves z0.Moved).bind fun y1 =>
 some ((l, (), out, p0, i, y1.1.1, ()), ((p1, p2, p3, p4, p5, ()), ()))
 else
 none
 else
 some ((l, (), out, p0, i, false, ()), ((p1, p2, p3, p4, p5, ()), ()))) fun y2 =>
 bif y2.1.2.2.2.2.2.1 then
 let z1 : List (Entry) := [(Entry.mk y2.2.1.1 y2.2.1.2.1 y2.2.1.2.2.1 y2.2.1.2.2.2.1 y2.2.1.2.2.2.2.1)]
 bif (Nat.ble ((List.length y2.1.2.2.1) + (List.length z1)) 2147483648) then
 some ((y2.1.1, (), (y2.1.2.2.1 ++ z1), true, y2.1.2.2.2.2.1, ()), (y2.2.1, ()))
 else
 none
 else
 some ((y2.1.1, (), y2.1.2.2.1, y2.1.2.2.2.1, y2.1.2.2.2.2.1, ()), (y2.2.1, ()))) fun y3 =>
 bif (inB y3.1.2.2.2.2.1 (List.length y3.1.1)) then
 let z2 : Entry := (List.getD y3.1.1 (Int.toNat y3.1.2.2.2.2.1) (Entry.mk (0 : Int) (0 : Int) (0 : Int) (0 : Int) false))
 let z3 : List (Entry) := [(Entry.mk z2.Floor z2.Dir z2.Car z2.Moves z2.Moved)]
 bif (Nat.ble ((List.length y3.1.2.2.1) + (List.length z3)) 2147483648) then
 some (Sum.inl ((y3.1.1, (), (y3.1.2.2.1 ++ z3), y3.1.2.2.2.1, (IntKind.i64.wrap (y3.1.2.2.2.2.1 + (1 : Int))), ()), (y3.2.1, ())))
 else
 none
 else
 none
 else
 some (Sum.inr (((), out, p0, ()), ((p1, p2, p3, p4, p5, ()), ())))
noncomputable def nf4' : (T'19 × (T'20 × Unit)) → Option (T'21 × (T'20 × Unit)) := iter (fun x => nc8' x.1.1 x.1.2.2.1 x.1.2.2.2.1 x.1.2.2.2.2.1 x.2.1.1 x.2.1.2.1 x.2.1.2.2.1 x.2.1.2.2.2.1 x.2.1.2.2.2.2.1) fuel
noncomputable def nhc' (l : List (Entry)) (p0 p1 p2 p3 : Int) (p4 : Bool) : Option ((List (Entry) × Unit) × Unit) :=
 (nf4' ((l, (), ([] : List (Entry)), false, (0 : Int), ()), ((p0, p1, p2, p3, p4, ()), ()))).bind fun y1 =>
 bif (!y1.1.2.2.1) then
 let z0 : List (Entry) := [(Entry.mk y1.2.1.1 y1.2.1.2.1 y1.2.1.2.2.1 y1.2.1.2.2.2.1 y1.2.1.2.2.2.2.1)]
 bif (Nat.ble ((List.length y1.1.2.1) + (List.length z0)) 2147483648) then
 some (((y1.1.2.1 ++ z0), ()), ())
 else
 none
 else
 some ((y1.1.2.1, ()), ())
noncomputable def nfw' (p0 p1 p2 p3 : Int) (p4 p5 p6 : Nat) (p7 : List (Car)) (p8 : List (Int)) (p9 p10 : List (Bool)) (p11 : List (Entry)) (p12 p13 p14 p15 p16 : Int) : Option ((Unit × Int × Unit) × (T'14 × Unit)) :=
 (nce' p0 p1 p2 p3 p4 p5 p6 p7 p8 p9 p10 p11).bind fun y1 =>
 bif (!y1.1.1) then
 some (((), (1 : Int), ()), ((([] : List (Int)), ([] : List (Bool)), ([] : List (Bool)), ([] : List (Entry)), ()), ()))
 else
 (nek' p0 p1 p2 p3 p4 p5 p6 p7 p12 p13 p14 p15 p16).bind fun y2 =>
 bif (!y2.1.1) then
 some (((), (1 : Int), ()), ((([] : List (Int)), ([] : List (Bool)), ([] : List (Bool)), ([] : List (Entry)), ()), ()))
 else
 bif (Nat.ble ((List.length ([] : List (Int))) + (List.length p8)) 2147483648) then
 let z0 : List (Int) := (([] : List (Int)) ++ p8)
 bif (Nat.ble ((List.length ([] : List (Bool))) + (List.length p9)) 2147483648) then
 let z1 : List (Bool) := (([] : List (Bool)) ++ p9)
 bif (Nat.ble ((List.length ([] : List (Bool))) + (List.length p10)) 2147483648) then
 let z2 : List (Bool) := (([] : List (Bool)) ++ p10)
 bif (Nat.ble ((List.length ([] : List (Entry))) + (List.length p11)) 2147483648) then
 let z3 : List (Entry) := (([] : List (Entry)) ++ p11)
 (niu' z0 z1 z2 z3 p13 p14).bind fun y3 =>
 bif (p12 == (4 : Int)) then
 bif (inB p15 (List.length z0)) then
 some (((), (0 : Int), ()), (((List.set z0 (Int.toNat p15) p16), z1, z2, z3, ()), ()))
 else
 none
 else
 bif (p12 == (5 : Int)) then
 bif (inB p15 (List.length z1)) then
 some (((), (0 : Int), ()), ((z0, (List.set z1 (Int.toNat p15) (p16 == (1 : Int))), z2, z3, ()), ()))
 else
 none
 else
 bif (p12 == (6 : Int)) then
 bif (inB p15 (List.length z2)) then
 some (((), (0 : Int), ()), ((z0, z1, (List.set z2 (Int.toNat p15) (p16 == (1 : Int))), z3, ()), ()))
 else
 none
 else
 Option.bind (bif (p12 == (1 : Int)) then
 some (((), (), (), y3.1.1, (decide (y3.1.1 < (0 : Int))), ()), ((z0, z1, z2, z3, ()), (p12, p13, p14, p15, p16, ()), (([] : List (Int)), ([] : List (Bool)), ([] : List (Bool)), ([] : List (Entry)), ()), ()))
 else
 some (((), (), (), y3.1.1, false, ()), ((z0, z1, z2, z3, ()), (p12, p13, p14, p15, p16, ()), (([] : List (Int)), ([] : List (Bool)), ([] : List (Bool)), ([] : List (Entry)), ()), ()))) fun y4 =>
 bif y4.1.2.2.2.2.1 then
 (nhc' y4.2.1.2.2.2.1 y4.2.2.1.2.1 y4.2.2.1.2.2.1 (-1 : Int) (0 : Int) false).bind fun y5 =>
 some (((), (0 : Int), ()), ((y4.2.1.1, y4.2.1.2.1, y4.2.1.2.2.1, y5.1.1, ()), ()))
 else
 bif (decide (y4.1.2.2.2.1 < (0 : Int))) then
 some (((), (0 : Int), ()), (y4.2.1, ()))
 else
 bif (y4.2.2.1.1 == (2 : Int)) then
 Option.bind (some (((), (), y4.1.2.2.2.1, ()), (y4.2.1, y4.2.2.2.1, ()))) fun y6 =>
 bif ((decide ((0 : Int) ≤ y6.1.2.2.1)) && (decide (y6.1.2.2.1 ≤ (((List.length y6.2.1.2.2.2.1) : Nat) : Int)))) then
 let z4 : List (Entry) := (List.drop 0 (List.take (Int.toNat y6.1.2.2.1) y6.2.1.2.2.2.1))
 bif (Nat.ble ((List.length ([] : List (Entry))) + (List.length z4)) 2147483648) then
 let z5 : List (Entry) := (([] : List (Entry)) ++ z4)
 let z6 : Int := (IntKind.i64.wrap (y6.1.2.2.1 + (1 : Int)))
 bif ((decide ((0 : Int) ≤ z6)) && (decide (z6 ≤ (((List.length y6.2.1.2.2.2.1) : Nat) : Int)))) then
 let z7 : List (Entry) := (List.drop (Int.toNat z6) (List.take (List.length y6.2.1.2.2.2.1) y6.2.1.2.2.2.1))
 bif (Nat.ble ((List.length z5) + (List.length z7)) 2147483648) then
 some (((), (0 : Int), ()), ((y6.2.1.1, y6.2.1.2.1, y6.2.1.2.2.1, (z5 ++ z7), ()), ()))
 else
 none
 else
 none
 else
 none
 else
 none
 else
 bif (y4.2.2.1.1 == (3 : Int)) then
 bif (inB y4.1.2.2.2.1 (List.length y4.2.1.2.2.2.1)) then
 let z8 : Nat := (Int.toNat y4.1.2.2.2.1)
 let z9 : Entry := (List.getD y4.2.1.2.2.2.1 z8 (Entry.mk (0 : Int) (0 : Int) (0 : Int) (0 : Int) false))
 some (((), (0 : Int), ()), ((y4.2.1.1, y4.2.1.2.1, y4.2.1.2.2.1, (List.set y4.2.1.2.2.2.1 z8 (Entry.mk z9.Floor z9.Dir y4.2.2.1.2.2.2.1 z9.Moves z9.Moved)), ()), ()))
 else
 none
 else
 bif (y4.2.2.1.1 == (7 : Int)) then
 bif (inB y4.1.2.2.2.1 (List.length y4.2.1.2.2.2.1)) then
 let z10 : Nat := (Int.toNat y4.1.2.2.2.1)
 let z11 : Entry := (List.getD y4.2.1.2.2.2.1 z10 (Entry.mk (0 : Int) (0 : Int) (0 : Int) (0 : Int) false))
 let z12 : List (Entry) := (List.set y4.2.1.2.2.2.1 z10 (Entry.mk z11.Floor z11.Dir z11.Car y4.2.2.1.2.2.2.2.1 z11.Moved))
 bif (inB y4.1.2.2.2.1 (List.length z12)) then
 let z13 : Nat := (Int.toNat y4.1.2.2.2.1)
 let z14 : Entry := (List.getD z12 z13 (Entry.mk (0 : Int) (0 : Int) (0 : Int) (0 : Int) false))
 some (((), (0 : Int), ()), ((y4.2.1.1, y4.2.1.2.1, y4.2.1.2.2.1, (List.set z12 z13 (Entry.mk z14.Floor z14.Dir z14.Car z14.Moves (y4.2.2.1.2.2.2.1 == (1 : Int)))), ()), ()))
 else
 none
 else
 none
 else
 some (((), (0 : Int), ()), (y4.2.1, ()))
 else
 none
 else
 none
 else
 none
 else
 none
noncomputable def nd7' (x_1 : List (Record)) (i p0 p1 p2 p3 : Int) (p4 p5 p6 : Nat) (p7 : List (Car)) (p8 : List (Int)) (p9 p10 : List (Bool)) (p11 : List (Entry)) (p12 : List (Int)) (p13 p14 : List (Bool)) (p15 : List (Entry)) : Option (Sum (T'22 × T'23) ((Unit × Unit × Unit) × (T'14 × T'14 × Unit))) :=
 bif (decide (i < ((List.length x_1 : Nat) : Int))) then
 bif (inB i (List.length x_1)) then
 let z0 : Record := (List.getD x_1 (Int.toNat i) (Record.mk (0 : Int) (0 : Int) (0 : Int) (0 : Int) (0 : Int)))
 (nfw' p0 p1 p2 p3 p4 p5 p6 p7 p12 p13 p14 p15 z0.Kind z0.Floor z0.Dir z0.Car z0.Value).bind fun y1 =>
 some (Sum.inl (((), (), (), x_1, (IntKind.i64.wrap (i + (1 : Int))), ()), ((p0, p1, p2, p3, p4, p5, p6, p7, ()), (p8, p9, p10, p11, ()), y1.2.1, ())))
 else
 none
 else
 some (Sum.inr (((), (), ()), ((p8, p9, p10, p11, ()), (p12, p13, p14, p15, ()), ())))
noncomputable def nhg' : (T'22 × T'23) → Option ((Unit × Unit × Unit) × (T'14 × T'14 × Unit)) := iter (fun x => nd7' x.1.2.2.2.1 x.1.2.2.2.2.1 x.2.1.1 x.2.1.2.1 x.2.1.2.2.1 x.2.1.2.2.2.1 x.2.1.2.2.2.2.1 x.2.1.2.2.2.2.2.1 x.2.1.2.2.2.2.2.2.1 x.2.1.2.2.2.2.2.2.2.1 x.2.2.1.1 x.2.2.1.2.1 x.2.2.1.2.2.1 x.2.2.1.2.2.2.1 x.2.2.2.1.1 x.2.2.2.1.2.1 x.2.2.2.1.2.2.1 x.2.2.2.1.2.2.2.1) fuel
noncomputable def ng2' (p0 p1 p2 p3 : Int) (p4 p5 p6 : Nat) (p7 : List (Car)) (l : List (Int)) : Option ((Unit × Unit) × (T'14 × Unit)) :=
 (nfp' p0 p1 p2 p3 p4 p5 p6 p7).bind fun y1 =>
 (ng7' p0 p1 p2 p3 p4 p5 p6 p7 l (60 : Int)).bind fun y2 =>
 (nhg' (((), (), (), y2.1.1, (0 : Int), ()), ((p0, p1, p2, p3, p4, p5, p6, p7, ()), (([] : List (Int)), ([] : List (Bool)), ([] : List (Bool)), ([] : List (Entry)), ()), y1.2.1, ()))).bind fun y3 =>
 some (((), ()), (y3.2.2.1, ()))
noncomputable def nh3' (p0 p1 p2 p3 : Int) (p4 p5 p6 : Nat) (p7 : List (Car)) (p8 : List (Int)) (p9 p10 : List (Bool)) (p11 : List (Entry)) : Option ((Bool × Unit) × Unit) :=
 Option.bind ((nce' p0 p1 p2 p3 p4 p5 p6 p7 p8 p9 p10 p11).bind fun y1 =>
 bif y1.1.1 then
 some (((decide ((IntKind.i64.wrap ((IntKind.i64.wrap ((18 : Int) * (IntKind.i64.wrap (((List.length p7 : Nat) : Int) + ((List.length p11 : Nat) : Int))))) + (6 : Int))) ≤ p2)), ()), ())
 else
 some ((false, ()), ())) fun y2 =>
 some ((y2.1.1, ()), ())
noncomputable def ndf' (p0 : Int) (p1 p2 : ByteArray) (p3 : Int) : Option ((Bool × Unit) × Unit) :=
 Option.bind (bif (decide ((1 : Int) ≤ p0)) then
 bif (decide (p0 ≤ (65536 : Int))) then
 bif (decide (((ByteArray.size p1 : Nat) : Int) ≤ p0)) then
 bif (decide (((ByteArray.size p2 : Nat) : Int) ≤ p0)) then
 bif (p3 == (0 : Int)) then
 some ((true, ()), ())
 else
 some (((p3 == (1 : Int)), ()), ())
 else
 some ((false, ()), ())
 else
 some ((false, ()), ())
 else
 some ((false, ()), ())
 else
 some ((false, ()), ())) fun y1 =>
 some ((y1.1.1, ()), ())
noncomputable def nhs'  : Option ((Unit × Unit) × (T'24 × Unit)) :=
 some (((), ()), (((-1 : Int), (0 : Int), (0 : Int), ([] : List (Duty)), (0 : Int), false, ()), ()))
noncomputable def nd2' (i p0 p1 p2 p3 : Int) (p4 p5 p6 : Nat) (p7 : List (Car)) (p8 : List (Int)) (p9 p10 : List (Bool)) (p11 : List (Entry)) (p12 : List (Int)) (p13 p14 : List (Bool)) (p15 : List (Entry)) (p16 p17 : ByteArray) (p18 : Int) (p19 : List (Debounced)) (p20 : List (Belief)) (p21 : List (NewCar)) (p22 : List (Loaded)) (p23 : List (Int)) (p24 : List (Calls)) (p25 p26 p27 : Int) (p28 : List (Int)) (p29 p30 : List (Bool)) (p31 : List (Entry)) (p32 p33 : ByteArray) (p34 : Int) (p35 : List (Debounced)) (p36 : List (Belief)) (p37 : List (NewCar)) (p38 : List (Loaded)) (p39 : List (Int)) (p40 : List (Calls)) (p41 p42 p43 : Int) : Option (Sum (T'29 × T'27) ((Unit × Unit × Unit) × (T'25 × T'25 × Unit))) :=
 bif (decide (i < ((List.length p11 : Nat) : Int))) then
 Option.bind (bif (inB i (List.length p11)) then
 let z0 : Entry := (List.getD p11 (Int.toNat i) (Entry.mk (0 : Int) (0 : Int) (0 : Int) (0 : Int) false))
 bif (decide ((0 : Int) ≤ z0.Car)) then
 bif (inB z0.Car (List.length p7)) then
 some (((), (), (), (), i, (List.getD p7 (Int.toNat z0.Car) (Car.mk (0 : Int) (0 : Int) (0 : Int) (0 : Int) (0 : Int) (0 : Int) (0 : Int) (0 : Int) (0 : Int))).Deadline, ()), ((p0, p1, p2, p3, p4, p5, p6, p7, ()), (p8, p9, p10, p11, ()), (p12, p13, p14, p15, p16, p17, p18, p19, p20, p21, p22, p23, p24, p25, p26, p27, ()), (p28, p29, p30, p31, p32, p33, p34, p35, p36, p37, p38, p39, p40, p41, p42, p43, ()), ()))
 else
 none
 else
 some (((), (), (), (), i, (0 : Int), ()), ((p0, p1, p2, p3, p4, p5, p6, p7, ()), (p8, p9, p10, p11, ()), (p12, p13, p14, p15, p16, p17, p18, p19, p20, p21, p22, p23, p24, p25, p26, p27, ()), (p28, p29, p30, p31, p32, p33, p34, p35, p36, p37, p38, p39, p40, p41, p42, p43, ()), ()))
 else
 none) fun y1 =>
 let z1 : List (Int) := [y1.1.2.2.2.2.2.1]
 bif (Nat.ble ((List.length y1.2.2.2.2.1.2.2.2.2.2.2.2.2.2.2.2.1) + (List.length z1)) 2147483648) then
 some (Sum.inl (((), (), (), (), (IntKind.i64.wrap (y1.1.2.2.2.2.1 + (1 : Int))), ()), (y1.2.1, y1.2.2.1, y1.2.2.2.1, (y1.2.2.2.2.1.1, y1.2.2.2.2.1.2.1, y1.2.2.2.2.1.2.2.1, y1.2.2.2.2.1.2.2.2.1, y1.2.2.2.2.1.2.2.2.2.1, y1.2.2.2.2.1.2.2.2.2.2.1, y1.2.2.2.2.1.2.2.2.2.2.2.1, y1.2.2.2.2.1.2.2.2.2.2.2.2.1, y1.2.2.2.2.1.2.2.2.2.2.2.2.2.1, y1.2.2.2.2.1.2.2.2.2.2.2.2.2.2.1, y1.2.2.2.2.1.2.2.2.2.2.2.2.2.2.2.1, (y1.2.2.2.2.1.2.2.2.2.2.2.2.2.2.2.2.1 ++ z1), y1.2.2.2.2.1.2.2.2.2.2.2.2.2.2.2.2.2.1, y1.2.2.2.2.1.2.2.2.2.2.2.2.2.2.2.2.2.2.1, y1.2.2.2.2.1.2.2.2.2.2.2.2.2.2.2.2.2.2.2.1, y1.2.2.2.2.1.2.2.2.2.2.2.2.2.2.2.2.2.2.2.2.1, ()), ())))
 else
 none
 else
 some (Sum.inr (((), (), ()), ((p12, p13, p14, p15, p16, p17, p18, p19, p20, p21, p22, p23, p24, p25, p26, p27, ()), (p28, p29, p30, p31, p32, p33, p34, p35, p36, p37, p38, p39, p40, p41, p42, p43, ()), ())))
noncomputable def nfl' : (T'29 × T'27) → Option ((Unit × Unit × Unit) × (T'25 × T'25 × Unit)) := iter (fun x => nd2' x.1.2.2.2.2.1 x.2.1.1 x.2.1.2.1 x.2.1.2.2.1 x.2.1.2.2.2.1 x.2.1.2.2.2.2.1 x.2.1.2.2.2.2.2.1 x.2.1.2.2.2.2.2.2.1 x.2.1.2.2.2.2.2.2.2.1 x.2.2.1.1 x.2.2.1.2.1 x.2.2.1.2.2.1 x.2.2.1.2.2.2.1 x.2.2.2.1.1 x.2.2.2.1.2.1 x.2.2.2.1.2.2.1 x.2.2.2.1.2.2.2.1 x.2.2.2.1.2.2.2.2.1 x.2.2.2.1.2.2.2.2.2.1 x.2.2.2.1.2.2.2.2.2.2.1 x.2.2.2.1.2.2.2.2.2.2.2.1 x.2.2.2.1.2.2.2.2.2.2.2.2.1 x.2.2.2.1.2.2.2.2.2.2.2.2.2.1 x.2.2.2.1.2.2.2.2.2.2.2.2.2.2.1 x.2.2.2.1.2.2.2.2.2.2.2.2.2.2.2.1 x.2.2.2.1.2.2.2.2.2.2.2.2.2.2.2.2.1 x.2.2.2.1.2.2.2.2.2.2.2.2.2.2.2.2.2.1 x.2.2.2.1.2.2.2.2.2.2.2.2.2.2.2.2.2.2.1 x.2.2.2.1.2.2.2.2.2.2.2.2.2.2.2.2.2.2.2.1 x.2.2.2.2.1.1 x.2.2.2.2.1.2.1 x.2.2.2.2.1.2.2.1 x.2.2.2.2.1.2.2.2.1 x.2.2.2.2.1.2.2.2.2.1 x.2.2.2.2.1.2.2.2.2.2.1 x.2.2.2.2.1.2.2.2.2.2.2.1 x.2.2.2.2.1.2.2.2.2.2.2.2.1 x.2.2.2.2.1.2.2.2.2.2.2.2.2.1 x.2.2.2.2.1.2.2.2.2.2.2.2.2.2.1 x.2.2.2.2.1.2.2.2.2.2.2.2.2.2.2.1 x.2.2.2.2.1.2.2.2.2.2.2.2.2.2.2.2.1 x.2.2.2.2.1.2.2.2.2.2.2.2.2.2.2.2.2.1 x.2.2.2.2.1.2.2.2.2.2.2.2.2.2.2.2.2.2.1 x.2.2.2.2.1.2.2.2.2.2.2.2.2.2.2.2.2.2.2.1 x.2.2.2.2.1.2.2.2.2.2.2.2.2.2.2.2.2.2.2.2.1) fuel
noncomputable def ndz' (n i p0 p1 p2 p3 : Int) (p4 p5 p6 : Nat) (p7 : List (Car)) (p8 : List (Int)) (p9 p10 : List (Bool)) (p11 : List (Entry)) (p12 : List (Int)) (p13 p14 : List (Bool)) (p15 : List (Entry)) (p16 p17 : ByteArray) (p18 : Int) (p19 : List (Debounced)) (p20 : List (Belief)) (p21 : List (NewCar)) (p22 : List (Loaded)) (p23 : List (Int)) (p24 : List (Calls)) (p25 p26 p27 : Int) (p28 : List (Int)) (p29 p30 : List (Bool)) (p31 : List (Entry)) (p32 p33 : ByteArray) (p34 : Int) (p35 : List (Debounced)) (p36 : List (Belief)) (p37 : List (NewCar)) (p38 : List (Loaded)) (p39 : List (Int)) (p40 : List (Calls)) (p41 p42 p43 : Int) : Option (Sum (T'26 × T'27) (T'28 × T'27)) :=
 bif (decide (i < n)) then
 (nhs').bind fun y1 =>
 let z0 : List (Belief) := [(Belief.mk y1.2.1.1 y1.2.1.2.1 y1.2.1.2.2.1 y1.2.1.2.2.2.1 y1.2.1.2.2.2.2.1 y1.2.1.2.2.2.2.2.1)]
 bif (Nat.ble ((List.length p36) + (List.length z0)) 2147483648) then
 some (Sum.inl (((), (), (), n, (), (IntKind.i64.wrap (i + (1 : Int))), ()), ((p0, p1, p2, p3, p4, p5, p6, p7, ()), (p8, p9, p10, p11, ()), (p12, p13, p14, p15, p16, p17, p18, p19, p20, p21, p22, p23, p24, p25, p26, p27, ()), (p28, p29, p30, p31, p32, p33, p34, p35, (p36 ++ z0), p37, p38, p39, p40, p41, p42, p43, ()), ())))
 else
 none
 else
 some (Sum.inr (((), (), (), (), ()), ((p0, p1, p2, p3, p4, p5, p6, p7, ()), (p8, p9, p10, p11, ()), (p12, p13, p14, p15, p16, p17, p18, p19, p20, p21, p22, p23, p24, p25, p26, p27, ()), (p28, p29, p30, p31, p32, p33, p34, p35, p36, p37, p38, p39, p40, p41, p42, p43, ()), ())))
noncomputable def nfn' : (T'26 × T'27) → Option (T'28 × T'27) := iter (fun x => ndz' x.1.2.2.2.1 x.1.2.2.2.2.2.1 x.2.1.1 x.2.1.2.1 x.2.1.2.2.1 x.2.1.2.2.2.1 x.2.1.2.2.2.2.1 x.2.1.2.2.2.2.2.1 x.2.1.2.2.2.2.2.2.1 x.2.1.2.2.2.2.2.2.2.1 x.2.2.1.1 x.2.2.1.2.1 x.2.2.1.2.2.1 x.2.2.1.2.2.2.1 x.2.2.2.1.1 x.2.2.2.1.2.1 x.2.2.2.1.2.2.1 x.2.2.2.1.2.2.2.1 x.2.2.2.1.2.2.2.2.1 x.2.2.2.1.2.2.2.2.2.1 x.2.2.2.1.2.2.2.2.2.2.1 x.2.2.2.1.2.2.2.2.2.2.2.1 x.2.2.2.1.2.2.2.2.2.2.2.2.1 x.2.2.2.1.2.2.2.2.2.2.2.2.2.1 x.2.2.2.1.2.2.2.2.2.2.2.2.2.2.1 x.2.2.2.1.2.2.2.2.2.2.2.2.2.2.2.1 x.2.2.2.1.2.2.2.2.2.2.2.2.2.2.2.2.1 x.2.2.2.1.2.2.2.2.2.2.2.2.2.2.2.2.2.1 x.2.2.2.1.2.2.2.2.2.2.2.2.2.2.2.2.2.2.1 x.2.2.2.1.2.2.2.2.2.2.2.2.2.2.2.2.2.2.2.1 x.2.2.2.2.1.1 x.2.2.2.2.1.2.1 x.2.2.2.2.1.2.2.1 x.2.2.2.2.1.2.2.2.1 x.2.2.2.2.1.2.2.2.2.1 x.2.2.2.2.1.2.2.2.2.2.1 x.2.2.2.2.1.2.2.2.2.2.2.1 x.2.2.2.2.1.2.2.2.2.2.2.2.1 x.2.2.2.2.1.2.2.2.2.2.2.2.2.1 x.2.2.2.2.1.2.2.2.2.2.2.2.2.2.1 x.2.2.2.2.1.2.2.2.2.2.2.2.2.2.2.1 x.2.2.2.2.1.2.2.2.2.2.2.2.2.2.2.2.1 x.2.2.2.2.1.2.2.2.2.2.2.2.2.2.2.2.2.1 x.2.2.2.2.1.2.2.2.2.2.2.2.2.2.2.2.2.2.1 x.2.2.2.2.1.2.2.2.2.2.2.2.2.2.2.2.2.2.2.1 x.2.2.2.2.1.2.2.2.2.2.2.2.2.2.2.2.2.2.2.2.1) fuel
noncomputable def nfz' (p0 p1 p2 p3 : Int) (p4 p5 p6 : Nat) (p7 : List (Car)) (p8 : List (Int)) (p9 p10 : List (Bool)) (p11 : List (Entry)) (p12 p13 : ByteArray) (p14 : Int) : Option ((Unit × Int × Unit) × (T'25 × Unit)) :=
 (nh3' p0 p1 p2 p3 p4 p5 p6 p7 p8 p9 p10 p11).bind fun y1 =>
 bif (!y1.1.1) then
 some (((), (1 : Int), ()), ((([] : List (Int)), ([] : List (Bool)), ([] : List (Bool)), ([] : List (Entry)), (ByteArray.mk (Array.mk [])), (ByteArray.mk (Array.mk [])), (0 : Int), ([] : List (Debounced)), ([] : List (Belief)), ([] : List (NewCar)), ([] : List (Loaded)), ([] : List (Int)), ([] : List (Calls)), (0 : Int), (0 : Int), (0 : Int), ()), ()))
 else
 (ndf' p2 p12 p13 p14).bind fun y2 =>
 bif (!y2.1.1) then
 some (((), (1 : Int), ()), ((([] : List (Int)), ([] : List (Bool)), ([] : List (Bool)), ([] : List (Entry)), (ByteArray.mk (Array.mk [])), (ByteArray.mk (Array.mk [])), (0 : Int), ([] : List (Debounced)), ([] : List (Belief)), ([] : List (NewCar)), ([] : List (Loaded)), ([] : List (Int)), ([] : List (Calls)), (0 : Int), (0 : Int), (0 : Int), ()), ()))
 else
 let z0 : Int := ((List.length p7 : Nat) : Int)
 bif (((decide ((0 : Int) ≤ z0)) && (decide (z0 ≤ z0))) && (decide (z0 ≤ (2147483648 : Int)))) then
 bif (((decide ((0 : Int) ≤ z0)) && (decide (z0 ≤ z0))) && (decide (z0 ≤ (2147483648 : Int)))) then
 bif (((decide ((0 : Int) ≤ z0)) && (decide (z0 ≤ z0))) && (decide (z0 ≤ (2147483648 : Int)))) then
 bif (((decide ((0 : Int) ≤ z0)) && (decide (z0 ≤ z0))) && (decide (z0 ≤ (2147483648 : Int)))) then
 (nfn' (((), (), (), z0, (), (0 : Int), ()), ((p0, p1, p2, p3, p4, p5, p6, p7, ()), (p8, p9, p10, p11, ()), (([] : List (Int)), ([] : List (Bool)), ([] : List (Bool)), ([] : List (Entry)), (ByteArray.mk (Array.mk [])), (ByteArray.mk (Array.mk [])), (0 : Int), ([] : List (Debounced)), ([] : List (Belief)), ([] : List (NewCar)), ([] : List (Loaded)), ([] : List (Int)), ([] : List (Calls)), (0 : Int), (0 : Int), (0 : Int), ()), (p8, p9, p10, p11, p12, p13, p14, (List.replicate (Int.toNat z0) (Debounced.mk (0 : Int) false false false false (0 : Int) (0 : Int) (0 : Int) (0 : Int) (0 : Int) (0 : Int) (0 : Int) (0 : Int) (0 : Int) (0 : Int) (0 : Int) (0 : Int) (0 : Int) (0 : Int) (0 : Int) (0 : Int) (0 : Int) (0 : Int) (0 : Int) (0 : Int) (0 : Int) (0 : Int) (0 : Int) (0 : Int) (0 : Int) (0 : Int) (0 : Int) (0 : Int) (0 : Int) (0 : Int) (0 : Int) (0 : Int) (0 : Int) (0 : Int) (0 : Int) (0 : Int))), ([] : List (Belief)), (List.replicate (Int.toNat z0) (NewCar.mk (0 : Int) (0 : Int) (0 : Int) (0 : Int) (0 : Int) false (0 : Int) (0 : Int) (0 : Int) (0 : Int) (0 : Int) (0 : Int) (0 : Int) false)), (List.replicate (Int.toNat z0) (Loaded.mk (0 : Int))), ([] : List (Int)), (List.replicate (Int.toNat z0) (Calls.mk (0 : Int) (0 : Int))), (0 : Int), (0 : Int), (0 : Int), ()), ()))).bind fun y3 =>
 (nfl' (((), (), (), (), (0 : Int), ()), (y3.2.1, y3.2.2.1, y3.2.2.2.1, y3.2.2.2.2.1, ()))).bind fun y4 =>
 some (((), (0 : Int), ()), (y4.2.2.1, ()))
 else
 none
 else
 none
 else
 none
 else
 none
noncomputable def njf' (p0 p1 p2 p3 : Int) (p4 p5 p6 : Nat) (p7 : List (Car)) (p8 p9 : ByteArray) (p10 p11 : Int) : Option ((Bool × Unit) × Unit) :=
 Option.bind ((nc4' p0 p1 p2 p3 p4 p5 p6 p7).bind fun y1 =>
 bif (y1.1.1 == (0 : Int)) then
 (ndf' p2 p8 p9 p10).bind fun y2 =>
 bif y2.1.1 then
 some (((decide ((0 : Int) ≤ p11)), ()), ())
 else
 some ((false, ()), ())
 else
 some ((false, ()), ())) fun y3 =>
 some ((y3.1.1, ()), ())
noncomputable def nft' (p0 p1 : ByteArray) (p2 : Int) : Option ((ByteArray × Unit) × Unit) :=
 bif (p2 == (1 : Int)) then
 some ((p1, ()), ())
 else
 some ((p0, ()), ())
noncomputable def nie' (s : ByteArray) (r i k : Int) : Option (Sum (T'31 × Unit) (T'30 × Unit)) :=
 bif (decide (k < (8 : Int))) then
 let z0 : Int := (Int.tmod (IntKind.i64.wrap (r * (2 : Int))) (256 : Int))
 bif (decide ((128 : Int) ≤ r)) then
 some (Sum.inl ((s, (IntKind.i64.wrap (stk z0 (7 : Int) (BitVec.toNat ((BitVec.ofInt (IntKind.bits IntKind.i64) z0) ^^^ (BitVec.ofInt (IntKind.bits IntKind.i64) (7 : Int)))))), i, (IntKind.i64.wrap (k + (1 : Int))), ()), ()))
 else
 some (Sum.inl ((s, z0, i, (IntKind.i64.wrap (k + (1 : Int))), ()), ()))
 else
 some (Sum.inr ((s, r, i, ()), ()))
noncomputable def nh2' : (T'31 × Unit) → Option (T'30 × Unit) := iter (fun x => nie' x.1.1 x.1.2.1 x.1.2.2.1 x.1.2.2.2.1) fuel
noncomputable def ner' (s : ByteArray) (r i : Int) : Option (Sum (T'30 × Unit) ((Int × Unit) × Unit)) :=
 bif (decide (i < ((ByteArray.size s : Nat) : Int))) then
 bif (inB i (ByteArray.size s)) then
 let z0 : Int := (IntKind.i64.wrap (nct' s (Int.toNat i)))
 (nh2' ((s, (IntKind.i64.wrap (stk r z0 (BitVec.toNat ((BitVec.ofInt (IntKind.bits IntKind.i64) r) ^^^ (BitVec.ofInt (IntKind.bits IntKind.i64) z0))))), i, (0 : Int), ()), ())).bind fun y1 =>
 some (Sum.inl ((y1.1.1, y1.1.2.1, (IntKind.i64.wrap (y1.1.2.2.1 + (1 : Int))), ()), ()))
 else
 none
 else
 some (Sum.inr ((r, ()), ()))
noncomputable def nia' : (T'30 × Unit) → Option ((Int × Unit) × Unit) := iter (fun x => ner' x.1.1 x.1.2.1 x.1.2.2.1) fuel
noncomputable def niz' (s : ByteArray) : Option ((Int × Unit) × Unit) :=
 (nia' ((s, (0 : Int), (0 : Int), ()), ())).bind fun y1 =>
 some (((IntKind.u8.wrap y1.1.1), ()), ())
noncomputable def nh1' (p0 p1 p2 p3 : Int) (p4 p5 p6 : Nat) (p7 : List (Car)) (s : ByteArray) : Option ((Unit × Int × Unit) × (T'32 × Unit)) :=
 (nc4' p0 p1 p2 p3 p4 p5 p6 p7).bind fun y1 =>
 bif (y1.1.1 != (0 : Int)) then
 some (((), (1 : Int), ()), (((0 : Int), (0 : Int), (0 : Int), (0 : Int), (0 : Int), ()), ()))
 else
 bif (((ByteArray.size s : Nat) : Int) != (6 : Int)) then
 some (((), (4 : Int), ()), (((0 : Int), (0 : Int), (0 : Int), (0 : Int), (0 : Int), ()), ()))
 else
 bif (decide ((5 : Int) ≤ (((ByteArray.size s) : Nat) : Int))) then
 (niz' (ByteArray.extract s 0 5)).bind fun y2 =>
 bif (inB (5 : Int) (ByteArray.size s)) then
 bif (y2.1.1 != (nct' s (Int.toNat (5 : Int)))) then
 some (((), (5 : Int), ()), (((0 : Int), (0 : Int), (0 : Int), (0 : Int), (0 : Int), ()), ()))
 else
 bif (inB (0 : Int) (ByteArray.size s)) then
 let z0 : Int := (IntKind.i64.wrap (nct' s (Int.toNat (0 : Int))))
 bif (inB (1 : Int) (ByteArray.size s)) then
 let z1 : Int := (IntKind.i64.wrap (nct' s (Int.toNat (1 : Int))))
 bif (inB (2 : Int) (ByteArray.size s)) then
 let z2 : Int := (IntKind.i64.wrap (nct' s (Int.toNat (2 : Int))))
 bif (inB (3 : Int) (ByteArray.size s)) then
 let z3 : Int := (IntKind.i64.wrap ((IntKind.i64.wrap (nct' s (Int.toNat (3 : Int)))) - (2 : Int)))
 bif (inB (4 : Int) (ByteArray.size s)) then
 let z4 : Int := (IntKind.i64.wrap (nct' s (Int.toNat (4 : Int))))
 (nek' p0 p1 p2 p3 p4 p5 p6 p7 z0 z1 z2 z3 z4).bind fun y3 =>
 bif (!y3.1.1) then
 some (((), (9 : Int), ()), (((0 : Int), (0 : Int), (0 : Int), (0 : Int), (0 : Int), ()), ()))
 else
 some (((), (0 : Int), ()), ((z0, z1, z2, z3, z4, ()), ()))
 else
 none
 else
 none
 else
 none
 else
 none
 else
 none
 else
 none
 else
 none
noncomputable def nc7' (s : ByteArray) (out : List (Record)) (n p0 p1 p2 p3 : Int) (p4 p5 p6 : Nat) (p7 : List (Car)) : Option (Sum (T'34 × (T'0 × Unit)) (T'33 × Unit)) :=
 bif (decide ((IntKind.i64.wrap (n + (6 : Int))) ≤ ((ByteArray.size s : Nat) : Int))) then
 let z0 : Int := (IntKind.i64.wrap (n + (6 : Int)))
 bif ((decide ((0 : Int) ≤ z0)) && (decide (z0 ≤ (((ByteArray.size s) : Nat) : Int)))) then
 bif ((decide ((0 : Int) ≤ n)) && (decide (n ≤ (((Int.toNat z0) : Nat) : Int)))) then
 (nh1' p0 p1 p2 p3 p4 p5 p6 p7 (ByteArray.extract s (Int.toNat n) (Int.toNat z0))).bind fun y1 =>
 bif (y1.1.2.1 != (0 : Int)) then
 some (Sum.inr ((out, n, ()), ()))
 else
 let z1 : List (Record) := [(Record.mk y1.2.1.1 y1.2.1.2.1 y1.2.1.2.2.1 y1.2.1.2.2.2.1 y1.2.1.2.2.2.2.1)]
 bif (Nat.ble ((List.length out) + (List.length z1)) 2147483648) then
 some (Sum.inl ((s, (), (out ++ z1), (IntKind.i64.wrap (n + (6 : Int))), ()), ((p0, p1, p2, p3, p4, p5, p6, p7, ()), ())))
 else
 none
 else
 none
 else
 none
 else
 some (Sum.inr ((out, n, ()), ()))
noncomputable def nig' : (T'34 × (T'0 × Unit)) → Option (T'33 × Unit) := iter (fun x => nc7' x.1.1 x.1.2.2.1 x.1.2.2.2.1 x.2.1.1 x.2.1.2.1 x.2.1.2.2.1 x.2.1.2.2.2.1 x.2.1.2.2.2.2.1 x.2.1.2.2.2.2.2.1 x.2.1.2.2.2.2.2.2.1 x.2.1.2.2.2.2.2.2.2.1) fuel
noncomputable def nkj' (p0 p1 p2 p3 : Int) (p4 p5 p6 : Nat) (p7 : List (Car)) (s : ByteArray) : Option (T'33 × Unit) :=
 (nig' ((s, (), ([] : List (Record)), (0 : Int), ()), ((p0, p1, p2, p3, p4, p5, p6, p7, ()), ()))).bind fun y1 =>
 some ((y1.1.1, y1.1.2.1, ()), ())
noncomputable def ndp' (l : List (Record)) (i p0 p1 p2 p3 : Int) (p4 p5 p6 : Nat) (p7 : List (Car)) (p8 : List (Int)) (p9 p10 : List (Bool)) (p11 : List (Entry)) (p12 : List (Int)) (p13 p14 : List (Bool)) (p15 : List (Entry)) : Option (Sum (T'22 × T'23) ((Unit × Unit × Unit) × (T'14 × T'14 × Unit))) :=
 bif (decide (i < ((List.length l : Nat) : Int))) then
 bif (inB i (List.length l)) then
 let z0 : Record := (List.getD l (Int.toNat i) (Record.mk (0 : Int) (0 : Int) (0 : Int) (0 : Int) (0 : Int)))
 (nfw' p0 p1 p2 p3 p4 p5 p6 p7 p12 p13 p14 p15 z0.Kind z0.Floor z0.Dir z0.Car z0.Value).bind fun y1 =>
 some (Sum.inl (((), (), (), l, (IntKind.i64.wrap (i + (1 : Int))), ()), ((p0, p1, p2, p3, p4, p5, p6, p7, ()), (p8, p9, p10, p11, ()), y1.2.1, ())))
 else
 none
 else
 some (Sum.inr (((), (), ()), ((p8, p9, p10, p11, ()), (p12, p13, p14, p15, ()), ())))
noncomputable def ngo' : (T'22 × T'23) → Option ((Unit × Unit × Unit) × (T'14 × T'14 × Unit)) := iter (fun x => ndp' x.1.2.2.2.1 x.1.2.2.2.2.1 x.2.1.1 x.2.1.2.1 x.2.1.2.2.1 x.2.1.2.2.2.1 x.2.1.2.2.2.2.1 x.2.1.2.2.2.2.2.1 x.2.1.2.2.2.2.2.2.1 x.2.1.2.2.2.2.2.2.2.1 x.2.2.1.1 x.2.2.1.2.1 x.2.2.1.2.2.1 x.2.2.1.2.2.2.1 x.2.2.2.1.1 x.2.2.2.1.2.1 x.2.2.2.1.2.2.1 x.2.2.2.1.2.2.2.1) fuel
noncomputable def ngj' (p0 p1 p2 p3 : Int) (p4 p5 p6 : Nat) (p7 : List (Car)) (p8 p9 : ByteArray) (p10 : Int) : Option ((Unit × Unit) × (T'14 × Unit)) :=
 (nfp' p0 p1 p2 p3 p4 p5 p6 p7).bind fun y1 =>
 (nft' p8 p9 p10).bind fun y2 =>
 (nkj' p0 p1 p2 p3 p4 p5 p6 p7 y2.1.1).bind fun y3 =>
 (ngo' (((), (), (), y3.1.1, (0 : Int), ()), ((p0, p1, p2, p3, p4, p5, p6, p7, ()), (([] : List (Int)), ([] : List (Bool)), ([] : List (Bool)), ([] : List (Entry)), ()), y1.2.1, ()))).bind fun y4 =>
 some (((), ()), (y4.2.2.1, ()))
noncomputable def nf2' (p0 : Int) (p1 p2 : ByteArray) (p3 p4 p5 : Int) : Option ((Int × Unit) × Unit) :=
 (ndf' p0 p1 p2 p3).bind fun y1 =>
 bif (!y1.1.1) then
 some (((1 : Int), ()), ())
 else
 Option.bind (bif (p4 != (0 : Int)) then
 bif (p4 != (1 : Int)) then
 some ((true, ()), ())
 else
 some (((decide (p5 < (0 : Int))), ()), ())
 else
 some (((decide (p5 < (0 : Int))), ()), ())) fun y2 =>
 bif y2.1.1 then
 some (((2 : Int), ()), ())
 else
 some (((0 : Int), ()), ())
noncomputable def njj' (p0 : Int) (p1 p2 : ByteArray) (p3 p4 p5 : Int) : Option ((Unit × Int × Int × Unit) × (T'35 × Unit)) :=
 (nf2' p0 p1 p2 p3 p4 p5).bind fun y1 =>
 bif (y1.1.1 != (0 : Int)) then
 some (((), (0 : Int), y1.1.1, ()), (((ByteArray.mk (Array.mk [])), (ByteArray.mk (Array.mk [])), (0 : Int), ()), ()))
 else
 bif (p5 == (0 : Int)) then
 some (((), (0 : Int), (8 : Int), ()), ((p1, p2, p3, ()), ()))
 else
 bif (inB p4 2) then
 let z0 : Nat := (Int.toNat p4)
 some (((), (IntKind.i64.wrap (p5 - (1 : Int))), (0 : Int), ()), (((bif (Nat.beq z0 0) then (ByteArray.mk (Array.mk [])) else p1), (bif (Nat.beq z0 1) then (ByteArray.mk (Array.mk [])) else p2), p3, ()), ()))
 else
 none
noncomputable def nhx' (b : Bool) : Option ((Int × Unit) × Unit) :=
 bif b then
 some (((1 : Int), ()), ())
 else
 some (((0 : Int), ()), ())
noncomputable def ncz' (out : List (Record)) (i : Int) (p0 : List (Int)) (p1 p2 : List (Bool)) (p3 : List (Entry)) : Option (Sum (T'36 × (T'14 × Unit)) ((List (Record) × Unit) × Unit)) :=
 bif (decide (i < ((List.length p3 : Nat) : Int))) then
 bif (inB i (List.length p3)) then
 let z0 : Entry := (List.getD p3 (Int.toNat i) (Entry.mk (0 : Int) (0 : Int) (0 : Int) (0 : Int) false))
 (nhx' z0.Moved).bind fun y1 =>
 let z1 : List (Record) := [(Record.mk (1 : Int) z0.Floor z0.Dir (0 : Int) (0 : Int)), (Record.mk (3 : Int) z0.Floor z0.Dir z0.Car (0 : Int)), (Record.mk (7 : Int) z0.Floor z0.Dir y1.1.1 z0.Moves)]
 bif (Nat.ble ((List.length out) + (List.length z1)) 2147483648) then
 some (Sum.inl (((), (out ++ z1), (IntKind.i64.wrap (i + (1 : Int))), ()), ((p0, p1, p2, p3, ()), ())))
 else
 none
 else
 none
 else
 some (Sum.inr ((out, ()), ()))
noncomputable def nfd' : (T'36 × (T'14 × Unit)) → Option ((List (Record) × Unit) × Unit) := iter (fun x => ncz' x.1.2.1 x.1.2.2.1 x.2.1.1 x.2.1.2.1 x.2.1.2.2.1 x.2.1.2.2.2.1) fuel
noncomputable def nc1' (out : List (Record)) (i : Int) (p0 : List (Int)) (p1 p2 : List (Bool)) (p3 : List (Entry)) : Option (Sum (T'36 × (T'14 × Unit)) (T'37 × (T'14 × Unit))) :=
 bif (decide (i < ((List.length p0 : Nat) : Int))) then
 bif (inB i (List.length p0)) then
 bif (inB i (List.length p1)) then
 (nhx' (List.getD p1 (Int.toNat i) false)).bind fun y1 =>
 bif (inB i (List.length p2)) then
 (nhx' (List.getD p2 (Int.toNat i) false)).bind fun y2 =>
 let z0 : List (Record) := [(Record.mk (4 : Int) (0 : Int) (0 : Int) i (List.getD p0 (Int.toNat i) (0 : Int))), (Record.mk (5 : Int) (0 : Int) (0 : Int) i y1.1.1), (Record.mk (6 : Int) (0 : Int) (0 : Int) i y2.1.1)]
 bif (Nat.ble ((List.length out) + (List.length z0)) 2147483648) then
 some (Sum.inl (((), (out ++ z0), (IntKind.i64.wrap (i + (1 : Int))), ()), ((p0, p1, p2, p3, ()), ())))
 else
 none
 else
 none
 else
 none
 else
 none
 else
 some (Sum.inr (((), out, ()), ((p0, p1, p2, p3, ()), ())))
noncomputable def nfe' : (T'36 × (T'14 × Unit)) → Option (T'37 × (T'14 × Unit)) := iter (fun x => nc1' x.1.2.1 x.1.2.2.1 x.2.1.1 x.2.1.2.1 x.2.1.2.2.1 x.2.1.2.2.2.1) fuel
noncomputable def ngp' (p0 p1 p2 p3 : Int) (p4 p5 p6 : Nat) (p7 : List (Car)) (p8 : List (Int)) (p9 p10 : List (Bool)) (p11 : List (Entry)) : Option ((List (Record) × Unit) × Unit) :=
 (nce' p0 p1 p2 p3 p4 p5 p6 p7 p8 p9 p10 p11).bind fun y1 =>
 bif (!y1.1.1) then
 some ((([] : List (Record)), ()), ())
 else
 (nfe' (((), ([] : List (Record)), (0 : Int), ()), ((p8, p9, p10, p11, ()), ()))).bind fun y2 =>
 (nfd' (((), y2.1.2.1, (0 : Int), ()), (y2.2.1, ()))).bind fun y3 =>
 some ((y3.1.1, ()), ())
noncomputable def nil' (p0 p1 p2 p3 : Int) (p4 p5 p6 : Nat) (p7 : List (Car)) (p8 p9 p10 p11 p12 : Int) : Option ((ByteArray × Int × Unit) × Unit) :=
 (nek' p0 p1 p2 p3 p4 p5 p6 p7 p8 p9 p10 p11 p12).bind fun y1 =>
 bif (!y1.1.1) then
 some (((ByteArray.mk (Array.mk [])), (1 : Int), ()), ())
 else
 let z0 : ByteArray := (textU [(IntKind.u8.wrap p8), (IntKind.u8.wrap p9), (IntKind.u8.wrap p10), (IntKind.u8.wrap (IntKind.i64.wrap (p11 + (2 : Int)))), (IntKind.u8.wrap p12)])
 (niz' z0).bind fun y2 =>
 let z1 : ByteArray := (textU [y2.1.1])
 bif (Nat.ble ((ByteArray.size z0) + (ByteArray.size z1)) 4611686018427387904) then
 some (((z0 ++ z1), (0 : Int), ()), ())
 else
 none
noncomputable def nd3' (l : List (Record)) (s : ByteArray) (i p0 p1 p2 p3 : Int) (p4 p5 p6 : Nat) (p7 : List (Car)) : Option (Sum (T'38 × (T'0 × Unit)) ((ByteArray × Unit) × Unit)) :=
 bif (decide (i < ((List.length l : Nat) : Int))) then
 bif (inB i (List.length l)) then
 let z0 : Record := (List.getD l (Int.toNat i) (Record.mk (0 : Int) (0 : Int) (0 : Int) (0 : Int) (0 : Int)))
 (nil' p0 p1 p2 p3 p4 p5 p6 p7 z0.Kind z0.Floor z0.Dir z0.Car z0.Value).bind fun y1 =>
 bif (Nat.ble ((ByteArray.size s) + (ByteArray.size y1.1.1)) 4611686018427387904) then
 some (Sum.inl ((l, (), (s ++ y1.1.1), (IntKind.i64.wrap (i + (1 : Int))), ()), ((p0, p1, p2, p3, p4, p5, p6, p7, ()), ())))
 else
 none
 else
 none
 else
 some (Sum.inr ((s, ()), ()))
noncomputable def nhd' : (T'38 × (T'0 × Unit)) → Option ((ByteArray × Unit) × Unit) := iter (fun x => nd3' x.1.1 x.1.2.2.1 x.1.2.2.2.1 x.2.1.1 x.2.1.2.1 x.2.1.2.2.1 x.2.1.2.2.2.1 x.2.1.2.2.2.2.1 x.2.1.2.2.2.2.2.1 x.2.1.2.2.2.2.2.2.1 x.2.1.2.2.2.2.2.2.2.1) fuel
noncomputable def ngx' (p0 p1 p2 p3 : Int) (p4 p5 p6 : Nat) (p7 : List (Car)) (l : List (Record)) : Option ((ByteArray × Unit) × Unit) :=
 (nhd' ((l, (), (ByteArray.mk (Array.mk [])), (0 : Int), ()), ((p0, p1, p2, p3, p4, p5, p6, p7, ()), ()))).bind fun y1 =>
 some ((y1.1.1, ()), ())
noncomputable def nbu' (p0 : Int) (p1 : ByteArray) (p2 i : Int) (p3 p4 : ByteArray) (p5 : Int) (p6 p7 : ByteArray) (p8 : Int) : Option (Sum (T'39 × (T'35 × T'35 × Unit)) ((T'40 × (T'35 × T'35 × Unit)) ⊕ ((Unit × Int × Int × Unit) × (T'35 × Unit)))) :=
 bif (decide (i < ((ByteArray.size p1 : Nat) : Int))) then
 bif (p2 == (0 : Int)) then
 some (Sum.inr (Sum.inr (((), (0 : Int), (8 : Int), ()), ((p3, p4, p5, ()), ()))))
 else
 bif (inB p0 2) then
 let z0 : ByteArray := (List.getD [p3, p4] (Int.toNat p0) (ByteArray.mk (Array.mk [])))
 let z1 : Int := (IntKind.i64.wrap (i + (1 : Int)))
 bif ((decide ((0 : Int) ≤ z1)) && (decide (z1 ≤ (((ByteArray.size p1) : Nat) : Int)))) then
 bif ((decide ((0 : Int) ≤ i)) && (decide (i ≤ (((Int.toNat z1) : Nat) : Int)))) then
 let z2 : ByteArray := (ByteArray.extract p1 (Int.toNat i) (Int.toNat z1))
 bif (Nat.ble ((ByteArray.size z0) + (ByteArray.size z2)) 4611686018427387904) then
 let z3 : ByteArray := (z0 ++ z2)
 bif (inB p0 2) then
 let z4 : Nat := (Int.toNat p0)
 some (Sum.inl ((p0, p1, (IntKind.i64.wrap (p2 - (1 : Int))), (), (), (IntKind.i64.wrap (i + (1 : Int))), ()), (((bif (Nat.beq z4 0) then z3 else p3), (bif (Nat.beq z4 1) then z3 else p4), p5, ()), (p6, p7, p8, ()), ())))
 else
 none
 else
 none
 else
 none
 else
 none
 else
 none
 else
 some (Sum.inr (Sum.inl ((p2, (), (), ()), ((p3, p4, p5, ()), (p6, p7, p8, ()), ()))))
noncomputable def nfu' : (T'39 × (T'35 × T'35 × Unit)) → Option ((T'40 × (T'35 × T'35 × Unit)) ⊕ ((Unit × Int × Int × Unit) × (T'35 × Unit))) := iter (fun x => nbu' x.1.1 x.1.2.1 x.1.2.2.1 x.1.2.2.2.2.2.1 x.2.1.1 x.2.1.2.1 x.2.1.2.2.1 x.2.2.1.1 x.2.2.1.2.1 x.2.2.1.2.2.1) fuel
noncomputable def ng1' (p0 : Int) (p1 p2 : ByteArray) (p3 p4 : Int) (p5 : ByteArray) (p6 : Int) : Option ((Unit × Int × Int × Unit) × (T'35 × Unit)) :=
 (nf2' p0 p1 p2 p3 p4 p6).bind fun y1 =>
 bif (y1.1.1 != (0 : Int)) then
 some (((), (0 : Int), y1.1.1, ()), (((ByteArray.mk (Array.mk [])), (ByteArray.mk (Array.mk [])), (0 : Int), ()), ()))
 else
 bif (inB p4 2) then
 bif (decide (p0 < (IntKind.i64.wrap (((ByteArray.size (List.getD [p1, p2] (Int.toNat p4) (ByteArray.mk (Array.mk []))) : Nat) : Int) + ((ByteArray.size p5 : Nat) : Int))))) then
 some (((), (0 : Int), (7 : Int), ()), (((ByteArray.mk (Array.mk [])), (ByteArray.mk (Array.mk [])), (0 : Int), ()), ()))
 else
 (nfu' ((p4, p5, p6, (), (), (0 : Int), ()), ((p1, p2, p3, ()), ((ByteArray.mk (Array.mk [])), (ByteArray.mk (Array.mk [])), (0 : Int), ()), ()))).bind fun y2 =>
 (match y2 with
 | .inl y3 =>
 some (((), y3.1.1, (0 : Int), ()), (y3.2.1, ()))
 | .inr y3 =>
 some (((), y3.1.2.1, y3.1.2.2.1, ()), (y3.2.1, ())))
 else
 none
noncomputable def nik' (p0 : Int) (p1 p2 : ByteArray) (p3 p4 p5 : Int) : Option ((Unit × Int × Int × Unit) × (T'35 × Unit)) :=
 (nf2' p0 p1 p2 p3 p4 p5).bind fun y1 =>
 bif (y1.1.1 != (0 : Int)) then
 some (((), (0 : Int), y1.1.1, ()), (((ByteArray.mk (Array.mk [])), (ByteArray.mk (Array.mk [])), (0 : Int), ()), ()))
 else
 bif (p5 == (0 : Int)) then
 some (((), (0 : Int), (8 : Int), ()), ((p1, p2, p3, ()), ()))
 else
 some (((), (IntKind.i64.wrap (p5 - (1 : Int))), (0 : Int), ()), ((p1, p2, p4, ()), ()))
noncomputable def nfs' (p0 p1 p2 p3 : Int) (p4 p5 p6 : Nat) (p7 : List (Car)) (p8 p9 : ByteArray) (p10 : Int) (p11 : List (Int)) (p12 p13 : List (Bool)) (p14 : List (Entry)) (p15 : Int) : Option ((Unit × Int × Int × Unit) × (T'35 × Unit)) :=
 (njf' p0 p1 p2 p3 p4 p5 p6 p7 p8 p9 p10 p15).bind fun y1 =>
 bif (!y1.1.1) then
 some (((), (0 : Int), (1 : Int), ()), (((ByteArray.mk (Array.mk [])), (ByteArray.mk (Array.mk [])), (0 : Int), ()), ()))
 else
 (nce' p0 p1 p2 p3 p4 p5 p6 p7 p11 p12 p13 p14).bind fun y2 =>
 bif (!y2.1.1) then
 some (((), (0 : Int), (1 : Int), ()), (((ByteArray.mk (Array.mk [])), (ByteArray.mk (Array.mk [])), (0 : Int), ()), ()))
 else
 let z0 : Int := (IntKind.i64.wrap ((1 : Int) - p10))
 (njj' p2 p8 p9 p10 z0 p15).bind fun y3 =>
 bif (y3.1.2.2.1 != (0 : Int)) then
 some (((), (0 : Int), y3.1.2.2.1, ()), (y3.2.1, ()))
 else
 (ngp' p0 p1 p2 p3 p4 p5 p6 p7 p11 p12 p13 p14).bind fun y4 =>
 (ngx' p0 p1 p2 p3 p4 p5 p6 p7 y4.1.1).bind fun y5 =>
 (ng1' p2 y3.2.1.1 y3.2.1.2.1 y3.2.1.2.2.1 z0 y5.1.1 y3.1.2.1).bind fun y6 =>
 bif (y6.1.2.2.1 != (0 : Int)) then
 some (((), (0 : Int), y6.1.2.2.1, ()), (y6.2.1, ()))
 else
 (nik' p2 y6.2.1.1 y6.2.1.2.1 y6.2.1.2.2.1 z0 y6.1.2.1).bind fun y7 =>
 some (((), y7.1.2.1, y7.1.2.2.1, ()), (y7.2.1, ()))
noncomputable def ng9' (p0 p1 p2 p3 : Int) (p4 p5 p6 : Nat) (p7 : List (Car)) (p8 p9 : ByteArray) (p10 p11 : Int) : Option (T'16 × (T'35 × T'14 × Unit)) :=
 (njf' p0 p1 p2 p3 p4 p5 p6 p7 p8 p9 p10 p11).bind fun y1 =>
 bif (!y1.1.1) then
 some (((), (), (0 : Int), (1 : Int), ()), (((ByteArray.mk (Array.mk [])), (ByteArray.mk (Array.mk [])), (0 : Int), ()), (([] : List (Int)), ([] : List (Bool)), ([] : List (Bool)), ([] : List (Entry)), ()), ()))
 else
 (ngj' p0 p1 p2 p3 p4 p5 p6 p7 p8 p9 p10).bind fun y2 =>
 (nfs' p0 p1 p2 p3 p4 p5 p6 p7 p8 p9 p10 y2.2.1.1 y2.2.1.2.1 y2.2.1.2.2.1 y2.2.1.2.2.2.1 p11).bind fun y3 =>
 bif (y3.1.2.2.1 != (0 : Int)) then
 some (((), (), (0 : Int), y3.1.2.2.1, ()), (y3.2.1, (([] : List (Int)), ([] : List (Bool)), ([] : List (Bool)), ([] : List (Entry)), ()), ()))
 else
 some (((), (), y3.1.2.1, (0 : Int), ()), (y3.2.1, y2.2.1, ()))
noncomputable def niq' (p0 p1 p2 p3 : Int) (p4 p5 p6 : Nat) (p7 : List (Car)) (p8 p9 : ByteArray) (p10 p11 : Int) : Option ((Unit × Int × Int × Unit) × (T'25 × Unit)) :=
 (ng9' p0 p1 p2 p3 p4 p5 p6 p7 p8 p9 p10 p11).bind fun y1 =>
 bif (y1.1.2.2.2.1 != (0 : Int)) then
 some (((), (0 : Int), y1.1.2.2.2.1, ()), ((([] : List (Int)), ([] : List (Bool)), ([] : List (Bool)), ([] : List (Entry)), y1.2.1.1, y1.2.1.2.1, y1.2.1.2.2.1, ([] : List (Debounced)), ([] : List (Belief)), ([] : List (NewCar)), ([] : List (Loaded)), ([] : List (Int)), ([] : List (Calls)), (0 : Int), (0 : Int), (0 : Int), ()), ()))
 else
 Option.bind (some (((), (), (), (), y1.1.2.2.1, ()), ((p0, p1, p2, p3, p4, p5, p6, p7, ()), (([] : List (Int)), ([] : List (Bool)), ([] : List (Bool)), ([] : List (Entry)), (ByteArray.mk (Array.mk [])), (ByteArray.mk (Array.mk [])), (0 : Int), ([] : List (Debounced)), ([] : List (Belief)), ([] : List (NewCar)), ([] : List (Loaded)), ([] : List (Int)), ([] : List (Calls)), (0 : Int), (0 : Int), (0 : Int), ()), y1.2.1, y1.2.2.1, ()))) fun y2 =>
 (nfz' y2.2.1.1 y2.2.1.2.1 y2.2.1.2.2.1 y2.2.1.2.2.2.1 y2.2.1.2.2.2.2.1 y2.2.1.2.2.2.2.2.1 y2.2.1.2.2.2.2.2.2.1 y2.2.1.2.2.2.2.2.2.2.1 y2.2.2.2.2.1.1 y2.2.2.2.2.1.2.1 y2.2.2.2.2.1.2.2.1 y2.2.2.2.2.1.2.2.2.1 y2.2.2.2.1.1 y2.2.2.2.1.2.1 y2.2.2.2.1.2.2.1).bind fun y3 =>
 bif (y3.1.2.1 != (0 : Int)) then
 some (((), (0 : Int), y3.1.2.1, ()), ((([] : List (Int)), ([] : List (Bool)), ([] : List (Bool)), ([] : List (Entry)), (ByteArray.mk (Array.mk [])), (ByteArray.mk (Array.mk [])), (0 : Int), ([] : List (Debounced)), ([] : List (Belief)), ([] : List (NewCar)), ([] : List (Loaded)), ([] : List (Int)), ([] : List (Calls)), (0 : Int), (0 : Int), (0 : Int), ()), ()))
 else
 some (((), y2.1.2.2.2.2.1, (0 : Int), ()), (y3.2.1, ()))
noncomputable def nkc' (p0 : List (Int)) (p1 p2 : List (Bool)) (p3 : List (Entry)) (car : Int) : Option ((Bool × Unit) × Unit) :=
 Option.bind (bif (decide ((0 : Int) ≤ car)) then
 let z0 : Int := ((List.length p0 : Nat) : Int)
 let z1 : Int := ((List.length p1 : Nat) : Int)
 let z2 : Int := ((List.length p2 : Nat) : Int)
 some (((decide (car < (bif (decide (z2 < (bif (decide (z1 < z0)) then z1 else z0))) then z2 else (bif (decide (z1 < z0)) then z1 else z0)))), ()), ())
 else
 some ((false, ()), ())) fun y1 =>
 some ((y1.1.1, ()), ())
noncomputable def nf5' (p0 : List (Int)) (p1 p2 : List (Bool)) (p3 : List (Entry)) (car : Int) : Option ((Bool × Unit) × Unit) :=
 (nkc' p0 p1 p2 p3 car).bind fun y1 =>
 bif (!y1.1.1) then
 some ((false, ()), ())
 else
 bif (inB car (List.length p0)) then
 let z0 : Int := (List.getD p0 (Int.toNat car) (0 : Int))
 Option.bind (bif (z0 == (0 : Int)) then
 some ((true, ()), ())
 else
 bif (z0 == (1 : Int)) then
 some ((true, ()), ())
 else
 some (((z0 == (4 : Int)), ()), ())) fun y2 =>
 some ((y2.1.1, ()), ())
 else
 none
noncomputable def nc2' (s6 : List (Entry)) (s7 s8 : Int) (p0 : List (Int)) (p1 p2 : List (Bool)) (p3 : List (Entry)) : Option (Sum (T'41 × (T'14 × Unit)) ((Unit × Unit) ⊕ ((Bool × Unit) × Unit))) :=
 bif (decide (s8 < s7)) then
 bif (inB s8 (List.length s6)) then
 let z0 : Entry := (List.getD s6 (Int.toNat s8) (Entry.mk (0 : Int) (0 : Int) (0 : Int) (0 : Int) false))
 bif (z0.Car == (-1 : Int)) then
 some (Sum.inl (((), s6, s7, (IntKind.i64.wrap (s8 + (1 : Int))), ()), ((p0, p1, p2, p3, ()), ())))
 else
 bif (z0.Car == (-2 : Int)) then
 some (Sum.inl (((), s6, s7, (IntKind.i64.wrap (s8 + (1 : Int))), ()), ((p0, p1, p2, p3, ()), ())))
 else
 (nf5' p0 p1 p2 p3 z0.Car).bind fun y1 =>
 bif (!y1.1.1) then
 some (Sum.inr (Sum.inr ((false, ()), ())))
 else
 bif (inB z0.Car (List.length p1)) then
 bif (List.getD p1 (Int.toNat z0.Car) false) then
 some (Sum.inr (Sum.inr ((false, ()), ())))
 else
 some (Sum.inl (((), s6, s7, (IntKind.i64.wrap (s8 + (1 : Int))), ()), ((p0, p1, p2, p3, ()), ())))
 else
 none
 else
 none
 else
 some (Sum.inr (Sum.inl ((), ())))
noncomputable def nhj' : (T'41 × (T'14 × Unit)) → Option ((Unit × Unit) ⊕ ((Bool × Unit) × Unit)) := iter (fun x => nc2' x.1.2.1 x.1.2.2.1 x.1.2.2.2.1 x.2.1.1 x.2.1.2.1 x.2.1.2.2.1 x.2.1.2.2.2.1) fuel
noncomputable def neq' (p0 : List (Int)) (p1 p2 : List (Bool)) (p3 : List (Entry)) : Option ((Bool × Unit) × Unit) :=
 (nhj' (((), p3, ((List.length p3 : Nat) : Int), (0 : Int), ()), ((p0, p1, p2, p3, ()), ()))).bind fun y1 =>
 (match y1 with
 | .inl y2 =>
 some ((true, ()), ())
 | .inr y2 =>
 some ((y2.1.1, ()), ()))
noncomputable def nou' (p0 : List (Int)) (p1 p2 : List (Bool)) (p3 : List (Entry)) (car : Int) : Option ((Bool × Unit) × Unit) :=
 Option.bind (bif (decide ((0 : Int) ≤ car)) then
 bif (decide (car < ((List.length p0 : Nat) : Int))) then
 bif (decide (car < ((List.length p1 : Nat) : Int))) then
 some (((decide (car < ((List.length p2 : Nat) : Int))), ()), ())
 else
 some ((false, ()), ())
 else
 some ((false, ()), ())
 else
 some ((false, ()), ())) fun y1 =>
 some ((y1.1.1, ()), ())
noncomputable def nhf' (p0 : List (Int)) (p1 p2 : List (Bool)) (p3 : List (Entry)) (car : Int) : Option ((Bool × Unit) × Unit) :=
 Option.bind ((nou' p0 p1 p2 p3 car).bind fun y1 =>
 bif y1.1.1 then
 bif (inB car (List.length p0)) then
 bif ((List.getD p0 (Int.toNat car) (0 : Int)) == (0 : Int)) then
 some ((true, ()), ())
 else
 bif (inB car (List.length p0)) then
 bif ((List.getD p0 (Int.toNat car) (0 : Int)) == (1 : Int)) then
 some ((true, ()), ())
 else
 bif (inB car (List.length p0)) then
 some ((((List.getD p0 (Int.toNat car) (0 : Int)) == (4 : Int)), ()), ())
 else
 none
 else
 none
 else
 none
 else
 some ((false, ()), ())) fun y2 =>
 some ((y2.1.1, ()), ())
noncomputable def ndq' (i : Int) (p0 : List (Int)) (p1 p2 : List (Bool)) (p3 : List (Entry)) : Option (Sum ((Unit × Int × Unit) × (T'14 × Unit)) ((Unit × Unit) ⊕ ((Bool × Unit) × Unit))) :=
 bif (decide (i < ((List.length p3 : Nat) : Int))) then
 bif (inB i (List.length p3)) then
 let z0 : Entry := (List.getD p3 (Int.toNat i) (Entry.mk (0 : Int) (0 : Int) (0 : Int) (0 : Int) false))
 bif (z0.Car == (-1 : Int)) then
 some (Sum.inl (((), (IntKind.i64.wrap (i + (1 : Int))), ()), ((p0, p1, p2, p3, ()), ())))
 else
 bif (z0.Car == (-2 : Int)) then
 some (Sum.inl (((), (IntKind.i64.wrap (i + (1 : Int))), ()), ((p0, p1, p2, p3, ()), ())))
 else
 (nhf' p0 p1 p2 p3 z0.Car).bind fun y1 =>
 bif (!y1.1.1) then
 some (Sum.inr (Sum.inr ((false, ()), ())))
 else
 bif (inB z0.Car (List.length p1)) then
 bif (List.getD p1 (Int.toNat z0.Car) false) then
 some (Sum.inr (Sum.inr ((false, ()), ())))
 else
 some (Sum.inl (((), (IntKind.i64.wrap (i + (1 : Int))), ()), ((p0, p1, p2, p3, ()), ())))
 else
 none
 else
 none
 else
 some (Sum.inr (Sum.inl ((), ())))
noncomputable def njh' : ((Unit × Int × Unit) × (T'14 × Unit)) → Option ((Unit × Unit) ⊕ ((Bool × Unit) × Unit)) := iter (fun x => ndq' x.1.2.1 x.2.1.1 x.2.1.2.1 x.2.1.2.2.1 x.2.1.2.2.2.1) fuel
noncomputable def ngd' (p0 : List (Int)) (p1 p2 : List (Bool)) (p3 : List (Entry)) : Option ((Bool × Unit) × Unit) :=
 (njh' (((), (0 : Int), ()), ((p0, p1, p2, p3, ()), ()))).bind fun y1 =>
 (match y1 with
 | .inl y2 =>
 some ((true, ()), ())
 | .inr y2 =>
 some ((y2.1.1, ()), ()))
noncomputable def n5' (lo hi : Int) (s9 : List (Int)) (s10 s11 : Int) : Option (Sum (T'42 × Unit) ((Unit × Unit) ⊕ ((Bool × Unit) × Unit))) :=
 bif (decide (s11 < s10)) then
 bif (inB s11 (List.length s9)) then
 let z0 : Int := (List.getD s9 (Int.toNat s11) (0 : Int))
 bif (decide (z0 < lo)) then
 some (Sum.inr (Sum.inr ((false, ()), ())))
 else
 bif (decide (hi < z0)) then
 some (Sum.inr (Sum.inr ((false, ()), ())))
 else
 some (Sum.inl ((lo, hi, s9, s10, (IntKind.i64.wrap (s11 + (1 : Int))), ()), ()))
 else
 none
 else
 some (Sum.inr (Sum.inl ((), ())))
noncomputable def ndw' : (T'42 × Unit) → Option ((Unit × Unit) ⊕ ((Bool × Unit) × Unit)) := iter (fun x => n5' x.1.1 x.1.2.1 x.1.2.2.1 x.1.2.2.2.1 x.1.2.2.2.2.1) fuel
noncomputable def ny' (lo hi : Int) (l : List (Int)) : Option ((Bool × Unit) × Unit) :=
 (ndw' ((lo, hi, l, ((List.length l : Nat) : Int), (0 : Int), ()), ())).bind fun y1 =>
 (match y1 with
 | .inl y2 =>
 some ((true, ()), ())
 | .inr y2 =>
 some ((y2.1.1, ()), ()))
noncomputable def nfh' (p0 p1 p2 p3 p4 p5 p6 p7 p8 p9 : Int) : Option ((Bool × Unit) × Unit) :=
 Option.bind ((ny' (1 : Int) (10000 : Int) [p0, p1, p2, p4, p5, p6, p7]).bind fun y1 =>
 bif y1.1.1 then
 (ny' (0 : Int) (10000 : Int) [p3]).bind fun y2 =>
 bif y2.1.1 then
 bif (decide (p6 ≤ p7)) then
 (ny' (0 : Int) (IntKind.i64.wrap (p9 - (1 : Int))) [p8]).bind fun y3 =>
 some ((y3.1.1, ()), ())
 else
 some ((false, ()), ())
 else
 some ((false, ()), ())
 else
 some ((false, ()), ())) fun y4 =>
 some ((y4.1.1, ()), ())
noncomputable def nfa' (p0 p1 p2 p3 : Int) (p4 p5 p6 : Nat) (p7 : List (Car)) : Option ((Bool × Unit) × Unit) :=
 Option.bind (bif (((FloatKind.format FloatKind.f64).order 0 p4) == some Ordering.lt) then
 bif (((FloatKind.format FloatKind.f64).order p4 p5) == some Ordering.lt) then
 bif (((FloatKind.format FloatKind.f64).order p5 p6) == some Ordering.lt) then
 some (((((FloatKind.format FloatKind.f64).order p6 9218868437227405311) == some Ordering.lt || ((FloatKind.format FloatKind.f64).order p6 9218868437227405311) == some Ordering.eq), ()), ())
 else
 some ((false, ()), ())
 else
 some ((false, ()), ())
 else
 some ((false, ()), ())) fun y1 =>
 some ((y1.1.1, ()), ())
noncomputable def ncg' (p0 : Bool) (s28 : List (Car)) (s29 s30 p1 p2 p3 p4 : Int) (p5 p6 p7 : Nat) (p8 : List (Car)) : Option (Sum (T'43 × (T'0 × Unit)) ((Unit × Bool × Unit) × (T'0 × Unit))) :=
 bif (decide (s30 < s29)) then
 bif (inB s30 (List.length s28)) then
 let z0 : Car := (List.getD s28 (Int.toNat s30) (Car.mk (0 : Int) (0 : Int) (0 : Int) (0 : Int) (0 : Int) (0 : Int) (0 : Int) (0 : Int) (0 : Int)))
 Option.bind (bif p0 then
 (nfh' z0.Deadline z0.Pulse z0.Quiet z0.Slack z0.Step z0.Travel z0.Dwell z0.Hold z0.Home p1).bind fun y1 =>
 some (((), y1.1.1, s28, s29, s30, ()), ((p1, p2, p3, p4, p5, p6, p7, p8, ()), ()))
 else
 some (((), false, s28, s29, s30, ()), ((p1, p2, p3, p4, p5, p6, p7, p8, ()), ()))) fun y2 =>
 some (Sum.inl (((), y2.1.2.1, y2.1.2.2.1, y2.1.2.2.2.1, (IntKind.i64.wrap (y2.1.2.2.2.2.1 + (1 : Int))), ()), (y2.2.1, ())))
 else
 none
 else
 some (Sum.inr (((), p0, ()), ((p1, p2, p3, p4, p5, p6, p7, p8, ()), ())))
noncomputable def nea' : (T'43 × (T'0 × Unit)) → Option ((Unit × Bool × Unit) × (T'0 × Unit)) := iter (fun x => ncg' x.1.2.1 x.1.2.2.1 x.1.2.2.2.1 x.1.2.2.2.2.1 x.2.1.1 x.2.1.2.1 x.2.1.2.2.1 x.2.1.2.2.2.1 x.2.1.2.2.2.2.1 x.2.1.2.2.2.2.2.1 x.2.1.2.2.2.2.2.2.1 x.2.1.2.2.2.2.2.2.2.1) fuel
noncomputable def nbs' (p0 p1 p2 p3 : Int) (p4 p5 p6 : Nat) (p7 : List (Car)) : Option ((Int × Unit) × Unit) :=
 (ny' (2 : Int) (32 : Int) [p0]).bind fun y1 =>
 bif (!y1.1.1) then
 some (((10 : Int), ()), ())
 else
 (ny' (1 : Int) (8 : Int) [((List.length p7 : Nat) : Int)]).bind fun y2 =>
 bif (!y2.1.1) then
 some (((11 : Int), ()), ())
 else
 Option.bind ((ny' (1 : Int) (16 : Int) [p1]).bind fun y3 =>
 bif y3.1.1 then
 (ny' (1 : Int) (10000 : Int) [p3]).bind fun y4 =>
 some (((), y4.1.1, ()), ((p0, p1, p2, p3, p4, p5, p6, p7, ()), ()))
 else
 some (((), false, ()), ((p0, p1, p2, p3, p4, p5, p6, p7, ()), ()))) fun y5 =>
 (nea' (((), y5.1.2.1, y5.2.1.2.2.2.2.2.2.2.1, ((List.length y5.2.1.2.2.2.2.2.2.2.1 : Nat) : Int), (0 : Int), ()), (y5.2.1, ()))).bind fun y6 =>
 bif (!y6.1.2.1) then
 some (((12 : Int), ()), ())
 else
 (nfa' y6.2.1.1 y6.2.1.2.1 y6.2.1.2.2.1 y6.2.1.2.2.2.1 y6.2.1.2.2.2.2.1 y6.2.1.2.2.2.2.2.1 y6.2.1.2.2.2.2.2.2.1 y6.2.1.2.2.2.2.2.2.2.1).bind fun y7 =>
 bif (!y7.1.1) then
 some (((13 : Int), ()), ())
 else
 (ny' (IntKind.i64.wrap ((IntKind.i64.wrap ((18 : Int) * ((List.length y6.2.1.2.2.2.2.2.2.2.1 : Nat) : Int))) + (24 : Int))) (65536 : Int) [y6.2.1.2.2.1]).bind fun y8 =>
 bif (!y8.1.1) then
 some (((14 : Int), ()), ())
 else
 some (((0 : Int), ()), ())
noncomputable def nd6' (p0 p1 p2 p3 : Int) (p4 p5 p6 : Nat) (p7 : List (Car)) : Option ((Unit × Unit) × (T'14 × Unit)) :=
 (nbs' p0 p1 p2 p3 p4 p5 p6 p7).bind fun y1 =>
 bif (y1.1.1 != (0 : Int)) then
 some (((), ()), ((([] : List (Int)), ([] : List (Bool)), ([] : List (Bool)), ([] : List (Entry)), ()), ()))
 else
 let z0 : Int := ((List.length p7 : Nat) : Int)
 bif (((decide ((0 : Int) ≤ z0)) && (decide (z0 ≤ z0))) && (decide (z0 ≤ (2147483648 : Int)))) then
 bif (((decide ((0 : Int) ≤ z0)) && (decide (z0 ≤ z0))) && (decide (z0 ≤ (2147483648 : Int)))) then
 bif (((decide ((0 : Int) ≤ z0)) && (decide (z0 ≤ z0))) && (decide (z0 ≤ (2147483648 : Int)))) then
 some (((), ()), (((List.replicate (Int.toNat z0) (0 : Int)), (List.replicate (Int.toNat z0) false), (List.replicate (Int.toNat z0) false), ([] : List (Entry)), ()), ()))
 else
 none
 else
 none
 else
 none
noncomputable def neb' (p0 p1 : ByteArray) (p2 : Int) : Option ((ByteArray × Unit) × Unit) :=
 bif (p2 == (1 : Int)) then
 some ((p1, ()), ())
 else
 some ((p0, ()), ())
noncomputable def nh9' (s : ByteArray) (r s7 s8 s16 : Int) : Option (Sum (T'44 × Unit) (T'31 × Unit)) :=
 bif (decide (s16 < (8 : Int))) then
 let z0 : Int := (IntKind.u8.wrap (r * ((2 : Int) ^ (Min.min (Int.toNat (1 : Int)) (IntKind.bits IntKind.u8)))))
 let z1 : Int := (IntKind.u8.wrap ((Int.fdiv r ((2 : Int) ^ (Min.min (Int.toNat (7 : Int)) (IntKind.bits IntKind.u8)))) * (7 : Int)))
 some (Sum.inl ((s, (IntKind.u8.wrap (stk z0 z1 (BitVec.toNat ((BitVec.ofInt (IntKind.bits IntKind.u8) z0) ^^^ (BitVec.ofInt (IntKind.bits IntKind.u8) z1))))), s7, s8, (IntKind.i64.wrap (s16 + (1 : Int))), ()), ()))
 else
 some (Sum.inr ((s, r, s7, s8, ()), ()))
noncomputable def nis' : (T'44 × Unit) → Option (T'31 × Unit) := iter (fun x => nh9' x.1.1 x.1.2.1 x.1.2.2.1 x.1.2.2.2.1 x.1.2.2.2.2.1) fuel
noncomputable def new' (s : ByteArray) (r s7 s8 : Int) : Option (Sum (T'31 × Unit) ((Int × Unit) × Unit)) :=
 bif (decide (s8 < s7)) then
 bif (inB s8 (ByteArray.size s)) then
 let z0 : Int := (nct' s (Int.toNat s8))
 (nis' ((s, (IntKind.u8.wrap (stk r z0 (BitVec.toNat ((BitVec.ofInt (IntKind.bits IntKind.u8) r) ^^^ (BitVec.ofInt (IntKind.bits IntKind.u8) z0))))), s7, s8, (0 : Int), ()), ())).bind fun y1 =>
 some (Sum.inl ((y1.1.1, y1.1.2.1, y1.1.2.2.1, (IntKind.i64.wrap (y1.1.2.2.2.1 + (1 : Int))), ()), ()))
 else
 none
 else
 some (Sum.inr ((r, ()), ()))
noncomputable def niy' : (T'31 × Unit) → Option ((Int × Unit) × Unit) := iter (fun x => new' x.1.1 x.1.2.1 x.1.2.2.1 x.1.2.2.2.1) fuel
noncomputable def nid' (s : ByteArray) : Option ((Int × Unit) × Unit) :=
 (niy' ((s, (0 : Int), ((ByteArray.size s : Nat) : Int), (0 : Int), ()), ())).bind fun y1 =>
 some ((y1.1.1, ()), ())
noncomputable def nen' (p0 p1 dir : Int) : Option ((Bool × Unit) × Unit) :=
 Option.bind (bif (dir == (1 : Int)) then
 (ny' (0 : Int) (IntKind.i64.wrap (p0 - (2 : Int))) [p1]).bind fun y1 =>
 bif y1.1.1 then
 some ((true, ()), ())
 else
 bif (dir == (2 : Int)) then
 (ny' (1 : Int) (IntKind.i64.wrap (p0 - (1 : Int))) [p1]).bind fun y2 =>
 some ((y2.1.1, ()), ())
 else
 some ((false, ()), ())
 else
 bif (dir == (2 : Int)) then
 (ny' (1 : Int) (IntKind.i64.wrap (p0 - (1 : Int))) [p1]).bind fun y3 =>
 some ((y3.1.1, ()), ())
 else
 some ((false, ()), ())) fun y4 =>
 some ((y4.1.1, ()), ())
noncomputable def ndi' (p0 p1 p2 p3 : Int) (p4 p5 p6 : Nat) (p7 : List (Car)) (p8 dir : Int) : Option ((Bool × Unit) × Unit) :=
 Option.bind ((nbs' p0 p1 p2 p3 p4 p5 p6 p7).bind fun y1 =>
 bif (y1.1.1 == (0 : Int)) then
 (nen' p0 p8 dir).bind fun y2 =>
 some ((y2.1.1, ()), ())
 else
 some ((false, ()), ())) fun y3 =>
 some ((y3.1.1, ()), ())
noncomputable def nbl' (n lo hi : Int) : Option ((Bool × Unit) × Unit) :=
 Option.bind (bif (decide (lo ≤ n)) then
 some (((decide (n ≤ hi)), ()), ())
 else
 some ((false, ()), ())) fun y1 =>
 some ((y1.1.1, ()), ())
noncomputable def ndo' (p0 p1 p2 p3 : Int) (p4 p5 p6 : Nat) (p7 : List (Car)) (p8 p9 p10 p11 p12 : Int) : Option ((Bool × Unit) × Unit) :=
 (nbs' p0 p1 p2 p3 p4 p5 p6 p7).bind fun y1 =>
 bif (y1.1.1 != (0 : Int)) then
 some ((false, ()), ())
 else
 (ndi' p0 p1 p2 p3 p4 p5 p6 p7 p9 p10).bind fun y2 =>
 Option.bind (bif (p9 == (0 : Int)) then
 bif (p10 == (0 : Int)) then
 (nbl' p11 (0 : Int) (IntKind.i64.wrap (((List.length p7 : Nat) : Int) - (1 : Int)))).bind fun y3 =>
 some (((), (), y2.1.1, y3.1.1, ()), ((p0, p1, p2, p3, p4, p5, p6, p7, ()), (p8, p9, p10, p11, p12, ()), ()))
 else
 some (((), (), y2.1.1, false, ()), ((p0, p1, p2, p3, p4, p5, p6, p7, ()), (p8, p9, p10, p11, p12, ()), ()))
 else
 some (((), (), y2.1.1, false, ()), ((p0, p1, p2, p3, p4, p5, p6, p7, ()), (p8, p9, p10, p11, p12, ()), ()))) fun y4 =>
 bif (y4.2.2.1.1 == (1 : Int)) then
 Option.bind (bif y4.1.2.2.1 then
 bif (y4.2.2.1.2.2.2.1 == (0 : Int)) then
 some (((y4.2.2.1.2.2.2.2.1 == (0 : Int)), ()), ())
 else
 some ((false, ()), ())
 else
 some ((false, ()), ())) fun y5 =>
 some ((y5.1.1, ()), ())
 else
 bif (y4.2.2.1.1 == (2 : Int)) then
 Option.bind (bif y4.1.2.2.1 then
 bif (y4.2.2.1.2.2.2.1 == (0 : Int)) then
 some (((y4.2.2.1.2.2.2.2.1 == (0 : Int)), ()), ())
 else
 some ((false, ()), ())
 else
 some ((false, ()), ())) fun y6 =>
 some ((y6.1.1, ()), ())
 else
 bif (y4.2.2.1.1 == (3 : Int)) then
 Option.bind (bif y4.1.2.2.1 then
 (nbl' y4.2.2.1.2.2.2.1 (-2 : Int) (IntKind.i64.wrap (((List.length y4.2.1.2.2.2.2.2.2.2.1 : Nat) : Int) - (1 : Int)))).bind fun y7 =>
 bif y7.1.1 then
 some (((y4.2.2.1.2.2.2.2.1 == (0 : Int)), ()), ())
 else
 some ((false, ()), ())
 else
 some ((false, ()), ())) fun y8 =>
 some ((y8.1.1, ()), ())
 else
 bif (y4.2.2.1.1 == (7 : Int)) then
 Option.bind (bif y4.1.2.2.1 then
 (nbl' y4.2.2.1.2.2.2.1 (0 : Int) (1 : Int)).bind fun y9 =>
 bif y9.1.1 then
 (nbl' y4.2.2.1.2.2.2.2.1 (0 : Int) (255 : Int)).bind fun y10 =>
 some ((y10.1.1, ()), ())
 else
 some ((false, ()), ())
 else
 some ((false, ()), ())) fun y11 =>
 some ((y11.1.1, ()), ())
 else
 bif (y4.2.2.1.1 == (4 : Int)) then
 Option.bind (bif y4.1.2.2.2.1 then
 (nbl' y4.2.2.1.2.2.2.2.1 (0 : Int) (4 : Int)).bind fun y12 =>
 some ((y12.1.1, ()), ())
 else
 some ((false, ()), ())) fun y13 =>
 some ((y13.1.1, ()), ())
 else
 bif (y4.2.2.1.1 == (5 : Int)) then
 Option.bind (bif y4.1.2.2.2.1 then
 (nbl' y4.2.2.1.2.2.2.2.1 (0 : Int) (1 : Int)).bind fun y14 =>
 some ((y14.1.1, ()), ())
 else
 some ((false, ()), ())) fun y15 =>
 some ((y15.1.1, ()), ())
 else
 bif (y4.2.2.1.1 == (6 : Int)) then
 Option.bind (bif y4.1.2.2.2.1 then
 (nbl' y4.2.2.1.2.2.2.2.1 (0 : Int) (1 : Int)).bind fun y16 =>
 some ((y16.1.1, ()), ())
 else
 some ((false, ()), ())) fun y17 =>
 some ((y17.1.1, ()), ())
 else
 some ((false, ()), ())
noncomputable def ngb' (p0 p1 p2 p3 : Int) (p4 p5 p6 : Nat) (p7 : List (Car)) (s : ByteArray) : Option ((Unit × Int × Unit) × (T'32 × Unit)) :=
 (nbs' p0 p1 p2 p3 p4 p5 p6 p7).bind fun y1 =>
 bif (y1.1.1 != (0 : Int)) then
 some (((), (1 : Int), ()), (((0 : Int), (0 : Int), (0 : Int), (0 : Int), (0 : Int), ()), ()))
 else
 bif (((ByteArray.size s : Nat) : Int) != (6 : Int)) then
 some (((), (4 : Int), ()), (((0 : Int), (0 : Int), (0 : Int), (0 : Int), (0 : Int), ()), ()))
 else
 bif (decide ((5 : Int) ≤ (((ByteArray.size s) : Nat) : Int))) then
 (nid' (ByteArray.extract s 0 5)).bind fun y2 =>
 bif (inB (5 : Int) (ByteArray.size s)) then
 bif (y2.1.1 != (nct' s (Int.toNat (5 : Int)))) then
 some (((), (5 : Int), ()), (((0 : Int), (0 : Int), (0 : Int), (0 : Int), (0 : Int), ()), ()))
 else
 bif (inB (0 : Int) (ByteArray.size s)) then
 let z0 : Int := (IntKind.i64.wrap (nct' s (Int.toNat (0 : Int))))
 bif (inB (1 : Int) (ByteArray.size s)) then
 let z1 : Int := (IntKind.i64.wrap (nct' s (Int.toNat (1 : Int))))
 bif (inB (2 : Int) (ByteArray.size s)) then
 let z2 : Int := (IntKind.i64.wrap (nct' s (Int.toNat (2 : Int))))
 bif (inB (3 : Int) (ByteArray.size s)) then
 let z3 : Int := (IntKind.i64.wrap ((IntKind.i64.wrap (nct' s (Int.toNat (3 : Int)))) - (2 : Int)))
 bif (inB (4 : Int) (ByteArray.size s)) then
 let z4 : Int := (IntKind.i64.wrap (nct' s (Int.toNat (4 : Int))))
 (ndo' p0 p1 p2 p3 p4 p5 p6 p7 z0 z1 z2 z3 z4).bind fun y3 =>
 bif (!y3.1.1) then
 some (((), (9 : Int), ()), (((0 : Int), (0 : Int), (0 : Int), (0 : Int), (0 : Int), ()), ()))
 else
 some (((), (0 : Int), ()), ((z0, z1, z2, z3, z4, ()), ()))
 else
 none
 else
 none
 else
 none
 else
 none
 else
 none
 else
 none
 else
 none
noncomputable def nb6' (s : ByteArray) (l : List (Record)) (p0 p1 p2 p3 p4 : Int) (p5 p6 p7 : Nat) (p8 : List (Car)) : Option (Sum (T'34 × (T'0 × Unit)) (T'33 × Unit)) :=
 bif (decide ((IntKind.i64.wrap (p0 + (6 : Int))) ≤ ((ByteArray.size s : Nat) : Int))) then
 let z0 : Int := (IntKind.i64.wrap (p0 + (6 : Int)))
 bif ((decide ((0 : Int) ≤ z0)) && (decide (z0 ≤ (((ByteArray.size s) : Nat) : Int)))) then
 bif ((decide ((0 : Int) ≤ p0)) && (decide (p0 ≤ (((Int.toNat z0) : Nat) : Int)))) then
 (ngb' p1 p2 p3 p4 p5 p6 p7 p8 (ByteArray.extract s (Int.toNat p0) (Int.toNat z0))).bind fun y1 =>
 bif (y1.1.2.1 != (0 : Int)) then
 some (Sum.inr ((l, p0, ()), ()))
 else
 let z1 : List (Record) := [(Record.mk y1.2.1.1 y1.2.1.2.1 y1.2.1.2.2.1 y1.2.1.2.2.2.1 y1.2.1.2.2.2.2.1)]
 bif (Nat.ble ((List.length l) + (List.length z1)) 2147483648) then
 some (Sum.inl ((s, (), (l ++ z1), (IntKind.i64.wrap (p0 + (6 : Int))), ()), ((p1, p2, p3, p4, p5, p6, p7, p8, ()), ())))
 else
 none
 else
 none
 else
 none
 else
 some (Sum.inr ((l, p0, ()), ()))
noncomputable def nga' : (T'34 × (T'0 × Unit)) → Option (T'33 × Unit) := iter (fun x => nb6' x.1.1 x.1.2.2.1 x.1.2.2.2.1 x.2.1.1 x.2.1.2.1 x.2.1.2.2.1 x.2.1.2.2.2.1 x.2.1.2.2.2.2.1 x.2.1.2.2.2.2.2.1 x.2.1.2.2.2.2.2.2.1 x.2.1.2.2.2.2.2.2.2.1) fuel
noncomputable def nha' (p0 p1 p2 p3 : Int) (p4 p5 p6 : Nat) (p7 : List (Car)) (s : ByteArray) : Option (T'33 × Unit) :=
 (nga' ((s, (), ([] : List (Record)), (0 : Int), ()), ((p0, p1, p2, p3, p4, p5, p6, p7, ()), ()))).bind fun y1 =>
 some ((y1.1.1, y1.1.2.1, ()), ())
noncomputable def nf6' (x_1 : Int) : Option ((Bool × Unit) × Unit) :=
 some (((x_1 != x_1), ()), ())
noncomputable def ndl' (x_1 y : Int) : Option ((Int × Unit) × Unit) :=
 (nf6' x_1).bind fun y1 =>
 (nf6' y).bind fun y2 =>
 bif y1.1.1 then
 bif y2.1.1 then
 some (((0 : Int), ()), ())
 else
 some (((-1 : Int), ()), ())
 else
 bif y2.1.1 then
 some (((1 : Int), ()), ())
 else
 bif (decide (x_1 < y)) then
 some (((-1 : Int), ()), ())
 else
 bif (decide (y < x_1)) then
 some (((1 : Int), ()), ())
 else
 some (((0 : Int), ()), ())
noncomputable def ne2' (p0 : Int) (s6 : List (Int)) (s7 s8 : Int) : Option (Sum (T'45 × Unit) (((Int × Unit) × Unit) ⊕ ((Int × Unit) × Unit))) :=
 bif (decide (s8 < s7)) then
 bif (inB s8 (List.length s6)) then
 let z0 : Int := (List.getD s6 (Int.toNat s8) (0 : Int))
 bif (z0 != p0) then
 some (Sum.inr (Sum.inr ((z0, ()), ())))
 else
 some (Sum.inl ((p0, s6, s7, (IntKind.i64.wrap (s8 + (1 : Int))), ()), ()))
 else
 none
 else
 some (Sum.inr (Sum.inl ((p0, ()), ())))
noncomputable def ngr' : (T'45 × Unit) → Option (((Int × Unit) × Unit) ⊕ ((Int × Unit) × Unit)) := iter (fun x => ne2' x.1.1 x.1.2.1 x.1.2.2.1 x.1.2.2.2.1) fuel
noncomputable def nio' (p0 : List (Int)) : Option ((Int × Unit) × Unit) :=
 (ngr' (((0 : Int), p0, ((List.length p0 : Nat) : Int), (0 : Int), ()), ())).bind fun y1 =>
 (match y1 with
 | .inl y2 =>
 some ((y2.1.1, ()), ())
 | .inr y2 =>
 some ((y2.1.1, ()), ()))
noncomputable def nd8' (p0 p1 p2 p3 : Int) (p4 : Bool) (p5 p6 p7 p8 : Int) (p9 : Bool) : Option ((Int × Unit) × Unit) :=
 (ndl' p0 p5).bind fun y1 =>
 (ndl' p1 p6).bind fun y2 =>
 (nio' [y1.1.1, y2.1.1]).bind fun y3 =>
 some ((y3.1.1, ()), ())
noncomputable def nn' (x_1 : List (Entry)) (n i j p0 p1 p2 p3 : Int) (p4 : Bool) : Option (Sum (T'46 × (T'20 × Unit)) (T'47 × (T'20 × Unit))) :=
 bif (decide (i < j)) then
 let z0 : Int := (IntKind.i64.wrap (Int.fdiv (IntKind.u64.wrap (IntKind.i64.wrap (i + j))) ((2 : Int) ^ (Min.min (Int.toNat (1 : Int)) (IntKind.bits IntKind.u64)))))
 bif (inB z0 (List.length x_1)) then
 let z1 : Entry := (List.getD x_1 (Int.toNat z0) (Entry.mk (0 : Int) (0 : Int) (0 : Int) (0 : Int) false))
 (nd8' z1.Floor z1.Dir z1.Car z1.Moves z1.Moved p0 p1 p2 p3 p4).bind fun y1 =>
 bif (decide (y1.1.1 < (0 : Int))) then
 some (Sum.inl ((x_1, (), (), n, (IntKind.i64.wrap (z0 + (1 : Int))), j, ()), ((p0, p1, p2, p3, p4, ()), ())))
 else
 some (Sum.inl ((x_1, (), (), n, i, z0, ()), ((p0, p1, p2, p3, p4, ()), ())))
 else
 none
 else
 some (Sum.inr ((x_1, (), (), n, i, ()), ((p0, p1, p2, p3, p4, ()), ())))
noncomputable def nl' : (T'46 × (T'20 × Unit)) → Option (T'47 × (T'20 × Unit)) := iter (fun x => nn' x.1.1 x.1.2.2.2.1 x.1.2.2.2.2.1 x.1.2.2.2.2.2.1 x.2.1.1 x.2.1.2.1 x.2.1.2.2.1 x.2.1.2.2.2.1 x.2.1.2.2.2.2.1) fuel
noncomputable def nv' (x_1 : List (Entry)) (p0 p1 p2 p3 : Int) (p4 : Bool) : Option ((Int × Bool × Unit) × Unit) :=
 let z0 : Int := ((List.length x_1 : Nat) : Int)
 (nl' ((x_1, (), (), z0, (0 : Int), z0, ()), ((p0, p1, p2, p3, p4, ()), ()))).bind fun y1 =>
 Option.bind (bif (decide (y1.1.2.2.2.2.1 < y1.1.2.2.2.1)) then
 bif (inB y1.1.2.2.2.2.1 (List.length y1.1.1)) then
 let z1 : Entry := (List.getD y1.1.1 (Int.toNat y1.1.2.2.2.2.1) (Entry.mk (0 : Int) (0 : Int) (0 : Int) (0 : Int) false))
 (nd8' z1.Floor z1.Dir z1.Car z1.Moves z1.Moved y1.2.1.1 y1.2.1.2.1 y1.2.1.2.2.1 y1.2.1.2.2.2.1 y1.2.1.2.2.2.2.1).bind fun y2 =>
 some ((y1.1.2.2.2.2.1, (y2.1.1 == (0 : Int)), ()), ())
 else
 none
 else
 some ((y1.1.2.2.2.2.1, false, ()), ())) fun y3 =>
 some ((y3.1.1, y3.1.2.1, ()), ())
noncomputable def ni0' (p0 : List (Int)) (p1 p2 : List (Bool)) (p3 : List (Entry)) (p4 dir : Int) : Option ((Int × Bool × Unit) × Unit) :=
 (nv' p3 p4 dir (0 : Int) (0 : Int) false).bind fun y1 =>
 some ((y1.1.1, y1.1.2.1, ()), ())
noncomputable def nbw' (s : List (Entry)) (i : Int) (v : List (Entry)) : Option ((List (Entry) × Unit) × Unit) :=
 insF s i v
noncomputable def nbx' (s : List (Entry)) (i j : Int) : Option ((List (Entry) × Unit) × Unit) :=
 delF s i j
noncomputable def ngm' (p0 p1 p2 p3 p4 : Int) (p5 : List (Int)) (p6 p7 : List (Bool)) (p8 : List (Entry)) : Option (Unit × (T'14 × Unit)) :=
 (ni0' p5 p6 p7 p8 p1 p2).bind fun y1 =>
 bif (p0 == (4 : Int)) then
 bif (inB p3 (List.length p5)) then
 some ((), (((List.set p5 (Int.toNat p3) p4), p6, p7, p8, ()), ()))
 else
 none
 else
 bif (p0 == (5 : Int)) then
 bif (inB p3 (List.length p6)) then
 some ((), ((p5, (List.set p6 (Int.toNat p3) (p4 == (1 : Int))), p7, p8, ()), ()))
 else
 none
 else
 bif (p0 == (6 : Int)) then
 bif (inB p3 (List.length p7)) then
 some ((), ((p5, p6, (List.set p7 (Int.toNat p3) (p4 == (1 : Int))), p8, ()), ()))
 else
 none
 else
 bif (p0 == (1 : Int)) then
 bif (!y1.1.2.1) then
 (nbw' p8 y1.1.1 [(Entry.mk p1 p2 (-1 : Int) (0 : Int) false)]).bind fun y2 =>
 some ((), ((p5, p6, p7, y2.1.1, ()), ()))
 else
 some ((), ((p5, p6, p7, p8, ()), ()))
 else
 bif (p0 == (2 : Int)) then
 bif y1.1.2.1 then
 (nbx' p8 y1.1.1 (IntKind.i64.wrap (y1.1.1 + (1 : Int)))).bind fun y3 =>
 some ((), ((p5, p6, p7, y3.1.1, ()), ()))
 else
 some ((), ((p5, p6, p7, p8, ()), ()))
 else
 bif (p0 == (3 : Int)) then
 bif y1.1.2.1 then
 bif (inB y1.1.1 (List.length p8)) then
 let z0 : Nat := (Int.toNat y1.1.1)
 let z1 : Entry := (List.getD p8 z0 (Entry.mk (0 : Int) (0 : Int) (0 : Int) (0 : Int) false))
 some ((), ((p5, p6, p7, (List.set p8 z0 (Entry.mk z1.Floor z1.Dir p3 z1.Moves z1.Moved)), ()), ()))
 else
 none
 else
 some ((), ((p5, p6, p7, p8, ()), ()))
 else
 bif (p0 == (7 : Int)) then
 bif y1.1.2.1 then
 bif (inB y1.1.1 (List.length p8)) then
 let z2 : Nat := (Int.toNat y1.1.1)
 let z3 : Entry := (List.getD p8 z2 (Entry.mk (0 : Int) (0 : Int) (0 : Int) (0 : Int) false))
 let z4 : List (Entry) := (List.set p8 z2 (Entry.mk z3.Floor z3.Dir z3.Car p4 z3.Moved))
 bif (inB y1.1.1 (List.length z4)) then
 let z5 : Nat := (Int.toNat y1.1.1)
 let z6 : Entry := (List.getD z4 z5 (Entry.mk (0 : Int) (0 : Int) (0 : Int) (0 : Int) false))
 some ((), ((p5, p6, p7, (List.set z4 z5 (Entry.mk z6.Floor z6.Dir z6.Car z6.Moves (p3 == (1 : Int)))), ()), ()))
 else
 none
 else
 none
 else
 some ((), ((p5, p6, p7, p8, ()), ()))
 else
 some ((), ((p5, p6, p7, p8, ()), ()))
noncomputable def ndn' (s19 : List (Record)) (s20 s21 : Int) (p0 : List (Int)) (p1 p2 : List (Bool)) (p3 : List (Entry)) (p4 : List (Int)) (p5 p6 : List (Bool)) (p7 : List (Entry)) : Option (Sum (T'48 × (T'14 × T'14 × Unit)) ((Unit × Unit × Unit) × (T'14 × T'14 × Unit))) :=
 bif (decide (s21 < s20)) then
 bif (inB s21 (List.length s19)) then
 let z0 : Record := (List.getD s19 (Int.toNat s21) (Record.mk (0 : Int) (0 : Int) (0 : Int) (0 : Int) (0 : Int)))
 (ngm' z0.Kind z0.Floor z0.Dir z0.Car z0.Value p4 p5 p6 p7).bind fun y1 =>
 some (Sum.inl (((), (), s19, s20, (IntKind.i64.wrap (s21 + (1 : Int))), ()), ((p0, p1, p2, p3, ()), y1.2.1, ())))
 else
 none
 else
 some (Sum.inr (((), (), ()), ((p0, p1, p2, p3, ()), (p4, p5, p6, p7, ()), ())))
noncomputable def ngs' : (T'48 × (T'14 × T'14 × Unit)) → Option ((Unit × Unit × Unit) × (T'14 × T'14 × Unit)) := iter (fun x => ndn' x.1.2.2.1 x.1.2.2.2.1 x.1.2.2.2.2.1 x.2.1.1 x.2.1.2.1 x.2.1.2.2.1 x.2.1.2.2.2.1 x.2.2.1.1 x.2.2.1.2.1 x.2.2.1.2.2.1 x.2.2.1.2.2.2.1) fuel
noncomputable def ndu' (p0 p1 p2 p3 : Int) (p4 p5 p6 : Nat) (p7 : List (Car)) (p8 p9 : ByteArray) (p10 : Int) : Option ((Unit × Unit) × (T'14 × Unit)) :=
 (nd6' p0 p1 p2 p3 p4 p5 p6 p7).bind fun y1 =>
 (neb' p8 p9 p10).bind fun y2 =>
 (nha' p0 p1 p2 p3 p4 p5 p6 p7 y2.1.1).bind fun y3 =>
 (ngs' (((), (), y3.1.1, ((List.length y3.1.1 : Nat) : Int), (0 : Int), ()), ((([] : List (Int)), ([] : List (Bool)), ([] : List (Bool)), ([] : List (Entry)), ()), y1.2.1, ()))).bind fun y4 =>
 some (((), ()), (y4.2.2.1, ()))
noncomputable def nbe' (s1 s2 : List (Int)) (s12 s13 : Int) : Option (Sum (T'49 × Unit) ((Unit × Unit) ⊕ ((Bool × Unit) × Unit))) :=
 bif (decide (s13 < s12)) then
 bif (inB s13 (List.length s1)) then
 bif (inB s13 (List.length s2)) then
 bif ((List.getD s1 (Int.toNat s13) (0 : Int)) != (List.getD s2 (Int.toNat s13) (0 : Int))) then
 some (Sum.inr (Sum.inr ((false, ()), ())))
 else
 some (Sum.inl ((s1, s2, s12, (IntKind.i64.wrap (s13 + (1 : Int))), ()), ()))
 else
 none
 else
 none
 else
 some (Sum.inr (Sum.inl ((), ())))
noncomputable def nb8' : (T'49 × Unit) → Option ((Unit × Unit) ⊕ ((Bool × Unit) × Unit)) := iter (fun x => nbe' x.1.1 x.1.2.1 x.1.2.2.1 x.1.2.2.2.1) fuel
noncomputable def nby' (s1 s2 : List (Int)) : Option ((Bool × Unit) × Unit) :=
 bif (((List.length s1 : Nat) : Int) != ((List.length s2 : Nat) : Int)) then
 some ((false, ()), ())
 else
 (nb8' ((s1, s2, ((List.length s1 : Nat) : Int), (0 : Int), ()), ())).bind fun y1 =>
 (match y1 with
 | .inl y2 =>
 some ((true, ()), ())
 | .inr y2 =>
 some ((y2.1.1, ()), ()))
noncomputable def n7' (s1 s2 : List (Bool)) (s12 s13 : Int) : Option (Sum (T'50 × Unit) ((Unit × Unit) ⊕ ((Bool × Unit) × Unit))) :=
 bif (decide (s13 < s12)) then
 bif (inB s13 (List.length s1)) then
 bif (inB s13 (List.length s2)) then
 bif (!((List.getD s1 (Int.toNat s13) false) == (List.getD s2 (Int.toNat s13) false))) then
 some (Sum.inr (Sum.inr ((false, ()), ())))
 else
 some (Sum.inl ((s1, s2, s12, (IntKind.i64.wrap (s13 + (1 : Int))), ()), ()))
 else
 none
 else
 none
 else
 some (Sum.inr (Sum.inl ((), ())))
noncomputable def nb2' : (T'50 × Unit) → Option ((Unit × Unit) ⊕ ((Bool × Unit) × Unit)) := iter (fun x => n7' x.1.1 x.1.2.1 x.1.2.2.1 x.1.2.2.2.1) fuel
noncomputable def nbp' (s1 s2 : List (Bool)) : Option ((Bool × Unit) × Unit) :=
 bif (((List.length s1 : Nat) : Int) != ((List.length s2 : Nat) : Int)) then
 some ((false, ()), ())
 else
 (nb2' ((s1, s2, ((List.length s1 : Nat) : Int), (0 : Int), ()), ())).bind fun y1 =>
 (match y1 with
 | .inl y2 =>
 some ((true, ()), ())
 | .inr y2 =>
 some ((y2.1.1, ()), ()))
noncomputable def nx' (s1 s2 : List (Entry)) (s12 s13 : Int) : Option (Sum (T'51 × Unit) ((Unit × Unit) ⊕ ((Bool × Unit) × Unit))) :=
 bif (decide (s13 < s12)) then
 bif (inB s13 (List.length s1)) then
 let z0 : Entry := (List.getD s1 (Int.toNat s13) (Entry.mk (0 : Int) (0 : Int) (0 : Int) (0 : Int) false))
 bif (inB s13 (List.length s2)) then
 let z1 : Entry := (List.getD s2 (Int.toNat s13) (Entry.mk (0 : Int) (0 : Int) (0 : Int) (0 : Int) false))
 bif (!((z0.Floor == z1.Floor) && ((z0.Dir == z1.Dir) && ((z0.Car == z1.Car) && ((z0.Moves == z1.Moves) && ((z0.Moved == z1.Moved) && true)))))) then
 some (Sum.inr (Sum.inr ((false, ()), ())))
 else
 some (Sum.inl ((s1, s2, s12, (IntKind.i64.wrap (s13 + (1 : Int))), ()), ()))
 else
 none
 else
 none
 else
 some (Sum.inr (Sum.inl ((), ())))
noncomputable def nbc' : (T'51 × Unit) → Option ((Unit × Unit) ⊕ ((Bool × Unit) × Unit)) := iter (fun x => nx' x.1.1 x.1.2.1 x.1.2.2.1 x.1.2.2.2.1) fuel
noncomputable def nbj' (s1 s2 : List (Entry)) : Option ((Bool × Unit) × Unit) :=
 bif (((List.length s1 : Nat) : Int) != ((List.length s2 : Nat) : Int)) then
 some ((false, ()), ())
 else
 (nbc' ((s1, s2, ((List.length s1 : Nat) : Int), (0 : Int), ()), ())).bind fun y1 =>
 (match y1 with
 | .inl y2 =>
 some ((true, ()), ())
 | .inr y2 =>
 some ((y2.1.1, ()), ()))
noncomputable def nec' (p0 : List (Int)) (p1 p2 : List (Bool)) (p3 : List (Entry)) (p4 : List (Int)) (p5 p6 : List (Bool)) (p7 : List (Entry)) : Option ((Bool × Unit) × Unit) :=
 Option.bind ((nby' p0 p4).bind fun y1 =>
 bif y1.1.1 then
 (nbp' p1 p5).bind fun y2 =>
 bif y2.1.1 then
 (nbp' p2 p6).bind fun y3 =>
 bif y3.1.1 then
 (nbj' p3 p7).bind fun y4 =>
 some ((y4.1.1, ()), ())
 else
 some ((false, ()), ())
 else
 some ((false, ()), ())
 else
 some ((false, ()), ())) fun y5 =>
 some ((y5.1.1, ()), ())
noncomputable def nbz' (p0 p1 p2 p3 : Int) (p4 p5 p6 : Nat) (p7 : List (Car)) (p8 : List (Int)) (p9 p10 : List (Bool)) (p11 : List (Entry)) (p12 p13 : ByteArray) (p14 : Int) (p15 : List (Debounced)) (p16 : List (Belief)) (p17 : List (NewCar)) (p18 : List (Loaded)) (p19 : List (Int)) (p20 : List (Calls)) (p21 p22 p23 : Int) : Option ((Bool × Unit) × Unit) :=
 (ndu' p0 p1 p2 p3 p4 p5 p6 p7 p12 p13 p14).bind fun y1 =>
 (nec' y1.2.1.1 y1.2.1.2.1 y1.2.1.2.2.1 y1.2.1.2.2.2.1 p8 p9 p10 p11).bind fun y2 =>
 some ((y2.1.1, ()), ())
noncomputable def ne1' (i : Int) (p0 : List (Int)) (p1 p2 : List (Bool)) (p3 : List (Entry)) (p4 : List (Int)) (p5 p6 : List (Bool)) (p7 : List (Entry)) : Option (Sum (T'17 × (T'14 × T'14 × Unit)) ((Unit × Unit) ⊕ ((Bool × Unit) × Unit))) :=
 bif (decide (i < ((List.length p3 : Nat) : Int))) then
 bif (inB i (List.length p3)) then
 let z0 : Entry := (List.getD p3 (Int.toNat i) (Entry.mk (0 : Int) (0 : Int) (0 : Int) (0 : Int) false))
 bif (inB i (List.length p7)) then
 let z1 : Entry := (List.getD p7 (Int.toNat i) (Entry.mk (0 : Int) (0 : Int) (0 : Int) (0 : Int) false))
 bif (!((z0.Floor == z1.Floor) && ((z0.Dir == z1.Dir) && ((z0.Car == z1.Car) && ((z0.Moves == z1.Moves) && ((z0.Moved == z1.Moved) && true)))))) then
 some (Sum.inr (Sum.inr ((false, ()), ())))
 else
 some (Sum.inl (((), (), (IntKind.i64.wrap (i + (1 : Int))), ()), ((p0, p1, p2, p3, ()), (p4, p5, p6, p7, ()), ())))
 else
 none
 else
 none
 else
 some (Sum.inr (Sum.inl ((), ())))
noncomputable def nix' : (T'17 × (T'14 × T'14 × Unit)) → Option ((Unit × Unit) ⊕ ((Bool × Unit) × Unit)) := iter (fun x => ne1' x.1.2.2.1 x.2.1.1 x.2.1.2.1 x.2.1.2.2.1 x.2.1.2.2.2.1 x.2.2.1.1 x.2.2.1.2.1 x.2.2.1.2.2.1 x.2.2.1.2.2.2.1) fuel
noncomputable def net' (i : Int) (p0 : List (Int)) (p1 p2 : List (Bool)) (p3 : List (Entry)) (p4 : List (Int)) (p5 p6 : List (Bool)) (p7 : List (Entry)) : Option (Sum (T'17 × (T'14 × T'14 × Unit)) (((Unit × Unit × Unit) × (T'14 × T'14 × Unit)) ⊕ ((Bool × Unit) × Unit))) :=
 bif (decide (i < ((List.length p2 : Nat) : Int))) then
 bif (inB i (List.length p2)) then
 bif (inB i (List.length p6)) then
 bif (!((List.getD p2 (Int.toNat i) false) == (List.getD p6 (Int.toNat i) false))) then
 some (Sum.inr (Sum.inr ((false, ()), ())))
 else
 some (Sum.inl (((), (), (IntKind.i64.wrap (i + (1 : Int))), ()), ((p0, p1, p2, p3, ()), (p4, p5, p6, p7, ()), ())))
 else
 none
 else
 none
 else
 some (Sum.inr (Sum.inl (((), (), ()), ((p0, p1, p2, p3, ()), (p4, p5, p6, p7, ()), ()))))
noncomputable def nib' : (T'17 × (T'14 × T'14 × Unit)) → Option (((Unit × Unit × Unit) × (T'14 × T'14 × Unit)) ⊕ ((Bool × Unit) × Unit)) := iter (fun x => net' x.1.2.2.1 x.2.1.1 x.2.1.2.1 x.2.1.2.2.1 x.2.1.2.2.2.1 x.2.2.1.1 x.2.2.1.2.1 x.2.2.1.2.2.1 x.2.2.1.2.2.2.1) fuel
noncomputable def nes' (i : Int) (p0 : List (Int)) (p1 p2 : List (Bool)) (p3 : List (Entry)) (p4 : List (Int)) (p5 p6 : List (Bool)) (p7 : List (Entry)) : Option (Sum (T'17 × (T'14 × T'14 × Unit)) (((Unit × Unit × Unit) × (T'14 × T'14 × Unit)) ⊕ ((Bool × Unit) × Unit))) :=
 bif (decide (i < ((List.length p1 : Nat) : Int))) then
 bif (inB i (List.length p1)) then
 bif (inB i (List.length p5)) then
 bif (!((List.getD p1 (Int.toNat i) false) == (List.getD p5 (Int.toNat i) false))) then
 some (Sum.inr (Sum.inr ((false, ()), ())))
 else
 some (Sum.inl (((), (), (IntKind.i64.wrap (i + (1 : Int))), ()), ((p0, p1, p2, p3, ()), (p4, p5, p6, p7, ()), ())))
 else
 none
 else
 none
 else
 some (Sum.inr (Sum.inl (((), (), ()), ((p0, p1, p2, p3, ()), (p4, p5, p6, p7, ()), ()))))
noncomputable def nh4' : (T'17 × (T'14 × T'14 × Unit)) → Option (((Unit × Unit × Unit) × (T'14 × T'14 × Unit)) ⊕ ((Bool × Unit) × Unit)) := iter (fun x => nes' x.1.2.2.1 x.2.1.1 x.2.1.2.1 x.2.1.2.2.1 x.2.1.2.2.2.1 x.2.2.1.1 x.2.2.1.2.1 x.2.2.1.2.2.1 x.2.2.1.2.2.2.1) fuel
noncomputable def neu' (i : Int) (p0 : List (Int)) (p1 p2 : List (Bool)) (p3 : List (Entry)) (p4 : List (Int)) (p5 p6 : List (Bool)) (p7 : List (Entry)) : Option (Sum (T'17 × (T'14 × T'14 × Unit)) (((Unit × Unit × Unit) × (T'14 × T'14 × Unit)) ⊕ ((Bool × Unit) × Unit))) :=
 bif (decide (i < ((List.length p0 : Nat) : Int))) then
 bif (inB i (List.length p0)) then
 bif (inB i (List.length p4)) then
 bif ((List.getD p0 (Int.toNat i) (0 : Int)) != (List.getD p4 (Int.toNat i) (0 : Int))) then
 some (Sum.inr (Sum.inr ((false, ()), ())))
 else
 some (Sum.inl (((), (), (IntKind.i64.wrap (i + (1 : Int))), ()), ((p0, p1, p2, p3, ()), (p4, p5, p6, p7, ()), ())))
 else
 none
 else
 none
 else
 some (Sum.inr (Sum.inl (((), (), ()), ((p0, p1, p2, p3, ()), (p4, p5, p6, p7, ()), ()))))
noncomputable def niv' : (T'17 × (T'14 × T'14 × Unit)) → Option (((Unit × Unit × Unit) × (T'14 × T'14 × Unit)) ⊕ ((Bool × Unit) × Unit)) := iter (fun x => neu' x.1.2.2.1 x.2.1.1 x.2.1.2.1 x.2.1.2.2.1 x.2.1.2.2.2.1 x.2.2.1.1 x.2.2.1.2.1 x.2.2.1.2.2.1 x.2.2.1.2.2.2.1) fuel
noncomputable def nit' (p0 : List (Int)) (p1 p2 : List (Bool)) (p3 : List (Entry)) (p4 : List (Int)) (p5 p6 : List (Bool)) (p7 : List (Entry)) : Option ((Bool × Unit) × Unit) :=
 bif (((List.length p0 : Nat) : Int) != ((List.length p4 : Nat) : Int)) then
 some ((false, ()), ())
 else
 bif (((List.length p1 : Nat) : Int) != ((List.length p5 : Nat) : Int)) then
 some ((false, ()), ())
 else
 bif (((List.length p2 : Nat) : Int) != ((List.length p6 : Nat) : Int)) then
 some ((false, ()), ())
 else
 bif (((List.length p3 : Nat) : Int) != ((List.length p7 : Nat) : Int)) then
 some ((false, ()), ())
 else
 (niv' (((), (), (0 : Int), ()), ((p0, p1, p2, p3, ()), (p4, p5, p6, p7, ()), ()))).bind fun y1 =>
 (match y1 with
 | .inl y2 =>
 (nh4' (((), (), (0 : Int), ()), (y2.2.1, y2.2.2.1, ()))).bind fun y3 =>
 (match y3 with
 | .inl y4 =>
 (nib' (((), (), (0 : Int), ()), (y4.2.1, y4.2.2.1, ()))).bind fun y5 =>
 (match y5 with
 | .inl y6 =>
 (nix' (((), (), (0 : Int), ()), (y6.2.1, y6.2.2.1, ()))).bind fun y7 =>
 (match y7 with
 | .inl y8 =>
 some ((true, ()), ())
 | .inr y8 =>
 some ((y8.1.1, ()), ()))
 | .inr y6 =>
 some ((y6.1.1, ()), ()))
 | .inr y4 =>
 some ((y4.1.1, ()), ()))
 | .inr y2 =>
 some ((y2.1.1, ()), ()))
noncomputable def ndg' (p0 p1 p2 p3 : Int) (p4 p5 p6 : Nat) (p7 : List (Car)) (p8 : List (Int)) (p9 p10 : List (Bool)) (p11 : List (Entry)) (p12 p13 : ByteArray) (p14 : Int) (p15 : List (Debounced)) (p16 : List (Belief)) (p17 : List (NewCar)) (p18 : List (Loaded)) (p19 : List (Int)) (p20 : List (Calls)) (p21 p22 p23 : Int) : Option ((Bool × Unit) × Unit) :=
 (ngj' p0 p1 p2 p3 p4 p5 p6 p7 p12 p13 p14).bind fun y1 =>
 (nit' y1.2.1.1 y1.2.1.2.1 y1.2.1.2.2.1 y1.2.1.2.2.2.1 p8 p9 p10 p11).bind fun y2 =>
 some ((y2.1.1, ()), ())
noncomputable def nb9' (s48 : List (Image)) (s49 s50 p0 p1 p2 p3 : Int) (p4 p5 p6 : Nat) (p7 : List (Car)) : Option (Sum (T'52 × (T'0 × Unit)) ((Unit × Unit) ⊕ ((Bool × Unit) × Unit))) :=
 bif (decide (s50 < s49)) then
 bif (inB s50 (List.length s48)) then
 let z0 : Image := (List.getD s48 (Int.toNat s50) (Image.mk [] [] [] []))
 (nfz' p0 p1 p2 p3 p4 p5 p6 p7 z0.Phases z0.Flags z0.Leaving z0.Entries (ByteArray.mk (Array.mk [])) (ByteArray.mk (Array.mk [])) (0 : Int)).bind fun y1 =>
 (niq' p0 p1 p2 p3 p4 p5 p6 p7 (ByteArray.mk (Array.mk [])) (ByteArray.mk (Array.mk [])) (0 : Int) (10000 : Int)).bind fun y2 =>
 (neq' z0.Phases z0.Flags z0.Leaving z0.Entries).bind fun y3 =>
 (ngd' z0.Phases z0.Flags z0.Leaving z0.Entries).bind fun y4 =>
 bif (!(y3.1.1 == y4.1.1)) then
 some (Sum.inr (Sum.inr ((false, ()), ())))
 else
 (nbz' p0 p1 p2 p3 p4 p5 p6 p7 y1.2.1.1 y1.2.1.2.1 y1.2.1.2.2.1 y1.2.1.2.2.2.1 y1.2.1.2.2.2.2.1 y1.2.1.2.2.2.2.2.1 y1.2.1.2.2.2.2.2.2.1 y1.2.1.2.2.2.2.2.2.2.1 y1.2.1.2.2.2.2.2.2.2.2.1 y1.2.1.2.2.2.2.2.2.2.2.2.1 y1.2.1.2.2.2.2.2.2.2.2.2.2.1 y1.2.1.2.2.2.2.2.2.2.2.2.2.2.1 y1.2.1.2.2.2.2.2.2.2.2.2.2.2.2.1 y1.2.1.2.2.2.2.2.2.2.2.2.2.2.2.2.1 y1.2.1.2.2.2.2.2.2.2.2.2.2.2.2.2.2.1 y1.2.1.2.2.2.2.2.2.2.2.2.2.2.2.2.2.2.1).bind fun y5 =>
 (ndg' p0 p1 p2 p3 p4 p5 p6 p7 y1.2.1.1 y1.2.1.2.1 y1.2.1.2.2.1 y1.2.1.2.2.2.1 y1.2.1.2.2.2.2.1 y1.2.1.2.2.2.2.2.1 y1.2.1.2.2.2.2.2.2.1 y1.2.1.2.2.2.2.2.2.2.1 y1.2.1.2.2.2.2.2.2.2.2.1 y1.2.1.2.2.2.2.2.2.2.2.2.1 y1.2.1.2.2.2.2.2.2.2.2.2.2.1 y1.2.1.2.2.2.2.2.2.2.2.2.2.2.1 y1.2.1.2.2.2.2.2.2.2.2.2.2.2.2.1 y1.2.1.2.2.2.2.2.2.2.2.2.2.2.2.2.1 y1.2.1.2.2.2.2.2.2.2.2.2.2.2.2.2.2.1 y1.2.1.2.2.2.2.2.2.2.2.2.2.2.2.2.2.2.1).bind fun y6 =>
 bif (!(y5.1.1 == y6.1.1)) then
 some (Sum.inr (Sum.inr ((false, ()), ())))
 else
 (nbz' p0 p1 p2 p3 p4 p5 p6 p7 z0.Phases z0.Flags z0.Leaving z0.Entries y2.2.1.2.2.2.2.1 y2.2.1.2.2.2.2.2.1 y2.2.1.2.2.2.2.2.2.1 y2.2.1.2.2.2.2.2.2.2.1 y2.2.1.2.2.2.2.2.2.2.2.1 y2.2.1.2.2.2.2.2.2.2.2.2.1 y2.2.1.2.2.2.2.2.2.2.2.2.2.1 y2.2.1.2.2.2.2.2.2.2.2.2.2.2.1 y2.2.1.2.2.2.2.2.2.2.2.2.2.2.2.1 y2.2.1.2.2.2.2.2.2.2.2.2.2.2.2.2.1 y2.2.1.2.2.2.2.2.2.2.2.2.2.2.2.2.2.1 y2.2.1.2.2.2.2.2.2.2.2.2.2.2.2.2.2.2.1).bind fun y7 =>
 (ndg' p0 p1 p2 p3 p4 p5 p6 p7 z0.Phases z0.Flags z0.Leaving z0.Entries y2.2.1.2.2.2.2.1 y2.2.1.2.2.2.2.2.1 y2.2.1.2.2.2.2.2.2.1 y2.2.1.2.2.2.2.2.2.2.1 y2.2.1.2.2.2.2.2.2.2.2.1 y2.2.1.2.2.2.2.2.2.2.2.2.1 y2.2.1.2.2.2.2.2.2.2.2.2.2.1 y2.2.1.2.2.2.2.2.2.2.2.2.2.2.1 y2.2.1.2.2.2.2.2.2.2.2.2.2.2.2.1 y2.2.1.2.2.2.2.2.2.2.2.2.2.2.2.2.1 y2.2.1.2.2.2.2.2.2.2.2.2.2.2.2.2.2.1 y2.2.1.2.2.2.2.2.2.2.2.2.2.2.2.2.2.2.1).bind fun y8 =>
 bif (!(y7.1.1 == y8.1.1)) then
 some (Sum.inr (Sum.inr ((false, ()), ())))
 else
 (nbz' p0 p1 p2 p3 p4 p5 p6 p7 y2.2.1.1 y2.2.1.2.1 y2.2.1.2.2.1 y2.2.1.2.2.2.1 y2.2.1.2.2.2.2.1 y2.2.1.2.2.2.2.2.1 y2.2.1.2.2.2.2.2.2.1 y2.2.1.2.2.2.2.2.2.2.1 y2.2.1.2.2.2.2.2.2.2.2.1 y2.2.1.2.2.2.2.2.2.2.2.2.1 y2.2.1.2.2.2.2.2.2.2.2.2.2.1 y2.2.1.2.2.2.2.2.2.2.2.2.2.2.1 y2.2.1.2.2.2.2.2.2.2.2.2.2.2.2.1 y2.2.1.2.2.2.2.2.2.2.2.2.2.2.2.2.1 y2.2.1.2.2.2.2.2.2.2.2.2.2.2.2.2.2.1 y2.2.1.2.2.2.2.2.2.2.2.2.2.2.2.2.2.2.1).bind fun y9 =>
 bif (!y9.1.1) then
 some (Sum.inr (Sum.inr ((false, ()), ())))
 else
 some (Sum.inl (((), s48, s49, (IntKind.i64.wrap (s50 + (1 : Int))), ()), ((p0, p1, p2, p3, p4, p5, p6, p7, ()), ())))
 else
 none
 else
 some (Sum.inr (Sum.inl ((), ())))
noncomputable def ncu' : (T'52 × (T'0 × Unit)) → Option ((Unit × Unit) ⊕ ((Bool × Unit) × Unit)) := iter (fun x => nb9' x.1.2.1 x.1.2.2.1 x.1.2.2.2.1 x.2.1.1 x.2.1.2.1 x.2.1.2.2.1 x.2.1.2.2.2.1 x.2.1.2.2.2.2.1 x.2.1.2.2.2.2.2.1 x.2.1.2.2.2.2.2.2.1 x.2.1.2.2.2.2.2.2.2.1) fuel
noncomputable def F_l30_AuditImages (p0 p1 : Int) (l p2 : List (Int)) (p3 p4 : List (Bool)) (p5 : List (Entry)) : Option ((Bool × Unit) × Unit) :=
 bif (decide ((80 : Int) < ((List.length p5 : Nat) : Int))) then
 (nc5').bind fun y1 =>
 some ((y1.1.1, ()), ())
 else
 bif (decide ((20 : Int) < ((List.length p2 : Nat) : Int))) then
 (nc5').bind fun y2 =>
 some ((y2.1.1, ()), ())
 else
 bif (decide ((20 : Int) < ((List.length p3 : Nat) : Int))) then
 (nc5').bind fun y3 =>
 some ((y3.1.1, ()), ())
 else
 bif (decide ((20 : Int) < ((List.length p4 : Nat) : Int))) then
 (nc5').bind fun y4 =>
 some ((y4.1.1, ()), ())
 else
 (nbb' p0 p1).bind fun y5 =>
 (ng2' y5.2.1.1 y5.2.1.2.1 y5.2.1.2.2.1 y5.2.1.2.2.2.1 y5.2.1.2.2.2.2.1 y5.2.1.2.2.2.2.2.1 y5.2.1.2.2.2.2.2.2.1 y5.2.1.2.2.2.2.2.2.2.1 l).bind fun y6 =>
 let z0 : List (Image) := [(Image.mk y6.2.1.1 y6.2.1.2.1 y6.2.1.2.2.1 y6.2.1.2.2.2.1), (Image.mk p2 p3 p4 p5)]
 (ncu' (((), z0, ((List.length z0 : Nat) : Int), (0 : Int), ()), (y5.2.1, ()))).bind fun y7 =>
 (match y7 with
 | .inl y8 =>
 (nc5').bind fun y9 =>
 some ((y9.1.1, ()), ())
 | .inr y8 =>
 some ((y8.1.1, ()), ()))
noncomputable def ngi'  : Option ((Unit × Unit) × (T'24 × Unit)) :=
 some (((), ()), (((-1 : Int), (0 : Int), (0 : Int), ([] : List (Duty)), (0 : Int), false, ()), ()))
noncomputable def ngc' (s1 s2 : List (Duty)) (s12 s13 : Int) : Option (Sum (T'53 × Unit) ((Unit × Unit) ⊕ ((Bool × Unit) × Unit))) :=
 bif (decide (s13 < s12)) then
 bif (inB s13 (List.length s1)) then
 let z0 : Duty := (List.getD s1 (Int.toNat s13) (Duty.mk (0 : Int) (0 : Int) (0 : Int)))
 bif (inB s13 (List.length s2)) then
 let z1 : Duty := (List.getD s2 (Int.toNat s13) (Duty.mk (0 : Int) (0 : Int) (0 : Int)))
 bif (!((z0.Floor == z1.Floor) && ((z0.Dir == z1.Dir) && ((z0.Age == z1.Age) && true)))) then
 some (Sum.inr (Sum.inr ((false, ()), ())))
 else
 some (Sum.inl ((s1, s2, s12, (IntKind.i64.wrap (s13 + (1 : Int))), ()), ()))
 else
 none
 else
 none
 else
 some (Sum.inr (Sum.inl ((), ())))
noncomputable def nb0' : (T'53 × Unit) → Option ((Unit × Unit) ⊕ ((Bool × Unit) × Unit)) := iter (fun x => ngc' x.1.1 x.1.2.1 x.1.2.2.1 x.1.2.2.2.1) fuel
noncomputable def nda' (s1 s2 : List (Duty)) : Option ((Bool × Unit) × Unit) :=
 bif (((List.length s1 : Nat) : Int) != ((List.length s2 : Nat) : Int)) then
 some ((false, ()), ())
 else
 (nb0' ((s1, s2, ((List.length s1 : Nat) : Int), (0 : Int), ()), ())).bind fun y1 =>
 (match y1 with
 | .inl y2 =>
 some ((true, ()), ())
 | .inr y2 =>
 some ((y2.1.1, ()), ()))
noncomputable def nn0' (p0 p1 p2 : Int) (p3 : List (Duty)) (p4 : Int) (p5 : Bool) (p6 p7 p8 : Int) (p9 : List (Duty)) (p10 : Int) (p11 : Bool) : Option ((Bool × Unit) × Unit) :=
 Option.bind (bif (p0 == p6) then
 bif (p1 == p7) then
 bif (p2 == p8) then
 (nda' p3 p9).bind fun y1 =>
 bif y1.1.1 then
 bif (p4 == p10) then
 some (((p5 == p11), ()), ())
 else
 some ((false, ()), ())
 else
 some ((false, ()), ())
 else
 some ((false, ()), ())
 else
 some ((false, ()), ())
 else
 some ((false, ()), ())) fun y2 =>
 some ((y2.1.1, ()), ())
noncomputable def nnt' (p0 p1 p2 p3 : Int) (p4 p5 p6 : Nat) (p7 : List (Car)) (p8 p9 p10 p11 : Int) (p12 : Bool) : Option ((Bool × Unit) × Unit) :=
 Option.bind ((ndi' p0 p1 p2 p3 p4 p5 p6 p7 p8 p9).bind fun y1 =>
 bif y1.1.1 then
 bif (decide ((-2 : Int) ≤ p10)) then
 bif (decide (p10 < ((List.length p7 : Nat) : Int))) then
 bif (decide ((0 : Int) ≤ p11)) then
 some (((decide (p11 ≤ (255 : Int))), ()), ())
 else
 some ((false, ()), ())
 else
 some ((false, ()), ())
 else
 some ((false, ()), ())
 else
 some ((false, ()), ())) fun y2 =>
 some ((y2.1.1, ()), ())
noncomputable def nr6' (s52 : List (Entry)) (s53 s54 p0 p1 p2 p3 : Int) (p4 p5 p6 : Nat) (p7 : List (Car)) (p8 : List (Int)) (p9 p10 : List (Bool)) (p11 : List (Entry)) : Option (Sum (T'55 × (T'0 × T'14 × Unit)) ((Unit × Unit) ⊕ ((Bool × Unit) × Unit))) :=
 bif (decide (s54 < s53)) then
 bif (inB s54 (List.length s52)) then
 let z0 : Entry := (List.getD s52 (Int.toNat s54) (Entry.mk (0 : Int) (0 : Int) (0 : Int) (0 : Int) false))
 Option.bind ((nnt' p0 p1 p2 p3 p4 p5 p6 p7 z0.Floor z0.Dir z0.Car z0.Moves z0.Moved).bind fun y1 =>
 bif (!y1.1.1) then
 some (((), (), s52, s53, s54, true, ()), ((p0, p1, p2, p3, p4, p5, p6, p7, ()), (p8, p9, p10, p11, ()), ()))
 else
 bif (decide ((0 : Int) < s54)) then
 let z1 : Int := (IntKind.i64.wrap (s54 - (1 : Int)))
 bif (inB z1 (List.length p11)) then
 let z2 : Entry := (List.getD p11 (Int.toNat z1) (Entry.mk (0 : Int) (0 : Int) (0 : Int) (0 : Int) false))
 (nd8' z2.Floor z2.Dir z2.Car z2.Moves z2.Moved z0.Floor z0.Dir z0.Car z0.Moves z0.Moved).bind fun y2 =>
 some (((), (), s52, s53, s54, (decide ((0 : Int) ≤ y2.1.1)), ()), ((p0, p1, p2, p3, p4, p5, p6, p7, ()), (p8, p9, p10, p11, ()), ()))
 else
 none
 else
 some (((), (), s52, s53, s54, false, ()), ((p0, p1, p2, p3, p4, p5, p6, p7, ()), (p8, p9, p10, p11, ()), ()))) fun y3 =>
 bif y3.1.2.2.2.2.2.1 then
 some (Sum.inr (Sum.inr ((false, ()), ())))
 else
 some (Sum.inl (((), (), y3.1.2.2.1, y3.1.2.2.2.1, (IntKind.i64.wrap (y3.1.2.2.2.2.1 + (1 : Int))), ()), (y3.2.1, y3.2.2.1, ())))
 else
 none
 else
 some (Sum.inr (Sum.inl ((), ())))
noncomputable def nh6' : (T'55 × (T'0 × T'14 × Unit)) → Option ((Unit × Unit) ⊕ ((Bool × Unit) × Unit)) := iter (fun x => nr6' x.1.2.2.1 x.1.2.2.2.1 x.1.2.2.2.2.1 x.2.1.1 x.2.1.2.1 x.2.1.2.2.1 x.2.1.2.2.2.1 x.2.1.2.2.2.2.1 x.2.1.2.2.2.2.2.1 x.2.1.2.2.2.2.2.2.1 x.2.1.2.2.2.2.2.2.2.1 x.2.2.1.1 x.2.2.1.2.1 x.2.2.1.2.2.1 x.2.2.1.2.2.2.1) fuel
noncomputable def nru' (s38 : List (Int)) (s39 s40 p0 p1 p2 p3 : Int) (p4 p5 p6 : Nat) (p7 : List (Car)) (p8 : List (Int)) (p9 p10 : List (Bool)) (p11 : List (Entry)) : Option (Sum (T'54 × (T'0 × T'14 × Unit)) (((Unit × Unit × Unit) × (T'0 × T'14 × Unit)) ⊕ ((Bool × Unit) × Unit))) :=
 bif (decide (s40 < s39)) then
 bif (inB s40 (List.length s38)) then
 let z0 : Int := (List.getD s38 (Int.toNat s40) (0 : Int))
 bif (decide (z0 < (0 : Int))) then
 some (Sum.inr (Sum.inr ((false, ()), ())))
 else
 bif (decide ((4 : Int) < z0)) then
 some (Sum.inr (Sum.inr ((false, ()), ())))
 else
 some (Sum.inl (((), (), s38, s39, (IntKind.i64.wrap (s40 + (1 : Int))), ()), ((p0, p1, p2, p3, p4, p5, p6, p7, ()), (p8, p9, p10, p11, ()), ())))
 else
 none
 else
 some (Sum.inr (Sum.inl (((), (), ()), ((p0, p1, p2, p3, p4, p5, p6, p7, ()), (p8, p9, p10, p11, ()), ()))))
noncomputable def ni1' : (T'54 × (T'0 × T'14 × Unit)) → Option (((Unit × Unit × Unit) × (T'0 × T'14 × Unit)) ⊕ ((Bool × Unit) × Unit)) := iter (fun x => nru' x.1.2.2.1 x.1.2.2.2.1 x.1.2.2.2.2.1 x.2.1.1 x.2.1.2.1 x.2.1.2.2.1 x.2.1.2.2.2.1 x.2.1.2.2.2.2.1 x.2.1.2.2.2.2.2.1 x.2.1.2.2.2.2.2.2.1 x.2.1.2.2.2.2.2.2.2.1 x.2.2.1.1 x.2.2.1.2.1 x.2.2.1.2.2.1 x.2.2.1.2.2.2.1) fuel
noncomputable def nd4' (p0 p1 p2 p3 : Int) (p4 p5 p6 : Nat) (p7 : List (Car)) (p8 : List (Int)) (p9 p10 : List (Bool)) (p11 : List (Entry)) : Option ((Bool × Unit) × Unit) :=
 let z0 : Int := ((List.length p7 : Nat) : Int)
 (nbs' p0 p1 p2 p3 p4 p5 p6 p7).bind fun y1 =>
 bif (y1.1.1 != (0 : Int)) then
 some ((false, ()), ())
 else
 bif (((List.length p8 : Nat) : Int) != z0) then
 some ((false, ()), ())
 else
 bif (((List.length p9 : Nat) : Int) != z0) then
 some ((false, ()), ())
 else
 bif (((List.length p10 : Nat) : Int) != z0) then
 some ((false, ()), ())
 else
 (ni1' (((), (), p8, ((List.length p8 : Nat) : Int), (0 : Int), ()), ((p0, p1, p2, p3, p4, p5, p6, p7, ()), (p8, p9, p10, p11, ()), ()))).bind fun y2 =>
 (match y2 with
 | .inl y3 =>
 (nh6' (((), (), y3.2.2.1.2.2.2.1, ((List.length y3.2.2.1.2.2.2.1 : Nat) : Int), (0 : Int), ()), (y3.2.1, y3.2.2.1, ()))).bind fun y4 =>
 (match y4 with
 | .inl y5 =>
 some ((true, ()), ())
 | .inr y5 =>
 some ((y5.1.1, ()), ()))
 | .inr y3 =>
 some ((y3.1.1, ()), ()))
noncomputable def ndm' (s : List (Int)) : Option ((List (Int) × Unit) × Unit) :=
 cloF s
noncomputable def nbq' (s : List (Bool)) : Option ((List (Bool) × Unit) × Unit) :=
 cloF s
noncomputable def nb1' (s : List (Entry)) : Option ((List (Entry) × Unit) × Unit) :=
 cloF s
noncomputable def nmb' (p0 : List (Int)) (p1 p2 : List (Bool)) (p3 : List (Entry)) : Option ((Unit × Unit) × (T'14 × Unit)) :=
 (ndm' p0).bind fun y1 =>
 (nbq' p1).bind fun y2 =>
 (nbq' p2).bind fun y3 =>
 (nb1' p3).bind fun y4 =>
 some (((), ()), ((y1.1.1, y2.1.1, y3.1.1, y4.1.1, ()), ()))
noncomputable def npp' (p0 p1 p2 p3 : Int) (p4 p5 p6 : Nat) (p7 : List (Car)) (p8 : List (Int)) (p9 p10 : List (Bool)) (p11 : List (Entry)) (p12 p13 p14 p15 p16 : Int) : Option ((Unit × Int × Unit) × (T'14 × Unit)) :=
 (nd4' p0 p1 p2 p3 p4 p5 p6 p7 p8 p9 p10 p11).bind fun y1 =>
 bif (!y1.1.1) then
 some (((), (1 : Int), ()), ((([] : List (Int)), ([] : List (Bool)), ([] : List (Bool)), ([] : List (Entry)), ()), ()))
 else
 (ndo' p0 p1 p2 p3 p4 p5 p6 p7 p12 p13 p14 p15 p16).bind fun y2 =>
 bif (!y2.1.1) then
 some (((), (1 : Int), ()), ((([] : List (Int)), ([] : List (Bool)), ([] : List (Bool)), ([] : List (Entry)), ()), ()))
 else
 (nmb' p8 p9 p10 p11).bind fun y3 =>
 (ngm' p12 p13 p14 p15 p16 y3.2.1.1 y3.2.1.2.1 y3.2.1.2.2.1 y3.2.1.2.2.2.1).bind fun y4 =>
 some (((), (0 : Int), ()), (y4.2.1, ()))
noncomputable def nde' (p0 : Int) (p1 p2 : ByteArray) (p3 : Int) : Option ((Bool × Unit) × Unit) :=
 Option.bind (bif (decide ((1 : Int) ≤ p0)) then
 bif (decide (p0 ≤ (65536 : Int))) then
 bif (decide (((ByteArray.size p1 : Nat) : Int) ≤ p0)) then
 bif (decide (((ByteArray.size p2 : Nat) : Int) ≤ p0)) then
 bif (p3 == (0 : Int)) then
 some ((true, ()), ())
 else
 some (((p3 == (1 : Int)), ()), ())
 else
 some ((false, ()), ())
 else
 some ((false, ()), ())
 else
 some ((false, ()), ())
 else
 some ((false, ()), ())) fun y1 =>
 some ((y1.1.1, ()), ())
noncomputable def nq1' (p0 p1 p2 p3 : Int) (p4 p5 p6 : Nat) (p7 : List (Car)) (p8 : List (Int)) (p9 p10 : List (Bool)) (p11 : List (Entry)) : Option ((Bool × Unit) × Unit) :=
 Option.bind ((nd4' p0 p1 p2 p3 p4 p5 p6 p7 p8 p9 p10 p11).bind fun y1 =>
 bif y1.1.1 then
 some (((decide ((IntKind.i64.wrap ((IntKind.i64.wrap ((18 : Int) * (IntKind.i64.wrap ((IntKind.i64.wrap (((List.length p7 : Nat) : Int) + ((List.length p11 : Nat) : Int))) + (1 : Int))))) + (6 : Int))) ≤ p2)), ()), ())
 else
 some ((false, ()), ())) fun y2 =>
 some ((y2.1.1, ()), ())
noncomputable def nip' (p0 p1 p2 p3 : Int) (p4 p5 p6 : Nat) (p7 : List (Car)) (p8 p9 p10 p11 p12 : Int) : Option ((ByteArray × Int × Unit) × Unit) :=
 (ndo' p0 p1 p2 p3 p4 p5 p6 p7 p8 p9 p10 p11 p12).bind fun y1 =>
 bif (!y1.1.1) then
 some (((ByteArray.mk (Array.mk [])), (1 : Int), ()), ())
 else
 let z0 : ByteArray := (textU [(IntKind.u8.wrap p8), (IntKind.u8.wrap p9), (IntKind.u8.wrap p10), (IntKind.u8.wrap (IntKind.i64.wrap (p11 + (2 : Int)))), (IntKind.u8.wrap p12)])
 (nid' z0).bind fun y2 =>
 let z1 : ByteArray := (textU [y2.1.1])
 bif (Nat.ble ((ByteArray.size z0) + (ByteArray.size z1)) 4611686018427387904) then
 some (((z0 ++ z1), (0 : Int), ()), ())
 else
 none
noncomputable def nhb' (p0 : Int) (p1 p2 : ByteArray) (p3 p4 p5 : Int) : Option ((Int × Unit) × Unit) :=
 (nde' p0 p1 p2 p3).bind fun y1 =>
 bif (!y1.1.1) then
 some (((1 : Int), ()), ())
 else
 Option.bind (bif (p4 != (0 : Int)) then
 some ((p5, (p4 != (1 : Int)), ()), ())
 else
 some ((p5, false, ()), ())) fun y2 =>
 bif y2.1.2.1 then
 some (((2 : Int), ()), ())
 else
 bif (decide (y2.1.1 < (0 : Int))) then
 some (((2 : Int), ()), ())
 else
 some (((0 : Int), ()), ())
noncomputable def nka' (p0 : Int) (p1 p2 : ByteArray) (p3 p4 : Int) (p5 : ByteArray) (p6 : Int) : Option ((Unit × Int × Int × Unit) × (T'35 × Unit)) :=
 (nhb' p0 p1 p2 p3 p4 p6).bind fun y1 =>
 bif (y1.1.1 != (0 : Int)) then
 some (((), (0 : Int), y1.1.1, ()), (((ByteArray.mk (Array.mk [])), (ByteArray.mk (Array.mk [])), (0 : Int), ()), ()))
 else
 bif (inB p4 2) then
 bif (decide ((IntKind.i64.wrap (p0 - ((ByteArray.size (List.getD [p1, p2] (Int.toNat p4) (ByteArray.mk (Array.mk []))) : Nat) : Int))) < ((ByteArray.size p5 : Nat) : Int))) then
 some (((), (0 : Int), (7 : Int), ()), (((ByteArray.mk (Array.mk [])), (ByteArray.mk (Array.mk [])), (0 : Int), ()), ()))
 else
 bif (decide (p6 < ((ByteArray.size p5 : Nat) : Int))) then
 bif (inB p4 2) then
 let z0 : ByteArray := (List.getD [p1, p2] (Int.toNat p4) (ByteArray.mk (Array.mk [])))
 bif ((decide ((0 : Int) ≤ p6)) && (decide (p6 ≤ (((ByteArray.size p5) : Nat) : Int)))) then
 let z1 : ByteArray := (ByteArray.extract p5 0 (Int.toNat p6))
 bif (Nat.ble ((ByteArray.size z0) + (ByteArray.size z1)) 4611686018427387904) then
 let z2 : ByteArray := (z0 ++ z1)
 bif (inB p4 2) then
 let z3 : Nat := (Int.toNat p4)
 some (((), (0 : Int), (8 : Int), ()), (((bif (Nat.beq z3 0) then z2 else p1), (bif (Nat.beq z3 1) then z2 else p2), p3, ()), ()))
 else
 none
 else
 none
 else
 none
 else
 none
 else
 bif (inB p4 2) then
 let z4 : ByteArray := (List.getD [p1, p2] (Int.toNat p4) (ByteArray.mk (Array.mk [])))
 bif (Nat.ble ((ByteArray.size z4) + (ByteArray.size p5)) 4611686018427387904) then
 let z5 : ByteArray := (z4 ++ p5)
 bif (inB p4 2) then
 let z6 : Nat := (Int.toNat p4)
 some (((), (IntKind.i64.wrap (p6 - ((ByteArray.size p5 : Nat) : Int))), (0 : Int), ()), (((bif (Nat.beq z6 0) then z5 else p1), (bif (Nat.beq z6 1) then z5 else p2), p3, ()), ()))
 else
 none
 else
 none
 else
 none
 else
 none
noncomputable def nfc' (p0 p1 : Int) (b0 : List (Record)) (b1 : Int) : Option (Unit × T'56) :=
 let z0 : List (Record) := [(Record.mk p0 (0 : Int) (0 : Int) b1 p1)]
 bif (Nat.ble ((List.length b0) + (List.length z0)) 2147483648) then
 some ((), (((b0 ++ z0), ()), (b1, ()), ()))
 else
 none
noncomputable def nij' (p0 : Bool) : Option ((Int × Unit) × Unit) :=
 bif p0 then
 some (((1 : Int), ()), ())
 else
 some (((0 : Int), ()), ())
noncomputable def nfb' (p0 car p1 : Int) (b0 : List (Record)) (p2 p3 p4 p5 : Int) (p6 : Bool) : Option (Unit × T'57) :=
 let z0 : List (Record) := [(Record.mk p0 p2 p3 car p1)]
 bif (Nat.ble ((List.length b0) + (List.length z0)) 2147483648) then
 some ((), (((b0 ++ z0), ()), (p2, p3, p4, p5, p6, ()), ()))
 else
 none
noncomputable def np2' (s47 : List (Entry)) (s48 s49 : Int) (l : List (Record)) : Option (Sum (T'41 × T'59) ((Unit × Unit) × T'59)) :=
 bif (decide (s49 < s48)) then
 bif (inB s49 (List.length s47)) then
 let z0 : Entry := (List.getD s47 (Int.toNat s49) (Entry.mk (0 : Int) (0 : Int) (0 : Int) (0 : Int) false))
 (nfb' (1 : Int) (0 : Int) (0 : Int) l z0.Floor z0.Dir z0.Car z0.Moves z0.Moved).bind fun y1 =>
 (nfb' (3 : Int) y1.2.2.1.2.2.1 (0 : Int) y1.2.1.1 y1.2.2.1.1 y1.2.2.1.2.1 y1.2.2.1.2.2.1 y1.2.2.1.2.2.2.1 y1.2.2.1.2.2.2.2.1).bind fun y2 =>
 (nij' y2.2.2.1.2.2.2.2.1).bind fun y3 =>
 (nfb' (7 : Int) y3.1.1 y2.2.2.1.2.2.2.1 y2.2.1.1 y2.2.2.1.1 y2.2.2.1.2.1 y2.2.2.1.2.2.1 y2.2.2.1.2.2.2.1 y2.2.2.1.2.2.2.2.1).bind fun y4 =>
 some (Sum.inl (((), s47, s48, (IntKind.i64.wrap (s49 + (1 : Int))), ()), ((y4.2.1.1, ()), ())))
 else
 none
 else
 some (Sum.inr (((), ()), ((l, ()), ())))
noncomputable def nhn' : (T'41 × T'59) → Option ((Unit × Unit) × T'59) := iter (fun x => np2' x.1.2.1 x.1.2.2.1 x.1.2.2.2.1 x.2.1.1) fuel
noncomputable def np7' (s17 s18 : Int) (p0 : List (Int)) (p1 p2 : List (Bool)) (p3 : List (Entry)) (l : List (Record)) : Option (Sum (T'16 × T'58) ((Unit × Unit × Unit) × T'58)) :=
 bif (decide (s18 < s17)) then
 bif (inB s18 (List.length p0)) then
 (nfc' (4 : Int) (List.getD p0 (Int.toNat s18) (0 : Int)) l s18).bind fun y1 =>
 bif (inB y1.2.2.1.1 (List.length p1)) then
 (nij' (List.getD p1 (Int.toNat y1.2.2.1.1) false)).bind fun y2 =>
 (nfc' (5 : Int) y2.1.1 y1.2.1.1 y1.2.2.1.1).bind fun y3 =>
 bif (inB y3.2.2.1.1 (List.length p2)) then
 (nij' (List.getD p2 (Int.toNat y3.2.2.1.1) false)).bind fun y4 =>
 (nfc' (6 : Int) y4.1.1 y3.2.1.1 y3.2.2.1.1).bind fun y5 =>
 some (Sum.inl (((), (), s17, (IntKind.i64.wrap (s18 + (1 : Int))), ()), ((p0, p1, p2, p3, ()), (y5.2.1.1, ()), ())))
 else
 none
 else
 none
 else
 none
 else
 some (Sum.inr (((), (), ()), ((p0, p1, p2, p3, ()), (l, ()), ())))
noncomputable def nhi' : (T'16 × T'58) → Option ((Unit × Unit × Unit) × T'58) := iter (fun x => np7' x.1.2.2.1 x.1.2.2.2.1 x.2.1.1 x.2.1.2.1 x.2.1.2.2.1 x.2.1.2.2.2.1 x.2.2.1.1) fuel
noncomputable def nmy' (p0 p1 p2 p3 : Int) (p4 p5 p6 : Nat) (p7 : List (Car)) (p8 : List (Int)) (p9 p10 : List (Bool)) (p11 : List (Entry)) : Option ((List (Record) × Unit) × Unit) :=
 (nd4' p0 p1 p2 p3 p4 p5 p6 p7 p8 p9 p10 p11).bind fun y1 =>
 bif (!y1.1.1) then
 some ((([] : List (Record)), ()), ())
 else
 (nhi' (((), (), ((List.length p8 : Nat) : Int), (0 : Int), ()), ((p8, p9, p10, p11, ()), (([] : List (Record)), ()), ()))).bind fun y2 =>
 (nhn' (((), y2.2.1.2.2.2.1, ((List.length y2.2.1.2.2.2.1 : Nat) : Int), (0 : Int), ()), ((y2.2.2.1.1, ()), ()))).bind fun y3 =>
 some ((y3.2.1.1, ()), ())
noncomputable def nel' (s : ByteArray) (p0 : List (Int)) : Option ((Int × Unit × Unit) × (T'60 × Unit)) :=
 wsF (fun b => (b.toNat : Int)) s p0
noncomputable def nlx' (p0 p1 : ByteArray) (p2 b1 : Int) : Option (Unit × T'61) :=
 bif (inB b1 2) then
 let z0 : Nat := (Int.toNat b1)
 some ((), (((bif (Nat.beq z0 0) then (ByteArray.mk (Array.mk [])) else p0), (bif (Nat.beq z0 1) then (ByteArray.mk (Array.mk [])) else p1), p2, ()), (b1, ()), ()))
 else
 none
noncomputable def nfo' (p0 : Int) (p1 p2 : ByteArray) (p3 p4 p5 b0 : Int) : Option ((Unit × Int × Int × Unit) × T'61) :=
 (nhb' p0 p1 p2 p3 p4 p5).bind fun y1 =>
 bif (y1.1.1 != (0 : Int)) then
 some (((), (0 : Int), y1.1.1, ()), (((ByteArray.mk (Array.mk [])), (ByteArray.mk (Array.mk [])), (0 : Int), ()), (b0, ()), ()))
 else
 bif (p5 == (0 : Int)) then
 some (((), (0 : Int), (8 : Int), ()), ((p1, p2, p3, ()), (b0, ()), ()))
 else
 (nlx' p1 p2 p3 b0).bind fun y2 =>
 some (((), (IntKind.i64.wrap (p5 - (1 : Int))), (0 : Int), ()), (y2.2.1, (y2.2.2.1.1, ()), ()))
noncomputable def nns' (p0 : Int) (p1 p2 : ByteArray) (p3 p4 p5 : Int) : Option ((Unit × Int × Int × Unit) × (T'35 × Unit)) :=
 (nfo' p0 p1 p2 p3 p4 p5 p4).bind fun y1 =>
 some (((), y1.1.2.1, y1.1.2.2.1, ()), (y1.2.1, ()))
noncomputable def ngh' (p0 : List (Int)) : Option ((ByteArray × Unit) × (T'60 × Unit)) :=
 bif someL p0 && List.all p0 (fun n => decide (0 ≤ n) && decide (n < 256)) then some ((textU p0, ()), (((), p0, ()), ())) else none
noncomputable def nk5' (p0 p1 : ByteArray) (p2 b1 : Int) : Option (Unit × T'61) :=
 some ((), ((p0, p1, b1, ()), (b1, ()), ()))
noncomputable def ne7' (p0 : Int) (p1 p2 : ByteArray) (p3 p4 p5 b0 : Int) : Option ((Unit × Int × Int × Unit) × T'61) :=
 (nhb' p0 p1 p2 p3 p4 p5).bind fun y1 =>
 bif (y1.1.1 != (0 : Int)) then
 some (((), (0 : Int), y1.1.1, ()), (((ByteArray.mk (Array.mk [])), (ByteArray.mk (Array.mk [])), (0 : Int), ()), (b0, ()), ()))
 else
 bif (p5 == (0 : Int)) then
 some (((), (0 : Int), (8 : Int), ()), ((p1, p2, p3, ()), (b0, ()), ()))
 else
 (nk5' p1 p2 p3 b0).bind fun y2 =>
 some (((), (IntKind.i64.wrap (p5 - (1 : Int))), (0 : Int), ()), (y2.2.1, (y2.2.2.1.1, ()), ()))
noncomputable def nmn' (p0 : Int) (p1 p2 : ByteArray) (p3 p4 p5 : Int) : Option ((Unit × Int × Int × Unit) × (T'35 × Unit)) :=
 (ne7' p0 p1 p2 p3 p4 p5 p4).bind fun y1 =>
 some (((), y1.1.2.1, y1.1.2.2.1, ()), (y1.2.1, ()))
noncomputable def nry' (p0 : Int) (s36 : List (Record)) (s37 s38 p1 p2 p3 p4 : Int) (p5 p6 p7 : Nat) (p8 : List (Car)) (p9 p10 : ByteArray) (p11 : Int) (p12 p13 : ByteArray) (p14 : Int) (p15 : List (Int)) : Option (Sum (T'62 × T'63) (T'64 × T'63)) :=
 bif (decide (s38 < s37)) then
 bif (inB s38 (List.length s36)) then
 let z0 : Record := (List.getD s36 (Int.toNat s38) (Record.mk (0 : Int) (0 : Int) (0 : Int) (0 : Int) (0 : Int)))
 (nip' p1 p2 p3 p4 p5 p6 p7 p8 z0.Kind z0.Floor z0.Dir z0.Car z0.Value).bind fun y1 =>
 (nel' y1.1.1 p15).bind fun y2 =>
 some (Sum.inl ((p0, (), (), (), (), s36, s37, (IntKind.i64.wrap (s38 + (1 : Int))), ()), ((p1, p2, p3, p4, p5, p6, p7, p8, ()), (p9, p10, p11, ()), (p12, p13, p14, ()), ((), y2.2.1.2.1, ()), ())))
 else
 none
 else
 some (Sum.inr ((p0, (), (), (), (), ()), ((p1, p2, p3, p4, p5, p6, p7, p8, ()), (p9, p10, p11, ()), (p12, p13, p14, ()), ((), p15, ()), ())))
noncomputable def nir' : (T'62 × T'63) → Option (T'64 × T'63) := iter (fun x => nry' x.1.1 x.1.2.2.2.2.2.1 x.1.2.2.2.2.2.2.1 x.1.2.2.2.2.2.2.2.1 x.2.1.1 x.2.1.2.1 x.2.1.2.2.1 x.2.1.2.2.2.1 x.2.1.2.2.2.2.1 x.2.1.2.2.2.2.2.1 x.2.1.2.2.2.2.2.2.1 x.2.1.2.2.2.2.2.2.2.1 x.2.2.1.1 x.2.2.1.2.1 x.2.2.1.2.2.1 x.2.2.2.1.1 x.2.2.2.1.2.1 x.2.2.2.1.2.2.1 x.2.2.2.2.1.2.1) fuel
noncomputable def nj9' (p0 p1 p2 p3 : Int) (p4 p5 p6 : Nat) (p7 : List (Car)) (p8 p9 : ByteArray) (p10 : Int) (p11 : List (Int)) (p12 p13 : List (Bool)) (p14 : List (Entry)) (p15 : Int) : Option ((Unit × Int × Int × Unit) × (T'35 × Unit)) :=
 (nde' p2 p8 p9 p10).bind fun y1 =>
 bif (!y1.1.1) then
 some (((), (0 : Int), (1 : Int), ()), (((ByteArray.mk (Array.mk [])), (ByteArray.mk (Array.mk [])), (0 : Int), ()), ()))
 else
 bif (decide (p15 < (0 : Int))) then
 some (((), (0 : Int), (1 : Int), ()), (((ByteArray.mk (Array.mk [])), (ByteArray.mk (Array.mk [])), (0 : Int), ()), ()))
 else
 (nd4' p0 p1 p2 p3 p4 p5 p6 p7 p11 p12 p13 p14).bind fun y2 =>
 bif (!y2.1.1) then
 some (((), (0 : Int), (1 : Int), ()), (((ByteArray.mk (Array.mk [])), (ByteArray.mk (Array.mk [])), (0 : Int), ()), ()))
 else
 (nmy' p0 p1 p2 p3 p4 p5 p6 p7 p11 p12 p13 p14).bind fun y3 =>
 (nir' ((p15, (), (), (), (), y3.1.1, ((List.length y3.1.1 : Nat) : Int), (0 : Int), ()), ((p0, p1, p2, p3, p4, p5, p6, p7, ()), (p8, p9, p10, ()), ((ByteArray.mk (Array.mk [])), (ByteArray.mk (Array.mk [])), (0 : Int), ()), ((), ([] : List (Int)), ()), ()))).bind fun y4 =>
 let z0 : Int := (IntKind.i64.wrap ((1 : Int) - y4.2.2.1.2.2.1))
 (nns' y4.2.1.2.2.1 y4.2.2.1.1 y4.2.2.1.2.1 y4.2.2.1.2.2.1 z0 y4.1.1).bind fun y5 =>
 Option.bind (bif (y5.1.2.2.1 == (0 : Int)) then
 (ngh' y4.2.2.2.2.1.2.1).bind fun y6 =>
 (nka' y4.2.1.2.2.1 y5.2.1.1 y5.2.1.2.1 y5.2.1.2.2.1 z0 y6.1.1 y5.1.2.1).bind fun y7 =>
 some ((y7.1.2.1, (), (), (), z0, y7.1.2.2.1, ()), (y4.2.1, y7.2.1, y4.2.2.2.1, ()))
 else
 some ((y5.1.2.1, (), (), (), z0, y5.1.2.2.1, ()), (y4.2.1, y5.2.1, y4.2.2.2.1, ()))) fun y8 =>
 bif (y8.1.2.2.2.2.2.1 == (0 : Int)) then
 (nmn' y8.2.1.2.2.1 y8.2.2.1.1 y8.2.2.1.2.1 y8.2.2.1.2.2.1 y8.1.2.2.2.2.1 y8.1.1).bind fun y9 =>
 some (((), y9.1.2.1, y9.1.2.2.1, ()), (y9.2.1, ()))
 else
 some (((), y8.1.1, y8.1.2.2.2.2.2.1, ()), (y8.2.2.1, ()))
noncomputable def ngl' (p0 p1 p2 p3 : Int) (p4 p5 p6 : Nat) (p7 : List (Car)) (p8 p9 : ByteArray) (p10 : Int) (p11 : List (Int)) (p12 p13 : List (Bool)) (p14 : List (Entry)) (p15 p16 p17 p18 p19 p20 : Int) : Option (T'16 × (T'35 × T'14 × Unit)) :=
 (npp' p0 p1 p2 p3 p4 p5 p6 p7 p11 p12 p13 p14 p15 p16 p17 p18 p19).bind fun y1 =>
 bif (y1.1.2.1 != (0 : Int)) then
 some (((), (), (0 : Int), (1 : Int), ()), (((ByteArray.mk (Array.mk [])), (ByteArray.mk (Array.mk [])), (0 : Int), ()), (([] : List (Int)), ([] : List (Bool)), ([] : List (Bool)), ([] : List (Entry)), ()), ()))
 else
 (nde' p2 p8 p9 p10).bind fun y2 =>
 bif (!y2.1.1) then
 some (((), (), (0 : Int), (1 : Int), ()), (((ByteArray.mk (Array.mk [])), (ByteArray.mk (Array.mk [])), (0 : Int), ()), (([] : List (Int)), ([] : List (Bool)), ([] : List (Bool)), ([] : List (Entry)), ()), ()))
 else
 bif (decide (p20 < (0 : Int))) then
 some (((), (), (0 : Int), (1 : Int), ()), (((ByteArray.mk (Array.mk [])), (ByteArray.mk (Array.mk [])), (0 : Int), ()), (([] : List (Int)), ([] : List (Bool)), ([] : List (Bool)), ([] : List (Entry)), ()), ()))
 else
 (ni0' p11 p12 p13 p14 p16 p17).bind fun y3 =>
 Option.bind (bif (p15 == (1 : Int)) then
 bif (!y3.1.2.1) then
 (nq1' p0 p1 p2 p3 p4 p5 p6 p7 p11 p12 p13 p14).bind fun y4 =>
 some ((p20, (), (), (), (), (), (), (), (!y4.1.1), ()), ((p0, p1, p2, p3, p4, p5, p6, p7, ()), (p8, p9, p10, ()), (p11, p12, p13, p14, ()), (p15, p16, p17, p18, p19, ()), ((ByteArray.mk (Array.mk [])), (ByteArray.mk (Array.mk [])), (0 : Int), ()), (([] : List (Int)), ([] : List (Bool)), ([] : List (Bool)), ([] : List (Entry)), ()), y1.2.1, ()))
 else
 some ((p20, (), (), (), (), (), (), (), false, ()), ((p0, p1, p2, p3, p4, p5, p6, p7, ()), (p8, p9, p10, ()), (p11, p12, p13, p14, ()), (p15, p16, p17, p18, p19, ()), ((ByteArray.mk (Array.mk [])), (ByteArray.mk (Array.mk [])), (0 : Int), ()), (([] : List (Int)), ([] : List (Bool)), ([] : List (Bool)), ([] : List (Entry)), ()), y1.2.1, ()))
 else
 some ((p20, (), (), (), (), (), (), (), false, ()), ((p0, p1, p2, p3, p4, p5, p6, p7, ()), (p8, p9, p10, ()), (p11, p12, p13, p14, ()), (p15, p16, p17, p18, p19, ()), ((ByteArray.mk (Array.mk [])), (ByteArray.mk (Array.mk [])), (0 : Int), ()), (([] : List (Int)), ([] : List (Bool)), ([] : List (Bool)), ([] : List (Entry)), ()), y1.2.1, ()))) fun y5 =>
 bif y5.1.2.2.2.2.2.2.2.2.1 then
 some (((), (), (0 : Int), (7 : Int), ()), (((ByteArray.mk (Array.mk [])), (ByteArray.mk (Array.mk [])), (0 : Int), ()), (([] : List (Int)), ([] : List (Bool)), ([] : List (Bool)), ([] : List (Entry)), ()), ()))
 else
 (nip' y5.2.1.1 y5.2.1.2.1 y5.2.1.2.2.1 y5.2.1.2.2.2.1 y5.2.1.2.2.2.2.1 y5.2.1.2.2.2.2.2.1 y5.2.1.2.2.2.2.2.2.1 y5.2.1.2.2.2.2.2.2.2.1 y5.2.2.2.2.1.1 y5.2.2.2.2.1.2.1 y5.2.2.2.2.1.2.2.1 y5.2.2.2.2.1.2.2.2.1 y5.2.2.2.2.1.2.2.2.2.1).bind fun y6 =>
 Option.bind ((neb' y5.2.2.1.1 y5.2.2.1.2.1 y5.2.2.1.2.2.1).bind fun y7 =>
 bif (decide (((ByteArray.size y6.1.1 : Nat) : Int) ≤ (IntKind.i64.wrap (y5.2.1.2.2.1 - ((ByteArray.size y7.1.1 : Nat) : Int))))) then
 (nka' y5.2.1.2.2.1 y5.2.2.1.1 y5.2.2.1.2.1 y5.2.2.1.2.2.1 y5.2.2.1.2.2.1 y6.1.1 y5.1.1).bind fun y8 =>
 some ((y8.1.2.1, (), (), (), (), (), y8.1.2.2.1, ()), (y8.2.1, y5.2.2.2.1, y5.2.2.2.2.2.1, y5.2.2.2.2.2.2.1, y5.2.2.2.2.2.2.2.1, ()))
 else
 (nj9' y5.2.1.1 y5.2.1.2.1 y5.2.1.2.2.1 y5.2.1.2.2.2.1 y5.2.1.2.2.2.2.1 y5.2.1.2.2.2.2.2.1 y5.2.1.2.2.2.2.2.2.1 y5.2.1.2.2.2.2.2.2.2.1 y5.2.2.1.1 y5.2.2.1.2.1 y5.2.2.1.2.2.1 y5.2.2.2.2.2.2.2.1.1 y5.2.2.2.2.2.2.2.1.2.1 y5.2.2.2.2.2.2.2.1.2.2.1 y5.2.2.2.2.2.2.2.1.2.2.2.1 y5.1.1).bind fun y9 =>
 some ((y9.1.2.1, (), (), (), (), (), y9.1.2.2.1, ()), (y9.2.1, y5.2.2.2.1, y5.2.2.2.2.2.1, y5.2.2.2.2.2.2.1, y5.2.2.2.2.2.2.2.1, ()))) fun y10 =>
 bif (y10.1.2.2.2.2.2.2.1 == (0 : Int)) then
 some (((), (), y10.1.1, y10.1.2.2.2.2.2.2.1, ()), (y10.2.1, y10.2.2.2.2.2.1, ()))
 else
 bif (y10.1.2.2.2.2.2.2.1 == (8 : Int)) then
 (nmb' y10.2.2.1.1 y10.2.2.1.2.1 y10.2.2.1.2.2.1 y10.2.2.1.2.2.2.1).bind fun y11 =>
 some (((), (), (0 : Int), y10.1.2.2.2.2.2.2.1, ()), (y10.2.1, y11.2.1, ()))
 else
 some (((), (), (0 : Int), y10.1.2.2.2.2.2.2.1, ()), (((ByteArray.mk (Array.mk [])), (ByteArray.mk (Array.mk [])), (0 : Int), ()), (([] : List (Int)), ([] : List (Bool)), ([] : List (Bool)), ([] : List (Entry)), ()), ()))
noncomputable def nym'  : Option ((Bool × Unit) × Unit) :=
 (nbb' (9 : Int) (30 : Int)).bind fun y1 =>
 (nd6' y1.2.1.1 y1.2.1.2.1 y1.2.1.2.2.1 y1.2.1.2.2.2.1 y1.2.1.2.2.2.2.1 y1.2.1.2.2.2.2.2.1 y1.2.1.2.2.2.2.2.2.1 y1.2.1.2.2.2.2.2.2.2.1).bind fun y2 =>
 (ngl' y1.2.1.1 y1.2.1.2.1 y1.2.1.2.2.1 y1.2.1.2.2.2.1 y1.2.1.2.2.2.2.1 y1.2.1.2.2.2.2.2.1 y1.2.1.2.2.2.2.2.2.1 y1.2.1.2.2.2.2.2.2.2.1 (ByteArray.mk (Array.mk [])) (ByteArray.mk (Array.mk [])) (0 : Int) y2.2.1.1 y2.2.1.2.1 y2.2.1.2.2.1 y2.2.1.2.2.2.1 (1 : Int) (2 : Int) (1 : Int) (0 : Int) (0 : Int) (100 : Int)).bind fun y3 =>
 (ngl' y1.2.1.1 y1.2.1.2.1 y1.2.1.2.2.1 y1.2.1.2.2.2.1 y1.2.1.2.2.2.2.1 y1.2.1.2.2.2.2.2.1 y1.2.1.2.2.2.2.2.2.1 y1.2.1.2.2.2.2.2.2.2.1 y3.2.1.1 y3.2.1.2.1 y3.2.1.2.2.1 y3.2.2.1.1 y3.2.2.1.2.1 y3.2.2.1.2.2.1 y3.2.2.1.2.2.2.1 (3 : Int) (2 : Int) (1 : Int) (0 : Int) (0 : Int) y3.1.2.2.1).bind fun y4 =>
 (ngl' y1.2.1.1 y1.2.1.2.1 y1.2.1.2.2.1 y1.2.1.2.2.2.1 y1.2.1.2.2.2.2.1 y1.2.1.2.2.2.2.2.1 y1.2.1.2.2.2.2.2.2.1 y1.2.1.2.2.2.2.2.2.2.1 y4.2.1.1 y4.2.1.2.1 y4.2.1.2.2.1 y4.2.2.1.1 y4.2.2.1.2.1 y4.2.2.1.2.2.1 y4.2.2.1.2.2.2.1 (2 : Int) (2 : Int) (1 : Int) (0 : Int) (0 : Int) (5 : Int)).bind fun y5 =>
 Option.bind (bif (y3.1.2.2.2.1 == (0 : Int)) then
 bif (y3.1.2.2.1 == (94 : Int)) then
 bif (y4.1.2.2.2.1 == (0 : Int)) then
 bif (y4.1.2.2.1 == (88 : Int)) then
 bif (((List.length y4.2.2.1.2.2.2.1 : Nat) : Int) == (1 : Int)) then
 bif (inB (0 : Int) (List.length y4.2.2.1.2.2.2.1)) then
 let z0 : Entry := (List.getD y4.2.2.1.2.2.2.1 (Int.toNat (0 : Int)) (Entry.mk (0 : Int) (0 : Int) (0 : Int) (0 : Int) false))
 bif ((z0.Floor == (2 : Int)) && ((z0.Dir == (1 : Int)) && ((z0.Car == (0 : Int)) && ((z0.Moves == (0 : Int)) && ((z0.Moved == false) && true))))) then
 bif (y5.1.2.2.2.1 == (8 : Int)) then
 (nec' y5.2.2.1.1 y5.2.2.1.2.1 y5.2.2.1.2.2.1 y5.2.2.1.2.2.2.1 y4.2.2.1.1 y4.2.2.1.2.1 y4.2.2.1.2.2.1 y4.2.2.1.2.2.2.1).bind fun y6 =>
 bif y6.1.1 then
 (ndu' y1.2.1.1 y1.2.1.2.1 y1.2.1.2.2.1 y1.2.1.2.2.2.1 y1.2.1.2.2.2.2.1 y1.2.1.2.2.2.2.2.1 y1.2.1.2.2.2.2.2.2.1 y1.2.1.2.2.2.2.2.2.2.1 y5.2.1.1 y5.2.1.2.1 y5.2.1.2.2.1).bind fun y7 =>
 (nec' y7.2.1.1 y7.2.1.2.1 y7.2.1.2.2.1 y7.2.1.2.2.2.1 y4.2.2.1.1 y4.2.2.1.2.1 y4.2.2.1.2.2.1 y4.2.2.1.2.2.2.1).bind fun y8 =>
 some ((y8.1.1, ()), ())
 else
 some ((false, ()), ())
 else
 some ((false, ()), ())
 else
 some ((false, ()), ())
 else
 none
 else
 some ((false, ()), ())
 else
 some ((false, ()), ())
 else
 some ((false, ()), ())
 else
 some ((false, ()), ())
 else
 some ((false, ()), ())) fun y9 =>
 some ((y9.1.1, ()), ())
noncomputable def nno' (p0 p1 p2 p3 : Int) (p4 p5 p6 : Nat) (p7 : List (Car)) (p8 p9 : ByteArray) (p10 p11 : Int) : Option (T'16 × (T'35 × T'14 × Unit)) :=
 (ndu' p0 p1 p2 p3 p4 p5 p6 p7 p8 p9 p10).bind fun y1 =>
 (nj9' p0 p1 p2 p3 p4 p5 p6 p7 p8 p9 p10 y1.2.1.1 y1.2.1.2.1 y1.2.1.2.2.1 y1.2.1.2.2.2.1 p11).bind fun y2 =>
 bif (y2.1.2.2.1 != (0 : Int)) then
 some (((), (), (0 : Int), y2.1.2.2.1, ()), (y2.2.1, (([] : List (Int)), ([] : List (Bool)), ([] : List (Bool)), ([] : List (Entry)), ()), ()))
 else
 some (((), (), y2.1.2.1, (0 : Int), ()), (y2.2.1, y1.2.1, ()))
noncomputable def ni8' (p0 p1 p2 p3 : Int) (p4 p5 p6 : Nat) (p7 : List (Car)) (p8 : List (Int)) (p9 p10 : List (Bool)) (p11 : List (Entry)) : Option ((Bool × Unit) × Unit) :=
 Option.bind ((nd4' p0 p1 p2 p3 p4 p5 p6 p7 p8 p9 p10 p11).bind fun y1 =>
 bif y1.1.1 then
 some (((decide ((IntKind.i64.wrap ((IntKind.i64.wrap ((18 : Int) * (IntKind.i64.wrap (((List.length p7 : Nat) : Int) + ((List.length p11 : Nat) : Int))))) + (6 : Int))) ≤ p2)), ()), ())
 else
 some ((false, ()), ())) fun y2 =>
 some ((y2.1.1, ()), ())
noncomputable def nhp' (p0 : List (Int)) (p1 p2 : List (Bool)) (p3 : List (Entry)) : Option ((Unit × Unit) × (T'14 × Unit)) :=
 (ndm' p0).bind fun y1 =>
 (nbq' p1).bind fun y2 =>
 (nbq' p2).bind fun y3 =>
 (nb1' p3).bind fun y4 =>
 some (((), ()), ((y1.1.1, y2.1.1, y3.1.1, y4.1.1, ()), ()))
noncomputable def npi' (s53 : List (Entry)) (s54 s55 p0 p1 p2 p3 : Int) (p4 p5 p6 : Nat) (p7 : List (Car)) (p8 : List (Int)) (p9 p10 : List (Bool)) (p11 : List (Entry)) (p12 p13 : ByteArray) (p14 : Int) (p15 : List (Debounced)) (p16 : List (Belief)) (p17 : List (NewCar)) (p18 : List (Loaded)) (p19 : List (Int)) (p20 : List (Calls)) (p21 p22 p23 : Int) (p24 : List (Int)) (p25 p26 : List (Bool)) (p27 : List (Entry)) (p28 p29 : ByteArray) (p30 : Int) (p31 : List (Debounced)) (p32 : List (Belief)) (p33 : List (NewCar)) (p34 : List (Loaded)) (p35 : List (Int)) (p36 : List (Calls)) (p37 p38 p39 : Int) : Option (Sum (T'66 × T'67) ((Unit × Unit × Unit) × (T'25 × T'25 × Unit))) :=
 bif (decide (s55 < s54)) then
 bif (inB s55 (List.length s53)) then
 let z0 : Entry := (List.getD s53 (Int.toNat s55) (Entry.mk (0 : Int) (0 : Int) (0 : Int) (0 : Int) false))
 Option.bind (bif (decide ((0 : Int) ≤ z0.Car)) then
 bif (inB z0.Car (List.length p7)) then
 some (((), (), (), (List.getD p7 (Int.toNat z0.Car) (Car.mk (0 : Int) (0 : Int) (0 : Int) (0 : Int) (0 : Int) (0 : Int) (0 : Int) (0 : Int) (0 : Int))).Deadline, s53, s54, s55, ()), ((p0, p1, p2, p3, p4, p5, p6, p7, ()), (p8, p9, p10, p11, p12, p13, p14, p15, p16, p17, p18, p19, p20, p21, p22, p23, ()), (p24, p25, p26, p27, p28, p29, p30, p31, p32, p33, p34, p35, p36, p37, p38, p39, ()), ()))
 else
 none
 else
 some (((), (), (), (0 : Int), s53, s54, s55, ()), ((p0, p1, p2, p3, p4, p5, p6, p7, ()), (p8, p9, p10, p11, p12, p13, p14, p15, p16, p17, p18, p19, p20, p21, p22, p23, ()), (p24, p25, p26, p27, p28, p29, p30, p31, p32, p33, p34, p35, p36, p37, p38, p39, ()), ()))) fun y1 =>
 let z1 : List (Int) := [y1.1.2.2.2.1]
 bif (Nat.ble ((List.length y1.2.2.2.1.2.2.2.2.2.2.2.2.2.2.2.1) + (List.length z1)) 2147483648) then
 some (Sum.inl (((), (), (), y1.1.2.2.2.2.1, y1.1.2.2.2.2.2.1, (IntKind.i64.wrap (y1.1.2.2.2.2.2.2.1 + (1 : Int))), ()), (y1.2.1, y1.2.2.1, (y1.2.2.2.1.1, y1.2.2.2.1.2.1, y1.2.2.2.1.2.2.1, y1.2.2.2.1.2.2.2.1, y1.2.2.2.1.2.2.2.2.1, y1.2.2.2.1.2.2.2.2.2.1, y1.2.2.2.1.2.2.2.2.2.2.1, y1.2.2.2.1.2.2.2.2.2.2.2.1, y1.2.2.2.1.2.2.2.2.2.2.2.2.1, y1.2.2.2.1.2.2.2.2.2.2.2.2.2.1, y1.2.2.2.1.2.2.2.2.2.2.2.2.2.2.1, (y1.2.2.2.1.2.2.2.2.2.2.2.2.2.2.2.1 ++ z1), y1.2.2.2.1.2.2.2.2.2.2.2.2.2.2.2.2.1, y1.2.2.2.1.2.2.2.2.2.2.2.2.2.2.2.2.2.1, y1.2.2.2.1.2.2.2.2.2.2.2.2.2.2.2.2.2.2.1, y1.2.2.2.1.2.2.2.2.2.2.2.2.2.2.2.2.2.2.2.1, ()), ())))
 else
 none
 else
 none
 else
 some (Sum.inr (((), (), ()), ((p8, p9, p10, p11, p12, p13, p14, p15, p16, p17, p18, p19, p20, p21, p22, p23, ()), (p24, p25, p26, p27, p28, p29, p30, p31, p32, p33, p34, p35, p36, p37, p38, p39, ()), ())))
noncomputable def nem' : (T'66 × T'67) → Option ((Unit × Unit × Unit) × (T'25 × T'25 × Unit)) := iter (fun x => npi' x.1.2.2.2.1 x.1.2.2.2.2.1 x.1.2.2.2.2.2.1 x.2.1.1 x.2.1.2.1 x.2.1.2.2.1 x.2.1.2.2.2.1 x.2.1.2.2.2.2.1 x.2.1.2.2.2.2.2.1 x.2.1.2.2.2.2.2.2.1 x.2.1.2.2.2.2.2.2.2.1 x.2.2.1.1 x.2.2.1.2.1 x.2.2.1.2.2.1 x.2.2.1.2.2.2.1 x.2.2.1.2.2.2.2.1 x.2.2.1.2.2.2.2.2.1 x.2.2.1.2.2.2.2.2.2.1 x.2.2.1.2.2.2.2.2.2.2.1 x.2.2.1.2.2.2.2.2.2.2.2.1 x.2.2.1.2.2.2.2.2.2.2.2.2.1 x.2.2.1.2.2.2.2.2.2.2.2.2.2.1 x.2.2.1.2.2.2.2.2.2.2.2.2.2.2.1 x.2.2.1.2.2.2.2.2.2.2.2.2.2.2.2.1 x.2.2.1.2.2.2.2.2.2.2.2.2.2.2.2.2.1 x.2.2.1.2.2.2.2.2.2.2.2.2.2.2.2.2.2.1 x.2.2.1.2.2.2.2.2.2.2.2.2.2.2.2.2.2.2.1 x.2.2.2.1.1 x.2.2.2.1.2.1 x.2.2.2.1.2.2.1 x.2.2.2.1.2.2.2.1 x.2.2.2.1.2.2.2.2.1 x.2.2.2.1.2.2.2.2.2.1 x.2.2.2.1.2.2.2.2.2.2.1 x.2.2.2.1.2.2.2.2.2.2.2.1 x.2.2.2.1.2.2.2.2.2.2.2.2.1 x.2.2.2.1.2.2.2.2.2.2.2.2.2.1 x.2.2.2.1.2.2.2.2.2.2.2.2.2.2.1 x.2.2.2.1.2.2.2.2.2.2.2.2.2.2.2.1 x.2.2.2.1.2.2.2.2.2.2.2.2.2.2.2.2.1 x.2.2.2.1.2.2.2.2.2.2.2.2.2.2.2.2.2.1 x.2.2.2.1.2.2.2.2.2.2.2.2.2.2.2.2.2.2.1 x.2.2.2.1.2.2.2.2.2.2.2.2.2.2.2.2.2.2.2.1) fuel
noncomputable def npl' (s42 s43 p0 p1 p2 p3 : Int) (p4 p5 p6 : Nat) (p7 : List (Car)) (p8 : List (Int)) (p9 p10 : List (Bool)) (p11 : List (Entry)) (p12 : List (Int)) (p13 p14 : List (Bool)) (p15 : List (Entry)) (p16 p17 : ByteArray) (p18 : Int) (p19 : List (Debounced)) (p20 : List (Belief)) (p21 : List (NewCar)) (p22 : List (Loaded)) (p23 : List (Int)) (p24 : List (Calls)) (p25 p26 p27 : Int) (p28 : List (Int)) (p29 p30 : List (Bool)) (p31 : List (Entry)) (p32 p33 : ByteArray) (p34 : Int) (p35 : List (Debounced)) (p36 : List (Belief)) (p37 : List (NewCar)) (p38 : List (Loaded)) (p39 : List (Int)) (p40 : List (Calls)) (p41 p42 p43 : Int) : Option (Sum (T'65 × T'27) (T'28 × T'27)) :=
 bif (decide (s43 < s42)) then
 (ngi').bind fun y1 =>
 let z0 : List (Belief) := [(Belief.mk y1.2.1.1 y1.2.1.2.1 y1.2.1.2.2.1 y1.2.1.2.2.2.1 y1.2.1.2.2.2.2.1 y1.2.1.2.2.2.2.2.1)]
 bif (Nat.ble ((List.length p36) + (List.length z0)) 2147483648) then
 some (Sum.inl (((), (), (), (), s42, (IntKind.i64.wrap (s43 + (1 : Int))), ()), ((p0, p1, p2, p3, p4, p5, p6, p7, ()), (p8, p9, p10, p11, ()), (p12, p13, p14, p15, p16, p17, p18, p19, p20, p21, p22, p23, p24, p25, p26, p27, ()), (p28, p29, p30, p31, p32, p33, p34, p35, (p36 ++ z0), p37, p38, p39, p40, p41, p42, p43, ()), ())))
 else
 none
 else
 some (Sum.inr (((), (), (), (), ()), ((p0, p1, p2, p3, p4, p5, p6, p7, ()), (p8, p9, p10, p11, ()), (p12, p13, p14, p15, p16, p17, p18, p19, p20, p21, p22, p23, p24, p25, p26, p27, ()), (p28, p29, p30, p31, p32, p33, p34, p35, p36, p37, p38, p39, p40, p41, p42, p43, ()), ())))
noncomputable def neo' : (T'65 × T'27) → Option (T'28 × T'27) := iter (fun x => npl' x.1.2.2.2.2.1 x.1.2.2.2.2.2.1 x.2.1.1 x.2.1.2.1 x.2.1.2.2.1 x.2.1.2.2.2.1 x.2.1.2.2.2.2.1 x.2.1.2.2.2.2.2.1 x.2.1.2.2.2.2.2.2.1 x.2.1.2.2.2.2.2.2.2.1 x.2.2.1.1 x.2.2.1.2.1 x.2.2.1.2.2.1 x.2.2.1.2.2.2.1 x.2.2.2.1.1 x.2.2.2.1.2.1 x.2.2.2.1.2.2.1 x.2.2.2.1.2.2.2.1 x.2.2.2.1.2.2.2.2.1 x.2.2.2.1.2.2.2.2.2.1 x.2.2.2.1.2.2.2.2.2.2.1 x.2.2.2.1.2.2.2.2.2.2.2.1 x.2.2.2.1.2.2.2.2.2.2.2.2.1 x.2.2.2.1.2.2.2.2.2.2.2.2.2.1 x.2.2.2.1.2.2.2.2.2.2.2.2.2.2.1 x.2.2.2.1.2.2.2.2.2.2.2.2.2.2.2.1 x.2.2.2.1.2.2.2.2.2.2.2.2.2.2.2.2.1 x.2.2.2.1.2.2.2.2.2.2.2.2.2.2.2.2.2.1 x.2.2.2.1.2.2.2.2.2.2.2.2.2.2.2.2.2.2.1 x.2.2.2.1.2.2.2.2.2.2.2.2.2.2.2.2.2.2.2.1 x.2.2.2.2.1.1 x.2.2.2.2.1.2.1 x.2.2.2.2.1.2.2.1 x.2.2.2.2.1.2.2.2.1 x.2.2.2.2.1.2.2.2.2.1 x.2.2.2.2.1.2.2.2.2.2.1 x.2.2.2.2.1.2.2.2.2.2.2.1 x.2.2.2.2.1.2.2.2.2.2.2.2.1 x.2.2.2.2.1.2.2.2.2.2.2.2.2.1 x.2.2.2.2.1.2.2.2.2.2.2.2.2.2.1 x.2.2.2.2.1.2.2.2.2.2.2.2.2.2.2.1 x.2.2.2.2.1.2.2.2.2.2.2.2.2.2.2.2.1 x.2.2.2.2.1.2.2.2.2.2.2.2.2.2.2.2.2.1 x.2.2.2.2.1.2.2.2.2.2.2.2.2.2.2.2.2.2.1 x.2.2.2.2.1.2.2.2.2.2.2.2.2.2.2.2.2.2.2.1 x.2.2.2.2.1.2.2.2.2.2.2.2.2.2.2.2.2.2.2.2.1) fuel
noncomputable def nlz' (p0 p1 p2 p3 : Int) (p4 p5 p6 : Nat) (p7 : List (Car)) (p8 : List (Int)) (p9 p10 : List (Bool)) (p11 : List (Entry)) (p12 p13 : ByteArray) (p14 : Int) : Option ((Unit × Int × Unit) × (T'25 × Unit)) :=
 (ni8' p0 p1 p2 p3 p4 p5 p6 p7 p8 p9 p10 p11).bind fun y1 =>
 bif (!y1.1.1) then
 some (((), (1 : Int), ()), ((([] : List (Int)), ([] : List (Bool)), ([] : List (Bool)), ([] : List (Entry)), (ByteArray.mk (Array.mk [])), (ByteArray.mk (Array.mk [])), (0 : Int), ([] : List (Debounced)), ([] : List (Belief)), ([] : List (NewCar)), ([] : List (Loaded)), ([] : List (Int)), ([] : List (Calls)), (0 : Int), (0 : Int), (0 : Int), ()), ()))
 else
 (nde' p2 p12 p13 p14).bind fun y2 =>
 bif (!y2.1.1) then
 some (((), (1 : Int), ()), ((([] : List (Int)), ([] : List (Bool)), ([] : List (Bool)), ([] : List (Entry)), (ByteArray.mk (Array.mk [])), (ByteArray.mk (Array.mk [])), (0 : Int), ([] : List (Debounced)), ([] : List (Belief)), ([] : List (NewCar)), ([] : List (Loaded)), ([] : List (Int)), ([] : List (Calls)), (0 : Int), (0 : Int), (0 : Int), ()), ()))
 else
 let z0 : Int := ((List.length p7 : Nat) : Int)
 (nhp' p8 p9 p10 p11).bind fun y3 =>
 bif (((decide ((0 : Int) ≤ z0)) && (decide (z0 ≤ z0))) && (decide (z0 ≤ (2147483648 : Int)))) then
 bif (((decide ((0 : Int) ≤ z0)) && (decide (z0 ≤ z0))) && (decide (z0 ≤ (2147483648 : Int)))) then
 bif (((decide ((0 : Int) ≤ z0)) && (decide (z0 ≤ z0))) && (decide (z0 ≤ (2147483648 : Int)))) then
 bif (((decide ((0 : Int) ≤ z0)) && (decide (z0 ≤ z0))) && (decide (z0 ≤ (2147483648 : Int)))) then
 (neo' (((), (), (), (), ((List.length p7 : Nat) : Int), (0 : Int), ()), ((p0, p1, p2, p3, p4, p5, p6, p7, ()), (p8, p9, p10, p11, ()), (([] : List (Int)), ([] : List (Bool)), ([] : List (Bool)), ([] : List (Entry)), (ByteArray.mk (Array.mk [])), (ByteArray.mk (Array.mk [])), (0 : Int), ([] : List (Debounced)), ([] : List (Belief)), ([] : List (NewCar)), ([] : List (Loaded)), ([] : List (Int)), ([] : List (Calls)), (0 : Int), (0 : Int), (0 : Int), ()), (y3.2.1.1, y3.2.1.2.1, y3.2.1.2.2.1, y3.2.1.2.2.2.1, p12, p13, p14, (List.replicate (Int.toNat z0) (Debounced.mk (0 : Int) false false false false (0 : Int) (0 : Int) (0 : Int) (0 : Int) (0 : Int) (0 : Int) (0 : Int) (0 : Int) (0 : Int) (0 : Int) (0 : Int) (0 : Int) (0 : Int) (0 : Int) (0 : Int) (0 : Int) (0 : Int) (0 : Int) (0 : Int) (0 : Int) (0 : Int) (0 : Int) (0 : Int) (0 : Int) (0 : Int) (0 : Int) (0 : Int) (0 : Int) (0 : Int) (0 : Int) (0 : Int) (0 : Int) (0 : Int) (0 : Int) (0 : Int) (0 : Int))), ([] : List (Belief)), (List.replicate (Int.toNat z0) (NewCar.mk (0 : Int) (0 : Int) (0 : Int) (0 : Int) (0 : Int) false (0 : Int) (0 : Int) (0 : Int) (0 : Int) (0 : Int) (0 : Int) (0 : Int) false)), (List.replicate (Int.toNat z0) (Loaded.mk (0 : Int))), ([] : List (Int)), (List.replicate (Int.toNat z0) (Calls.mk (0 : Int) (0 : Int))), (0 : Int), (0 : Int), (0 : Int), ()), ()))).bind fun y4 =>
 (nem' (((), (), (), y4.2.2.1.2.2.2.1, ((List.length y4.2.2.1.2.2.2.1 : Nat) : Int), (0 : Int), ()), (y4.2.1, y4.2.2.2.1, y4.2.2.2.2.1, ()))).bind fun y5 =>
 some (((), (0 : Int), ()), (y5.2.2.1, ()))
 else
 none
 else
 none
 else
 none
 else
 none
noncomputable def nev' (p0 p1 p2 p3 : Int) (p4 p5 p6 : Nat) (p7 : List (Car)) (p8 p9 : ByteArray) (p10 p11 : Int) : Option ((Unit × Int × Int × Unit) × (T'25 × Unit)) :=
 (nno' p0 p1 p2 p3 p4 p5 p6 p7 p8 p9 p10 p11).bind fun y1 =>
 bif (y1.1.2.2.2.1 != (0 : Int)) then
 some (((), (0 : Int), y1.1.2.2.2.1, ()), ((([] : List (Int)), ([] : List (Bool)), ([] : List (Bool)), ([] : List (Entry)), y1.2.1.1, y1.2.1.2.1, y1.2.1.2.2.1, ([] : List (Debounced)), ([] : List (Belief)), ([] : List (NewCar)), ([] : List (Loaded)), ([] : List (Int)), ([] : List (Calls)), (0 : Int), (0 : Int), (0 : Int), ()), ()))
 else
 Option.bind (some (((), (), (), (), y1.1.2.2.1, ()), ((p0, p1, p2, p3, p4, p5, p6, p7, ()), y1.2.1, (([] : List (Int)), ([] : List (Bool)), ([] : List (Bool)), ([] : List (Entry)), (ByteArray.mk (Array.mk [])), (ByteArray.mk (Array.mk [])), (0 : Int), ([] : List (Debounced)), ([] : List (Belief)), ([] : List (NewCar)), ([] : List (Loaded)), ([] : List (Int)), ([] : List (Calls)), (0 : Int), (0 : Int), (0 : Int), ()), y1.2.2.1, ()))) fun y2 =>
 (nlz' y2.2.1.1 y2.2.1.2.1 y2.2.1.2.2.1 y2.2.1.2.2.2.1 y2.2.1.2.2.2.2.1 y2.2.1.2.2.2.2.2.1 y2.2.1.2.2.2.2.2.2.1 y2.2.1.2.2.2.2.2.2.2.1 y2.2.2.2.2.1.1 y2.2.2.2.2.1.2.1 y2.2.2.2.2.1.2.2.1 y2.2.2.2.2.1.2.2.2.1 y2.2.2.1.1 y2.2.2.1.2.1 y2.2.2.1.2.2.1).bind fun y3 =>
 bif (y3.1.2.1 != (0 : Int)) then
 some (((), (0 : Int), y3.1.2.1, ()), ((([] : List (Int)), ([] : List (Bool)), ([] : List (Bool)), ([] : List (Entry)), (ByteArray.mk (Array.mk [])), (ByteArray.mk (Array.mk [])), (0 : Int), ([] : List (Debounced)), ([] : List (Belief)), ([] : List (NewCar)), ([] : List (Loaded)), ([] : List (Int)), ([] : List (Calls)), (0 : Int), (0 : Int), (0 : Int), ()), ()))
 else
 some (((), y2.1.2.2.2.2.1, (0 : Int), ()), (y3.2.1, ()))
noncomputable def nim' (p0 p1 p2 p3 : Int) (p4 p5 p6 : Nat) (p7 : List (Car)) : Option ((Unit × Int × Unit) × (T'25 × Unit)) :=
 (nbs' p0 p1 p2 p3 p4 p5 p6 p7).bind fun y1 =>
 bif (y1.1.1 != (0 : Int)) then
 some (((), (1 : Int), ()), ((([] : List (Int)), ([] : List (Bool)), ([] : List (Bool)), ([] : List (Entry)), (ByteArray.mk (Array.mk [])), (ByteArray.mk (Array.mk [])), (0 : Int), ([] : List (Debounced)), ([] : List (Belief)), ([] : List (NewCar)), ([] : List (Loaded)), ([] : List (Int)), ([] : List (Calls)), (0 : Int), (0 : Int), (0 : Int), ()), ()))
 else
 (nev' p0 p1 p2 p3 p4 p5 p6 p7 (ByteArray.mk (Array.mk [])) (ByteArray.mk (Array.mk [])) (0 : Int) (1048576 : Int)).bind fun y2 =>
 some (((), y2.1.2.2.1, ()), (y2.2.1, ()))
end Go.Ovl
