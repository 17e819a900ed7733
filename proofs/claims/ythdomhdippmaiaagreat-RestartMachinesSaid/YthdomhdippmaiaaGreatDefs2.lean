/- What each function of the program comes to: part 2. -/
import Derived.Test.YthdomhdippmaiaaGreatDefs1
namespace Go.Ovl
open Go Go.Ab
set_option maxRecDepth 100000
noncomputable def ngp' (i : Int) (p0 : List (Int)) (p1 p2 : List (Bool)) (p3 : List (Entry)) (p4 : List (Int)) (p5 p6 : List (Bool)) (p7 : List (Entry)) : Option (Sum (T'49 × (T'4 × T'4 × Unit)) ((Unit × Unit) ⊕ ((Bool × Unit) × Unit))) :=
 bif (decide (i < ((List.length p3 : Nat) : Int))) then
 bif (inB i (List.length p3)) then
 let z0 : Entry := (List.getD p3 (Int.toNat i) (Entry.mk (0 : Int) (0 : Int) (0 : Int) (0 : Int) false))
 bif (inB i (List.length p7)) then
 let z1 : Entry := (List.getD p7 (Int.toNat i) (Entry.mk (0 : Int) (0 : Int) (0 : Int) (0 : Int) false))
 bif (!((z0.Floor == z1.Floor) && ((z0.Dir == z1.Dir) && ((z0.Car == z1.Car) && ((z0.Moves == z1.Moves) && ((z0.Moved == z1.Moved) && true)))))) then
 some (Sum.inr (Sum.inr ((false, ()), ())))
 else
 some (Sum.inl (((), (), (IntKind.i64.wrap (i + (1 : Int))), ()), ((p0, p1, p2, p3, ()), (p4, p5, p6, p7, ()), ())))
 else
 none
 else
 none
 else
 some (Sum.inr (Sum.inl ((), ())))
noncomputable def nj6' : (T'49 × (T'4 × T'4 × Unit)) → Option ((Unit × Unit) ⊕ ((Bool × Unit) × Unit)) := iter (fun x => ngp' x.1.2.2.1 x.2.1.1 x.2.1.2.1 x.2.1.2.2.1 x.2.1.2.2.2.1 x.2.2.1.1 x.2.2.1.2.1 x.2.2.1.2.2.1 x.2.2.1.2.2.2.1) fuel
noncomputable def ngr' (i : Int) (p0 : List (Int)) (p1 p2 : List (Bool)) (p3 : List (Entry)) (p4 : List (Int)) (p5 p6 : List (Bool)) (p7 : List (Entry)) : Option (Sum (T'49 × (T'4 × T'4 × Unit)) (((Unit × Unit × Unit) × (T'4 × T'4 × Unit)) ⊕ ((Bool × Unit) × Unit))) :=
 bif (decide (i < ((List.length p2 : Nat) : Int))) then
 bif (inB i (List.length p2)) then
 bif (inB i (List.length p6)) then
 bif (!((List.getD p2 (Int.toNat i) false) == (List.getD p6 (Int.toNat i) false))) then
 some (Sum.inr (Sum.inr ((false, ()), ())))
 else
 some (Sum.inl (((), (), (IntKind.i64.wrap (i + (1 : Int))), ()), ((p0, p1, p2, p3, ()), (p4, p5, p6, p7, ()), ())))
 else
 none
 else
 none
 else
 some (Sum.inr (Sum.inl (((), (), ()), ((p0, p1, p2, p3, ()), (p4, p5, p6, p7, ()), ()))))
noncomputable def nke' : (T'49 × (T'4 × T'4 × Unit)) → Option (((Unit × Unit × Unit) × (T'4 × T'4 × Unit)) ⊕ ((Bool × Unit) × Unit)) := iter (fun x => ngr' x.1.2.2.1 x.2.1.1 x.2.1.2.1 x.2.1.2.2.1 x.2.1.2.2.2.1 x.2.2.1.1 x.2.2.1.2.1 x.2.2.1.2.2.1 x.2.2.1.2.2.2.1) fuel
noncomputable def ngf' (i : Int) (p0 : List (Int)) (p1 p2 : List (Bool)) (p3 : List (Entry)) (p4 : List (Int)) (p5 p6 : List (Bool)) (p7 : List (Entry)) : Option (Sum (T'49 × (T'4 × T'4 × Unit)) (((Unit × Unit × Unit) × (T'4 × T'4 × Unit)) ⊕ ((Bool × Unit) × Unit))) :=
 bif (decide (i < ((List.length p1 : Nat) : Int))) then
 bif (inB i (List.length p1)) then
 bif (inB i (List.length p5)) then
 bif (!((List.getD p1 (Int.toNat i) false) == (List.getD p5 (Int.toNat i) false))) then
 some (Sum.inr (Sum.inr ((false, ()), ())))
 else
 some (Sum.inl (((), (), (IntKind.i64.wrap (i + (1 : Int))), ()), ((p0, p1, p2, p3, ()), (p4, p5, p6, p7, ()), ())))
 else
 none
 else
 none
 else
 some (Sum.inr (Sum.inl (((), (), ()), ((p0, p1, p2, p3, ()), (p4, p5, p6, p7, ()), ()))))
noncomputable def nj7' : (T'49 × (T'4 × T'4 × Unit)) → Option (((Unit × Unit × Unit) × (T'4 × T'4 × Unit)) ⊕ ((Bool × Unit) × Unit)) := iter (fun x => ngf' x.1.2.2.1 x.2.1.1 x.2.1.2.1 x.2.1.2.2.1 x.2.1.2.2.2.1 x.2.2.1.1 x.2.2.1.2.1 x.2.2.1.2.2.1 x.2.2.1.2.2.2.1) fuel
noncomputable def ngi' (i : Int) (p0 : List (Int)) (p1 p2 : List (Bool)) (p3 : List (Entry)) (p4 : List (Int)) (p5 p6 : List (Bool)) (p7 : List (Entry)) : Option (Sum (T'49 × (T'4 × T'4 × Unit)) (((Unit × Unit × Unit) × (T'4 × T'4 × Unit)) ⊕ ((Bool × Unit) × Unit))) :=
 bif (decide (i < ((List.length p0 : Nat) : Int))) then
 bif (inB i (List.length p0)) then
 bif (inB i (List.length p4)) then
 bif ((List.getD p0 (Int.toNat i) (0 : Int)) != (List.getD p4 (Int.toNat i) (0 : Int))) then
 some (Sum.inr (Sum.inr ((false, ()), ())))
 else
 some (Sum.inl (((), (), (IntKind.i64.wrap (i + (1 : Int))), ()), ((p0, p1, p2, p3, ()), (p4, p5, p6, p7, ()), ())))
 else
 none
 else
 none
 else
 some (Sum.inr (Sum.inl (((), (), ()), ((p0, p1, p2, p3, ()), (p4, p5, p6, p7, ()), ()))))
noncomputable def nkc' : (T'49 × (T'4 × T'4 × Unit)) → Option (((Unit × Unit × Unit) × (T'4 × T'4 × Unit)) ⊕ ((Bool × Unit) × Unit)) := iter (fun x => ngi' x.1.2.2.1 x.2.1.1 x.2.1.2.1 x.2.1.2.2.1 x.2.1.2.2.2.1 x.2.2.1.1 x.2.2.1.2.1 x.2.2.1.2.2.1 x.2.2.1.2.2.2.1) fuel
noncomputable def nl5' (p0 : List (Int)) (p1 p2 : List (Bool)) (p3 : List (Entry)) (p4 : List (Int)) (p5 p6 : List (Bool)) (p7 : List (Entry)) : Option ((Bool × Unit) × Unit) :=
 bif (((List.length p0 : Nat) : Int) != ((List.length p4 : Nat) : Int)) then
 some ((false, ()), ())
 else
 bif (((List.length p1 : Nat) : Int) != ((List.length p5 : Nat) : Int)) then
 some ((false, ()), ())
 else
 bif (((List.length p2 : Nat) : Int) != ((List.length p6 : Nat) : Int)) then
 some ((false, ()), ())
 else
 bif (((List.length p3 : Nat) : Int) != ((List.length p7 : Nat) : Int)) then
 some ((false, ()), ())
 else
 (nkc' (((), (), (0 : Int), ()), ((p0, p1, p2, p3, ()), (p4, p5, p6, p7, ()), ()))).bind fun y1 =>
 (match y1 with
 | .inl y2 =>
 (nj7' (((), (), (0 : Int), ()), (y2.2.1, y2.2.2.1, ()))).bind fun y3 =>
 (match y3 with
 | .inl y4 =>
 (nke' (((), (), (0 : Int), ()), (y4.2.1, y4.2.2.1, ()))).bind fun y5 =>
 (match y5 with
 | .inl y6 =>
 (nj6' (((), (), (0 : Int), ()), (y6.2.1, y6.2.2.1, ()))).bind fun y7 =>
 (match y7 with
 | .inl y8 =>
 some ((true, ()), ())
 | .inr y8 =>
 some ((y8.1.1, ()), ()))
 | .inr y6 =>
 some ((y6.1.1, ()), ()))
 | .inr y4 =>
 some ((y4.1.1, ()), ()))
 | .inr y2 =>
 some ((y2.1.1, ()), ()))
noncomputable def ndy' (a b : List (Calls)) (i : Int) : Option (Sum (T'67 × Unit) ((Unit × Unit) ⊕ ((Bool × Unit) × Unit))) :=
 bif (decide (i < ((List.length a : Nat) : Int))) then
 bif (inB i (List.length a)) then
 let z0 : Calls := (List.getD a (Int.toNat i) (Calls.mk (0 : Int) (0 : Int)))
 bif (inB i (List.length b)) then
 let z1 : Calls := (List.getD b (Int.toNat i) (Calls.mk (0 : Int) (0 : Int)))
 bif (!((z0.Up == z1.Up) && ((z0.Down == z1.Down) && true))) then
 some (Sum.inr (Sum.inr ((false, ()), ())))
 else
 some (Sum.inl ((a, b, (IntKind.i64.wrap (i + (1 : Int))), ()), ()))
 else
 none
 else
 none
 else
 some (Sum.inr (Sum.inl ((), ())))
noncomputable def nf5' : (T'67 × Unit) → Option ((Unit × Unit) ⊕ ((Bool × Unit) × Unit)) := iter (fun x => ndy' x.1.1 x.1.2.1 x.1.2.2.1) fuel
noncomputable def nhz' (a b : List (Calls)) : Option ((Bool × Unit) × Unit) :=
 bif (((List.length a : Nat) : Int) != ((List.length b : Nat) : Int)) then
 some ((false, ()), ())
 else
 (nf5' ((a, b, (0 : Int), ()), ())).bind fun y1 =>
 (match y1 with
 | .inl y2 =>
 some ((true, ()), ())
 | .inr y2 =>
 some ((y2.1.1, ()), ()))
noncomputable def nec' (a b : List (Int)) (i : Int) : Option (Sum (T'68 × Unit) ((Unit × Unit) ⊕ ((Bool × Unit) × Unit))) :=
 bif (decide (i < ((List.length a : Nat) : Int))) then
 bif (inB i (List.length a)) then
 bif (inB i (List.length b)) then
 bif ((List.getD a (Int.toNat i) (0 : Int)) != (List.getD b (Int.toNat i) (0 : Int))) then
 some (Sum.inr (Sum.inr ((false, ()), ())))
 else
 some (Sum.inl ((a, b, (IntKind.i64.wrap (i + (1 : Int))), ()), ()))
 else
 none
 else
 none
 else
 some (Sum.inr (Sum.inl ((), ())))
noncomputable def ngz' : (T'68 × Unit) → Option ((Unit × Unit) ⊕ ((Bool × Unit) × Unit)) := iter (fun x => nec' x.1.1 x.1.2.1 x.1.2.2.1) fuel
noncomputable def nir' (a b : List (Int)) : Option ((Bool × Unit) × Unit) :=
 bif (((List.length a : Nat) : Int) != ((List.length b : Nat) : Int)) then
 some ((false, ()), ())
 else
 (ngz' ((a, b, (0 : Int), ()), ())).bind fun y1 =>
 (match y1 with
 | .inl y2 =>
 some ((true, ()), ())
 | .inr y2 =>
 some ((y2.1.1, ()), ()))
noncomputable def ngb' (i p0 p1 p2 : Int) (p3 : List (Duty)) (p4 : Int) (p5 : Bool) (p6 p7 p8 : Int) (p9 : List (Duty)) (p10 : Int) (p11 : Bool) : Option (Sum (T'49 × (T'29 × T'29 × Unit)) ((Unit × Unit) ⊕ ((Bool × Unit) × Unit))) :=
 bif (decide (i < ((List.length p3 : Nat) : Int))) then
 bif (inB i (List.length p3)) then
 let z0 : Duty := (List.getD p3 (Int.toNat i) (Duty.mk (0 : Int) (0 : Int) (0 : Int)))
 bif (inB i (List.length p9)) then
 let z1 : Duty := (List.getD p9 (Int.toNat i) (Duty.mk (0 : Int) (0 : Int) (0 : Int)))
 bif (!((z0.Floor == z1.Floor) && ((z0.Dir == z1.Dir) && ((z0.Age == z1.Age) && true)))) then
 some (Sum.inr (Sum.inr ((false, ()), ())))
 else
 some (Sum.inl (((), (), (IntKind.i64.wrap (i + (1 : Int))), ()), ((p0, p1, p2, p3, p4, p5, ()), (p6, p7, p8, p9, p10, p11, ()), ())))
 else
 none
 else
 none
 else
 some (Sum.inr (Sum.inl ((), ())))
noncomputable def nkp' : (T'49 × (T'29 × T'29 × Unit)) → Option ((Unit × Unit) ⊕ ((Bool × Unit) × Unit)) := iter (fun x => ngb' x.1.2.2.1 x.2.1.1 x.2.1.2.1 x.2.1.2.2.1 x.2.1.2.2.2.1 x.2.1.2.2.2.2.1 x.2.1.2.2.2.2.2.1 x.2.2.1.1 x.2.2.1.2.1 x.2.2.1.2.2.1 x.2.2.1.2.2.2.1 x.2.2.1.2.2.2.2.1 x.2.2.1.2.2.2.2.2.1) fuel
noncomputable def nl7' (p0 p1 p2 : Int) (p3 : List (Duty)) (p4 : Int) (p5 : Bool) (p6 p7 p8 : Int) (p9 : List (Duty)) (p10 : Int) (p11 : Bool) : Option ((Bool × Unit) × Unit) :=
 bif (p0 != p6) then
 some ((false, ()), ())
 else
 bif (p1 != p7) then
 some ((false, ()), ())
 else
 bif (p2 != p8) then
 some ((false, ()), ())
 else
 bif (p4 != p10) then
 some ((false, ()), ())
 else
 bif (!(p5 == p11)) then
 some ((false, ()), ())
 else
 bif (((List.length p3 : Nat) : Int) != ((List.length p9 : Nat) : Int)) then
 some ((false, ()), ())
 else
 (nkp' (((), (), (0 : Int), ()), ((p0, p1, p2, p3, p4, p5, ()), (p6, p7, p8, p9, p10, p11, ()), ()))).bind fun y1 =>
 (match y1 with
 | .inl y2 =>
 some ((true, ()), ())
 | .inr y2 =>
 some ((y2.1.1, ()), ()))
noncomputable def ngl' (i : Int) (p0 : List (Int)) (p1 p2 : List (Bool)) (p3 : List (Entry)) (p4 p5 : ByteArray) (p6 : Int) (p7 : List (Debounced)) (p8 : List (Belief)) (p9 : List (NewCar)) (p10 : List (Loaded)) (p11 : List (Int)) (p12 : List (Calls)) (p13 p14 p15 : Int) (p16 : List (Int)) (p17 p18 : List (Bool)) (p19 : List (Entry)) (p20 p21 : ByteArray) (p22 : Int) (p23 : List (Debounced)) (p24 : List (Belief)) (p25 : List (NewCar)) (p26 : List (Loaded)) (p27 : List (Int)) (p28 : List (Calls)) (p29 p30 p31 : Int) : Option (Sum (T'49 × (T'30 × T'30 × Unit)) ((Unit × Unit) ⊕ ((Bool × Unit) × Unit))) :=
 bif (decide (i < ((List.length p10 : Nat) : Int))) then
 bif (inB i (List.length p10)) then
 bif (inB i (List.length p26)) then
 bif (!(((List.getD p10 (Int.toNat i) (Loaded.mk (0 : Int))).Class == (List.getD p26 (Int.toNat i) (Loaded.mk (0 : Int))).Class) && true)) then
 some (Sum.inr (Sum.inr ((false, ()), ())))
 else
 some (Sum.inl (((), (), (IntKind.i64.wrap (i + (1 : Int))), ()), ((p0, p1, p2, p3, p4, p5, p6, p7, p8, p9, p10, p11, p12, p13, p14, p15, ()), (p16, p17, p18, p19, p20, p21, p22, p23, p24, p25, p26, p27, p28, p29, p30, p31, ()), ())))
 else
 none
 else
 none
 else
 some (Sum.inr (Sum.inl ((), ())))
noncomputable def nj0' : (T'49 × (T'30 × T'30 × Unit)) → Option ((Unit × Unit) ⊕ ((Bool × Unit) × Unit)) := iter (fun x => ngl' x.1.2.2.1 x.2.1.1 x.2.1.2.1 x.2.1.2.2.1 x.2.1.2.2.2.1 x.2.1.2.2.2.2.1 x.2.1.2.2.2.2.2.1 x.2.1.2.2.2.2.2.2.1 x.2.1.2.2.2.2.2.2.2.1 x.2.1.2.2.2.2.2.2.2.2.1 x.2.1.2.2.2.2.2.2.2.2.2.1 x.2.1.2.2.2.2.2.2.2.2.2.2.1 x.2.1.2.2.2.2.2.2.2.2.2.2.2.1 x.2.1.2.2.2.2.2.2.2.2.2.2.2.2.1 x.2.1.2.2.2.2.2.2.2.2.2.2.2.2.2.1 x.2.1.2.2.2.2.2.2.2.2.2.2.2.2.2.2.1 x.2.1.2.2.2.2.2.2.2.2.2.2.2.2.2.2.2.1 x.2.2.1.1 x.2.2.1.2.1 x.2.2.1.2.2.1 x.2.2.1.2.2.2.1 x.2.2.1.2.2.2.2.1 x.2.2.1.2.2.2.2.2.1 x.2.2.1.2.2.2.2.2.2.1 x.2.2.1.2.2.2.2.2.2.2.1 x.2.2.1.2.2.2.2.2.2.2.2.1 x.2.2.1.2.2.2.2.2.2.2.2.2.1 x.2.2.1.2.2.2.2.2.2.2.2.2.2.1 x.2.2.1.2.2.2.2.2.2.2.2.2.2.2.1 x.2.2.1.2.2.2.2.2.2.2.2.2.2.2.2.1 x.2.2.1.2.2.2.2.2.2.2.2.2.2.2.2.2.1 x.2.2.1.2.2.2.2.2.2.2.2.2.2.2.2.2.2.1 x.2.2.1.2.2.2.2.2.2.2.2.2.2.2.2.2.2.2.1) fuel
noncomputable def ngg' (i : Int) (p0 : List (Int)) (p1 p2 : List (Bool)) (p3 : List (Entry)) (p4 p5 : ByteArray) (p6 : Int) (p7 : List (Debounced)) (p8 : List (Belief)) (p9 : List (NewCar)) (p10 : List (Loaded)) (p11 : List (Int)) (p12 : List (Calls)) (p13 p14 p15 : Int) (p16 : List (Int)) (p17 p18 : List (Bool)) (p19 : List (Entry)) (p20 p21 : ByteArray) (p22 : Int) (p23 : List (Debounced)) (p24 : List (Belief)) (p25 : List (NewCar)) (p26 : List (Loaded)) (p27 : List (Int)) (p28 : List (Calls)) (p29 p30 p31 : Int) : Option (Sum (T'49 × (T'30 × T'30 × Unit)) (((Unit × Unit × Unit) × (T'30 × T'30 × Unit)) ⊕ ((Bool × Unit) × Unit))) :=
 bif (decide (i < ((List.length p9 : Nat) : Int))) then
 bif (inB i (List.length p9)) then
 let z0 : NewCar := (List.getD p9 (Int.toNat i) (NewCar.mk (0 : Int) (0 : Int) (0 : Int) (0 : Int) (0 : Int) false (0 : Int) (0 : Int) (0 : Int) (0 : Int) (0 : Int) (0 : Int) (0 : Int) false))
 bif (inB i (List.length p25)) then
 let z1 : NewCar := (List.getD p25 (Int.toNat i) (NewCar.mk (0 : Int) (0 : Int) (0 : Int) (0 : Int) (0 : Int) false (0 : Int) (0 : Int) (0 : Int) (0 : Int) (0 : Int) (0 : Int) (0 : Int) false))
 bif (!((z0.Sweep_Dir == z1.Sweep_Dir) && ((z0.Sweep_Opened == z1.Sweep_Opened) && ((z0.Door_Stage == z1.Door_Stage) && ((z0.Door_Time == z1.Door_Time) && ((z0.Door_Since == z1.Door_Since) && ((z0.Door_Nudge == z1.Door_Nudge) && ((z0.Door_Cycles == z1.Door_Cycles) && ((z0.Motion_Command == z1.Motion_Command) && ((z0.Motion_Time == z1.Motion_Time) && ((z0.Motion_Floor == z1.Motion_Floor) && ((z0.Calls == z1.Calls) && ((z0.Shown == z1.Shown) && ((z0.Idle == z1.Idle) && ((z0.Fault == z1.Fault) && true))))))))))))))) then
 some (Sum.inr (Sum.inr ((false, ()), ())))
 else
 some (Sum.inl (((), (), (IntKind.i64.wrap (i + (1 : Int))), ()), ((p0, p1, p2, p3, p4, p5, p6, p7, p8, p9, p10, p11, p12, p13, p14, p15, ()), (p16, p17, p18, p19, p20, p21, p22, p23, p24, p25, p26, p27, p28, p29, p30, p31, ()), ())))
 else
 none
 else
 none
 else
 some (Sum.inr (Sum.inl (((), (), ()), ((p0, p1, p2, p3, p4, p5, p6, p7, p8, p9, p10, p11, p12, p13, p14, p15, ()), (p16, p17, p18, p19, p20, p21, p22, p23, p24, p25, p26, p27, p28, p29, p30, p31, ()), ()))))
noncomputable def nkg' : (T'49 × (T'30 × T'30 × Unit)) → Option (((Unit × Unit × Unit) × (T'30 × T'30 × Unit)) ⊕ ((Bool × Unit) × Unit)) := iter (fun x => ngg' x.1.2.2.1 x.2.1.1 x.2.1.2.1 x.2.1.2.2.1 x.2.1.2.2.2.1 x.2.1.2.2.2.2.1 x.2.1.2.2.2.2.2.1 x.2.1.2.2.2.2.2.2.1 x.2.1.2.2.2.2.2.2.2.1 x.2.1.2.2.2.2.2.2.2.2.1 x.2.1.2.2.2.2.2.2.2.2.2.1 x.2.1.2.2.2.2.2.2.2.2.2.2.1 x.2.1.2.2.2.2.2.2.2.2.2.2.2.1 x.2.1.2.2.2.2.2.2.2.2.2.2.2.2.1 x.2.1.2.2.2.2.2.2.2.2.2.2.2.2.2.1 x.2.1.2.2.2.2.2.2.2.2.2.2.2.2.2.2.1 x.2.1.2.2.2.2.2.2.2.2.2.2.2.2.2.2.2.1 x.2.2.1.1 x.2.2.1.2.1 x.2.2.1.2.2.1 x.2.2.1.2.2.2.1 x.2.2.1.2.2.2.2.1 x.2.2.1.2.2.2.2.2.1 x.2.2.1.2.2.2.2.2.2.1 x.2.2.1.2.2.2.2.2.2.2.1 x.2.2.1.2.2.2.2.2.2.2.2.1 x.2.2.1.2.2.2.2.2.2.2.2.2.1 x.2.2.1.2.2.2.2.2.2.2.2.2.2.1 x.2.2.1.2.2.2.2.2.2.2.2.2.2.2.1 x.2.2.1.2.2.2.2.2.2.2.2.2.2.2.2.1 x.2.2.1.2.2.2.2.2.2.2.2.2.2.2.2.2.1 x.2.2.1.2.2.2.2.2.2.2.2.2.2.2.2.2.2.1 x.2.2.1.2.2.2.2.2.2.2.2.2.2.2.2.2.2.2.1) fuel
noncomputable def ngs' (i : Int) (p0 : List (Int)) (p1 p2 : List (Bool)) (p3 : List (Entry)) (p4 p5 : ByteArray) (p6 : Int) (p7 : List (Debounced)) (p8 : List (Belief)) (p9 : List (NewCar)) (p10 : List (Loaded)) (p11 : List (Int)) (p12 : List (Calls)) (p13 p14 p15 : Int) (p16 : List (Int)) (p17 p18 : List (Bool)) (p19 : List (Entry)) (p20 p21 : ByteArray) (p22 : Int) (p23 : List (Debounced)) (p24 : List (Belief)) (p25 : List (NewCar)) (p26 : List (Loaded)) (p27 : List (Int)) (p28 : List (Calls)) (p29 p30 p31 : Int) : Option (Sum (T'49 × (T'30 × T'30 × Unit)) (((Unit × Unit × Unit) × (T'30 × T'30 × Unit)) ⊕ ((Bool × Unit) × Unit))) :=
 bif (decide (i < ((List.length p8 : Nat) : Int))) then
 bif (inB i (List.length p8)) then
 let z0 : Belief := (List.getD p8 (Int.toNat i) (Belief.mk (0 : Int) (0 : Int) (0 : Int) [] (0 : Int) false))
 bif (inB i (List.length p24)) then
 let z1 : Belief := (List.getD p24 (Int.toNat i) (Belief.mk (0 : Int) (0 : Int) (0 : Int) [] (0 : Int) false))
 (nl7' z0.Floor z0.Dir z0.Door z0.Duties z0.Still z0.Late z1.Floor z1.Dir z1.Door z1.Duties z1.Still z1.Late).bind fun y1 =>
 bif (!y1.1.1) then
 some (Sum.inr (Sum.inr ((false, ()), ())))
 else
 some (Sum.inl (((), (), (IntKind.i64.wrap (i + (1 : Int))), ()), ((p0, p1, p2, p3, p4, p5, p6, p7, p8, p9, p10, p11, p12, p13, p14, p15, ()), (p16, p17, p18, p19, p20, p21, p22, p23, p24, p25, p26, p27, p28, p29, p30, p31, ()), ())))
 else
 none
 else
 none
 else
 some (Sum.inr (Sum.inl (((), (), ()), ((p0, p1, p2, p3, p4, p5, p6, p7, p8, p9, p10, p11, p12, p13, p14, p15, ()), (p16, p17, p18, p19, p20, p21, p22, p23, p24, p25, p26, p27, p28, p29, p30, p31, ()), ()))))
noncomputable def nki' : (T'49 × (T'30 × T'30 × Unit)) → Option (((Unit × Unit × Unit) × (T'30 × T'30 × Unit)) ⊕ ((Bool × Unit) × Unit)) := iter (fun x => ngs' x.1.2.2.1 x.2.1.1 x.2.1.2.1 x.2.1.2.2.1 x.2.1.2.2.2.1 x.2.1.2.2.2.2.1 x.2.1.2.2.2.2.2.1 x.2.1.2.2.2.2.2.2.1 x.2.1.2.2.2.2.2.2.2.1 x.2.1.2.2.2.2.2.2.2.2.1 x.2.1.2.2.2.2.2.2.2.2.2.1 x.2.1.2.2.2.2.2.2.2.2.2.2.1 x.2.1.2.2.2.2.2.2.2.2.2.2.2.1 x.2.1.2.2.2.2.2.2.2.2.2.2.2.2.1 x.2.1.2.2.2.2.2.2.2.2.2.2.2.2.2.1 x.2.1.2.2.2.2.2.2.2.2.2.2.2.2.2.2.1 x.2.1.2.2.2.2.2.2.2.2.2.2.2.2.2.2.2.1 x.2.2.1.1 x.2.2.1.2.1 x.2.2.1.2.2.1 x.2.2.1.2.2.2.1 x.2.2.1.2.2.2.2.1 x.2.2.1.2.2.2.2.2.1 x.2.2.1.2.2.2.2.2.2.1 x.2.2.1.2.2.2.2.2.2.2.1 x.2.2.1.2.2.2.2.2.2.2.2.1 x.2.2.1.2.2.2.2.2.2.2.2.2.1 x.2.2.1.2.2.2.2.2.2.2.2.2.2.1 x.2.2.1.2.2.2.2.2.2.2.2.2.2.2.1 x.2.2.1.2.2.2.2.2.2.2.2.2.2.2.2.1 x.2.2.1.2.2.2.2.2.2.2.2.2.2.2.2.2.1 x.2.2.1.2.2.2.2.2.2.2.2.2.2.2.2.2.2.1 x.2.2.1.2.2.2.2.2.2.2.2.2.2.2.2.2.2.2.1) fuel
noncomputable def nga' (i : Int) (p0 : List (Int)) (p1 p2 : List (Bool)) (p3 : List (Entry)) (p4 p5 : ByteArray) (p6 : Int) (p7 : List (Debounced)) (p8 : List (Belief)) (p9 : List (NewCar)) (p10 : List (Loaded)) (p11 : List (Int)) (p12 : List (Calls)) (p13 p14 p15 : Int) (p16 : List (Int)) (p17 p18 : List (Bool)) (p19 : List (Entry)) (p20 p21 : ByteArray) (p22 : Int) (p23 : List (Debounced)) (p24 : List (Belief)) (p25 : List (NewCar)) (p26 : List (Loaded)) (p27 : List (Int)) (p28 : List (Calls)) (p29 p30 p31 : Int) : Option (Sum (T'49 × (T'30 × T'30 × Unit)) (((Unit × Unit × Unit) × (T'30 × T'30 × Unit)) ⊕ ((Bool × Unit) × Unit))) :=
 bif (decide (i < ((List.length p7 : Nat) : Int))) then
 bif (inB i (List.length p7)) then
 let z0 : Debounced := (List.getD p7 (Int.toNat i) (Debounced.mk (0 : Int) false false false false (0 : Int) (0 : Int) (0 : Int) (0 : Int) (0 : Int) (0 : Int) (0 : Int) (0 : Int) (0 : Int) (0 : Int) (0 : Int) (0 : Int) (0 : Int) (0 : Int) (0 : Int) (0 : Int) (0 : Int) (0 : Int) (0 : Int) (0 : Int) (0 : Int) (0 : Int) (0 : Int) (0 : Int) (0 : Int) (0 : Int) (0 : Int) (0 : Int) (0 : Int) (0 : Int) (0 : Int) (0 : Int) (0 : Int) (0 : Int) (0 : Int) (0 : Int)))
 bif (inB i (List.length p23)) then
 let z1 : Debounced := (List.getD p23 (Int.toNat i) (Debounced.mk (0 : Int) false false false false (0 : Int) (0 : Int) (0 : Int) (0 : Int) (0 : Int) (0 : Int) (0 : Int) (0 : Int) (0 : Int) (0 : Int) (0 : Int) (0 : Int) (0 : Int) (0 : Int) (0 : Int) (0 : Int) (0 : Int) (0 : Int) (0 : Int) (0 : Int) (0 : Int) (0 : Int) (0 : Int) (0 : Int) (0 : Int) (0 : Int) (0 : Int) (0 : Int) (0 : Int) (0 : Int) (0 : Int) (0 : Int) (0 : Int) (0 : Int) (0 : Int) (0 : Int)))
 bif (!((z0.Contacts_Floors == z1.Contacts_Floors) && ((z0.Contacts_Up == z1.Contacts_Up) && ((z0.Contacts_Down == z1.Contacts_Down) && ((z0.Contacts_Open == z1.Contacts_Open) && ((z0.Contacts_Closed == z1.Contacts_Closed) && ((z0.Count_0 == z1.Count_0) && ((z0.Count_1 == z1.Count_1) && ((z0.Count_2 == z1.Count_2) && ((z0.Count_3 == z1.Count_3) && ((z0.Count_4 == z1.Count_4) && ((z0.Count_5 == z1.Count_5) && ((z0.Count_6 == z1.Count_6) && ((z0.Count_7 == z1.Count_7) && ((z0.Count_8 == z1.Count_8) && ((z0.Count_9 == z1.Count_9) && ((z0.Count_10 == z1.Count_10) && ((z0.Count_11 == z1.Count_11) && ((z0.Count_12 == z1.Count_12) && ((z0.Count_13 == z1.Count_13) && ((z0.Count_14 == z1.Count_14) && ((z0.Count_15 == z1.Count_15) && ((z0.Count_16 == z1.Count_16) && ((z0.Count_17 == z1.Count_17) && ((z0.Count_18 == z1.Count_18) && ((z0.Count_19 == z1.Count_19) && ((z0.Count_20 == z1.Count_20) && ((z0.Count_21 == z1.Count_21) && ((z0.Count_22 == z1.Count_22) && ((z0.Count_23 == z1.Count_23) && ((z0.Count_24 == z1.Count_24) && ((z0.Count_25 == z1.Count_25) && ((z0.Count_26 == z1.Count_26) && ((z0.Count_27 == z1.Count_27) && ((z0.Count_28 == z1.Count_28) && ((z0.Count_29 == z1.Count_29) && ((z0.Count_30 == z1.Count_30) && ((z0.Count_31 == z1.Count_31) && ((z0.Count_32 == z1.Count_32) && ((z0.Count_33 == z1.Count_33) && ((z0.Count_34 == z1.Count_34) && ((z0.Count_35 == z1.Count_35) && true)))))))))))))))))))))))))))))))))))))))))) then
 some (Sum.inr (Sum.inr ((false, ()), ())))
 else
 some (Sum.inl (((), (), (IntKind.i64.wrap (i + (1 : Int))), ()), ((p0, p1, p2, p3, p4, p5, p6, p7, p8, p9, p10, p11, p12, p13, p14, p15, ()), (p16, p17, p18, p19, p20, p21, p22, p23, p24, p25, p26, p27, p28, p29, p30, p31, ()), ())))
 else
 none
 else
 none
 else
 some (Sum.inr (Sum.inl (((), (), ()), ((p0, p1, p2, p3, p4, p5, p6, p7, p8, p9, p10, p11, p12, p13, p14, p15, ()), (p16, p17, p18, p19, p20, p21, p22, p23, p24, p25, p26, p27, p28, p29, p30, p31, ()), ()))))
noncomputable def nkd' : (T'49 × (T'30 × T'30 × Unit)) → Option (((Unit × Unit × Unit) × (T'30 × T'30 × Unit)) ⊕ ((Bool × Unit) × Unit)) := iter (fun x => nga' x.1.2.2.1 x.2.1.1 x.2.1.2.1 x.2.1.2.2.1 x.2.1.2.2.2.1 x.2.1.2.2.2.2.1 x.2.1.2.2.2.2.2.1 x.2.1.2.2.2.2.2.2.1 x.2.1.2.2.2.2.2.2.2.1 x.2.1.2.2.2.2.2.2.2.2.1 x.2.1.2.2.2.2.2.2.2.2.2.1 x.2.1.2.2.2.2.2.2.2.2.2.2.1 x.2.1.2.2.2.2.2.2.2.2.2.2.2.1 x.2.1.2.2.2.2.2.2.2.2.2.2.2.2.1 x.2.1.2.2.2.2.2.2.2.2.2.2.2.2.2.1 x.2.1.2.2.2.2.2.2.2.2.2.2.2.2.2.2.1 x.2.1.2.2.2.2.2.2.2.2.2.2.2.2.2.2.2.1 x.2.2.1.1 x.2.2.1.2.1 x.2.2.1.2.2.1 x.2.2.1.2.2.2.1 x.2.2.1.2.2.2.2.1 x.2.2.1.2.2.2.2.2.1 x.2.2.1.2.2.2.2.2.2.1 x.2.2.1.2.2.2.2.2.2.2.1 x.2.2.1.2.2.2.2.2.2.2.2.1 x.2.2.1.2.2.2.2.2.2.2.2.2.1 x.2.2.1.2.2.2.2.2.2.2.2.2.2.1 x.2.2.1.2.2.2.2.2.2.2.2.2.2.2.1 x.2.2.1.2.2.2.2.2.2.2.2.2.2.2.2.1 x.2.2.1.2.2.2.2.2.2.2.2.2.2.2.2.2.1 x.2.2.1.2.2.2.2.2.2.2.2.2.2.2.2.2.2.1 x.2.2.1.2.2.2.2.2.2.2.2.2.2.2.2.2.2.2.1) fuel
noncomputable def nit' (p0 : List (Int)) (p1 p2 : List (Bool)) (p3 : List (Entry)) (p4 p5 : ByteArray) (p6 : Int) (p7 : List (Debounced)) (p8 : List (Belief)) (p9 : List (NewCar)) (p10 : List (Loaded)) (p11 : List (Int)) (p12 : List (Calls)) (p13 p14 p15 : Int) (p16 : List (Int)) (p17 p18 : List (Bool)) (p19 : List (Entry)) (p20 p21 : ByteArray) (p22 : Int) (p23 : List (Debounced)) (p24 : List (Belief)) (p25 : List (NewCar)) (p26 : List (Loaded)) (p27 : List (Int)) (p28 : List (Calls)) (p29 p30 p31 : Int) : Option ((Bool × Unit) × Unit) :=
 (nl5' p0 p1 p2 p3 p16 p17 p18 p19).bind fun y1 =>
 bif (!y1.1.1) then
 some ((false, ()), ())
 else
 bif (!((eqB p4 p20) && ((eqB p5 p21) && ((p6 == p22) && true)))) then
 some ((false, ()), ())
 else
 bif (((List.length p7 : Nat) : Int) != ((List.length p23 : Nat) : Int)) then
 some ((false, ()), ())
 else
 bif (((List.length p8 : Nat) : Int) != ((List.length p24 : Nat) : Int)) then
 some ((false, ()), ())
 else
 bif (((List.length p9 : Nat) : Int) != ((List.length p25 : Nat) : Int)) then
 some ((false, ()), ())
 else
 bif (((List.length p10 : Nat) : Int) != ((List.length p26 : Nat) : Int)) then
 some ((false, ()), ())
 else
 (nhz' p12 p28).bind fun y2 =>
 bif (!y2.1.1) then
 some ((false, ()), ())
 else
 (nir' p11 p27).bind fun y3 =>
 bif (!y3.1.1) then
 some ((false, ()), ())
 else
 bif (p13 != p29) then
 some ((false, ()), ())
 else
 bif (p14 != p30) then
 some ((false, ()), ())
 else
 bif (p15 != p31) then
 some ((false, ()), ())
 else
 (nkd' (((), (), (0 : Int), ()), ((p0, p1, p2, p3, p4, p5, p6, p7, p8, p9, p10, p11, p12, p13, p14, p15, ()), (p16, p17, p18, p19, p20, p21, p22, p23, p24, p25, p26, p27, p28, p29, p30, p31, ()), ()))).bind fun y4 =>
 (match y4 with
 | .inl y5 =>
 (nki' (((), (), (0 : Int), ()), (y5.2.1, y5.2.2.1, ()))).bind fun y6 =>
 (match y6 with
 | .inl y7 =>
 (nkg' (((), (), (0 : Int), ()), (y7.2.1, y7.2.2.1, ()))).bind fun y8 =>
 (match y8 with
 | .inl y9 =>
 (nj0' (((), (), (0 : Int), ()), (y9.2.1, y9.2.2.1, ()))).bind fun y10 =>
 (match y10 with
 | .inl y11 =>
 some ((true, ()), ())
 | .inr y11 =>
 some ((y11.1.1, ()), ()))
 | .inr y9 =>
 some ((y9.1.1, ()), ()))
 | .inr y7 =>
 some ((y7.1.1, ()), ()))
 | .inr y5 =>
 some ((y5.1.1, ()), ()))
noncomputable def nd' (p0 p1 p2 p3 p4 p5 : Int) (p6 : List (Duty)) (p7 : Int) (p8 : Bool) (p9 p10 p11 p12 p13 : Int) (p14 : Bool) (p15 p16 p17 p18 p19 p20 p21 : Int) (p22 : Bool) (p23 p24 p25 p26 : Int) (p27 p28 p29 : Nat) (p30 : List (Car)) (p31 : List (Int)) (p32 p33 : List (Bool)) (p34 : List (Entry)) (p35 p36 : ByteArray) (p37 : Int) (p38 : List (Debounced)) (p39 : List (Belief)) (p40 : List (NewCar)) (p41 : List (Loaded)) (p42 : List (Int)) (p43 : List (Calls)) (p44 p45 p46 : Int) : Option (Sum (T'69 × T'71) (((Unit × Unit × Unit) × (T'0 × T'30 × Unit)) ⊕ ((Bool × Unit) × Unit))) :=
 bif (decide (p0 < (16 : Int))) then
 let z0 : Int := (Int.tmod p2 (50 : Int))
 Option.bind (bif (p0 == (1 : Int)) then
 some (((), (), (), p0, (), ()), ((p1, p2, p3, p4, p5, p6, p7, p8, p9, p10, p11, p12, p13, p14, p15, p16, p17, p18, p19, p20, p21, p22, ()), (p23, p24, p25, p26, p27, p28, p29, p30, ()), (p31, p32, p33, p34, p35, p36, p37, p38, p39, p40, p41, p42, p43, p44, p45, p46, ()), (p31, ([] : List (Bool)), p33, p34, p35, p36, p37, p38, p39, p40, p41, p42, p43, p44, p45, p46, ()), ()))
 else
 bif (p0 == (2 : Int)) then
 some (((), (), (), p0, (), ()), ((p1, p2, p3, p4, p5, p6, p7, p8, p9, p10, p11, p12, p13, p14, p15, p16, p17, p18, p19, p20, p21, p22, ()), (p23, p24, p25, p26, p27, p28, p29, p30, ()), (p31, p32, p33, p34, p35, p36, p37, p38, p39, p40, p41, p42, p43, p44, p45, p46, ()), (p31, p32, p33, p34, p35, p36, z0, p38, p39, p40, p41, p42, p43, p44, p45, p46, ()), ()))
 else
 bif (p0 == (3 : Int)) then
 let z1 : Int := ((List.length p30 : Nat) : Int)
 bif (((decide ((0 : Int) ≤ z1)) && (decide (z1 ≤ z1))) && (decide (z1 ≤ (2147483648 : Int)))) then
 let z2 : List (Debounced) := (List.replicate (Int.toNat z1) (Debounced.mk (0 : Int) false false false false (0 : Int) (0 : Int) (0 : Int) (0 : Int) (0 : Int) (0 : Int) (0 : Int) (0 : Int) (0 : Int) (0 : Int) (0 : Int) (0 : Int) (0 : Int) (0 : Int) (0 : Int) (0 : Int) (0 : Int) (0 : Int) (0 : Int) (0 : Int) (0 : Int) (0 : Int) (0 : Int) (0 : Int) (0 : Int) (0 : Int) (0 : Int) (0 : Int) (0 : Int) (0 : Int) (0 : Int) (0 : Int) (0 : Int) (0 : Int) (0 : Int) (0 : Int)))
 bif (inB (0 : Int) (List.length z2)) then
 let z3 : Nat := (Int.toNat (0 : Int))
 let z4 : Debounced := (List.getD z2 z3 (Debounced.mk (0 : Int) false false false false (0 : Int) (0 : Int) (0 : Int) (0 : Int) (0 : Int) (0 : Int) (0 : Int) (0 : Int) (0 : Int) (0 : Int) (0 : Int) (0 : Int) (0 : Int) (0 : Int) (0 : Int) (0 : Int) (0 : Int) (0 : Int) (0 : Int) (0 : Int) (0 : Int) (0 : Int) (0 : Int) (0 : Int) (0 : Int) (0 : Int) (0 : Int) (0 : Int) (0 : Int) (0 : Int) (0 : Int) (0 : Int) (0 : Int) (0 : Int) (0 : Int) (0 : Int)))
 some (((), (), (), p0, (), ()), ((p1, p2, p3, p4, p5, p6, p7, p8, p9, p10, p11, p12, p13, p14, p15, p16, p17, p18, p19, p20, p21, p22, ()), (p23, p24, p25, p26, p27, p28, p29, p30, ()), (p31, p32, p33, p34, p35, p36, p37, p38, p39, p40, p41, p42, p43, p44, p45, p46, ()), (p31, p32, p33, p34, p35, p36, p37, (List.set z2 z3 (Debounced.mk z4.Contacts_Floors z4.Contacts_Up z4.Contacts_Down z4.Contacts_Open z4.Contacts_Closed z4.Count_0 z4.Count_1 z4.Count_2 z4.Count_3 z4.Count_4 z4.Count_5 z4.Count_6 (Int.tmod z0 (3 : Int)) z4.Count_8 z4.Count_9 z4.Count_10 z4.Count_11 z4.Count_12 z4.Count_13 z4.Count_14 z4.Count_15 z4.Count_16 z4.Count_17 z4.Count_18 z4.Count_19 z4.Count_20 z4.Count_21 z4.Count_22 z4.Count_23 z4.Count_24 z4.Count_25 z4.Count_26 z4.Count_27 z4.Count_28 z4.Count_29 z4.Count_30 z4.Count_31 z4.Count_32 z4.Count_33 z4.Count_34 z4.Count_35)), p39, p40, p41, p42, p43, p44, p45, p46, ()), ()))
 else
 none
 else
 none
 else
 bif (p0 == (4 : Int)) then
 let z5 : List (Belief) := [(Belief.mk p3 p4 p5 p6 p7 p8)]
 bif (decide ((1 : Int) ≤ (((List.length p39) : Nat) : Int))) then
 let z6 : List (Belief) := (List.drop 1 (List.take (List.length p39) p39))
 bif (Nat.ble ((List.length z5) + (List.length z6)) 2147483648) then
 some (((), (), (), p0, (), ()), ((p1, p2, p3, p4, p5, p6, p7, p8, p9, p10, p11, p12, p13, p14, p15, p16, p17, p18, p19, p20, p21, p22, ()), (p23, p24, p25, p26, p27, p28, p29, p30, ()), (p31, p32, p33, p34, p35, p36, p37, p38, p39, p40, p41, p42, p43, p44, p45, p46, ()), (p31, p32, p33, p34, p35, p36, p37, p38, (z5 ++ z6), p40, p41, p42, p43, p44, p45, p46, ()), ()))
 else
 none
 else
 none
 else
 bif (p0 == (5 : Int)) then
 let z7 : List (NewCar) := [(NewCar.mk p9 p10 p11 p12 p13 p14 p15 p16 p17 p18 p19 p20 p21 p22)]
 bif (decide ((1 : Int) ≤ (((List.length p40) : Nat) : Int))) then
 let z8 : List (NewCar) := (List.drop 1 (List.take (List.length p40) p40))
 bif (Nat.ble ((List.length z7) + (List.length z8)) 2147483648) then
 some (((), (), (), p0, (), ()), ((p1, p2, p3, p4, p5, p6, p7, p8, p9, p10, p11, p12, p13, p14, p15, p16, p17, p18, p19, p20, p21, p22, ()), (p23, p24, p25, p26, p27, p28, p29, p30, ()), (p31, p32, p33, p34, p35, p36, p37, p38, p39, p40, p41, p42, p43, p44, p45, p46, ()), (p31, p32, p33, p34, p35, p36, p37, p38, p39, (z7 ++ z8), p41, p42, p43, p44, p45, p46, ()), ()))
 else
 none
 else
 none
 else
 bif (p0 == (6 : Int)) then
 let z9 : List (Loaded) := [(Loaded.mk (Int.tmod z0 (7 : Int)))]
 bif (decide ((1 : Int) ≤ (((List.length p41) : Nat) : Int))) then
 let z10 : List (Loaded) := (List.drop 1 (List.take (List.length p41) p41))
 bif (Nat.ble ((List.length z9) + (List.length z10)) 2147483648) then
 some (((), (), (), p0, (), ()), ((p1, p2, p3, p4, p5, p6, p7, p8, p9, p10, p11, p12, p13, p14, p15, p16, p17, p18, p19, p20, p21, p22, ()), (p23, p24, p25, p26, p27, p28, p29, p30, ()), (p31, p32, p33, p34, p35, p36, p37, p38, p39, p40, p41, p42, p43, p44, p45, p46, ()), (p31, p32, p33, p34, p35, p36, p37, p38, p39, p40, (z9 ++ z10), p42, p43, p44, p45, p46, ()), ()))
 else
 none
 else
 none
 else
 bif (p0 == (7 : Int)) then
 let z11 : List (Int) := [z0]
 bif (Nat.ble ((List.length z11) + (List.length p42)) 2147483648) then
 some (((), (), (), p0, (), ()), ((p1, p2, p3, p4, p5, p6, p7, p8, p9, p10, p11, p12, p13, p14, p15, p16, p17, p18, p19, p20, p21, p22, ()), (p23, p24, p25, p26, p27, p28, p29, p30, ()), (p31, p32, p33, p34, p35, p36, p37, p38, p39, p40, p41, p42, p43, p44, p45, p46, ()), (p31, p32, p33, p34, p35, p36, p37, p38, p39, p40, p41, (z11 ++ p42), p43, p44, p45, p46, ()), ()))
 else
 none
 else
 bif (p0 == (8 : Int)) then
 let z12 : List (Calls) := [(Calls.mk (IntKind.u32.wrap z0) (0 : Int))]
 bif (decide ((1 : Int) ≤ (((List.length p43) : Nat) : Int))) then
 let z13 : List (Calls) := (List.drop 1 (List.take (List.length p43) p43))
 bif (Nat.ble ((List.length z12) + (List.length z13)) 2147483648) then
 some (((), (), (), p0, (), ()), ((p1, p2, p3, p4, p5, p6, p7, p8, p9, p10, p11, p12, p13, p14, p15, p16, p17, p18, p19, p20, p21, p22, ()), (p23, p24, p25, p26, p27, p28, p29, p30, ()), (p31, p32, p33, p34, p35, p36, p37, p38, p39, p40, p41, p42, p43, p44, p45, p46, ()), (p31, p32, p33, p34, p35, p36, p37, p38, p39, p40, p41, p42, (z12 ++ z13), p44, p45, p46, ()), ()))
 else
 none
 else
 none
 else
 bif (p0 == (9 : Int)) then
 some (((), (), (), p0, (), ()), ((p1, p2, p3, p4, p5, p6, p7, p8, p9, p10, p11, p12, p13, p14, p15, p16, p17, p18, p19, p20, p21, p22, ()), (p23, p24, p25, p26, p27, p28, p29, p30, ()), (p31, p32, p33, p34, p35, p36, p37, p38, p39, p40, p41, p42, p43, p44, p45, p46, ()), (p31, p32, p33, p34, p35, p36, p37, p38, p39, p40, p41, p42, p43, z0, p45, p46, ()), ()))
 else
 bif (p0 == (10 : Int)) then
 some (((), (), (), p0, (), ()), ((p1, p2, p3, p4, p5, p6, p7, p8, p9, p10, p11, p12, p13, p14, p15, p16, p17, p18, p19, p20, p21, p22, ()), (p23, p24, p25, p26, p27, p28, p29, p30, ()), (p31, p32, p33, p34, p35, p36, p37, p38, p39, p40, p41, p42, p43, p44, p45, p46, ()), (p31, p32, p33, p34, p35, p36, p37, p38, p39, p40, p41, p42, p43, p44, p2, p46, ()), ()))
 else
 bif (p0 == (11 : Int)) then
 some (((), (), (), p0, (), ()), ((p1, p2, p3, p4, p5, p6, p7, p8, p9, p10, p11, p12, p13, p14, p15, p16, p17, p18, p19, p20, p21, p22, ()), (p23, p24, p25, p26, p27, p28, p29, p30, ()), (p31, p32, p33, p34, p35, p36, p37, p38, p39, p40, p41, p42, p43, p44, p45, p46, ()), (p31, p32, p33, p34, p35, p36, p37, p38, p39, p40, p41, p42, p43, p44, p45, p2, ()), ()))
 else
 bif (p0 == (12 : Int)) then
 bif (decide ((1 : Int) ≤ (((List.length p43) : Nat) : Int))) then
 some (((), (), (), p0, (), ()), ((p1, p2, p3, p4, p5, p6, p7, p8, p9, p10, p11, p12, p13, p14, p15, p16, p17, p18, p19, p20, p21, p22, ()), (p23, p24, p25, p26, p27, p28, p29, p30, ()), (p31, p32, p33, p34, p35, p36, p37, p38, p39, p40, p41, p42, p43, p44, p45, p46, ()), (p31, p32, p33, p34, p35, p36, p37, p38, p39, p40, p41, p42, (List.drop 1 (List.take (List.length p43) p43)), p44, p45, p46, ()), ()))
 else
 none
 else
 bif (p0 == (13 : Int)) then
 let z14 : List (Belief) := [(Belief.mk (Int.tmod z0 (9 : Int)) (0 : Int) (0 : Int) [] z0 false)]
 bif (decide ((1 : Int) ≤ (((List.length p39) : Nat) : Int))) then
 let z15 : List (Belief) := (List.drop 1 (List.take (List.length p39) p39))
 bif (Nat.ble ((List.length z14) + (List.length z15)) 2147483648) then
 some (((), (), (), p0, (), ()), ((p1, p2, p3, p4, p5, p6, p7, p8, p9, p10, p11, p12, p13, p14, p15, p16, p17, p18, p19, p20, p21, p22, ()), (p23, p24, p25, p26, p27, p28, p29, p30, ()), (p31, p32, p33, p34, p35, p36, p37, p38, p39, p40, p41, p42, p43, p44, p45, p46, ()), (p31, p32, p33, p34, p35, p36, p37, p38, (z14 ++ z15), p40, p41, p42, p43, p44, p45, p46, ()), ()))
 else
 none
 else
 none
 else
 bif (p0 == (14 : Int)) then
 let z16 : List (NewCar) := [(NewCar.mk (0 : Int) (0 : Int) (0 : Int) (0 : Int) (0 : Int) false (0 : Int) (0 : Int) (0 : Int) (0 : Int) (0 : Int) (Int.tmod z0 (4 : Int)) z0 false)]
 bif (decide ((1 : Int) ≤ (((List.length p40) : Nat) : Int))) then
 let z17 : List (NewCar) := (List.drop 1 (List.take (List.length p40) p40))
 bif (Nat.ble ((List.length z16) + (List.length z17)) 2147483648) then
 some (((), (), (), p0, (), ()), ((p1, p2, p3, p4, p5, p6, p7, p8, p9, p10, p11, p12, p13, p14, p15, p16, p17, p18, p19, p20, p21, p22, ()), (p23, p24, p25, p26, p27, p28, p29, p30, ()), (p31, p32, p33, p34, p35, p36, p37, p38, p39, p40, p41, p42, p43, p44, p45, p46, ()), (p31, p32, p33, p34, p35, p36, p37, p38, p39, (z16 ++ z17), p41, p42, p43, p44, p45, p46, ()), ()))
 else
 none
 else
 none
 else
 bif (p0 == (15 : Int)) then
 bif (Nat.ble ((List.length ([] : List (Int))) + (List.length p42)) 2147483648) then
 let z18 : List (Int) := (([] : List (Int)) ++ p42)
 bif (decide ((0 : Int) < ((List.length z18 : Nat) : Int))) then
 bif (inB (0 : Int) (List.length z18)) then
 some (((), (), (), p0, (), ()), ((p1, p2, p3, p4, p5, p6, p7, p8, p9, p10, p11, p12, p13, p14, p15, p16, p17, p18, p19, p20, p21, p22, ()), (p23, p24, p25, p26, p27, p28, p29, p30, ()), (p31, p32, p33, p34, p35, p36, p37, p38, p39, p40, p41, p42, p43, p44, p45, p46, ()), (p31, p32, p33, p34, p35, p36, p37, p38, p39, p40, p41, (List.set z18 (Int.toNat (0 : Int)) p2), p43, p44, p45, p46, ()), ()))
 else
 none
 else
 some (((), (), (), p0, (), ()), ((p1, p2, p3, p4, p5, p6, p7, p8, p9, p10, p11, p12, p13, p14, p15, p16, p17, p18, p19, p20, p21, p22, ()), (p23, p24, p25, p26, p27, p28, p29, p30, ()), (p31, p32, p33, p34, p35, p36, p37, p38, p39, p40, p41, p42, p43, p44, p45, p46, ()), (p31, p32, p33, p34, p35, p36, p37, p38, p39, p40, p41, z18, p43, p44, p45, p46, ()), ()))
 else
 none
 else
 some (((), (), (), p0, (), ()), ((p1, p2, p3, p4, p5, p6, p7, p8, p9, p10, p11, p12, p13, p14, p15, p16, p17, p18, p19, p20, p21, p22, ()), (p23, p24, p25, p26, p27, p28, p29, p30, ()), (p31, p32, p33, p34, p35, p36, p37, p38, p39, p40, p41, p42, p43, p44, p45, p46, ()), (p31, p32, p33, p34, p35, p36, p37, p38, p39, p40, p41, p42, p43, p44, p45, p46, ()), ()))) fun y1 =>
 (nbr' y1.2.2.1.1 y1.2.2.1.2.1 y1.2.2.1.2.2.1 y1.2.2.1.2.2.2.1 y1.2.2.1.2.2.2.2.1 y1.2.2.1.2.2.2.2.2.1 y1.2.2.1.2.2.2.2.2.2.1 y1.2.2.1.2.2.2.2.2.2.2.1 y1.2.2.2.2.1.1 y1.2.2.2.2.1.2.1 y1.2.2.2.2.1.2.2.1 y1.2.2.2.2.1.2.2.2.1 y1.2.2.2.2.1.2.2.2.2.1 y1.2.2.2.2.1.2.2.2.2.2.1 y1.2.2.2.2.1.2.2.2.2.2.2.1 y1.2.2.2.2.1.2.2.2.2.2.2.2.1 y1.2.2.2.2.1.2.2.2.2.2.2.2.2.1 y1.2.2.2.2.1.2.2.2.2.2.2.2.2.2.1 y1.2.2.2.2.1.2.2.2.2.2.2.2.2.2.2.1 y1.2.2.2.2.1.2.2.2.2.2.2.2.2.2.2.2.1 y1.2.2.2.2.1.2.2.2.2.2.2.2.2.2.2.2.2.1 y1.2.2.2.2.1.2.2.2.2.2.2.2.2.2.2.2.2.2.1 y1.2.2.2.2.1.2.2.2.2.2.2.2.2.2.2.2.2.2.2.1 y1.2.2.2.2.1.2.2.2.2.2.2.2.2.2.2.2.2.2.2.2.1).bind fun y2 =>
 (neo' y1.2.2.1.1 y1.2.2.1.2.1 y1.2.2.1.2.2.1 y1.2.2.1.2.2.2.1 y1.2.2.1.2.2.2.2.1 y1.2.2.1.2.2.2.2.2.1 y1.2.2.1.2.2.2.2.2.2.1 y1.2.2.1.2.2.2.2.2.2.2.1 y1.2.2.2.2.1.1 y1.2.2.2.2.1.2.1 y1.2.2.2.2.1.2.2.1 y1.2.2.2.2.1.2.2.2.1 y1.2.2.2.2.1.2.2.2.2.1 y1.2.2.2.2.1.2.2.2.2.2.1 y1.2.2.2.2.1.2.2.2.2.2.2.1 y1.2.2.2.2.1.2.2.2.2.2.2.2.1 y1.2.2.2.2.1.2.2.2.2.2.2.2.2.1 y1.2.2.2.2.1.2.2.2.2.2.2.2.2.2.1 y1.2.2.2.2.1.2.2.2.2.2.2.2.2.2.2.1 y1.2.2.2.2.1.2.2.2.2.2.2.2.2.2.2.2.1 y1.2.2.2.2.1.2.2.2.2.2.2.2.2.2.2.2.2.1 y1.2.2.2.2.1.2.2.2.2.2.2.2.2.2.2.2.2.2.1 y1.2.2.2.2.1.2.2.2.2.2.2.2.2.2.2.2.2.2.2.1 y1.2.2.2.2.1.2.2.2.2.2.2.2.2.2.2.2.2.2.2.2.1).bind fun y3 =>
 bif (!(y2.1.1 == y3.1.1)) then
 some (Sum.inr (Sum.inr ((false, ()), ())))
 else
 (ncn' y1.2.2.2.1.1 y1.2.2.2.1.2.1 y1.2.2.2.1.2.2.1 y1.2.2.2.1.2.2.2.1 y1.2.2.2.1.2.2.2.2.1 y1.2.2.2.1.2.2.2.2.2.1 y1.2.2.2.1.2.2.2.2.2.2.1 y1.2.2.2.1.2.2.2.2.2.2.2.1 y1.2.2.2.1.2.2.2.2.2.2.2.2.1 y1.2.2.2.1.2.2.2.2.2.2.2.2.2.1 y1.2.2.2.1.2.2.2.2.2.2.2.2.2.2.1 y1.2.2.2.1.2.2.2.2.2.2.2.2.2.2.2.1 y1.2.2.2.1.2.2.2.2.2.2.2.2.2.2.2.2.1 y1.2.2.2.1.2.2.2.2.2.2.2.2.2.2.2.2.2.1 y1.2.2.2.1.2.2.2.2.2.2.2.2.2.2.2.2.2.2.1 y1.2.2.2.1.2.2.2.2.2.2.2.2.2.2.2.2.2.2.2.1 y1.2.2.2.2.1.1 y1.2.2.2.2.1.2.1 y1.2.2.2.2.1.2.2.1 y1.2.2.2.2.1.2.2.2.1 y1.2.2.2.2.1.2.2.2.2.1 y1.2.2.2.2.1.2.2.2.2.2.1 y1.2.2.2.2.1.2.2.2.2.2.2.1 y1.2.2.2.2.1.2.2.2.2.2.2.2.1 y1.2.2.2.2.1.2.2.2.2.2.2.2.2.1 y1.2.2.2.2.1.2.2.2.2.2.2.2.2.2.1 y1.2.2.2.2.1.2.2.2.2.2.2.2.2.2.2.1 y1.2.2.2.2.1.2.2.2.2.2.2.2.2.2.2.2.1 y1.2.2.2.2.1.2.2.2.2.2.2.2.2.2.2.2.2.1 y1.2.2.2.2.1.2.2.2.2.2.2.2.2.2.2.2.2.2.1 y1.2.2.2.2.1.2.2.2.2.2.2.2.2.2.2.2.2.2.2.1 y1.2.2.2.2.1.2.2.2.2.2.2.2.2.2.2.2.2.2.2.2.1).bind fun y4 =>
 (nit' y1.2.2.2.1.1 y1.2.2.2.1.2.1 y1.2.2.2.1.2.2.1 y1.2.2.2.1.2.2.2.1 y1.2.2.2.1.2.2.2.2.1 y1.2.2.2.1.2.2.2.2.2.1 y1.2.2.2.1.2.2.2.2.2.2.1 y1.2.2.2.1.2.2.2.2.2.2.2.1 y1.2.2.2.1.2.2.2.2.2.2.2.2.1 y1.2.2.2.1.2.2.2.2.2.2.2.2.2.1 y1.2.2.2.1.2.2.2.2.2.2.2.2.2.2.1 y1.2.2.2.1.2.2.2.2.2.2.2.2.2.2.2.1 y1.2.2.2.1.2.2.2.2.2.2.2.2.2.2.2.2.1 y1.2.2.2.1.2.2.2.2.2.2.2.2.2.2.2.2.2.1 y1.2.2.2.1.2.2.2.2.2.2.2.2.2.2.2.2.2.2.1 y1.2.2.2.1.2.2.2.2.2.2.2.2.2.2.2.2.2.2.2.1 y1.2.2.2.2.1.1 y1.2.2.2.2.1.2.1 y1.2.2.2.2.1.2.2.1 y1.2.2.2.2.1.2.2.2.1 y1.2.2.2.2.1.2.2.2.2.1 y1.2.2.2.2.1.2.2.2.2.2.1 y1.2.2.2.2.1.2.2.2.2.2.2.1 y1.2.2.2.2.1.2.2.2.2.2.2.2.1 y1.2.2.2.2.1.2.2.2.2.2.2.2.2.1 y1.2.2.2.2.1.2.2.2.2.2.2.2.2.2.1 y1.2.2.2.2.1.2.2.2.2.2.2.2.2.2.2.1 y1.2.2.2.2.1.2.2.2.2.2.2.2.2.2.2.2.1 y1.2.2.2.2.1.2.2.2.2.2.2.2.2.2.2.2.2.1 y1.2.2.2.2.1.2.2.2.2.2.2.2.2.2.2.2.2.2.1 y1.2.2.2.2.1.2.2.2.2.2.2.2.2.2.2.2.2.2.2.1 y1.2.2.2.2.1.2.2.2.2.2.2.2.2.2.2.2.2.2.2.2.1).bind fun y5 =>
 bif (!(y4.1.1 == y5.1.1)) then
 some (Sum.inr (Sum.inr ((false, ()), ())))
 else
 (ncn' y1.2.2.2.2.1.1 y1.2.2.2.2.1.2.1 y1.2.2.2.2.1.2.2.1 y1.2.2.2.2.1.2.2.2.1 y1.2.2.2.2.1.2.2.2.2.1 y1.2.2.2.2.1.2.2.2.2.2.1 y1.2.2.2.2.1.2.2.2.2.2.2.1 y1.2.2.2.2.1.2.2.2.2.2.2.2.1 y1.2.2.2.2.1.2.2.2.2.2.2.2.2.1 y1.2.2.2.2.1.2.2.2.2.2.2.2.2.2.1 y1.2.2.2.2.1.2.2.2.2.2.2.2.2.2.2.1 y1.2.2.2.2.1.2.2.2.2.2.2.2.2.2.2.2.1 y1.2.2.2.2.1.2.2.2.2.2.2.2.2.2.2.2.2.1 y1.2.2.2.2.1.2.2.2.2.2.2.2.2.2.2.2.2.2.1 y1.2.2.2.2.1.2.2.2.2.2.2.2.2.2.2.2.2.2.2.1 y1.2.2.2.2.1.2.2.2.2.2.2.2.2.2.2.2.2.2.2.2.1 y1.2.2.2.2.1.1 y1.2.2.2.2.1.2.1 y1.2.2.2.2.1.2.2.1 y1.2.2.2.2.1.2.2.2.1 y1.2.2.2.2.1.2.2.2.2.1 y1.2.2.2.2.1.2.2.2.2.2.1 y1.2.2.2.2.1.2.2.2.2.2.2.1 y1.2.2.2.2.1.2.2.2.2.2.2.2.1 y1.2.2.2.2.1.2.2.2.2.2.2.2.2.1 y1.2.2.2.2.1.2.2.2.2.2.2.2.2.2.1 y1.2.2.2.2.1.2.2.2.2.2.2.2.2.2.2.1 y1.2.2.2.2.1.2.2.2.2.2.2.2.2.2.2.2.1 y1.2.2.2.2.1.2.2.2.2.2.2.2.2.2.2.2.2.1 y1.2.2.2.2.1.2.2.2.2.2.2.2.2.2.2.2.2.2.1 y1.2.2.2.2.1.2.2.2.2.2.2.2.2.2.2.2.2.2.2.1 y1.2.2.2.2.1.2.2.2.2.2.2.2.2.2.2.2.2.2.2.2.1).bind fun y6 =>
 bif (!y6.1.1) then
 some (Sum.inr (Sum.inr ((false, ()), ())))
 else
 some (Sum.inl (((), (), (), (IntKind.i64.wrap (y1.1.2.2.2.1 + (1 : Int))), ()), (y1.2.1, y1.2.2.1, y1.2.2.2.1, ())))
 else
 some (Sum.inr (Sum.inl (((), (), ()), ((p23, p24, p25, p26, p27, p28, p29, p30, ()), (p31, p32, p33, p34, p35, p36, p37, p38, p39, p40, p41, p42, p43, p44, p45, p46, ()), ()))))
noncomputable def nc4' : (T'69 × T'71) → Option (((Unit × Unit × Unit) × (T'0 × T'30 × Unit)) ⊕ ((Bool × Unit) × Unit)) := iter (fun x => nd' x.1.2.2.2.1 x.2.1.1 x.2.1.2.1 x.2.1.2.2.1 x.2.1.2.2.2.1 x.2.1.2.2.2.2.1 x.2.1.2.2.2.2.2.1 x.2.1.2.2.2.2.2.2.1 x.2.1.2.2.2.2.2.2.2.1 x.2.1.2.2.2.2.2.2.2.2.1 x.2.1.2.2.2.2.2.2.2.2.2.1 x.2.1.2.2.2.2.2.2.2.2.2.2.1 x.2.1.2.2.2.2.2.2.2.2.2.2.2.1 x.2.1.2.2.2.2.2.2.2.2.2.2.2.2.1 x.2.1.2.2.2.2.2.2.2.2.2.2.2.2.2.1 x.2.1.2.2.2.2.2.2.2.2.2.2.2.2.2.2.1 x.2.1.2.2.2.2.2.2.2.2.2.2.2.2.2.2.2.1 x.2.1.2.2.2.2.2.2.2.2.2.2.2.2.2.2.2.2.1 x.2.1.2.2.2.2.2.2.2.2.2.2.2.2.2.2.2.2.2.1 x.2.1.2.2.2.2.2.2.2.2.2.2.2.2.2.2.2.2.2.2.1 x.2.1.2.2.2.2.2.2.2.2.2.2.2.2.2.2.2.2.2.2.2.1 x.2.1.2.2.2.2.2.2.2.2.2.2.2.2.2.2.2.2.2.2.2.2.1 x.2.1.2.2.2.2.2.2.2.2.2.2.2.2.2.2.2.2.2.2.2.2.2.1 x.2.2.1.1 x.2.2.1.2.1 x.2.2.1.2.2.1 x.2.2.1.2.2.2.1 x.2.2.1.2.2.2.2.1 x.2.2.1.2.2.2.2.2.1 x.2.2.1.2.2.2.2.2.2.1 x.2.2.1.2.2.2.2.2.2.2.1 x.2.2.2.1.1 x.2.2.2.1.2.1 x.2.2.2.1.2.2.1 x.2.2.2.1.2.2.2.1 x.2.2.2.1.2.2.2.2.1 x.2.2.2.1.2.2.2.2.2.1 x.2.2.2.1.2.2.2.2.2.2.1 x.2.2.2.1.2.2.2.2.2.2.2.1 x.2.2.2.1.2.2.2.2.2.2.2.2.1 x.2.2.2.1.2.2.2.2.2.2.2.2.2.1 x.2.2.2.1.2.2.2.2.2.2.2.2.2.2.1 x.2.2.2.1.2.2.2.2.2.2.2.2.2.2.2.1 x.2.2.2.1.2.2.2.2.2.2.2.2.2.2.2.2.1 x.2.2.2.1.2.2.2.2.2.2.2.2.2.2.2.2.2.1 x.2.2.2.1.2.2.2.2.2.2.2.2.2.2.2.2.2.2.1 x.2.2.2.1.2.2.2.2.2.2.2.2.2.2.2.2.2.2.2.1) fuel
noncomputable def F_l26_RestartMachines (p0 p1 : Int) (l : List (Int)) (p2 p3 p4 p5 p6 : Int) (p7 : List (Duty)) (p8 : Int) (p9 : Bool) (p10 p11 p12 p13 p14 : Int) (p15 : Bool) (p16 p17 p18 p19 p20 p21 p22 : Int) (p23 : Bool) : Option ((Bool × Unit) × Unit) :=
 bif (decide ((50 : Int) < ((List.length p7 : Nat) : Int))) then
 (ng3').bind fun y1 =>
 some ((y1.1.1, ()), ())
 else
 (nc3' p0 (250 : Int)).bind fun y2 =>
 Option.bind (some ((l, (), (), ()), ((p2, p3, p4, p5, p6, p7, p8, p9, p10, p11, p12, p13, p14, p15, p16, p17, p18, p19, p20, p21, p22, p23, ()), y2.2.1, ()))) fun y3 =>
 (niy' y3.2.2.1.1 y3.2.2.1.2.1 y3.2.2.1.2.2.1 y3.2.2.1.2.2.2.1 y3.2.2.1.2.2.2.2.1 y3.2.2.1.2.2.2.2.2.1 y3.2.2.1.2.2.2.2.2.2.1 y3.2.2.1.2.2.2.2.2.2.2.1 y3.1.1).bind fun y4 =>
 (nf3' y3.2.2.1.1 y3.2.2.1.2.1 y3.2.2.1.2.2.1 y3.2.2.1.2.2.2.1 y3.2.2.1.2.2.2.2.1 y3.2.2.1.2.2.2.2.2.1 y3.2.2.1.2.2.2.2.2.2.1 y3.2.2.1.2.2.2.2.2.2.2.1 y4.2.1.1 y4.2.1.2.1 y4.2.1.2.2.1 y4.2.1.2.2.2.1 (ByteArray.mk (Array.mk [])) (ByteArray.mk (Array.mk [])) (0 : Int)).bind fun y5 =>
 (nc4' (((), (), (), (0 : Int), ()), (y3.2.1, y3.2.2.1, y5.2.1, ()))).bind fun y6 =>
 (match y6 with
 | .inl y7 =>
 Option.bind ((nbr' y7.2.1.1 y7.2.1.2.1 y7.2.1.2.2.1 y7.2.1.2.2.2.1 y7.2.1.2.2.2.2.1 y7.2.1.2.2.2.2.2.1 y7.2.1.2.2.2.2.2.2.1 y7.2.1.2.2.2.2.2.2.2.1 y7.2.2.1.1 y7.2.2.1.2.1 y7.2.2.1.2.2.1 y7.2.2.1.2.2.2.1 y7.2.2.1.2.2.2.2.1 y7.2.2.1.2.2.2.2.2.1 y7.2.2.1.2.2.2.2.2.2.1 y7.2.2.1.2.2.2.2.2.2.2.1 y7.2.2.1.2.2.2.2.2.2.2.2.1 y7.2.2.1.2.2.2.2.2.2.2.2.2.1 y7.2.2.1.2.2.2.2.2.2.2.2.2.2.1 y7.2.2.1.2.2.2.2.2.2.2.2.2.2.2.1 y7.2.2.1.2.2.2.2.2.2.2.2.2.2.2.2.1 y7.2.2.1.2.2.2.2.2.2.2.2.2.2.2.2.2.1 y7.2.2.1.2.2.2.2.2.2.2.2.2.2.2.2.2.2.1 y7.2.2.1.2.2.2.2.2.2.2.2.2.2.2.2.2.2.2.1).bind fun y8 =>
 bif y8.1.1 then
 (nbr' y7.2.1.1 y7.2.1.2.1 y7.2.1.2.2.1 y7.2.1.2.2.2.1 y7.2.1.2.2.2.2.1 y7.2.1.2.2.2.2.2.1 y7.2.1.2.2.2.2.2.2.1 y7.2.1.2.2.2.2.2.2.2.1 [] [] [] [] (ByteArray.mk (Array.mk [])) (ByteArray.mk (Array.mk [])) (0 : Int) [] [] [] [] [] [] (0 : Int) (0 : Int) (0 : Int)).bind fun y9 =>
 bif (!y9.1.1) then
 (ng3').bind fun y10 =>
 some ((y10.1.1, ()), ())
 else
 some ((false, ()), ())
 else
 some ((false, ()), ())) fun y11 =>
 some ((y11.1.1, ()), ())
 | .inr y7 =>
 some ((y7.1.1, ()), ()))
noncomputable def nxy' (s : ByteArray) (r i k : Int) : Option (Sum (T'5 × Unit) (T'72 × Unit)) :=
 bif (decide (k < (8 : Int))) then
 let z0 : Int := (Int.tmod (IntKind.i64.wrap (r * (2 : Int))) (256 : Int))
 bif (decide ((128 : Int) ≤ r)) then
 some (Sum.inl ((s, (IntKind.i64.wrap (stk z0 (7 : Int) (BitVec.toNat ((BitVec.ofInt (IntKind.bits IntKind.i64) z0) ^^^ (BitVec.ofInt (IntKind.bits IntKind.i64) (7 : Int)))))), i, (IntKind.i64.wrap (k + (1 : Int))), ()), ()))
 else
 some (Sum.inl ((s, z0, i, (IntKind.i64.wrap (k + (1 : Int))), ()), ()))
 else
 some (Sum.inr ((s, r, i, ()), ()))
noncomputable def nmu' : (T'5 × Unit) → Option (T'72 × Unit) := iter (fun x => nxy' x.1.1 x.1.2.1 x.1.2.2.1 x.1.2.2.2.1) fuel
noncomputable def nwn' (s : ByteArray) (r i : Int) : Option (Sum (T'72 × Unit) ((Int × Unit) × Unit)) :=
 bif (decide (i < ((ByteArray.size s : Nat) : Int))) then
 bif (inB i (ByteArray.size s)) then
 let z0 : Int := (IntKind.i64.wrap (nd1' s (Int.toNat i)))
 (nmu' ((s, (IntKind.i64.wrap (stk r z0 (BitVec.toNat ((BitVec.ofInt (IntKind.bits IntKind.i64) r) ^^^ (BitVec.ofInt (IntKind.bits IntKind.i64) z0))))), i, (0 : Int), ()), ())).bind fun y1 =>
 some (Sum.inl ((y1.1.1, y1.1.2.1, (IntKind.i64.wrap (y1.1.2.2.1 + (1 : Int))), ()), ()))
 else
 none
 else
 some (Sum.inr ((r, ()), ()))
noncomputable def nmo' : (T'72 × Unit) → Option ((Int × Unit) × Unit) := iter (fun x => nwn' x.1.1 x.1.2.1 x.1.2.2.1) fuel
noncomputable def nod' (s : ByteArray) : Option ((Int × Unit) × Unit) :=
 (nmo' ((s, (0 : Int), (0 : Int), ()), ())).bind fun y1 =>
 some (((IntKind.u8.wrap y1.1.1), ()), ())
noncomputable def nk4' (p0 : Int) (p1 p2 : ByteArray) (p3 p4 p5 : Int) : Option ((Int × Unit) × Unit) :=
 (nep' p0 p1 p2 p3).bind fun y1 =>
 bif (!y1.1.1) then
 some (((1 : Int), ()), ())
 else
 Option.bind (bif (p4 != (0 : Int)) then
 bif (p4 != (1 : Int)) then
 some ((true, ()), ())
 else
 some (((decide (p5 < (0 : Int))), ()), ())
 else
 some (((decide (p5 < (0 : Int))), ()), ())) fun y2 =>
 bif y2.1.1 then
 some (((2 : Int), ()), ())
 else
 some (((0 : Int), ()), ())
noncomputable def npb' (p0 : Int) (p1 p2 : ByteArray) (p3 p4 p5 : Int) : Option ((Unit × Int × Int × Unit) × (T'24 × Unit)) :=
 (nk4' p0 p1 p2 p3 p4 p5).bind fun y1 =>
 bif (y1.1.1 != (0 : Int)) then
 some (((), (0 : Int), y1.1.1, ()), (((ByteArray.mk (Array.mk [])), (ByteArray.mk (Array.mk [])), (0 : Int), ()), ()))
 else
 bif (p5 == (0 : Int)) then
 some (((), (0 : Int), (8 : Int), ()), ((p1, p2, p3, ()), ()))
 else
 some (((), (IntKind.i64.wrap (p5 - (1 : Int))), (0 : Int), ()), ((p1, p2, p4, ()), ()))
noncomputable def no1' (p0 p1 : ByteArray) (p2 : Int) : Option ((ByteArray × Unit) × Unit) :=
 bif (p2 == (1 : Int)) then
 some ((p1, ()), ())
 else
 some ((p0, ()), ())
noncomputable def nqy' (p0 : Int) (p1 p2 : ByteArray) (p3 p4 p5 : Int) : Option ((Unit × Int × Int × Unit) × (T'24 × Unit)) :=
 (nk4' p0 p1 p2 p3 p4 p5).bind fun y1 =>
 bif (y1.1.1 != (0 : Int)) then
 some (((), (0 : Int), y1.1.1, ()), (((ByteArray.mk (Array.mk [])), (ByteArray.mk (Array.mk [])), (0 : Int), ()), ()))
 else
 bif (p5 == (0 : Int)) then
 some (((), (0 : Int), (8 : Int), ()), ((p1, p2, p3, ()), ()))
 else
 bif (inB p4 2) then
 let z0 : Nat := (Int.toNat p4)
 some (((), (IntKind.i64.wrap (p5 - (1 : Int))), (0 : Int), ()), (((bif (Nat.beq z0 0) then (ByteArray.mk (Array.mk [])) else p1), (bif (Nat.beq z0 1) then (ByteArray.mk (Array.mk [])) else p2), p3, ()), ()))
 else
 none
noncomputable def nvu' (p0 : Int) (p1 : ByteArray) (p2 i : Int) (p3 p4 : ByteArray) (p5 : Int) (p6 p7 : ByteArray) (p8 : Int) : Option (Sum (T'73 × (T'24 × T'24 × Unit)) ((T'74 × (T'24 × T'24 × Unit)) ⊕ ((Unit × Int × Int × Unit) × (T'24 × Unit)))) :=
 bif (decide (i < ((ByteArray.size p1 : Nat) : Int))) then
 bif (p2 == (0 : Int)) then
 some (Sum.inr (Sum.inr (((), (0 : Int), (8 : Int), ()), ((p3, p4, p5, ()), ()))))
 else
 bif (inB p0 2) then
 let z0 : ByteArray := (List.getD [p3, p4] (Int.toNat p0) (ByteArray.mk (Array.mk [])))
 let z1 : Int := (IntKind.i64.wrap (i + (1 : Int)))
 bif ((decide ((0 : Int) ≤ z1)) && (decide (z1 ≤ (((ByteArray.size p1) : Nat) : Int)))) then
 bif ((decide ((0 : Int) ≤ i)) && (decide (i ≤ (((Int.toNat z1) : Nat) : Int)))) then
 let z2 : ByteArray := (ByteArray.extract p1 (Int.toNat i) (Int.toNat z1))
 bif (Nat.ble ((ByteArray.size z0) + (ByteArray.size z2)) 4611686018427387904) then
 let z3 : ByteArray := (z0 ++ z2)
 bif (inB p0 2) then
 let z4 : Nat := (Int.toNat p0)
 some (Sum.inl ((p0, p1, (IntKind.i64.wrap (p2 - (1 : Int))), (), (), (IntKind.i64.wrap (i + (1 : Int))), ()), (((bif (Nat.beq z4 0) then z3 else p3), (bif (Nat.beq z4 1) then z3 else p4), p5, ()), (p6, p7, p8, ()), ())))
 else
 none
 else
 none
 else
 none
 else
 none
 else
 none
 else
 some (Sum.inr (Sum.inl ((p2, (), (), ()), ((p3, p4, p5, ()), (p6, p7, p8, ()), ()))))
noncomputable def nlt' : (T'73 × (T'24 × T'24 × Unit)) → Option ((T'74 × (T'24 × T'24 × Unit)) ⊕ ((Unit × Int × Int × Unit) × (T'24 × Unit))) := iter (fun x => nvu' x.1.1 x.1.2.1 x.1.2.2.1 x.1.2.2.2.2.2.1 x.2.1.1 x.2.1.2.1 x.2.1.2.2.1 x.2.2.1.1 x.2.2.1.2.1 x.2.2.1.2.2.1) fuel
noncomputable def nqx' (p0 : Int) (p1 p2 : ByteArray) (p3 p4 : Int) (p5 : ByteArray) (p6 : Int) : Option ((Unit × Int × Int × Unit) × (T'24 × Unit)) :=
 (nk4' p0 p1 p2 p3 p4 p6).bind fun y1 =>
 bif (y1.1.1 != (0 : Int)) then
 some (((), (0 : Int), y1.1.1, ()), (((ByteArray.mk (Array.mk [])), (ByteArray.mk (Array.mk [])), (0 : Int), ()), ()))
 else
 bif (inB p4 2) then
 bif (decide (p0 < (IntKind.i64.wrap (((ByteArray.size (List.getD [p1, p2] (Int.toNat p4) (ByteArray.mk (Array.mk []))) : Nat) : Int) + ((ByteArray.size p5 : Nat) : Int))))) then
 some (((), (0 : Int), (7 : Int), ()), (((ByteArray.mk (Array.mk [])), (ByteArray.mk (Array.mk [])), (0 : Int), ()), ()))
 else
 (nlt' ((p4, p5, p6, (), (), (0 : Int), ()), ((p1, p2, p3, ()), ((ByteArray.mk (Array.mk [])), (ByteArray.mk (Array.mk [])), (0 : Int), ()), ()))).bind fun y2 =>
 (match y2 with
 | .inl y3 =>
 some (((), y3.1.1, (0 : Int), ()), (y3.2.1, ()))
 | .inr y3 =>
 some (((), y3.1.2.1, y3.1.2.2.1, ()), (y3.2.1, ())))
 else
 none
noncomputable def npn' (p0 p1 p2 p3 : Int) (p4 p5 p6 : Nat) (p7 : List (Car)) (s : ByteArray) : Option ((Unit × Int × Unit) × (T'7 × Unit)) :=
 (nc2' p0 p1 p2 p3 p4 p5 p6 p7).bind fun y1 =>
 bif (y1.1.1 != (0 : Int)) then
 some (((), (1 : Int), ()), (((0 : Int), (0 : Int), (0 : Int), (0 : Int), (0 : Int), ()), ()))
 else
 bif (((ByteArray.size s : Nat) : Int) != (6 : Int)) then
 some (((), (4 : Int), ()), (((0 : Int), (0 : Int), (0 : Int), (0 : Int), (0 : Int), ()), ()))
 else
 bif (decide ((5 : Int) ≤ (((ByteArray.size s) : Nat) : Int))) then
 (nod' (ByteArray.extract s 0 5)).bind fun y2 =>
 bif (inB (5 : Int) (ByteArray.size s)) then
 bif (y2.1.1 != (nd1' s (Int.toNat (5 : Int)))) then
 some (((), (5 : Int), ()), (((0 : Int), (0 : Int), (0 : Int), (0 : Int), (0 : Int), ()), ()))
 else
 bif (inB (0 : Int) (ByteArray.size s)) then
 let z0 : Int := (IntKind.i64.wrap (nd1' s (Int.toNat (0 : Int))))
 bif (inB (1 : Int) (ByteArray.size s)) then
 let z1 : Int := (IntKind.i64.wrap (nd1' s (Int.toNat (1 : Int))))
 bif (inB (2 : Int) (ByteArray.size s)) then
 let z2 : Int := (IntKind.i64.wrap (nd1' s (Int.toNat (2 : Int))))
 bif (inB (3 : Int) (ByteArray.size s)) then
 let z3 : Int := (IntKind.i64.wrap ((IntKind.i64.wrap (nd1' s (Int.toNat (3 : Int)))) - (2 : Int)))
 bif (inB (4 : Int) (ByteArray.size s)) then
 let z4 : Int := (IntKind.i64.wrap (nd1' s (Int.toNat (4 : Int))))
 (nhp' p0 p1 p2 p3 p4 p5 p6 p7 z0 z1 z2 z3 z4).bind fun y3 =>
 bif (!y3.1.1) then
 some (((), (9 : Int), ()), (((0 : Int), (0 : Int), (0 : Int), (0 : Int), (0 : Int), ()), ()))
 else
 some (((), (0 : Int), ()), ((z0, z1, z2, z3, z4, ()), ()))
 else
 none
 else
 none
 else
 none
 else
 none
 else
 none
 else
 none
 else
 none
noncomputable def npp' (p0 p1 p2 p3 : Int) (p4 p5 p6 : Nat) (p7 : List (Car)) (p8 p9 p10 p11 p12 : Int) : Option ((ByteArray × Int × Unit) × Unit) :=
 (nhp' p0 p1 p2 p3 p4 p5 p6 p7 p8 p9 p10 p11 p12).bind fun y1 =>
 bif (!y1.1.1) then
 some (((ByteArray.mk (Array.mk [])), (1 : Int), ()), ())
 else
 let z0 : ByteArray := (textU [(IntKind.u8.wrap p8), (IntKind.u8.wrap p9), (IntKind.u8.wrap p10), (IntKind.u8.wrap (IntKind.i64.wrap (p11 + (2 : Int)))), (IntKind.u8.wrap p12)])
 (nod' z0).bind fun y2 =>
 let z1 : ByteArray := (textU [y2.1.1])
 bif (Nat.ble ((ByteArray.size z0) + (ByteArray.size z1)) 4611686018427387904) then
 some (((z0 ++ z1), (0 : Int), ()), ())
 else
 none
noncomputable def nv9' (s : ByteArray) (out : List (Record)) (n p0 p1 p2 p3 : Int) (p4 p5 p6 : Nat) (p7 : List (Car)) : Option (Sum (T'9 × (T'0 × Unit)) (T'8 × Unit)) :=
 bif (decide ((IntKind.i64.wrap (n + (6 : Int))) ≤ ((ByteArray.size s : Nat) : Int))) then
 let z0 : Int := (IntKind.i64.wrap (n + (6 : Int)))
 bif ((decide ((0 : Int) ≤ z0)) && (decide (z0 ≤ (((ByteArray.size s) : Nat) : Int)))) then
 bif ((decide ((0 : Int) ≤ n)) && (decide (n ≤ (((Int.toNat z0) : Nat) : Int)))) then
 (npn' p0 p1 p2 p3 p4 p5 p6 p7 (ByteArray.extract s (Int.toNat n) (Int.toNat z0))).bind fun y1 =>
 bif (y1.1.2.1 != (0 : Int)) then
 some (Sum.inr ((out, n, ()), ()))
 else
 let z1 : List (Record) := [(Record.mk y1.2.1.1 y1.2.1.2.1 y1.2.1.2.2.1 y1.2.1.2.2.2.1 y1.2.1.2.2.2.2.1)]
 bif (Nat.ble ((List.length out) + (List.length z1)) 2147483648) then
 some (Sum.inl ((s, (), (out ++ z1), (IntKind.i64.wrap (n + (6 : Int))), ()), ((p0, p1, p2, p3, p4, p5, p6, p7, ()), ())))
 else
 none
 else
 none
 else
 none
 else
 some (Sum.inr ((out, n, ()), ()))
noncomputable def nmi' : (T'9 × (T'0 × Unit)) → Option (T'8 × Unit) := iter (fun x => nv9' x.1.1 x.1.2.2.1 x.1.2.2.2.1 x.2.1.1 x.2.1.2.1 x.2.1.2.2.1 x.2.1.2.2.2.1 x.2.1.2.2.2.2.1 x.2.1.2.2.2.2.2.1 x.2.1.2.2.2.2.2.2.1 x.2.1.2.2.2.2.2.2.2.1) fuel
noncomputable def ns6' (p0 p1 p2 p3 : Int) (p4 p5 p6 : Nat) (p7 : List (Car)) (s : ByteArray) : Option (T'8 × Unit) :=
 (nmi' ((s, (), ([] : List (Record)), (0 : Int), ()), ((p0, p1, p2, p3, p4, p5, p6, p7, ()), ()))).bind fun y1 =>
 some ((y1.1.1, y1.1.2.1, ()), ())
noncomputable def nvw' (l : List (Record)) (s : ByteArray) (i p0 p1 p2 p3 : Int) (p4 p5 p6 : Nat) (p7 : List (Car)) : Option (Sum (T'75 × (T'0 × Unit)) ((ByteArray × Unit) × Unit)) :=
 bif (decide (i < ((List.length l : Nat) : Int))) then
 bif (inB i (List.length l)) then
 let z0 : Record := (List.getD l (Int.toNat i) (Record.mk (0 : Int) (0 : Int) (0 : Int) (0 : Int) (0 : Int)))
 (npp' p0 p1 p2 p3 p4 p5 p6 p7 z0.Kind z0.Floor z0.Dir z0.Car z0.Value).bind fun y1 =>
 bif (Nat.ble ((ByteArray.size s) + (ByteArray.size y1.1.1)) 4611686018427387904) then
 some (Sum.inl ((l, (), (s ++ y1.1.1), (IntKind.i64.wrap (i + (1 : Int))), ()), ((p0, p1, p2, p3, p4, p5, p6, p7, ()), ())))
 else
 none
 else
 none
 else
 some (Sum.inr ((s, ()), ()))
noncomputable def nls' : (T'75 × (T'0 × Unit)) → Option ((ByteArray × Unit) × Unit) := iter (fun x => nvw' x.1.1 x.1.2.2.1 x.1.2.2.2.1 x.2.1.1 x.2.1.2.1 x.2.1.2.2.1 x.2.1.2.2.2.1 x.2.1.2.2.2.2.1 x.2.1.2.2.2.2.2.1 x.2.1.2.2.2.2.2.2.1 x.2.1.2.2.2.2.2.2.2.1) fuel
noncomputable def nq2' (p0 p1 p2 p3 : Int) (p4 p5 p6 : Nat) (p7 : List (Car)) (l : List (Record)) : Option ((ByteArray × Unit) × Unit) :=
 (nls' ((l, (), (ByteArray.mk (Array.mk [])), (0 : Int), ()), ((p0, p1, p2, p3, p4, p5, p6, p7, ()), ()))).bind fun y1 =>
 some ((y1.1.1, ()), ())
noncomputable def nry' (p0 p1 p2 p3 : Int) (p4 p5 p6 : Nat) (p7 : List (Car)) (p8 p9 : ByteArray) (p10 p11 : Int) : Option ((Bool × Unit) × Unit) :=
 Option.bind ((nc2' p0 p1 p2 p3 p4 p5 p6 p7).bind fun y1 =>
 bif (y1.1.1 == (0 : Int)) then
 (nep' p2 p8 p9 p10).bind fun y2 =>
 bif y2.1.1 then
 some (((decide ((0 : Int) ≤ p11)), ()), ())
 else
 some ((false, ()), ())
 else
 some ((false, ()), ())) fun y3 =>
 some ((y3.1.1, ()), ())
noncomputable def nm7' (b : Bool) : Option ((Int × Unit) × Unit) :=
 bif b then
 some (((1 : Int), ()), ())
 else
 some (((0 : Int), ()), ())
noncomputable def nrh' (out : List (Record)) (i : Int) (p0 : List (Int)) (p1 p2 : List (Bool)) (p3 : List (Entry)) : Option (Sum (T'76 × (T'4 × Unit)) ((List (Record) × Unit) × Unit)) :=
 bif (decide (i < ((List.length p3 : Nat) : Int))) then
 bif (inB i (List.length p3)) then
 let z0 : Entry := (List.getD p3 (Int.toNat i) (Entry.mk (0 : Int) (0 : Int) (0 : Int) (0 : Int) false))
 (nm7' z0.Moved).bind fun y1 =>
 let z1 : List (Record) := [(Record.mk (1 : Int) z0.Floor z0.Dir (0 : Int) (0 : Int)), (Record.mk (3 : Int) z0.Floor z0.Dir z0.Car (0 : Int)), (Record.mk (7 : Int) z0.Floor z0.Dir y1.1.1 z0.Moves)]
 bif (Nat.ble ((List.length out) + (List.length z1)) 2147483648) then
 some (Sum.inl (((), (out ++ z1), (IntKind.i64.wrap (i + (1 : Int))), ()), ((p0, p1, p2, p3, ()), ())))
 else
 none
 else
 none
 else
 some (Sum.inr ((out, ()), ()))
noncomputable def njm' : (T'76 × (T'4 × Unit)) → Option ((List (Record) × Unit) × Unit) := iter (fun x => nrh' x.1.2.1 x.1.2.2.1 x.2.1.1 x.2.1.2.1 x.2.1.2.2.1 x.2.1.2.2.2.1) fuel
noncomputable def nrs' (out : List (Record)) (i : Int) (p0 : List (Int)) (p1 p2 : List (Bool)) (p3 : List (Entry)) : Option (Sum (T'76 × (T'4 × Unit)) (T'77 × (T'4 × Unit))) :=
 bif (decide (i < ((List.length p0 : Nat) : Int))) then
 bif (inB i (List.length p0)) then
 bif (inB i (List.length p1)) then
 (nm7' (List.getD p1 (Int.toNat i) false)).bind fun y1 =>
 bif (inB i (List.length p2)) then
 (nm7' (List.getD p2 (Int.toNat i) false)).bind fun y2 =>
 let z0 : List (Record) := [(Record.mk (4 : Int) (0 : Int) (0 : Int) i (List.getD p0 (Int.toNat i) (0 : Int))), (Record.mk (5 : Int) (0 : Int) (0 : Int) i y1.1.1), (Record.mk (6 : Int) (0 : Int) (0 : Int) i y2.1.1)]
 bif (Nat.ble ((List.length out) + (List.length z0)) 2147483648) then
 some (Sum.inl (((), (out ++ z0), (IntKind.i64.wrap (i + (1 : Int))), ()), ((p0, p1, p2, p3, ()), ())))
 else
 none
 else
 none
 else
 none
 else
 none
 else
 some (Sum.inr (((), out, ()), ((p0, p1, p2, p3, ()), ())))
noncomputable def njp' : (T'76 × (T'4 × Unit)) → Option (T'77 × (T'4 × Unit)) := iter (fun x => nrs' x.1.2.1 x.1.2.2.1 x.2.1.1 x.2.1.2.1 x.2.1.2.2.1 x.2.1.2.2.2.1) fuel
noncomputable def nn3' (p0 p1 p2 p3 : Int) (p4 p5 p6 : Nat) (p7 : List (Car)) (p8 : List (Int)) (p9 p10 : List (Bool)) (p11 : List (Entry)) : Option ((List (Record) × Unit) × Unit) :=
 (neq' p0 p1 p2 p3 p4 p5 p6 p7 p8 p9 p10 p11).bind fun y1 =>
 bif (!y1.1.1) then
 some ((([] : List (Record)), ()), ())
 else
 (njp' (((), ([] : List (Record)), (0 : Int), ()), ((p8, p9, p10, p11, ()), ()))).bind fun y2 =>
 (njm' (((), y2.1.2.1, (0 : Int), ()), (y2.2.1, ()))).bind fun y3 =>
 some ((y3.1.1, ()), ())
noncomputable def noy' (p0 p1 p2 p3 : Int) (p4 p5 p6 : Nat) (p7 : List (Car)) (p8 p9 : ByteArray) (p10 : Int) (p11 : List (Int)) (p12 p13 : List (Bool)) (p14 : List (Entry)) (p15 : Int) : Option ((Unit × Int × Int × Unit) × (T'24 × Unit)) :=
 (nry' p0 p1 p2 p3 p4 p5 p6 p7 p8 p9 p10 p15).bind fun y1 =>
 bif (!y1.1.1) then
 some (((), (0 : Int), (1 : Int), ()), (((ByteArray.mk (Array.mk [])), (ByteArray.mk (Array.mk [])), (0 : Int), ()), ()))
 else
 (neq' p0 p1 p2 p3 p4 p5 p6 p7 p11 p12 p13 p14).bind fun y2 =>
 bif (!y2.1.1) then
 some (((), (0 : Int), (1 : Int), ()), (((ByteArray.mk (Array.mk [])), (ByteArray.mk (Array.mk [])), (0 : Int), ()), ()))
 else
 let z0 : Int := (IntKind.i64.wrap ((1 : Int) - p10))
 (nqy' p2 p8 p9 p10 z0 p15).bind fun y3 =>
 bif (y3.1.2.2.1 != (0 : Int)) then
 some (((), (0 : Int), y3.1.2.2.1, ()), (y3.2.1, ()))
 else
 (nn3' p0 p1 p2 p3 p4 p5 p6 p7 p11 p12 p13 p14).bind fun y4 =>
 (nq2' p0 p1 p2 p3 p4 p5 p6 p7 y4.1.1).bind fun y5 =>
 (nqx' p2 y3.2.1.1 y3.2.1.2.1 y3.2.1.2.2.1 z0 y5.1.1 y3.1.2.1).bind fun y6 =>
 bif (y6.1.2.2.1 != (0 : Int)) then
 some (((), (0 : Int), y6.1.2.2.1, ()), (y6.2.1, ()))
 else
 (npb' p2 y6.2.1.1 y6.2.1.2.1 y6.2.1.2.2.1 z0 y6.1.2.1).bind fun y7 =>
 some (((), y7.1.2.1, y7.1.2.2.1, ()), (y7.2.1, ()))
noncomputable def nue' (l : List (Record)) (i p0 p1 p2 p3 : Int) (p4 p5 p6 : Nat) (p7 : List (Car)) (p8 : List (Int)) (p9 p10 : List (Bool)) (p11 : List (Entry)) (p12 : List (Int)) (p13 p14 : List (Bool)) (p15 : List (Entry)) : Option (Sum (T'53 × (T'0 × T'4 × T'4 × Unit)) ((Unit × Unit × Unit) × (T'4 × T'4 × Unit))) :=
 bif (decide (i < ((List.length l : Nat) : Int))) then
 bif (inB i (List.length l)) then
 let z0 : Record := (List.getD l (Int.toNat i) (Record.mk (0 : Int) (0 : Int) (0 : Int) (0 : Int) (0 : Int)))
 (niv' p0 p1 p2 p3 p4 p5 p6 p7 p12 p13 p14 p15 z0.Kind z0.Floor z0.Dir z0.Car z0.Value).bind fun y1 =>
 some (Sum.inl (((), (), (), l, (IntKind.i64.wrap (i + (1 : Int))), ()), ((p0, p1, p2, p3, p4, p5, p6, p7, ()), (p8, p9, p10, p11, ()), y1.2.1, ())))
 else
 none
 else
 some (Sum.inr (((), (), ()), ((p8, p9, p10, p11, ()), (p12, p13, p14, p15, ()), ())))
noncomputable def nkr' : (T'53 × (T'0 × T'4 × T'4 × Unit)) → Option ((Unit × Unit × Unit) × (T'4 × T'4 × Unit)) := iter (fun x => nue' x.1.2.2.2.1 x.1.2.2.2.2.1 x.2.1.1 x.2.1.2.1 x.2.1.2.2.1 x.2.1.2.2.2.1 x.2.1.2.2.2.2.1 x.2.1.2.2.2.2.2.1 x.2.1.2.2.2.2.2.2.1 x.2.1.2.2.2.2.2.2.2.1 x.2.2.1.1 x.2.2.1.2.1 x.2.2.1.2.2.1 x.2.2.1.2.2.2.1 x.2.2.2.1.1 x.2.2.2.1.2.1 x.2.2.2.1.2.2.1 x.2.2.2.1.2.2.2.1) fuel
noncomputable def npj' (p0 p1 p2 p3 : Int) (p4 p5 p6 : Nat) (p7 : List (Car)) (p8 p9 : ByteArray) (p10 : Int) : Option ((Unit × Unit) × (T'4 × Unit)) :=
 (nha' p0 p1 p2 p3 p4 p5 p6 p7).bind fun y1 =>
 (no1' p8 p9 p10).bind fun y2 =>
 (ns6' p0 p1 p2 p3 p4 p5 p6 p7 y2.1.1).bind fun y3 =>
 (nkr' (((), (), (), y3.1.1, (0 : Int), ()), ((p0, p1, p2, p3, p4, p5, p6, p7, ()), (([] : List (Int)), ([] : List (Bool)), ([] : List (Bool)), ([] : List (Entry)), ()), y1.2.1, ()))).bind fun y4 =>
 some (((), ()), (y4.2.2.1, ()))
noncomputable def noz' (p0 p1 p2 p3 : Int) (p4 p5 p6 : Nat) (p7 : List (Car)) (p8 p9 : ByteArray) (p10 p11 : Int) : Option (T'19 × (T'24 × T'4 × Unit)) :=
 (nry' p0 p1 p2 p3 p4 p5 p6 p7 p8 p9 p10 p11).bind fun y1 =>
 bif (!y1.1.1) then
 some (((), (), (0 : Int), (1 : Int), ()), (((ByteArray.mk (Array.mk [])), (ByteArray.mk (Array.mk [])), (0 : Int), ()), (([] : List (Int)), ([] : List (Bool)), ([] : List (Bool)), ([] : List (Entry)), ()), ()))
 else
 (npj' p0 p1 p2 p3 p4 p5 p6 p7 p8 p9 p10).bind fun y2 =>
 (noy' p0 p1 p2 p3 p4 p5 p6 p7 p8 p9 p10 y2.2.1.1 y2.2.1.2.1 y2.2.1.2.2.1 y2.2.1.2.2.2.1 p11).bind fun y3 =>
 bif (y3.1.2.2.1 != (0 : Int)) then
 some (((), (), (0 : Int), y3.1.2.2.1, ()), (y3.2.1, (([] : List (Int)), ([] : List (Bool)), ([] : List (Bool)), ([] : List (Entry)), ()), ()))
 else
 some (((), (), y3.1.2.1, (0 : Int), ()), (y3.2.1, y2.2.1, ()))
noncomputable def nsc' (p0 p1 p2 p3 : Int) (p4 p5 p6 : Nat) (p7 : List (Car)) (p8 p9 : ByteArray) (p10 p11 : Int) : Option ((Unit × Int × Int × Unit) × (T'30 × Unit)) :=
 (noz' p0 p1 p2 p3 p4 p5 p6 p7 p8 p9 p10 p11).bind fun y1 =>
 bif (y1.1.2.2.2.1 != (0 : Int)) then
 some (((), (0 : Int), y1.1.2.2.2.1, ()), ((([] : List (Int)), ([] : List (Bool)), ([] : List (Bool)), ([] : List (Entry)), y1.2.1.1, y1.2.1.2.1, y1.2.1.2.2.1, ([] : List (Debounced)), ([] : List (Belief)), ([] : List (NewCar)), ([] : List (Loaded)), ([] : List (Int)), ([] : List (Calls)), (0 : Int), (0 : Int), (0 : Int), ()), ()))
 else
 Option.bind (some (((), (), (), (), y1.1.2.2.1, ()), ((p0, p1, p2, p3, p4, p5, p6, p7, ()), (([] : List (Int)), ([] : List (Bool)), ([] : List (Bool)), ([] : List (Entry)), (ByteArray.mk (Array.mk [])), (ByteArray.mk (Array.mk [])), (0 : Int), ([] : List (Debounced)), ([] : List (Belief)), ([] : List (NewCar)), ([] : List (Loaded)), ([] : List (Int)), ([] : List (Calls)), (0 : Int), (0 : Int), (0 : Int), ()), y1.2.1, y1.2.2.1, ()))) fun y2 =>
 (nf3' y2.2.1.1 y2.2.1.2.1 y2.2.1.2.2.1 y2.2.1.2.2.2.1 y2.2.1.2.2.2.2.1 y2.2.1.2.2.2.2.2.1 y2.2.1.2.2.2.2.2.2.1 y2.2.1.2.2.2.2.2.2.2.1 y2.2.2.2.2.1.1 y2.2.2.2.2.1.2.1 y2.2.2.2.2.1.2.2.1 y2.2.2.2.2.1.2.2.2.1 y2.2.2.2.1.1 y2.2.2.2.1.2.1 y2.2.2.2.1.2.2.1).bind fun y3 =>
 bif (y3.1.2.1 != (0 : Int)) then
 some (((), (0 : Int), y3.1.2.1, ()), ((([] : List (Int)), ([] : List (Bool)), ([] : List (Bool)), ([] : List (Entry)), (ByteArray.mk (Array.mk [])), (ByteArray.mk (Array.mk [])), (0 : Int), ([] : List (Debounced)), ([] : List (Belief)), ([] : List (NewCar)), ([] : List (Loaded)), ([] : List (Int)), ([] : List (Calls)), (0 : Int), (0 : Int), (0 : Int), ()), ()))
 else
 some (((), y2.1.2.2.2.2.1, (0 : Int), ()), (y3.2.1, ()))
noncomputable def nyb' (p0 p1 p2 p3 : Int) (p4 p5 p6 : Nat) (p7 : List (Car)) : Option ((Unit × Int × Unit) × (T'30 × Unit)) :=
 (nsc' p0 p1 p2 p3 p4 p5 p6 p7 (ByteArray.mk (Array.mk [])) (ByteArray.mk (Array.mk [])) (0 : Int) (1048576 : Int)).bind fun y1 =>
 some (((), y1.1.2.2.1, ()), (y1.2.1, ()))
end Go.Ovl
