/- What each function of the program comes to: part 2. -/
import Derived.Test.YthdomhdippmaiaaDefs1
namespace Go.Ovl
open Go Go.Ab
set_option maxRecDepth 100000
noncomputable def ndy' (s1 s2 : List (Debounced)) (s12 s13 : Int) : Option (Sum (T'68 × Unit) ((Unit × Unit) ⊕ ((Bool × Unit) × Unit))) :=
 bif (decide (s13 < s12)) then
 bif (inB s13 (List.length s1)) then
 let z0 : Debounced := (List.getD s1 (Int.toNat s13) (Debounced.mk (0 : Int) false false false false (0 : Int) (0 : Int) (0 : Int) (0 : Int) (0 : Int) (0 : Int) (0 : Int) (0 : Int) (0 : Int) (0 : Int) (0 : Int) (0 : Int) (0 : Int) (0 : Int) (0 : Int) (0 : Int) (0 : Int) (0 : Int) (0 : Int) (0 : Int) (0 : Int) (0 : Int) (0 : Int) (0 : Int) (0 : Int) (0 : Int) (0 : Int) (0 : Int) (0 : Int) (0 : Int) (0 : Int) (0 : Int) (0 : Int) (0 : Int) (0 : Int) (0 : Int)))
 bif (inB s13 (List.length s2)) then
 let z1 : Debounced := (List.getD s2 (Int.toNat s13) (Debounced.mk (0 : Int) false false false false (0 : Int) (0 : Int) (0 : Int) (0 : Int) (0 : Int) (0 : Int) (0 : Int) (0 : Int) (0 : Int) (0 : Int) (0 : Int) (0 : Int) (0 : Int) (0 : Int) (0 : Int) (0 : Int) (0 : Int) (0 : Int) (0 : Int) (0 : Int) (0 : Int) (0 : Int) (0 : Int) (0 : Int) (0 : Int) (0 : Int) (0 : Int) (0 : Int) (0 : Int) (0 : Int) (0 : Int) (0 : Int) (0 : Int) (0 : Int) (0 : Int) (0 : Int)))
 bif (!((z0.Contacts_Floors == z1.Contacts_Floors) && ((z0.Contacts_Up == z1.Contacts_Up) && ((z0.Contacts_Down == z1.Contacts_Down) && ((z0.Contacts_Open == z1.Contacts_Open) && ((z0.Contacts_Closed == z1.Contacts_Closed) && ((z0.Count_0 == z1.Count_0) && ((z0.Count_1 == z1.Count_1) && ((z0.Count_2 == z1.Count_2) && ((z0.Count_3 == z1.Count_3) && ((z0.Count_4 == z1.Count_4) && ((z0.Count_5 == z1.Count_5) && ((z0.Count_6 == z1.Count_6) && ((z0.Count_7 == z1.Count_7) && ((z0.Count_8 == z1.Count_8) && ((z0.Count_9 == z1.Count_9) && ((z0.Count_10 == z1.Count_10) && ((z0.Count_11 == z1.Count_11) && ((z0.Count_12 == z1.Count_12) && ((z0.Count_13 == z1.Count_13) && ((z0.Count_14 == z1.Count_14) && ((z0.Count_15 == z1.Count_15) && ((z0.Count_16 == z1.Count_16) && ((z0.Count_17 == z1.Count_17) && ((z0.Count_18 == z1.Count_18) && ((z0.Count_19 == z1.Count_19) && ((z0.Count_20 == z1.Count_20) && ((z0.Count_21 == z1.Count_21) && ((z0.Count_22 == z1.Count_22) && ((z0.Count_23 == z1.Count_23) && ((z0.Count_24 == z1.Count_24) && ((z0.Count_25 == z1.Count_25) && ((z0.Count_26 == z1.Count_26) && ((z0.Count_27 == z1.Count_27) && ((z0.Count_28 == z1.Count_28) && ((z0.Count_29 == z1.Count_29) && ((z0.Count_30 == z1.Count_30) && ((z0.Count_31 == z1.Count_31) && ((z0.Count_32 == z1.Count_32) && ((z0.Count_33 == z1.Count_33) && ((z0.Count_34 == z1.Count_34) && ((z0.Count_35 == z1.Count_35) && true)))))))))))))))))))))))))))))))))))))))))) then
 some (Sum.inr (Sum.inr ((false, ()), ())))
 else
 some (Sum.inl ((s1, s2, s12, (IntKind.i64.wrap (s13 + (1 : Int))), ()), ()))
 else
 none
 else
 none
 else
 some (Sum.inr (Sum.inl ((), ())))
noncomputable def nbh' : (T'68 × Unit) → Option ((Unit × Unit) ⊕ ((Bool × Unit) × Unit)) := iter (fun x => ndy' x.1.1 x.1.2.1 x.1.2.2.1 x.1.2.2.2.1) fuel
noncomputable def nb7' (s1 s2 : List (Debounced)) : Option ((Bool × Unit) × Unit) :=
 bif (((List.length s1 : Nat) : Int) != ((List.length s2 : Nat) : Int)) then
 some ((false, ()), ())
 else
 (nbh' ((s1, s2, ((List.length s1 : Nat) : Int), (0 : Int), ()), ())).bind fun y1 =>
 (match y1 with
 | .inl y2 =>
 some ((true, ()), ())
 | .inr y2 =>
 some ((y2.1.1, ()), ()))
noncomputable def nbm' (s2 s15 : List (Belief)) (s16 s17 : Int) : Option (Sum (T'69 × Unit) ((Unit × Unit) ⊕ ((Bool × Unit) × Unit))) :=
 bif (decide (s17 < s16)) then
 bif (inB s17 (List.length s15)) then
 let z0 : Belief := (List.getD s15 (Int.toNat s17) (Belief.mk (0 : Int) (0 : Int) (0 : Int) [] (0 : Int) false))
 bif (inB s17 (List.length s2)) then
 let z1 : Belief := (List.getD s2 (Int.toNat s17) (Belief.mk (0 : Int) (0 : Int) (0 : Int) [] (0 : Int) false))
 (nn0' z0.Floor z0.Dir z0.Door z0.Duties z0.Still z0.Late z1.Floor z1.Dir z1.Door z1.Duties z1.Still z1.Late).bind fun y1 =>
 bif (!y1.1.1) then
 some (Sum.inr (Sum.inr ((false, ()), ())))
 else
 some (Sum.inl ((s2, (), s15, s16, (IntKind.i64.wrap (s17 + (1 : Int))), ()), ()))
 else
 none
 else
 none
 else
 some (Sum.inr (Sum.inl ((), ())))
noncomputable def np' : (T'69 × Unit) → Option ((Unit × Unit) ⊕ ((Bool × Unit) × Unit)) := iter (fun x => nbm' x.1.1 x.1.2.2.1 x.1.2.2.2.1 x.1.2.2.2.2.1) fuel
noncomputable def n0' (s1 s2 : List (Belief)) : Option ((Bool × Unit) × Unit) :=
 bif (((List.length s1 : Nat) : Int) != ((List.length s2 : Nat) : Int)) then
 some ((false, ()), ())
 else
 (np' ((s2, (), s1, ((List.length s1 : Nat) : Int), (0 : Int), ()), ())).bind fun y1 =>
 (match y1 with
 | .inl y2 =>
 some ((true, ()), ())
 | .inr y2 =>
 some ((y2.1.1, ()), ()))
noncomputable def ne6' (s1 s2 : List (NewCar)) (s12 s13 : Int) : Option (Sum (T'70 × Unit) ((Unit × Unit) ⊕ ((Bool × Unit) × Unit))) :=
 bif (decide (s13 < s12)) then
 bif (inB s13 (List.length s1)) then
 let z0 : NewCar := (List.getD s1 (Int.toNat s13) (NewCar.mk (0 : Int) (0 : Int) (0 : Int) (0 : Int) (0 : Int) false (0 : Int) (0 : Int) (0 : Int) (0 : Int) (0 : Int) (0 : Int) (0 : Int) false))
 bif (inB s13 (List.length s2)) then
 let z1 : NewCar := (List.getD s2 (Int.toNat s13) (NewCar.mk (0 : Int) (0 : Int) (0 : Int) (0 : Int) (0 : Int) false (0 : Int) (0 : Int) (0 : Int) (0 : Int) (0 : Int) (0 : Int) (0 : Int) false))
 bif (!((z0.Sweep_Dir == z1.Sweep_Dir) && ((z0.Sweep_Opened == z1.Sweep_Opened) && ((z0.Door_Stage == z1.Door_Stage) && ((z0.Door_Time == z1.Door_Time) && ((z0.Door_Since == z1.Door_Since) && ((z0.Door_Nudge == z1.Door_Nudge) && ((z0.Door_Cycles == z1.Door_Cycles) && ((z0.Motion_Command == z1.Motion_Command) && ((z0.Motion_Time == z1.Motion_Time) && ((z0.Motion_Floor == z1.Motion_Floor) && ((z0.Calls == z1.Calls) && ((z0.Shown == z1.Shown) && ((z0.Idle == z1.Idle) && ((z0.Fault == z1.Fault) && true))))))))))))))) then
 some (Sum.inr (Sum.inr ((false, ()), ())))
 else
 some (Sum.inl ((s1, s2, s12, (IntKind.i64.wrap (s13 + (1 : Int))), ()), ()))
 else
 none
 else
 none
 else
 some (Sum.inr (Sum.inl ((), ())))
noncomputable def nbn' : (T'70 × Unit) → Option ((Unit × Unit) ⊕ ((Bool × Unit) × Unit)) := iter (fun x => ne6' x.1.1 x.1.2.1 x.1.2.2.1 x.1.2.2.2.1) fuel
noncomputable def nco' (s1 s2 : List (NewCar)) : Option ((Bool × Unit) × Unit) :=
 bif (((List.length s1 : Nat) : Int) != ((List.length s2 : Nat) : Int)) then
 some ((false, ()), ())
 else
 (nbn' ((s1, s2, ((List.length s1 : Nat) : Int), (0 : Int), ()), ())).bind fun y1 =>
 (match y1 with
 | .inl y2 =>
 some ((true, ()), ())
 | .inr y2 =>
 some ((y2.1.1, ()), ()))
noncomputable def ne5' (s1 s2 : List (Loaded)) (s12 s13 : Int) : Option (Sum (T'71 × Unit) ((Unit × Unit) ⊕ ((Bool × Unit) × Unit))) :=
 bif (decide (s13 < s12)) then
 bif (inB s13 (List.length s1)) then
 bif (inB s13 (List.length s2)) then
 bif (!(((List.getD s1 (Int.toNat s13) (Loaded.mk (0 : Int))).Class == (List.getD s2 (Int.toNat s13) (Loaded.mk (0 : Int))).Class) && true)) then
 some (Sum.inr (Sum.inr ((false, ()), ())))
 else
 some (Sum.inl ((s1, s2, s12, (IntKind.i64.wrap (s13 + (1 : Int))), ()), ()))
 else
 none
 else
 none
 else
 some (Sum.inr (Sum.inl ((), ())))
noncomputable def nbo' : (T'71 × Unit) → Option ((Unit × Unit) ⊕ ((Bool × Unit) × Unit)) := iter (fun x => ne5' x.1.1 x.1.2.1 x.1.2.2.1 x.1.2.2.2.1) fuel
noncomputable def ncp' (s1 s2 : List (Loaded)) : Option ((Bool × Unit) × Unit) :=
 bif (((List.length s1 : Nat) : Int) != ((List.length s2 : Nat) : Int)) then
 some ((false, ()), ())
 else
 (nbo' ((s1, s2, ((List.length s1 : Nat) : Int), (0 : Int), ()), ())).bind fun y1 =>
 (match y1 with
 | .inl y2 =>
 some ((true, ()), ())
 | .inr y2 =>
 some ((y2.1.1, ()), ()))
noncomputable def nfv' (s1 s2 : List (Calls)) (s12 s13 : Int) : Option (Sum (T'72 × Unit) ((Unit × Unit) ⊕ ((Bool × Unit) × Unit))) :=
 bif (decide (s13 < s12)) then
 bif (inB s13 (List.length s1)) then
 let z0 : Calls := (List.getD s1 (Int.toNat s13) (Calls.mk (0 : Int) (0 : Int)))
 bif (inB s13 (List.length s2)) then
 let z1 : Calls := (List.getD s2 (Int.toNat s13) (Calls.mk (0 : Int) (0 : Int)))
 bif (!((z0.Up == z1.Up) && ((z0.Down == z1.Down) && true))) then
 some (Sum.inr (Sum.inr ((false, ()), ())))
 else
 some (Sum.inl ((s1, s2, s12, (IntKind.i64.wrap (s13 + (1 : Int))), ()), ()))
 else
 none
 else
 none
 else
 some (Sum.inr (Sum.inl ((), ())))
noncomputable def nbt' : (T'72 × Unit) → Option ((Unit × Unit) ⊕ ((Bool × Unit) × Unit)) := iter (fun x => nfv' x.1.1 x.1.2.1 x.1.2.2.1 x.1.2.2.2.1) fuel
noncomputable def nc3' (s1 s2 : List (Calls)) : Option ((Bool × Unit) × Unit) :=
 bif (((List.length s1 : Nat) : Int) != ((List.length s2 : Nat) : Int)) then
 some ((false, ()), ())
 else
 (nbt' ((s1, s2, ((List.length s1 : Nat) : Int), (0 : Int), ()), ())).bind fun y1 =>
 (match y1 with
 | .inl y2 =>
 some ((true, ()), ())
 | .inr y2 =>
 some ((y2.1.1, ()), ()))
noncomputable def njd' (p0 : List (Int)) (p1 p2 : List (Bool)) (p3 : List (Entry)) (p4 p5 : ByteArray) (p6 : Int) (p7 : List (Debounced)) (p8 : List (Belief)) (p9 : List (NewCar)) (p10 : List (Loaded)) (p11 : List (Int)) (p12 : List (Calls)) (p13 p14 p15 : Int) (p16 : List (Int)) (p17 p18 : List (Bool)) (p19 : List (Entry)) (p20 p21 : ByteArray) (p22 : Int) (p23 : List (Debounced)) (p24 : List (Belief)) (p25 : List (NewCar)) (p26 : List (Loaded)) (p27 : List (Int)) (p28 : List (Calls)) (p29 p30 p31 : Int) : Option ((Bool × Unit) × Unit) :=
 Option.bind ((nb7' p7 p23).bind fun y1 =>
 bif y1.1.1 then
 (n0' p8 p24).bind fun y2 =>
 bif y2.1.1 then
 (nco' p9 p25).bind fun y3 =>
 bif y3.1.1 then
 (ncp' p10 p26).bind fun y4 =>
 bif y4.1.1 then
 (nc3' p12 p28).bind fun y5 =>
 some (((), (), y5.1.1, ()), ((p0, p1, p2, p3, p4, p5, p6, p7, p8, p9, p10, p11, p12, p13, p14, p15, ()), (p16, p17, p18, p19, p20, p21, p22, p23, p24, p25, p26, p27, p28, p29, p30, p31, ()), ()))
 else
 some (((), (), false, ()), ((p0, p1, p2, p3, p4, p5, p6, p7, p8, p9, p10, p11, p12, p13, p14, p15, ()), (p16, p17, p18, p19, p20, p21, p22, p23, p24, p25, p26, p27, p28, p29, p30, p31, ()), ()))
 else
 some (((), (), false, ()), ((p0, p1, p2, p3, p4, p5, p6, p7, p8, p9, p10, p11, p12, p13, p14, p15, ()), (p16, p17, p18, p19, p20, p21, p22, p23, p24, p25, p26, p27, p28, p29, p30, p31, ()), ()))
 else
 some (((), (), false, ()), ((p0, p1, p2, p3, p4, p5, p6, p7, p8, p9, p10, p11, p12, p13, p14, p15, ()), (p16, p17, p18, p19, p20, p21, p22, p23, p24, p25, p26, p27, p28, p29, p30, p31, ()), ()))
 else
 some (((), (), false, ()), ((p0, p1, p2, p3, p4, p5, p6, p7, p8, p9, p10, p11, p12, p13, p14, p15, ()), (p16, p17, p18, p19, p20, p21, p22, p23, p24, p25, p26, p27, p28, p29, p30, p31, ()), ()))) fun y6 =>
 Option.bind (bif y6.1.2.2.1 then
 (nec' y6.2.1.1 y6.2.1.2.1 y6.2.1.2.2.1 y6.2.1.2.2.2.1 y6.2.2.1.1 y6.2.2.1.2.1 y6.2.2.1.2.2.1 y6.2.2.1.2.2.2.1).bind fun y7 =>
 bif y7.1.1 then
 bif ((eqB y6.2.1.2.2.2.2.1 y6.2.2.1.2.2.2.2.1) && ((eqB y6.2.1.2.2.2.2.2.1 y6.2.2.1.2.2.2.2.2.1) && ((y6.2.1.2.2.2.2.2.2.1 == y6.2.2.1.2.2.2.2.2.2.1) && true))) then
 (nby' y6.2.1.2.2.2.2.2.2.2.2.2.2.2.1 y6.2.2.1.2.2.2.2.2.2.2.2.2.2.2.1).bind fun y8 =>
 bif y8.1.1 then
 bif (y6.2.1.2.2.2.2.2.2.2.2.2.2.2.2.2.1 == y6.2.2.1.2.2.2.2.2.2.2.2.2.2.2.2.2.1) then
 bif (y6.2.1.2.2.2.2.2.2.2.2.2.2.2.2.2.2.1 == y6.2.2.1.2.2.2.2.2.2.2.2.2.2.2.2.2.2.1) then
 some (((y6.2.1.2.2.2.2.2.2.2.2.2.2.2.2.2.2.2.1 == y6.2.2.1.2.2.2.2.2.2.2.2.2.2.2.2.2.2.2.1), ()), ())
 else
 some ((false, ()), ())
 else
 some ((false, ()), ())
 else
 some ((false, ()), ())
 else
 some ((false, ()), ())
 else
 some ((false, ()), ())
 else
 some ((false, ()), ())) fun y9 =>
 some ((y9.1.1, ()), ())
noncomputable def nys'  : Option ((Bool × Unit) × Unit) :=
 (nbb' (9 : Int) (90 : Int)).bind fun y1 =>
 Option.bind (some (((), ()), (y1.2.1, ()))) fun y2 =>
 (nim' y2.2.1.1 y2.2.1.2.1 y2.2.1.2.2.1 y2.2.1.2.2.2.1 y2.2.1.2.2.2.2.1 y2.2.1.2.2.2.2.2.1 y2.2.1.2.2.2.2.2.2.1 y2.2.1.2.2.2.2.2.2.2.1).bind fun y3 =>
 (nev' y2.2.1.1 y2.2.1.2.1 y2.2.1.2.2.1 y2.2.1.2.2.2.1 y2.2.1.2.2.2.2.1 y2.2.1.2.2.2.2.2.1 y2.2.1.2.2.2.2.2.2.1 y2.2.1.2.2.2.2.2.2.2.1 y3.2.1.2.2.2.2.1 y3.2.1.2.2.2.2.2.1 y3.2.1.2.2.2.2.2.2.1 (100 : Int)).bind fun y4 =>
 (nev' y2.2.1.1 y2.2.1.2.1 y2.2.1.2.2.1 y2.2.1.2.2.2.1 y2.2.1.2.2.2.2.1 y2.2.1.2.2.2.2.2.1 y2.2.1.2.2.2.2.2.2.1 y2.2.1.2.2.2.2.2.2.2.1 y3.2.1.2.2.2.2.1 y3.2.1.2.2.2.2.2.1 y3.2.1.2.2.2.2.2.2.1 (0 : Int)).bind fun y5 =>
 Option.bind (bif (y3.1.2.1 == (0 : Int)) then
 bif (((List.length y3.2.1.2.2.2.2.2.2.2.2.1 : Nat) : Int) == (2 : Int)) then
 bif (inB (1 : Int) (List.length y3.2.1.2.2.2.2.2.2.2.2.1)) then
 bif ((List.getD y3.2.1.2.2.2.2.2.2.2.2.1 (Int.toNat (1 : Int)) (Belief.mk (0 : Int) (0 : Int) (0 : Int) [] (0 : Int) false)).Floor == (-1 : Int)) then
 bif (((List.length y3.2.1.1 : Nat) : Int) == (2 : Int)) then
 bif (y4.1.2.2.1 == (0 : Int)) then
 bif (y4.1.2.1 == (62 : Int)) then
 (njd' y4.2.1.1 y4.2.1.2.1 y4.2.1.2.2.1 y4.2.1.2.2.2.1 y4.2.1.2.2.2.2.1 y4.2.1.2.2.2.2.2.1 y4.2.1.2.2.2.2.2.2.1 y4.2.1.2.2.2.2.2.2.2.1 y4.2.1.2.2.2.2.2.2.2.2.1 y4.2.1.2.2.2.2.2.2.2.2.2.1 y4.2.1.2.2.2.2.2.2.2.2.2.2.1 y4.2.1.2.2.2.2.2.2.2.2.2.2.2.1 y4.2.1.2.2.2.2.2.2.2.2.2.2.2.2.1 y4.2.1.2.2.2.2.2.2.2.2.2.2.2.2.2.1 y4.2.1.2.2.2.2.2.2.2.2.2.2.2.2.2.2.1 y4.2.1.2.2.2.2.2.2.2.2.2.2.2.2.2.2.2.1 y4.2.1.1 y4.2.1.2.1 y4.2.1.2.2.1 y4.2.1.2.2.2.1 y4.2.1.2.2.2.2.1 y4.2.1.2.2.2.2.2.1 y4.2.1.2.2.2.2.2.2.1 y4.2.1.2.2.2.2.2.2.2.1 y4.2.1.2.2.2.2.2.2.2.2.1 y4.2.1.2.2.2.2.2.2.2.2.2.1 y4.2.1.2.2.2.2.2.2.2.2.2.2.1 y4.2.1.2.2.2.2.2.2.2.2.2.2.2.1 y4.2.1.2.2.2.2.2.2.2.2.2.2.2.2.1 y4.2.1.2.2.2.2.2.2.2.2.2.2.2.2.2.1 y4.2.1.2.2.2.2.2.2.2.2.2.2.2.2.2.2.1 y4.2.1.2.2.2.2.2.2.2.2.2.2.2.2.2.2.2.1).bind fun y6 =>
 bif y6.1.1 then
 some (((y5.1.2.2.1 == (8 : Int)), ()), ())
 else
 some ((false, ()), ())
 else
 some ((false, ()), ())
 else
 some ((false, ()), ())
 else
 some ((false, ()), ())
 else
 some ((false, ()), ())
 else
 none
 else
 some ((false, ()), ())
 else
 some ((false, ()), ())) fun y7 =>
 some ((y7.1.1, ()), ())
noncomputable def nri' (p0 p1 p2 p3 : Int) (p4 p5 p6 : Nat) (p7 : List (Car)) (p8 : List (Int)) (p9 p10 : List (Bool)) (p11 : List (Entry)) : Option ((Bool × Unit) × Unit) :=
 Option.bind ((nce' p0 p1 p2 p3 p4 p5 p6 p7 p8 p9 p10 p11).bind fun y1 =>
 bif y1.1.1 then
 some (((decide ((IntKind.i64.wrap ((IntKind.i64.wrap ((18 : Int) * (IntKind.i64.wrap ((IntKind.i64.wrap (((List.length p7 : Nat) : Int) + ((List.length p11 : Nat) : Int))) + (1 : Int))))) + (6 : Int))) ≤ p2)), ()), ())
 else
 some ((false, ()), ())) fun y2 =>
 some ((y2.1.1, ()), ())
noncomputable def nu8' (p0 p1 p2 p3 : Int) (p4 p5 p6 : Nat) (p7 : List (Car)) (p8 p9 : ByteArray) (p10 : Int) (p11 : List (Int)) (p12 p13 : List (Bool)) (p14 : List (Entry)) (p15 p16 p17 p18 p19 p20 : Int) : Option (T'16 × (T'35 × T'14 × Unit)) :=
 (njf' p0 p1 p2 p3 p4 p5 p6 p7 p8 p9 p10 p20).bind fun y1 =>
 bif (!y1.1.1) then
 some (((), (), (0 : Int), (1 : Int), ()), (((ByteArray.mk (Array.mk [])), (ByteArray.mk (Array.mk [])), (0 : Int), ()), (([] : List (Int)), ([] : List (Bool)), ([] : List (Bool)), ([] : List (Entry)), ()), ()))
 else
 (nce' p0 p1 p2 p3 p4 p5 p6 p7 p11 p12 p13 p14).bind fun y2 =>
 bif (!y2.1.1) then
 some (((), (), (0 : Int), (1 : Int), ()), (((ByteArray.mk (Array.mk [])), (ByteArray.mk (Array.mk [])), (0 : Int), ()), (([] : List (Int)), ([] : List (Bool)), ([] : List (Bool)), ([] : List (Entry)), ()), ()))
 else
 (nek' p0 p1 p2 p3 p4 p5 p6 p7 p15 p16 p17 p18 p19).bind fun y3 =>
 bif (!y3.1.1) then
 some (((), (), (0 : Int), (1 : Int), ()), (((ByteArray.mk (Array.mk [])), (ByteArray.mk (Array.mk [])), (0 : Int), ()), (([] : List (Int)), ([] : List (Bool)), ([] : List (Bool)), ([] : List (Entry)), ()), ()))
 else
 Option.bind (bif (p15 == (1 : Int)) then
 (niu' p11 p12 p13 p14 p16 p17).bind fun y4 =>
 bif (decide (y4.1.1 < (0 : Int))) then
 (nri' p0 p1 p2 p3 p4 p5 p6 p7 p11 p12 p13 p14).bind fun y5 =>
 some ((p20, (), (), (), (), (), (), (!y5.1.1), ()), ((p0, p1, p2, p3, p4, p5, p6, p7, ()), (p8, p9, p10, ()), (p11, p12, p13, p14, ()), (p15, p16, p17, p18, p19, ()), ((ByteArray.mk (Array.mk [])), (ByteArray.mk (Array.mk [])), (0 : Int), ()), (([] : List (Int)), ([] : List (Bool)), ([] : List (Bool)), ([] : List (Entry)), ()), ()))
 else
 some ((p20, (), (), (), (), (), (), false, ()), ((p0, p1, p2, p3, p4, p5, p6, p7, ()), (p8, p9, p10, ()), (p11, p12, p13, p14, ()), (p15, p16, p17, p18, p19, ()), ((ByteArray.mk (Array.mk [])), (ByteArray.mk (Array.mk [])), (0 : Int), ()), (([] : List (Int)), ([] : List (Bool)), ([] : List (Bool)), ([] : List (Entry)), ()), ()))
 else
 some ((p20, (), (), (), (), (), (), false, ()), ((p0, p1, p2, p3, p4, p5, p6, p7, ()), (p8, p9, p10, ()), (p11, p12, p13, p14, ()), (p15, p16, p17, p18, p19, ()), ((ByteArray.mk (Array.mk [])), (ByteArray.mk (Array.mk [])), (0 : Int), ()), (([] : List (Int)), ([] : List (Bool)), ([] : List (Bool)), ([] : List (Entry)), ()), ()))) fun y6 =>
 bif y6.1.2.2.2.2.2.2.2.1 then
 some (((), (), (0 : Int), (7 : Int), ()), (((ByteArray.mk (Array.mk [])), (ByteArray.mk (Array.mk [])), (0 : Int), ()), (([] : List (Int)), ([] : List (Bool)), ([] : List (Bool)), ([] : List (Entry)), ()), ()))
 else
 (nfw' y6.2.1.1 y6.2.1.2.1 y6.2.1.2.2.1 y6.2.1.2.2.2.1 y6.2.1.2.2.2.2.1 y6.2.1.2.2.2.2.2.1 y6.2.1.2.2.2.2.2.2.1 y6.2.1.2.2.2.2.2.2.2.1 y6.2.2.2.1.1 y6.2.2.2.1.2.1 y6.2.2.2.1.2.2.1 y6.2.2.2.1.2.2.2.1 y6.2.2.2.2.1.1 y6.2.2.2.2.1.2.1 y6.2.2.2.2.1.2.2.1 y6.2.2.2.2.1.2.2.2.1 y6.2.2.2.2.1.2.2.2.2.1).bind fun y7 =>
 Option.bind ((nft' y6.2.2.1.1 y6.2.2.1.2.1 y6.2.2.1.2.2.1).bind fun y8 =>
 bif (decide ((IntKind.i64.wrap (((ByteArray.size y8.1.1 : Nat) : Int) + (6 : Int))) ≤ y6.2.1.2.2.1)) then
 (ngx' y6.2.1.1 y6.2.1.2.1 y6.2.1.2.2.1 y6.2.1.2.2.2.1 y6.2.1.2.2.2.2.1 y6.2.1.2.2.2.2.2.1 y6.2.1.2.2.2.2.2.2.1 y6.2.1.2.2.2.2.2.2.2.1 [(Record.mk y6.2.2.2.2.1.1 y6.2.2.2.2.1.2.1 y6.2.2.2.2.1.2.2.1 y6.2.2.2.2.1.2.2.2.1 y6.2.2.2.2.1.2.2.2.2.1)]).bind fun y9 =>
 (ng1' y6.2.1.2.2.1 y6.2.2.1.1 y6.2.2.1.2.1 y6.2.2.1.2.2.1 y6.2.2.1.2.2.1 y9.1.1 y6.1.1).bind fun y10 =>
 some ((y10.1.2.1, (), (), (), (), (), y10.1.2.2.1, ()), (y10.2.1, y6.2.2.2.1, y6.2.2.2.2.2.1, y6.2.2.2.2.2.2.1, y7.2.1, ()))
 else
 (nfs' y6.2.1.1 y6.2.1.2.1 y6.2.1.2.2.1 y6.2.1.2.2.2.1 y6.2.1.2.2.2.2.1 y6.2.1.2.2.2.2.2.1 y6.2.1.2.2.2.2.2.2.1 y6.2.1.2.2.2.2.2.2.2.1 y6.2.2.1.1 y6.2.2.1.2.1 y6.2.2.1.2.2.1 y7.2.1.1 y7.2.1.2.1 y7.2.1.2.2.1 y7.2.1.2.2.2.1 y6.1.1).bind fun y11 =>
 some ((y11.1.2.1, (), (), (), (), (), y11.1.2.2.1, ()), (y11.2.1, y6.2.2.2.1, y6.2.2.2.2.2.1, y6.2.2.2.2.2.2.1, y7.2.1, ()))) fun y12 =>
 bif (y12.1.2.2.2.2.2.2.1 == (0 : Int)) then
 some (((), (), y12.1.1, (0 : Int), ()), (y12.2.1, y12.2.2.2.2.2.1, ()))
 else
 bif (y12.1.2.2.2.2.2.2.1 == (8 : Int)) then
 some (((), (), (0 : Int), y12.1.2.2.2.2.2.2.1, ()), (y12.2.1, y12.2.2.1, ()))
 else
 some (((), (), (0 : Int), y12.1.2.2.2.2.2.2.1, ()), (((ByteArray.mk (Array.mk [])), (ByteArray.mk (Array.mk [])), (0 : Int), ()), (([] : List (Int)), ([] : List (Bool)), ([] : List (Bool)), ([] : List (Entry)), ()), ()))
noncomputable def nwh' (i p0 p1 p2 : Int) (p3 : List (Duty)) (p4 : Int) (p5 : Bool) (p6 p7 p8 : Int) (p9 : List (Duty)) (p10 : Int) (p11 : Bool) : Option (Sum (T'17 × (T'24 × T'24 × Unit)) ((Unit × Unit) ⊕ ((Bool × Unit) × Unit))) :=
 bif (decide (i < ((List.length p3 : Nat) : Int))) then
 bif (inB i (List.length p3)) then
 let z0 : Duty := (List.getD p3 (Int.toNat i) (Duty.mk (0 : Int) (0 : Int) (0 : Int)))
 bif (inB i (List.length p9)) then
 let z1 : Duty := (List.getD p9 (Int.toNat i) (Duty.mk (0 : Int) (0 : Int) (0 : Int)))
 bif (!((z0.Floor == z1.Floor) && ((z0.Dir == z1.Dir) && ((z0.Age == z1.Age) && true)))) then
 some (Sum.inr (Sum.inr ((false, ()), ())))
 else
 some (Sum.inl (((), (), (IntKind.i64.wrap (i + (1 : Int))), ()), ((p0, p1, p2, p3, p4, p5, ()), (p6, p7, p8, p9, p10, p11, ()), ())))
 else
 none
 else
 none
 else
 some (Sum.inr (Sum.inl ((), ())))
noncomputable def nld' : (T'17 × (T'24 × T'24 × Unit)) → Option ((Unit × Unit) ⊕ ((Bool × Unit) × Unit)) := iter (fun x => nwh' x.1.2.2.1 x.2.1.1 x.2.1.2.1 x.2.1.2.2.1 x.2.1.2.2.2.1 x.2.1.2.2.2.2.1 x.2.1.2.2.2.2.2.1 x.2.2.1.1 x.2.2.1.2.1 x.2.2.1.2.2.1 x.2.2.1.2.2.2.1 x.2.2.1.2.2.2.2.1 x.2.2.1.2.2.2.2.2.1) fuel
noncomputable def nrs' (p0 p1 p2 : Int) (p3 : List (Duty)) (p4 : Int) (p5 : Bool) (p6 p7 p8 : Int) (p9 : List (Duty)) (p10 : Int) (p11 : Bool) : Option ((Bool × Unit) × Unit) :=
 bif (p0 != p6) then
 some ((false, ()), ())
 else
 bif (p1 != p7) then
 some ((false, ()), ())
 else
 bif (p2 != p8) then
 some ((false, ()), ())
 else
 bif (p4 != p10) then
 some ((false, ()), ())
 else
 bif (!(p5 == p11)) then
 some ((false, ()), ())
 else
 bif (((List.length p3 : Nat) : Int) != ((List.length p9 : Nat) : Int)) then
 some ((false, ()), ())
 else
 (nld' (((), (), (0 : Int), ()), ((p0, p1, p2, p3, p4, p5, ()), (p6, p7, p8, p9, p10, p11, ()), ()))).bind fun y1 =>
 (match y1 with
 | .inl y2 =>
 some ((true, ()), ())
 | .inr y2 =>
 some ((y2.1.1, ()), ()))
noncomputable def np4' (a b : List (Int)) (i : Int) : Option (Sum (T'73 × Unit) ((Unit × Unit) ⊕ ((Bool × Unit) × Unit))) :=
 bif (decide (i < ((List.length a : Nat) : Int))) then
 bif (inB i (List.length a)) then
 bif (inB i (List.length b)) then
 bif ((List.getD a (Int.toNat i) (0 : Int)) != (List.getD b (Int.toNat i) (0 : Int))) then
 some (Sum.inr (Sum.inr ((false, ()), ())))
 else
 some (Sum.inl ((a, b, (IntKind.i64.wrap (i + (1 : Int))), ()), ()))
 else
 none
 else
 none
 else
 some (Sum.inr (Sum.inl ((), ())))
noncomputable def nhl' : (T'73 × Unit) → Option ((Unit × Unit) ⊕ ((Bool × Unit) × Unit)) := iter (fun x => np4' x.1.1 x.1.2.1 x.1.2.2.1) fuel
noncomputable def nmk' (a b : List (Int)) : Option ((Bool × Unit) × Unit) :=
 bif (((List.length a : Nat) : Int) != ((List.length b : Nat) : Int)) then
 some ((false, ()), ())
 else
 (nhl' ((a, b, (0 : Int), ()), ())).bind fun y1 =>
 (match y1 with
 | .inl y2 =>
 some ((true, ()), ())
 | .inr y2 =>
 some ((y2.1.1, ()), ()))
noncomputable def npj' (a b : List (Calls)) (i : Int) : Option (Sum (T'74 × Unit) ((Unit × Unit) ⊕ ((Bool × Unit) × Unit))) :=
 bif (decide (i < ((List.length a : Nat) : Int))) then
 bif (inB i (List.length a)) then
 let z0 : Calls := (List.getD a (Int.toNat i) (Calls.mk (0 : Int) (0 : Int)))
 bif (inB i (List.length b)) then
 let z1 : Calls := (List.getD b (Int.toNat i) (Calls.mk (0 : Int) (0 : Int)))
 bif (!((z0.Up == z1.Up) && ((z0.Down == z1.Down) && true))) then
 some (Sum.inr (Sum.inr ((false, ()), ())))
 else
 some (Sum.inl ((a, b, (IntKind.i64.wrap (i + (1 : Int))), ()), ()))
 else
 none
 else
 none
 else
 some (Sum.inr (Sum.inl ((), ())))
noncomputable def ngv' : (T'74 × Unit) → Option ((Unit × Unit) ⊕ ((Bool × Unit) × Unit)) := iter (fun x => npj' x.1.1 x.1.2.1 x.1.2.2.1) fuel
noncomputable def nlu' (a b : List (Calls)) : Option ((Bool × Unit) × Unit) :=
 bif (((List.length a : Nat) : Int) != ((List.length b : Nat) : Int)) then
 some ((false, ()), ())
 else
 (ngv' ((a, b, (0 : Int), ()), ())).bind fun y1 =>
 (match y1 with
 | .inl y2 =>
 some ((true, ()), ())
 | .inr y2 =>
 some ((y2.1.1, ()), ()))
noncomputable def nwf' (i : Int) (p0 : List (Int)) (p1 p2 : List (Bool)) (p3 : List (Entry)) (p4 p5 : ByteArray) (p6 : Int) (p7 : List (Debounced)) (p8 : List (Belief)) (p9 : List (NewCar)) (p10 : List (Loaded)) (p11 : List (Int)) (p12 : List (Calls)) (p13 p14 p15 : Int) (p16 : List (Int)) (p17 p18 : List (Bool)) (p19 : List (Entry)) (p20 p21 : ByteArray) (p22 : Int) (p23 : List (Debounced)) (p24 : List (Belief)) (p25 : List (NewCar)) (p26 : List (Loaded)) (p27 : List (Int)) (p28 : List (Calls)) (p29 p30 p31 : Int) : Option (Sum (T'17 × (T'25 × T'25 × Unit)) ((Unit × Unit) ⊕ ((Bool × Unit) × Unit))) :=
 bif (decide (i < ((List.length p10 : Nat) : Int))) then
 bif (inB i (List.length p10)) then
 bif (inB i (List.length p26)) then
 bif (!(((List.getD p10 (Int.toNat i) (Loaded.mk (0 : Int))).Class == (List.getD p26 (Int.toNat i) (Loaded.mk (0 : Int))).Class) && true)) then
 some (Sum.inr (Sum.inr ((false, ()), ())))
 else
 some (Sum.inl (((), (), (IntKind.i64.wrap (i + (1 : Int))), ()), ((p0, p1, p2, p3, p4, p5, p6, p7, p8, p9, p10, p11, p12, p13, p14, p15, ()), (p16, p17, p18, p19, p20, p21, p22, p23, p24, p25, p26, p27, p28, p29, p30, p31, ()), ())))
 else
 none
 else
 none
 else
 some (Sum.inr (Sum.inl ((), ())))
noncomputable def nk0' : (T'17 × (T'25 × T'25 × Unit)) → Option ((Unit × Unit) ⊕ ((Bool × Unit) × Unit)) := iter (fun x => nwf' x.1.2.2.1 x.2.1.1 x.2.1.2.1 x.2.1.2.2.1 x.2.1.2.2.2.1 x.2.1.2.2.2.2.1 x.2.1.2.2.2.2.2.1 x.2.1.2.2.2.2.2.2.1 x.2.1.2.2.2.2.2.2.2.1 x.2.1.2.2.2.2.2.2.2.2.1 x.2.1.2.2.2.2.2.2.2.2.2.1 x.2.1.2.2.2.2.2.2.2.2.2.2.1 x.2.1.2.2.2.2.2.2.2.2.2.2.2.1 x.2.1.2.2.2.2.2.2.2.2.2.2.2.2.1 x.2.1.2.2.2.2.2.2.2.2.2.2.2.2.2.1 x.2.1.2.2.2.2.2.2.2.2.2.2.2.2.2.2.1 x.2.1.2.2.2.2.2.2.2.2.2.2.2.2.2.2.2.1 x.2.2.1.1 x.2.2.1.2.1 x.2.2.1.2.2.1 x.2.2.1.2.2.2.1 x.2.2.1.2.2.2.2.1 x.2.2.1.2.2.2.2.2.1 x.2.2.1.2.2.2.2.2.2.1 x.2.2.1.2.2.2.2.2.2.2.1 x.2.2.1.2.2.2.2.2.2.2.2.1 x.2.2.1.2.2.2.2.2.2.2.2.2.1 x.2.2.1.2.2.2.2.2.2.2.2.2.2.1 x.2.2.1.2.2.2.2.2.2.2.2.2.2.2.1 x.2.2.1.2.2.2.2.2.2.2.2.2.2.2.2.1 x.2.2.1.2.2.2.2.2.2.2.2.2.2.2.2.2.1 x.2.2.1.2.2.2.2.2.2.2.2.2.2.2.2.2.2.1 x.2.2.1.2.2.2.2.2.2.2.2.2.2.2.2.2.2.2.1) fuel
noncomputable def nvl' (i : Int) (p0 : List (Int)) (p1 p2 : List (Bool)) (p3 : List (Entry)) (p4 p5 : ByteArray) (p6 : Int) (p7 : List (Debounced)) (p8 : List (Belief)) (p9 : List (NewCar)) (p10 : List (Loaded)) (p11 : List (Int)) (p12 : List (Calls)) (p13 p14 p15 : Int) (p16 : List (Int)) (p17 p18 : List (Bool)) (p19 : List (Entry)) (p20 p21 : ByteArray) (p22 : Int) (p23 : List (Debounced)) (p24 : List (Belief)) (p25 : List (NewCar)) (p26 : List (Loaded)) (p27 : List (Int)) (p28 : List (Calls)) (p29 p30 p31 : Int) : Option (Sum (T'17 × (T'25 × T'25 × Unit)) (((Unit × Unit × Unit) × (T'25 × T'25 × Unit)) ⊕ ((Bool × Unit) × Unit))) :=
 bif (decide (i < ((List.length p9 : Nat) : Int))) then
 bif (inB i (List.length p9)) then
 let z0 : NewCar := (List.getD p9 (Int.toNat i) (NewCar.mk (0 : Int) (0 : Int) (0 : Int) (0 : Int) (0 : Int) false (0 : Int) (0 : Int) (0 : Int) (0 : Int) (0 : Int) (0 : Int) (0 : Int) false))
 bif (inB i (List.length p25)) then
 let z1 : NewCar := (List.getD p25 (Int.toNat i) (NewCar.mk (0 : Int) (0 : Int) (0 : Int) (0 : Int) (0 : Int) false (0 : Int) (0 : Int) (0 : Int) (0 : Int) (0 : Int) (0 : Int) (0 : Int) false))
 bif (!((z0.Sweep_Dir == z1.Sweep_Dir) && ((z0.Sweep_Opened == z1.Sweep_Opened) && ((z0.Door_Stage == z1.Door_Stage) && ((z0.Door_Time == z1.Door_Time) && ((z0.Door_Since == z1.Door_Since) && ((z0.Door_Nudge == z1.Door_Nudge) && ((z0.Door_Cycles == z1.Door_Cycles) && ((z0.Motion_Command == z1.Motion_Command) && ((z0.Motion_Time == z1.Motion_Time) && ((z0.Motion_Floor == z1.Motion_Floor) && ((z0.Calls == z1.Calls) && ((z0.Shown == z1.Shown) && ((z0.Idle == z1.Idle) && ((z0.Fault == z1.Fault) && true))))))))))))))) then
 some (Sum.inr (Sum.inr ((false, ()), ())))
 else
 some (Sum.inl (((), (), (IntKind.i64.wrap (i + (1 : Int))), ()), ((p0, p1, p2, p3, p4, p5, p6, p7, p8, p9, p10, p11, p12, p13, p14, p15, ()), (p16, p17, p18, p19, p20, p21, p22, p23, p24, p25, p26, p27, p28, p29, p30, p31, ()), ())))
 else
 none
 else
 none
 else
 some (Sum.inr (Sum.inl (((), (), ()), ((p0, p1, p2, p3, p4, p5, p6, p7, p8, p9, p10, p11, p12, p13, p14, p15, ()), (p16, p17, p18, p19, p20, p21, p22, p23, p24, p25, p26, p27, p28, p29, p30, p31, ()), ()))))
noncomputable def nlf' : (T'17 × (T'25 × T'25 × Unit)) → Option (((Unit × Unit × Unit) × (T'25 × T'25 × Unit)) ⊕ ((Bool × Unit) × Unit)) := iter (fun x => nvl' x.1.2.2.1 x.2.1.1 x.2.1.2.1 x.2.1.2.2.1 x.2.1.2.2.2.1 x.2.1.2.2.2.2.1 x.2.1.2.2.2.2.2.1 x.2.1.2.2.2.2.2.2.1 x.2.1.2.2.2.2.2.2.2.1 x.2.1.2.2.2.2.2.2.2.2.1 x.2.1.2.2.2.2.2.2.2.2.2.1 x.2.1.2.2.2.2.2.2.2.2.2.2.1 x.2.1.2.2.2.2.2.2.2.2.2.2.2.1 x.2.1.2.2.2.2.2.2.2.2.2.2.2.2.1 x.2.1.2.2.2.2.2.2.2.2.2.2.2.2.2.1 x.2.1.2.2.2.2.2.2.2.2.2.2.2.2.2.2.1 x.2.1.2.2.2.2.2.2.2.2.2.2.2.2.2.2.2.1 x.2.2.1.1 x.2.2.1.2.1 x.2.2.1.2.2.1 x.2.2.1.2.2.2.1 x.2.2.1.2.2.2.2.1 x.2.2.1.2.2.2.2.2.1 x.2.2.1.2.2.2.2.2.2.1 x.2.2.1.2.2.2.2.2.2.2.1 x.2.2.1.2.2.2.2.2.2.2.2.1 x.2.2.1.2.2.2.2.2.2.2.2.2.1 x.2.2.1.2.2.2.2.2.2.2.2.2.2.1 x.2.2.1.2.2.2.2.2.2.2.2.2.2.2.1 x.2.2.1.2.2.2.2.2.2.2.2.2.2.2.2.1 x.2.2.1.2.2.2.2.2.2.2.2.2.2.2.2.2.1 x.2.2.1.2.2.2.2.2.2.2.2.2.2.2.2.2.2.1 x.2.2.1.2.2.2.2.2.2.2.2.2.2.2.2.2.2.2.1) fuel
noncomputable def nvs' (i : Int) (p0 : List (Int)) (p1 p2 : List (Bool)) (p3 : List (Entry)) (p4 p5 : ByteArray) (p6 : Int) (p7 : List (Debounced)) (p8 : List (Belief)) (p9 : List (NewCar)) (p10 : List (Loaded)) (p11 : List (Int)) (p12 : List (Calls)) (p13 p14 p15 : Int) (p16 : List (Int)) (p17 p18 : List (Bool)) (p19 : List (Entry)) (p20 p21 : ByteArray) (p22 : Int) (p23 : List (Debounced)) (p24 : List (Belief)) (p25 : List (NewCar)) (p26 : List (Loaded)) (p27 : List (Int)) (p28 : List (Calls)) (p29 p30 p31 : Int) : Option (Sum (T'17 × (T'25 × T'25 × Unit)) (((Unit × Unit × Unit) × (T'25 × T'25 × Unit)) ⊕ ((Bool × Unit) × Unit))) :=
 bif (decide (i < ((List.length p8 : Nat) : Int))) then
 bif (inB i (List.length p8)) then
 let z0 : Belief := (List.getD p8 (Int.toNat i) (Belief.mk (0 : Int) (0 : Int) (0 : Int) [] (0 : Int) false))
 bif (inB i (List.length p24)) then
 let z1 : Belief := (List.getD p24 (Int.toNat i) (Belief.mk (0 : Int) (0 : Int) (0 : Int) [] (0 : Int) false))
 (nrs' z0.Floor z0.Dir z0.Door z0.Duties z0.Still z0.Late z1.Floor z1.Dir z1.Door z1.Duties z1.Still z1.Late).bind fun y1 =>
 bif (!y1.1.1) then
 some (Sum.inr (Sum.inr ((false, ()), ())))
 else
 some (Sum.inl (((), (), (IntKind.i64.wrap (i + (1 : Int))), ()), ((p0, p1, p2, p3, p4, p5, p6, p7, p8, p9, p10, p11, p12, p13, p14, p15, ()), (p16, p17, p18, p19, p20, p21, p22, p23, p24, p25, p26, p27, p28, p29, p30, p31, ()), ())))
 else
 none
 else
 none
 else
 some (Sum.inr (Sum.inl (((), (), ()), ((p0, p1, p2, p3, p4, p5, p6, p7, p8, p9, p10, p11, p12, p13, p14, p15, ()), (p16, p17, p18, p19, p20, p21, p22, p23, p24, p25, p26, p27, p28, p29, p30, p31, ()), ()))))
noncomputable def nk7' : (T'17 × (T'25 × T'25 × Unit)) → Option (((Unit × Unit × Unit) × (T'25 × T'25 × Unit)) ⊕ ((Bool × Unit) × Unit)) := iter (fun x => nvs' x.1.2.2.1 x.2.1.1 x.2.1.2.1 x.2.1.2.2.1 x.2.1.2.2.2.1 x.2.1.2.2.2.2.1 x.2.1.2.2.2.2.2.1 x.2.1.2.2.2.2.2.2.1 x.2.1.2.2.2.2.2.2.2.1 x.2.1.2.2.2.2.2.2.2.2.1 x.2.1.2.2.2.2.2.2.2.2.2.1 x.2.1.2.2.2.2.2.2.2.2.2.2.1 x.2.1.2.2.2.2.2.2.2.2.2.2.2.1 x.2.1.2.2.2.2.2.2.2.2.2.2.2.2.1 x.2.1.2.2.2.2.2.2.2.2.2.2.2.2.2.1 x.2.1.2.2.2.2.2.2.2.2.2.2.2.2.2.2.1 x.2.1.2.2.2.2.2.2.2.2.2.2.2.2.2.2.2.1 x.2.2.1.1 x.2.2.1.2.1 x.2.2.1.2.2.1 x.2.2.1.2.2.2.1 x.2.2.1.2.2.2.2.1 x.2.2.1.2.2.2.2.2.1 x.2.2.1.2.2.2.2.2.2.1 x.2.2.1.2.2.2.2.2.2.2.1 x.2.2.1.2.2.2.2.2.2.2.2.1 x.2.2.1.2.2.2.2.2.2.2.2.2.1 x.2.2.1.2.2.2.2.2.2.2.2.2.2.1 x.2.2.1.2.2.2.2.2.2.2.2.2.2.2.1 x.2.2.1.2.2.2.2.2.2.2.2.2.2.2.2.1 x.2.2.1.2.2.2.2.2.2.2.2.2.2.2.2.2.1 x.2.2.1.2.2.2.2.2.2.2.2.2.2.2.2.2.2.1 x.2.2.1.2.2.2.2.2.2.2.2.2.2.2.2.2.2.2.1) fuel
noncomputable def nvb' (i : Int) (p0 : List (Int)) (p1 p2 : List (Bool)) (p3 : List (Entry)) (p4 p5 : ByteArray) (p6 : Int) (p7 : List (Debounced)) (p8 : List (Belief)) (p9 : List (NewCar)) (p10 : List (Loaded)) (p11 : List (Int)) (p12 : List (Calls)) (p13 p14 p15 : Int) (p16 : List (Int)) (p17 p18 : List (Bool)) (p19 : List (Entry)) (p20 p21 : ByteArray) (p22 : Int) (p23 : List (Debounced)) (p24 : List (Belief)) (p25 : List (NewCar)) (p26 : List (Loaded)) (p27 : List (Int)) (p28 : List (Calls)) (p29 p30 p31 : Int) : Option (Sum (T'17 × (T'25 × T'25 × Unit)) (((Unit × Unit × Unit) × (T'25 × T'25 × Unit)) ⊕ ((Bool × Unit) × Unit))) :=
 bif (decide (i < ((List.length p7 : Nat) : Int))) then
 bif (inB i (List.length p7)) then
 let z0 : Debounced := (List.getD p7 (Int.toNat i) (Debounced.mk (0 : Int) false false false false (0 : Int) (0 : Int) (0 : Int) (0 : Int) (0 : Int) (0 : Int) (0 : Int) (0 : Int) (0 : Int) (0 : Int) (0 : Int) (0 : Int) (0 : Int) (0 : Int) (0 : Int) (0 : Int) (0 : Int) (0 : Int) (0 : Int) (0 : Int) (0 : Int) (0 : Int) (0 : Int) (0 : Int) (0 : Int) (0 : Int) (0 : Int) (0 : Int) (0 : Int) (0 : Int) (0 : Int) (0 : Int) (0 : Int) (0 : Int) (0 : Int) (0 : Int)))
 bif (inB i (List.length p23)) then
 let z1 : Debounced := (List.getD p23 (Int.toNat i) (Debounced.mk (0 : Int) false false false false (0 : Int) (0 : Int) (0 : Int) (0 : Int) (0 : Int) (0 : Int) (0 : Int) (0 : Int) (0 : Int) (0 : Int) (0 : Int) (0 : Int) (0 : Int) (0 : Int) (0 : Int) (0 : Int) (0 : Int) (0 : Int) (0 : Int) (0 : Int) (0 : Int) (0 : Int) (0 : Int) (0 : Int) (0 : Int) (0 : Int) (0 : Int) (0 : Int) (0 : Int) (0 : Int) (0 : Int) (0 : Int) (0 : Int) (0 : Int) (0 : Int) (0 : Int)))
 bif (!((z0.Contacts_Floors == z1.Contacts_Floors) && ((z0.Contacts_Up == z1.Contacts_Up) && ((z0.Contacts_Down == z1.Contacts_Down) && ((z0.Contacts_Open == z1.Contacts_Open) && ((z0.Contacts_Closed == z1.Contacts_Closed) && ((z0.Count_0 == z1.Count_0) && ((z0.Count_1 == z1.Count_1) && ((z0.Count_2 == z1.Count_2) && ((z0.Count_3 == z1.Count_3) && ((z0.Count_4 == z1.Count_4) && ((z0.Count_5 == z1.Count_5) && ((z0.Count_6 == z1.Count_6) && ((z0.Count_7 == z1.Count_7) && ((z0.Count_8 == z1.Count_8) && ((z0.Count_9 == z1.Count_9) && ((z0.Count_10 == z1.Count_10) && ((z0.Count_11 == z1.Count_11) && ((z0.Count_12 == z1.Count_12) && ((z0.Count_13 == z1.Count_13) && ((z0.Count_14 == z1.Count_14) && ((z0.Count_15 == z1.Count_15) && ((z0.Count_16 == z1.Count_16) && ((z0.Count_17 == z1.Count_17) && ((z0.Count_18 == z1.Count_18) && ((z0.Count_19 == z1.Count_19) && ((z0.Count_20 == z1.Count_20) && ((z0.Count_21 == z1.Count_21) && ((z0.Count_22 == z1.Count_22) && ((z0.Count_23 == z1.Count_23) && ((z0.Count_24 == z1.Count_24) && ((z0.Count_25 == z1.Count_25) && ((z0.Count_26 == z1.Count_26) && ((z0.Count_27 == z1.Count_27) && ((z0.Count_28 == z1.Count_28) && ((z0.Count_29 == z1.Count_29) && ((z0.Count_30 == z1.Count_30) && ((z0.Count_31 == z1.Count_31) && ((z0.Count_32 == z1.Count_32) && ((z0.Count_33 == z1.Count_33) && ((z0.Count_34 == z1.Count_34) && ((z0.Count_35 == z1.Count_35) && true)))))))))))))))))))))))))))))))))))))))))) then
 some (Sum.inr (Sum.inr ((false, ()), ())))
 else
 some (Sum.inl (((), (), (IntKind.i64.wrap (i + (1 : Int))), ()), ((p0, p1, p2, p3, p4, p5, p6, p7, p8, p9, p10, p11, p12, p13, p14, p15, ()), (p16, p17, p18, p19, p20, p21, p22, p23, p24, p25, p26, p27, p28, p29, p30, p31, ()), ())))
 else
 none
 else
 none
 else
 some (Sum.inr (Sum.inl (((), (), ()), ((p0, p1, p2, p3, p4, p5, p6, p7, p8, p9, p10, p11, p12, p13, p14, p15, ()), (p16, p17, p18, p19, p20, p21, p22, p23, p24, p25, p26, p27, p28, p29, p30, p31, ()), ()))))
noncomputable def nla' : (T'17 × (T'25 × T'25 × Unit)) → Option (((Unit × Unit × Unit) × (T'25 × T'25 × Unit)) ⊕ ((Bool × Unit) × Unit)) := iter (fun x => nvb' x.1.2.2.1 x.2.1.1 x.2.1.2.1 x.2.1.2.2.1 x.2.1.2.2.2.1 x.2.1.2.2.2.2.1 x.2.1.2.2.2.2.2.1 x.2.1.2.2.2.2.2.2.1 x.2.1.2.2.2.2.2.2.2.1 x.2.1.2.2.2.2.2.2.2.2.1 x.2.1.2.2.2.2.2.2.2.2.2.1 x.2.1.2.2.2.2.2.2.2.2.2.2.1 x.2.1.2.2.2.2.2.2.2.2.2.2.2.1 x.2.1.2.2.2.2.2.2.2.2.2.2.2.2.1 x.2.1.2.2.2.2.2.2.2.2.2.2.2.2.2.1 x.2.1.2.2.2.2.2.2.2.2.2.2.2.2.2.2.1 x.2.1.2.2.2.2.2.2.2.2.2.2.2.2.2.2.2.1 x.2.2.1.1 x.2.2.1.2.1 x.2.2.1.2.2.1 x.2.2.1.2.2.2.1 x.2.2.1.2.2.2.2.1 x.2.2.1.2.2.2.2.2.1 x.2.2.1.2.2.2.2.2.2.1 x.2.2.1.2.2.2.2.2.2.2.1 x.2.2.1.2.2.2.2.2.2.2.2.1 x.2.2.1.2.2.2.2.2.2.2.2.2.1 x.2.2.1.2.2.2.2.2.2.2.2.2.2.1 x.2.2.1.2.2.2.2.2.2.2.2.2.2.2.1 x.2.2.1.2.2.2.2.2.2.2.2.2.2.2.2.1 x.2.2.1.2.2.2.2.2.2.2.2.2.2.2.2.2.1 x.2.2.1.2.2.2.2.2.2.2.2.2.2.2.2.2.2.1 x.2.2.1.2.2.2.2.2.2.2.2.2.2.2.2.2.2.2.1) fuel
noncomputable def nyn' (p0 : List (Int)) (p1 p2 : List (Bool)) (p3 : List (Entry)) (p4 p5 : ByteArray) (p6 : Int) (p7 : List (Debounced)) (p8 : List (Belief)) (p9 : List (NewCar)) (p10 : List (Loaded)) (p11 : List (Int)) (p12 : List (Calls)) (p13 p14 p15 : Int) (p16 : List (Int)) (p17 p18 : List (Bool)) (p19 : List (Entry)) (p20 p21 : ByteArray) (p22 : Int) (p23 : List (Debounced)) (p24 : List (Belief)) (p25 : List (NewCar)) (p26 : List (Loaded)) (p27 : List (Int)) (p28 : List (Calls)) (p29 p30 p31 : Int) : Option ((Bool × Unit) × Unit) :=
 (nit' p0 p1 p2 p3 p16 p17 p18 p19).bind fun y1 =>
 bif (!y1.1.1) then
 some ((false, ()), ())
 else
 bif (!((eqB p4 p20) && ((eqB p5 p21) && ((p6 == p22) && true)))) then
 some ((false, ()), ())
 else
 bif (((List.length p7 : Nat) : Int) != ((List.length p23 : Nat) : Int)) then
 some ((false, ()), ())
 else
 bif (((List.length p8 : Nat) : Int) != ((List.length p24 : Nat) : Int)) then
 some ((false, ()), ())
 else
 bif (((List.length p9 : Nat) : Int) != ((List.length p25 : Nat) : Int)) then
 some ((false, ()), ())
 else
 bif (((List.length p10 : Nat) : Int) != ((List.length p26 : Nat) : Int)) then
 some ((false, ()), ())
 else
 (nlu' p12 p28).bind fun y2 =>
 bif (!y2.1.1) then
 some ((false, ()), ())
 else
 (nmk' p11 p27).bind fun y3 =>
 bif (!y3.1.1) then
 some ((false, ()), ())
 else
 bif (p13 != p29) then
 some ((false, ()), ())
 else
 bif (p14 != p30) then
 some ((false, ()), ())
 else
 bif (p15 != p31) then
 some ((false, ()), ())
 else
 (nla' (((), (), (0 : Int), ()), ((p0, p1, p2, p3, p4, p5, p6, p7, p8, p9, p10, p11, p12, p13, p14, p15, ()), (p16, p17, p18, p19, p20, p21, p22, p23, p24, p25, p26, p27, p28, p29, p30, p31, ()), ()))).bind fun y4 =>
 (match y4 with
 | .inl y5 =>
 (nk7' (((), (), (0 : Int), ()), (y5.2.1, y5.2.2.1, ()))).bind fun y6 =>
 (match y6 with
 | .inl y7 =>
 (nlf' (((), (), (0 : Int), ()), (y7.2.1, y7.2.2.1, ()))).bind fun y8 =>
 (match y8 with
 | .inl y9 =>
 (nk0' (((), (), (0 : Int), ()), (y9.2.1, y9.2.2.1, ()))).bind fun y10 =>
 (match y10 with
 | .inl y11 =>
 some ((true, ()), ())
 | .inr y11 =>
 some ((y11.1.1, ()), ()))
 | .inr y9 =>
 some ((y9.1.1, ()), ()))
 | .inr y7 =>
 some ((y7.1.1, ()), ()))
 | .inr y5 =>
 some ((y5.1.1, ()), ()))
end Go.Ovl
