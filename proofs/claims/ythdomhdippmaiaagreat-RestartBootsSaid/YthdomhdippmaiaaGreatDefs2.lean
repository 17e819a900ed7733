/- What each function of the program comes to: part 2. -/
import Derived.Test.YthdomhdippmaiaaGreatDefs1
namespace Go.Ovl
open Go Go.Ab
set_option maxRecDepth 100000
noncomputable def nhe' (b_Floors b_Debounce b_Room b_Park : Int) (b_Empty b_Full b_Over : Nat) (b_Cars : List (Car)) (s_Sweep_Dir s_Sweep_Opened s_Door_Stage s_Door_Time s_Door_Since : Int) (s_Door_Nudge : Bool) (s_Door_Cycles s_Motion_Command s_Motion_Time s_Motion_Floor s_Calls s_Shown s_Idle : Int) (s_Fault : Bool) : Option ((Bool × Unit) × Unit) :=
 Option.bind ((nby' b_Floors b_Debounce b_Room b_Park b_Empty b_Full b_Over b_Cars).bind fun y1 =>
 bif (y1.1.1 != (0 : Int)) then
 some (((), (), true, ()), ((b_Floors, b_Debounce, b_Room, b_Park, b_Empty, b_Full, b_Over, b_Cars, ()), (s_Sweep_Dir, s_Sweep_Opened, s_Door_Stage, s_Door_Time, s_Door_Since, s_Door_Nudge, s_Door_Cycles, s_Motion_Command, s_Motion_Time, s_Motion_Floor, s_Calls, s_Shown, s_Idle, s_Fault, ()), ()))
 else
 bif s_Fault then
 some (((), (), (!((s_Sweep_Dir == (0 : Int)) && ((s_Sweep_Opened == (0 : Int)) && ((s_Door_Stage == (0 : Int)) && ((s_Door_Time == (0 : Int)) && ((s_Door_Since == (0 : Int)) && ((s_Door_Nudge == false) && ((s_Door_Cycles == (0 : Int)) && ((s_Motion_Command == (0 : Int)) && ((s_Motion_Time == (0 : Int)) && ((s_Motion_Floor == (0 : Int)) && ((s_Calls == (0 : Int)) && ((s_Shown == (0 : Int)) && ((s_Idle == (0 : Int)) && ((s_Fault == true) && true))))))))))))))), ()), ((b_Floors, b_Debounce, b_Room, b_Park, b_Empty, b_Full, b_Over, b_Cars, ()), (s_Sweep_Dir, s_Sweep_Opened, s_Door_Stage, s_Door_Time, s_Door_Since, s_Door_Nudge, s_Door_Cycles, s_Motion_Command, s_Motion_Time, s_Motion_Floor, s_Calls, s_Shown, s_Idle, s_Fault, ()), ()))
 else
 some (((), (), false, ()), ((b_Floors, b_Debounce, b_Room, b_Park, b_Empty, b_Full, b_Over, b_Cars, ()), (s_Sweep_Dir, s_Sweep_Opened, s_Door_Stage, s_Door_Time, s_Door_Since, s_Door_Nudge, s_Door_Cycles, s_Motion_Command, s_Motion_Time, s_Motion_Floor, s_Calls, s_Shown, s_Idle, s_Fault, ()), ()))) fun y2 =>
 bif y2.1.2.2.1 then
 some ((false, ()), ())
 else
 Option.bind ((ne0' y2.2.2.1.1 y2.2.2.1.2.1).bind fun y3 =>
 bif (!y3.1.1) then
 some (((), (), true, ()), (y2.2.1, y2.2.2.1, ()))
 else
 (nih' y2.2.2.1.2.2.1 y2.2.2.1.2.2.2.1 y2.2.2.1.2.2.2.2.1 y2.2.2.1.2.2.2.2.2.1 y2.2.2.1.2.2.2.2.2.2.1).bind fun y4 =>
 bif (!y4.1.1) then
 some (((), (), true, ()), (y2.2.1, y2.2.2.1, ()))
 else
 (nhc' y2.2.1.1 y2.2.2.1.2.2.2.2.2.2.2.1 y2.2.2.1.2.2.2.2.2.2.2.2.1 y2.2.2.1.2.2.2.2.2.2.2.2.2.1).bind fun y5 =>
 bif (!y5.1.1) then
 some (((), (), true, ()), (y2.2.1, y2.2.2.1, ()))
 else
 bif (!((y2.2.2.1.2.2.1 == (0 : Int)) && ((y2.2.2.1.2.2.2.1 == (0 : Int)) && ((y2.2.2.1.2.2.2.2.1 == (0 : Int)) && ((y2.2.2.1.2.2.2.2.2.1 == false) && ((y2.2.2.1.2.2.2.2.2.2.1 == (0 : Int)) && true)))))) then
 some (((), (), (!((y2.2.2.1.2.2.2.2.2.2.2.1 == (0 : Int)) && ((y2.2.2.1.2.2.2.2.2.2.2.2.1 == (0 : Int)) && ((y2.2.2.1.2.2.2.2.2.2.2.2.2.1 == (0 : Int)) && true)))), ()), (y2.2.1, y2.2.2.1, ()))
 else
 some (((), (), false, ()), (y2.2.1, y2.2.2.1, ()))) fun y6 =>
 bif y6.1.2.2.1 then
 some ((false, ()), ())
 else
 Option.bind (bif (decide ((0 : Int) ≤ y6.2.1.1)) then
 bif ((Int.fdiv y6.2.2.1.2.2.2.2.2.2.2.2.2.2.1 ((2 : Int) ^ (Min.min (Int.toNat y6.2.1.1) (IntKind.bits IntKind.u32)))) == (0 : Int)) then
 bif (decide ((0 : Int) ≤ y6.2.2.1.2.2.2.2.2.2.2.2.2.2.2.1)) then
 bif (decide (y6.2.2.1.2.2.2.2.2.2.2.2.2.2.2.1 ≤ (2 : Int))) then
 bif (decide ((0 : Int) ≤ y6.2.2.1.2.2.2.2.2.2.2.2.2.2.2.2.1)) then
 some (((decide (y6.2.2.1.2.2.2.2.2.2.2.2.2.2.2.2.1 ≤ (1000000 : Int))), ()), ())
 else
 some ((false, ()), ())
 else
 some ((false, ()), ())
 else
 some ((false, ()), ())
 else
 some ((false, ()), ())
 else
 none) fun y7 =>
 some ((y7.1.1, ()), ())
noncomputable def nd5' (_ s_Sweep_Dir s_Sweep_Opened s_Door_Stage s_Door_Time s_Door_Since : Int) (s_Door_Nudge : Bool) (s_Door_Cycles s_Motion_Command s_Motion_Time s_Motion_Floor s_Calls s_Shown s_Idle : Int) (s_Fault : Bool) (b0_Floors b0_Debounce b0_Room b0_Park : Int) (b0_Empty b0_Full b0_Over : Nat) (b0_Cars : List (Car)) : Option ((Bool × Unit) × (T'0 × Unit)) :=
 (nhe' b0_Floors b0_Debounce b0_Room b0_Park b0_Empty b0_Full b0_Over b0_Cars s_Sweep_Dir s_Sweep_Opened s_Door_Stage s_Door_Time s_Door_Since s_Door_Nudge s_Door_Cycles s_Motion_Command s_Motion_Time s_Motion_Floor s_Calls s_Shown s_Idle s_Fault).bind fun y1 =>
 some ((y1.1.1, ()), ((b0_Floors, b0_Debounce, b0_Room, b0_Park, b0_Empty, b0_Full, b0_Over, b0_Cars, ()), ()))
noncomputable def np' (s13 : List (NewCar)) (s14 s15 b0_Floors b0_Debounce b0_Room b0_Park : Int) (b0_Empty b0_Full b0_Over : Nat) (b0_Cars : List (Car)) : Option (Sum (T'67 × (T'0 × Unit)) ((Unit × (T'0 × Unit)) ⊕ ((Bool × Unit) × (T'0 × Unit)))) :=
 bif (decide (s15 < s14)) then
 bif (inB s15 (List.length s13)) then
 let z0 : NewCar := (List.getD s13 (Int.toNat s15) (NewCar.mk (0 : Int) (0 : Int) (0 : Int) (0 : Int) (0 : Int) false (0 : Int) (0 : Int) (0 : Int) (0 : Int) (0 : Int) (0 : Int) (0 : Int) false))
 (nd5' s15 z0.Sweep_Dir z0.Sweep_Opened z0.Door_Stage z0.Door_Time z0.Door_Since z0.Door_Nudge z0.Door_Cycles z0.Motion_Command z0.Motion_Time z0.Motion_Floor z0.Calls z0.Shown z0.Idle z0.Fault b0_Floors b0_Debounce b0_Room b0_Park b0_Empty b0_Full b0_Over b0_Cars).bind fun y1 =>
 bif (!y1.1.1) then
 some (Sum.inr (Sum.inr ((false, ()), (y1.2.1, ()))))
 else
 some (Sum.inl (((), s13, s14, (IntKind.i64.wrap (s15 + (1 : Int))), ()), (y1.2.1, ())))
 else
 none
 else
 some (Sum.inr (Sum.inl ((), ((b0_Floors, b0_Debounce, b0_Room, b0_Park, b0_Empty, b0_Full, b0_Over, b0_Cars, ()), ()))))
noncomputable def nbf' : (T'67 × (T'0 × Unit)) → Option ((Unit × (T'0 × Unit)) ⊕ ((Bool × Unit) × (T'0 × Unit))) := iter (fun x => np' x.1.2.1 x.1.2.2.1 x.1.2.2.2.1 x.2.1.1 x.2.1.2.1 x.2.1.2.2.1 x.2.1.2.2.2.1 x.2.1.2.2.2.2.1 x.2.1.2.2.2.2.2.1 x.2.1.2.2.2.2.2.2.1 x.2.1.2.2.2.2.2.2.2.1) fuel
noncomputable def nbg' (l : List (NewCar)) (n b0_Floors b0_Debounce b0_Room b0_Park : Int) (b0_Empty b0_Full b0_Over : Nat) (b0_Cars : List (Car)) : Option ((Bool × Unit) × (T'0 × Unit)) :=
 bif (((List.length l : Nat) : Int) != n) then
 some ((false, ()), ((b0_Floors, b0_Debounce, b0_Room, b0_Park, b0_Empty, b0_Full, b0_Over, b0_Cars, ()), ()))
 else
 (nbf' (((), l, ((List.length l : Nat) : Int), (0 : Int), ()), ((b0_Floors, b0_Debounce, b0_Room, b0_Park, b0_Empty, b0_Full, b0_Over, b0_Cars, ()), ()))).bind fun y1 =>
 (match y1 with
 | .inl y2 =>
 some ((true, ()), (y2.2.1, ()))
 | .inr y2 =>
 some ((y2.1.1, ()), (y2.2.1, ())))
noncomputable def ngg' (_ s_Class : Int) : Option ((Bool × Unit) × Unit) :=
 Option.bind (bif (decide ((0 : Int) ≤ s_Class)) then
 some (((decide (s_Class ≤ (4 : Int))), ()), ())
 else
 some ((false, ()), ())) fun y1 =>
 some ((y1.1.1, ()), ())
noncomputable def n0' (s13 : List (Loaded)) (s14 s15 : Int) : Option (Sum (T'68 × Unit) ((Unit × Unit) ⊕ ((Bool × Unit) × Unit))) :=
 bif (decide (s15 < s14)) then
 bif (inB s15 (List.length s13)) then
 (ngg' s15 (List.getD s13 (Int.toNat s15) (Loaded.mk (0 : Int))).Class).bind fun y1 =>
 bif (!y1.1.1) then
 some (Sum.inr (Sum.inr ((false, ()), ())))
 else
 some (Sum.inl (((), s13, s14, (IntKind.i64.wrap (s15 + (1 : Int))), ()), ()))
 else
 none
 else
 some (Sum.inr (Sum.inl ((), ())))
noncomputable def nbn' : (T'68 × Unit) → Option ((Unit × Unit) ⊕ ((Bool × Unit) × Unit)) := iter (fun x => n0' x.1.2.1 x.1.2.2.1 x.1.2.2.2.1) fuel
noncomputable def nbp' (l : List (Loaded)) (n : Int) : Option ((Bool × Unit) × Unit) :=
 bif (((List.length l : Nat) : Int) != n) then
 some ((false, ()), ())
 else
 (nbn' (((), l, ((List.length l : Nat) : Int), (0 : Int), ()), ())).bind fun y1 =>
 (match y1 with
 | .inl y2 =>
 some ((true, ()), ())
 | .inr y2 =>
 some ((y2.1.1, ()), ()))
noncomputable def nd3' (b_Floors b_Debounce b_Room b_Park : Int) (b_Empty b_Full b_Over : Nat) (b_Cars : List (Car)) (m_Image_Phases : List (Int)) (m_Image_Flags m_Image_Leaving : List (Bool)) (m_Image_Entries : List (Entry)) (m_Store_Halves_0 m_Store_Halves_1 : ByteArray) (m_Store_Select : Int) (m_Contacts : List (Debounced)) (m_Beliefs : List (Belief)) (m_Cars : List (NewCar)) (m_Loads : List (Loaded)) (m_Expect : List (Int)) (m_Lit : List (Calls)) (m_Tick m_Faults m_Refused : Int) : Option ((Bool × Unit) × Unit) :=
 let z0 : Int := ((List.length b_Cars : Nat) : Int)
 (nfb' b_Floors b_Debounce b_Room b_Park b_Empty b_Full b_Over b_Cars m_Image_Phases m_Image_Flags m_Image_Leaving m_Image_Entries).bind fun y1 =>
 bif (!y1.1.1) then
 some ((false, ()), ())
 else
 (nde' b_Room m_Store_Halves_0 m_Store_Halves_1 m_Store_Select).bind fun y2 =>
 bif (!y2.1.1) then
 some ((false, ()), ())
 else
 bif (((List.length m_Expect : Nat) : Int) != ((List.length m_Image_Entries : Nat) : Int)) then
 some ((false, ()), ())
 else
 (nfh' m_Expect).bind fun y3 =>
 bif (!y3.1.1) then
 some ((false, ()), ())
 else
 (nfh' [m_Tick, m_Faults, m_Refused]).bind fun y4 =>
 bif (!y4.1.1) then
 some ((false, ()), ())
 else
 (n9' m_Contacts z0 b_Floors b_Debounce b_Room b_Park b_Empty b_Full b_Over b_Cars).bind fun y5 =>
 (nbh' m_Beliefs z0 y5.2.1.1 y5.2.1.2.1 y5.2.1.2.2.1 y5.2.1.2.2.2.1 y5.2.1.2.2.2.2.1 y5.2.1.2.2.2.2.2.1 y5.2.1.2.2.2.2.2.2.1 y5.2.1.2.2.2.2.2.2.2.1).bind fun y6 =>
 (nbg' m_Cars z0 y6.2.1.1 y6.2.1.2.1 y6.2.1.2.2.1 y6.2.1.2.2.2.1 y6.2.1.2.2.2.2.1 y6.2.1.2.2.2.2.2.1 y6.2.1.2.2.2.2.2.2.1 y6.2.1.2.2.2.2.2.2.2.1).bind fun y7 =>
 (nbp' m_Loads z0).bind fun y8 =>
 Option.bind (bif y5.1.1 then
 bif y6.1.1 then
 bif y7.1.1 then
 bif y8.1.1 then
 some (((((List.length m_Lit : Nat) : Int) == z0), ()), ())
 else
 some ((false, ()), ())
 else
 some ((false, ()), ())
 else
 some ((false, ()), ())
 else
 some ((false, ()), ())) fun y9 =>
 some ((y9.1.1, ()), ())
noncomputable def nm2' (b_Floors b_Debounce b_Room b_Park : Int) (b_Empty b_Full b_Over : Nat) (b_Cars : List (Car)) (s_Halves_0 s_Halves_1 : ByteArray) (s_Select budget : Int) : Option ((Bool × Unit) × Unit) :=
 Option.bind ((nei' b_Floors b_Debounce b_Room b_Park b_Empty b_Full b_Over b_Cars).bind fun y1 =>
 bif (y1.1.1 == (0 : Int)) then
 (nfl' b_Room s_Halves_0 s_Halves_1 s_Select).bind fun y2 =>
 bif y2.1.1 then
 some (((decide ((0 : Int) ≤ budget)), ()), ())
 else
 some ((false, ()), ())
 else
 some ((false, ()), ())) fun y3 =>
 some ((y3.1.1, ()), ())
noncomputable def njn' (s_Halves_0 s_Halves_1 : ByteArray) (s_Select : Int) : Option ((ByteArray × Unit) × Unit) :=
 bif (s_Select == (1 : Int)) then
 some ((s_Halves_1, ()), ())
 else
 some ((s_Halves_0, ()), ())
noncomputable def nke' (b_Floors b_Debounce b_Room b_Park : Int) (b_Empty b_Full b_Over : Nat) (b_Cars : List (Car)) (s : ByteArray) : Option ((Unit × Int × Unit) × (T'7 × Unit)) :=
 (nei' b_Floors b_Debounce b_Room b_Park b_Empty b_Full b_Over b_Cars).bind fun y1 =>
 bif (y1.1.1 != (0 : Int)) then
 some (((), (1 : Int), ()), (((0 : Int), (0 : Int), (0 : Int), (0 : Int), (0 : Int), ()), ()))
 else
 bif (((ByteArray.size s : Nat) : Int) != (6 : Int)) then
 some (((), (4 : Int), ()), (((0 : Int), (0 : Int), (0 : Int), (0 : Int), (0 : Int), ()), ()))
 else
 bif (decide ((5 : Int) ≤ (((ByteArray.size s) : Nat) : Int))) then
 (nkl' (ByteArray.extract s 0 5)).bind fun y2 =>
 bif (inB (5 : Int) (ByteArray.size s)) then
 bif (y2.1.1 != (nd4' s (Int.toNat (5 : Int)))) then
 some (((), (5 : Int), ()), (((0 : Int), (0 : Int), (0 : Int), (0 : Int), (0 : Int), ()), ()))
 else
 bif (inB (0 : Int) (ByteArray.size s)) then
 let z0 : Int := (IntKind.i64.wrap (nd4' s (Int.toNat (0 : Int))))
 bif (inB (1 : Int) (ByteArray.size s)) then
 let z1 : Int := (IntKind.i64.wrap (nd4' s (Int.toNat (1 : Int))))
 bif (inB (2 : Int) (ByteArray.size s)) then
 let z2 : Int := (IntKind.i64.wrap (nd4' s (Int.toNat (2 : Int))))
 bif (inB (3 : Int) (ByteArray.size s)) then
 let z3 : Int := (IntKind.i64.wrap ((IntKind.i64.wrap (nd4' s (Int.toNat (3 : Int)))) - (2 : Int)))
 bif (inB (4 : Int) (ByteArray.size s)) then
 let z4 : Int := (IntKind.i64.wrap (nd4' s (Int.toNat (4 : Int))))
 (nhs' b_Floors b_Debounce b_Room b_Park b_Empty b_Full b_Over b_Cars z0 z1 z2 z3 z4).bind fun y3 =>
 bif (!y3.1.1) then
 some (((), (9 : Int), ()), (((0 : Int), (0 : Int), (0 : Int), (0 : Int), (0 : Int), ()), ()))
 else
 some (((), (0 : Int), ()), ((z0, z1, z2, z3, z4, ()), ()))
 else
 none
 else
 none
 else
 none
 else
 none
 else
 none
 else
 none
 else
 none
noncomputable def nen' (s : ByteArray) (out : List (Record)) (n b_Floors b_Debounce b_Room b_Park : Int) (b_Empty b_Full b_Over : Nat) (b_Cars : List (Car)) : Option (Sum (T'9 × (T'0 × Unit)) (T'8 × Unit)) :=
 bif (decide ((IntKind.i64.wrap (n + (6 : Int))) ≤ ((ByteArray.size s : Nat) : Int))) then
 let z0 : Int := (IntKind.i64.wrap (n + (6 : Int)))
 bif ((decide ((0 : Int) ≤ z0)) && (decide (z0 ≤ (((ByteArray.size s) : Nat) : Int)))) then
 bif ((decide ((0 : Int) ≤ n)) && (decide (n ≤ (((Int.toNat z0) : Nat) : Int)))) then
 (nke' b_Floors b_Debounce b_Room b_Park b_Empty b_Full b_Over b_Cars (ByteArray.extract s (Int.toNat n) (Int.toNat z0))).bind fun y1 =>
 bif (y1.1.2.1 != (0 : Int)) then
 some (Sum.inr ((out, n, ()), ()))
 else
 let z1 : List (Record) := [(Record.mk y1.2.1.1 y1.2.1.2.1 y1.2.1.2.2.1 y1.2.1.2.2.2.1 y1.2.1.2.2.2.2.1)]
 bif (Nat.ble ((List.length out) + (List.length z1)) 2147483648) then
 some (Sum.inl ((s, (), (out ++ z1), (IntKind.i64.wrap (n + (6 : Int))), ()), ((b_Floors, b_Debounce, b_Room, b_Park, b_Empty, b_Full, b_Over, b_Cars, ()), ())))
 else
 none
 else
 none
 else
 none
 else
 some (Sum.inr ((out, n, ()), ()))
noncomputable def nkv' : (T'9 × (T'0 × Unit)) → Option (T'8 × Unit) := iter (fun x => nen' x.1.1 x.1.2.2.1 x.1.2.2.2.1 x.2.1.1 x.2.1.2.1 x.2.1.2.2.1 x.2.1.2.2.2.1 x.2.1.2.2.2.2.1 x.2.1.2.2.2.2.2.1 x.2.1.2.2.2.2.2.2.1 x.2.1.2.2.2.2.2.2.2.1) fuel
noncomputable def nme' (b_Floors b_Debounce b_Room b_Park : Int) (b_Empty b_Full b_Over : Nat) (b_Cars : List (Car)) (s : ByteArray) : Option (T'8 × Unit) :=
 (nkv' ((s, (), ([] : List (Record)), (0 : Int), ()), ((b_Floors, b_Debounce, b_Room, b_Park, b_Empty, b_Full, b_Over, b_Cars, ()), ()))).bind fun y1 =>
 some ((y1.1.1, y1.1.2.1, ()), ())
noncomputable def ne8' (l : List (Record)) (i b_Floors b_Debounce b_Room b_Park : Int) (b_Empty b_Full b_Over : Nat) (b_Cars : List (Car)) (b4_Phases : List (Int)) (b4_Flags b4_Leaving : List (Bool)) (b4_Entries : List (Entry)) (m_Phases : List (Int)) (m_Flags m_Leaving : List (Bool)) (m_Entries : List (Entry)) : Option (Sum (T'53 × (T'0 × T'4 × T'4 × Unit)) ((Unit × Unit × Unit) × (T'4 × T'4 × Unit))) :=
 bif (decide (i < ((List.length l : Nat) : Int))) then
 bif (inB i (List.length l)) then
 let z0 : Record := (List.getD l (Int.toNat i) (Record.mk (0 : Int) (0 : Int) (0 : Int) (0 : Int) (0 : Int)))
 (ni2' b_Floors b_Debounce b_Room b_Park b_Empty b_Full b_Over b_Cars m_Phases m_Flags m_Leaving m_Entries z0.Kind z0.Floor z0.Dir z0.Car z0.Value).bind fun y1 =>
 some (Sum.inl (((), (), (), l, (IntKind.i64.wrap (i + (1 : Int))), ()), ((b_Floors, b_Debounce, b_Room, b_Park, b_Empty, b_Full, b_Over, b_Cars, ()), (b4_Phases, b4_Flags, b4_Leaving, b4_Entries, ()), y1.2.1, ())))
 else
 none
 else
 some (Sum.inr (((), (), ()), ((b4_Phases, b4_Flags, b4_Leaving, b4_Entries, ()), (m_Phases, m_Flags, m_Leaving, m_Entries, ()), ())))
noncomputable def nip' : (T'53 × (T'0 × T'4 × T'4 × Unit)) → Option ((Unit × Unit × Unit) × (T'4 × T'4 × Unit)) := iter (fun x => ne8' x.1.2.2.2.1 x.1.2.2.2.2.1 x.2.1.1 x.2.1.2.1 x.2.1.2.2.1 x.2.1.2.2.2.1 x.2.1.2.2.2.2.1 x.2.1.2.2.2.2.2.1 x.2.1.2.2.2.2.2.2.1 x.2.1.2.2.2.2.2.2.2.1 x.2.2.1.1 x.2.2.1.2.1 x.2.2.1.2.2.1 x.2.2.1.2.2.2.1 x.2.2.2.1.1 x.2.2.2.1.2.1 x.2.2.2.1.2.2.1 x.2.2.2.1.2.2.2.1) fuel
noncomputable def nkn' (b_Floors b_Debounce b_Room b_Park : Int) (b_Empty b_Full b_Over : Nat) (b_Cars : List (Car)) (s_Halves_0 s_Halves_1 : ByteArray) (s_Select : Int) : Option ((Unit × Unit) × (T'4 × Unit)) :=
 (nhl' b_Floors b_Debounce b_Room b_Park b_Empty b_Full b_Over b_Cars).bind fun y1 =>
 (njn' s_Halves_0 s_Halves_1 s_Select).bind fun y2 =>
 (nme' b_Floors b_Debounce b_Room b_Park b_Empty b_Full b_Over b_Cars y2.1.1).bind fun y3 =>
 (nip' (((), (), (), y3.1.1, (0 : Int), ()), ((b_Floors, b_Debounce, b_Room, b_Park, b_Empty, b_Full, b_Over, b_Cars, ()), (([] : List (Int)), ([] : List (Bool)), ([] : List (Bool)), ([] : List (Entry)), ()), y1.2.1, ()))).bind fun y4 =>
 some (((), ()), (y4.2.2.1, ()))
noncomputable def nht' (room : Int) (s_Halves_0 s_Halves_1 : ByteArray) (s_Select half budget : Int) : Option ((Int × Unit) × Unit) :=
 (nfl' room s_Halves_0 s_Halves_1 s_Select).bind fun y1 =>
 bif (!y1.1.1) then
 some (((1 : Int), ()), ())
 else
 Option.bind (bif (half != (0 : Int)) then
 bif (half != (1 : Int)) then
 some ((true, ()), ())
 else
 some (((decide (budget < (0 : Int))), ()), ())
 else
 some (((decide (budget < (0 : Int))), ()), ())) fun y2 =>
 bif y2.1.1 then
 some (((2 : Int), ()), ())
 else
 some (((0 : Int), ()), ())
noncomputable def nlc' (room : Int) (s_Halves_0 s_Halves_1 : ByteArray) (s_Select half budget : Int) : Option ((Unit × Int × Int × Unit) × (T'24 × Unit)) :=
 (nht' room s_Halves_0 s_Halves_1 s_Select half budget).bind fun y1 =>
 bif (y1.1.1 != (0 : Int)) then
 some (((), (0 : Int), y1.1.1, ()), (((ByteArray.mk (Array.mk [])), (ByteArray.mk (Array.mk [])), (0 : Int), ()), ()))
 else
 bif (budget == (0 : Int)) then
 some (((), (0 : Int), (8 : Int), ()), ((s_Halves_0, s_Halves_1, s_Select, ()), ()))
 else
 bif (inB half 2) then
 let z0 : Nat := (Int.toNat half)
 some (((), (IntKind.i64.wrap (budget - (1 : Int))), (0 : Int), ()), (((bif (Nat.beq z0 0) then (ByteArray.mk (Array.mk [])) else s_Halves_0), (bif (Nat.beq z0 1) then (ByteArray.mk (Array.mk [])) else s_Halves_1), s_Select, ()), ()))
 else
 none
noncomputable def ncs' (half : Int) (data : ByteArray) (budget i : Int) (s_Halves_0 s_Halves_1 : ByteArray) (s_Select : Int) (b10_Halves_0 b10_Halves_1 : ByteArray) (b10_Select : Int) : Option (Sum (T'69 × (T'24 × T'24 × Unit)) ((T'70 × (T'24 × T'24 × Unit)) ⊕ ((Unit × Int × Int × Unit) × (T'24 × Unit)))) :=
 bif (decide (i < ((ByteArray.size data : Nat) : Int))) then
 bif (budget == (0 : Int)) then
 some (Sum.inr (Sum.inr (((), (0 : Int), (8 : Int), ()), ((s_Halves_0, s_Halves_1, s_Select, ()), ()))))
 else
 bif (inB half 2) then
 let z0 : ByteArray := (List.getD [s_Halves_0, s_Halves_1] (Int.toNat half) (ByteArray.mk (Array.mk [])))
 let z1 : Int := (IntKind.i64.wrap (i + (1 : Int)))
 bif ((decide ((0 : Int) ≤ z1)) && (decide (z1 ≤ (((ByteArray.size data) : Nat) : Int)))) then
 bif ((decide ((0 : Int) ≤ i)) && (decide (i ≤ (((Int.toNat z1) : Nat) : Int)))) then
 let z2 : ByteArray := (ByteArray.extract data (Int.toNat i) (Int.toNat z1))
 bif (Nat.ble ((ByteArray.size z0) + (ByteArray.size z2)) 4611686018427387904) then
 let z3 : ByteArray := (z0 ++ z2)
 bif (inB half 2) then
 let z4 : Nat := (Int.toNat half)
 some (Sum.inl ((half, data, (IntKind.i64.wrap (budget - (1 : Int))), (), (), (IntKind.i64.wrap (i + (1 : Int))), ()), (((bif (Nat.beq z4 0) then z3 else s_Halves_0), (bif (Nat.beq z4 1) then z3 else s_Halves_1), s_Select, ()), (b10_Halves_0, b10_Halves_1, b10_Select, ()), ())))
 else
 none
 else
 none
 else
 none
 else
 none
 else
 none
 else
 some (Sum.inr (Sum.inl ((budget, (), (), ()), ((s_Halves_0, s_Halves_1, s_Select, ()), (b10_Halves_0, b10_Halves_1, b10_Select, ()), ()))))
noncomputable def nhg' : (T'69 × (T'24 × T'24 × Unit)) → Option ((T'70 × (T'24 × T'24 × Unit)) ⊕ ((Unit × Int × Int × Unit) × (T'24 × Unit))) := iter (fun x => ncs' x.1.1 x.1.2.1 x.1.2.2.1 x.1.2.2.2.2.2.1 x.2.1.1 x.2.1.2.1 x.2.1.2.2.1 x.2.2.1.1 x.2.2.1.2.1 x.2.2.1.2.2.1) fuel
noncomputable def nlj' (room : Int) (s_Halves_0 s_Halves_1 : ByteArray) (s_Select half : Int) (data : ByteArray) (budget : Int) : Option ((Unit × Int × Int × Unit) × (T'24 × Unit)) :=
 (nht' room s_Halves_0 s_Halves_1 s_Select half budget).bind fun y1 =>
 bif (y1.1.1 != (0 : Int)) then
 some (((), (0 : Int), y1.1.1, ()), (((ByteArray.mk (Array.mk [])), (ByteArray.mk (Array.mk [])), (0 : Int), ()), ()))
 else
 bif (inB half 2) then
 bif (decide (room < (IntKind.i64.wrap (((ByteArray.size (List.getD [s_Halves_0, s_Halves_1] (Int.toNat half) (ByteArray.mk (Array.mk []))) : Nat) : Int) + ((ByteArray.size data : Nat) : Int))))) then
 some (((), (0 : Int), (7 : Int), ()), (((ByteArray.mk (Array.mk [])), (ByteArray.mk (Array.mk [])), (0 : Int), ()), ()))
 else
 (nhg' ((half, data, budget, (), (), (0 : Int), ()), ((s_Halves_0, s_Halves_1, s_Select, ()), ((ByteArray.mk (Array.mk [])), (ByteArray.mk (Array.mk [])), (0 : Int), ()), ()))).bind fun y2 =>
 (match y2 with
 | .inl y3 =>
 some (((), y3.1.1, (0 : Int), ()), (y3.2.1, ()))
 | .inr y3 =>
 some (((), y3.1.2.1, y3.1.2.2.1, ()), (y3.2.1, ())))
 else
 none
noncomputable def nj4' (room : Int) (s_Halves_0 s_Halves_1 : ByteArray) (s_Select half budget : Int) : Option ((Unit × Int × Int × Unit) × (T'24 × Unit)) :=
 (nht' room s_Halves_0 s_Halves_1 s_Select half budget).bind fun y1 =>
 bif (y1.1.1 != (0 : Int)) then
 some (((), (0 : Int), y1.1.1, ()), (((ByteArray.mk (Array.mk [])), (ByteArray.mk (Array.mk [])), (0 : Int), ()), ()))
 else
 bif (budget == (0 : Int)) then
 some (((), (0 : Int), (8 : Int), ()), ((s_Halves_0, s_Halves_1, s_Select, ()), ()))
 else
 some (((), (IntKind.i64.wrap (budget - (1 : Int))), (0 : Int), ()), ((s_Halves_0, s_Halves_1, half, ()), ()))
noncomputable def njh' (b_Floors b_Debounce b_Room b_Park : Int) (b_Empty b_Full b_Over : Nat) (b_Cars : List (Car)) (s_Halves_0 s_Halves_1 : ByteArray) (s_Select : Int) (m_Phases : List (Int)) (m_Flags m_Leaving : List (Bool)) (m_Entries : List (Entry)) (budget : Int) : Option ((Unit × Int × Int × Unit) × (T'24 × Unit)) :=
 (nm2' b_Floors b_Debounce b_Room b_Park b_Empty b_Full b_Over b_Cars s_Halves_0 s_Halves_1 s_Select budget).bind fun y1 =>
 bif (!y1.1.1) then
 some (((), (0 : Int), (1 : Int), ()), (((ByteArray.mk (Array.mk [])), (ByteArray.mk (Array.mk [])), (0 : Int), ()), ()))
 else
 (neu' b_Floors b_Debounce b_Room b_Park b_Empty b_Full b_Over b_Cars m_Phases m_Flags m_Leaving m_Entries).bind fun y2 =>
 bif (!y2.1.1) then
 some (((), (0 : Int), (1 : Int), ()), (((ByteArray.mk (Array.mk [])), (ByteArray.mk (Array.mk [])), (0 : Int), ()), ()))
 else
 let z0 : Int := (IntKind.i64.wrap ((1 : Int) - s_Select))
 (nlc' b_Room s_Halves_0 s_Halves_1 s_Select z0 budget).bind fun y3 =>
 bif (y3.1.2.2.1 != (0 : Int)) then
 some (((), (0 : Int), y3.1.2.2.1, ()), (y3.2.1, ()))
 else
 (ne2' b_Floors b_Debounce b_Room b_Park b_Empty b_Full b_Over b_Cars m_Phases m_Flags m_Leaving m_Entries).bind fun y4 =>
 (nhr' b_Floors b_Debounce b_Room b_Park b_Empty b_Full b_Over b_Cars y4.1.1).bind fun y5 =>
 (nlj' b_Room y3.2.1.1 y3.2.1.2.1 y3.2.1.2.2.1 z0 y5.1.1 y3.1.2.1).bind fun y6 =>
 bif (y6.1.2.2.1 != (0 : Int)) then
 some (((), (0 : Int), y6.1.2.2.1, ()), (y6.2.1, ()))
 else
 (nj4' b_Room y6.2.1.1 y6.2.1.2.1 y6.2.1.2.2.1 z0 y6.1.2.1).bind fun y7 =>
 some (((), y7.1.2.1, y7.1.2.2.1, ()), (y7.2.1, ()))
noncomputable def njj' (b_Floors b_Debounce b_Room b_Park : Int) (b_Empty b_Full b_Over : Nat) (b_Cars : List (Car)) (s_Halves_0 s_Halves_1 : ByteArray) (s_Select budget : Int) : Option (T'19 × (T'24 × T'4 × Unit)) :=
 (nm2' b_Floors b_Debounce b_Room b_Park b_Empty b_Full b_Over b_Cars s_Halves_0 s_Halves_1 s_Select budget).bind fun y1 =>
 bif (!y1.1.1) then
 some (((), (), (0 : Int), (1 : Int), ()), (((ByteArray.mk (Array.mk [])), (ByteArray.mk (Array.mk [])), (0 : Int), ()), (([] : List (Int)), ([] : List (Bool)), ([] : List (Bool)), ([] : List (Entry)), ()), ()))
 else
 (nkn' b_Floors b_Debounce b_Room b_Park b_Empty b_Full b_Over b_Cars s_Halves_0 s_Halves_1 s_Select).bind fun y2 =>
 (njh' b_Floors b_Debounce b_Room b_Park b_Empty b_Full b_Over b_Cars s_Halves_0 s_Halves_1 s_Select y2.2.1.1 y2.2.1.2.1 y2.2.1.2.2.1 y2.2.1.2.2.2.1 budget).bind fun y3 =>
 bif (y3.1.2.2.1 != (0 : Int)) then
 some (((), (), (0 : Int), y3.1.2.2.1, ()), (y3.2.1, (([] : List (Int)), ([] : List (Bool)), ([] : List (Bool)), ([] : List (Entry)), ()), ()))
 else
 some (((), (), y3.1.2.1, (0 : Int), ()), (y3.2.1, y2.2.1, ()))
noncomputable def ng4' (b_Floors b_Debounce b_Room b_Park : Int) (b_Empty b_Full b_Over : Nat) (b_Cars : List (Car)) (s_Halves_0 s_Halves_1 : ByteArray) (s_Select budget : Int) : Option ((Unit × Int × Int × Unit) × (T'30 × Unit)) :=
 (njj' b_Floors b_Debounce b_Room b_Park b_Empty b_Full b_Over b_Cars s_Halves_0 s_Halves_1 s_Select budget).bind fun y1 =>
 bif (y1.1.2.2.2.1 != (0 : Int)) then
 some (((), (0 : Int), y1.1.2.2.2.1, ()), ((([] : List (Int)), ([] : List (Bool)), ([] : List (Bool)), ([] : List (Entry)), y1.2.1.1, y1.2.1.2.1, y1.2.1.2.2.1, ([] : List (Debounced)), ([] : List (Belief)), ([] : List (NewCar)), ([] : List (Loaded)), ([] : List (Int)), ([] : List (Calls)), (0 : Int), (0 : Int), (0 : Int), ()), ()))
 else
 Option.bind (some (((), (), (), (), y1.1.2.2.1, ()), ((b_Floors, b_Debounce, b_Room, b_Park, b_Empty, b_Full, b_Over, b_Cars, ()), (([] : List (Int)), ([] : List (Bool)), ([] : List (Bool)), ([] : List (Entry)), (ByteArray.mk (Array.mk [])), (ByteArray.mk (Array.mk [])), (0 : Int), ([] : List (Debounced)), ([] : List (Belief)), ([] : List (NewCar)), ([] : List (Loaded)), ([] : List (Int)), ([] : List (Calls)), (0 : Int), (0 : Int), (0 : Int), ()), y1.2.1, y1.2.2.1, ()))) fun y2 =>
 (nf6' y2.2.1.1 y2.2.1.2.1 y2.2.1.2.2.1 y2.2.1.2.2.2.1 y2.2.1.2.2.2.2.1 y2.2.1.2.2.2.2.2.1 y2.2.1.2.2.2.2.2.2.1 y2.2.1.2.2.2.2.2.2.2.1 y2.2.2.2.2.1.1 y2.2.2.2.2.1.2.1 y2.2.2.2.2.1.2.2.1 y2.2.2.2.2.1.2.2.2.1 y2.2.2.2.1.1 y2.2.2.2.1.2.1 y2.2.2.2.1.2.2.1).bind fun y3 =>
 bif (y3.1.2.1 != (0 : Int)) then
 some (((), (0 : Int), y3.1.2.1, ()), ((([] : List (Int)), ([] : List (Bool)), ([] : List (Bool)), ([] : List (Entry)), (ByteArray.mk (Array.mk [])), (ByteArray.mk (Array.mk [])), (0 : Int), ([] : List (Debounced)), ([] : List (Belief)), ([] : List (NewCar)), ([] : List (Loaded)), ([] : List (Int)), ([] : List (Calls)), (0 : Int), (0 : Int), (0 : Int), ()), ()))
 else
 some (((), y2.1.2.2.2.2.1, (0 : Int), ()), (y3.2.1, ()))
noncomputable def niy' (b_Floors b_Debounce b_Room b_Park : Int) (b_Empty b_Full b_Over : Nat) (b_Cars : List (Car)) : Option ((Unit × Int × Unit) × (T'30 × Unit)) :=
 (ng4' b_Floors b_Debounce b_Room b_Park b_Empty b_Full b_Over b_Cars (ByteArray.mk (Array.mk [])) (ByteArray.mk (Array.mk [])) (0 : Int) (1048576 : Int)).bind fun y1 =>
 some (((), y1.1.2.2.1, ()), (y1.2.1, ()))
noncomputable def nc8' (s86 : List (Store)) (s87 s88 : Int) (s128 : List (Int)) (s129 s130 n_f0 n_f1 n_f2 b_Floors b_Debounce b_Room b_Park : Int) (b_Empty b_Full b_Over : Nat) (b_Cars : List (Car)) (m_Phases : List (Int)) (m_Flags m_Leaving : List (Bool)) (m_Entries : List (Entry)) (t_Halves_0 t_Halves_1 : ByteArray) (t_Select : Int) (x_Halves_0 x_Halves_1 : ByteArray) (x_Select : Int) : Option (Sum (T'73 × T'74) ((T'71 × T'72) ⊕ ((Bool × Unit) × Unit))) :=
 bif (decide (s130 < s129)) then
 bif (inB s130 (List.length s128)) then
 let z0 : Int := (List.getD s128 (Int.toNat s130) (0 : Int))
 (nct' b_Floors b_Debounce b_Room b_Park b_Empty b_Full b_Over b_Cars x_Halves_0 x_Halves_1 x_Select z0).bind fun y1 =>
 (ng4' b_Floors b_Debounce b_Room b_Park b_Empty b_Full b_Over b_Cars x_Halves_0 x_Halves_1 x_Select z0).bind fun y2 =>
 bif (y1.1.2.1 != y2.1.2.1) then
 some (Sum.inr (Sum.inr ((false, ()), ())))
 else
 bif (y1.1.2.2.1 != y2.1.2.2.1) then
 some (Sum.inr (Sum.inr ((false, ()), ())))
 else
 (nej' y1.2.1.1 y1.2.1.2.1 y1.2.1.2.2.1 y1.2.1.2.2.2.1 y1.2.1.2.2.2.2.1 y1.2.1.2.2.2.2.2.1 y1.2.1.2.2.2.2.2.2.1 y1.2.1.2.2.2.2.2.2.2.1 y1.2.1.2.2.2.2.2.2.2.2.1 y1.2.1.2.2.2.2.2.2.2.2.2.1 y1.2.1.2.2.2.2.2.2.2.2.2.2.1 y1.2.1.2.2.2.2.2.2.2.2.2.2.2.1 y1.2.1.2.2.2.2.2.2.2.2.2.2.2.2.1 y1.2.1.2.2.2.2.2.2.2.2.2.2.2.2.2.1 y1.2.1.2.2.2.2.2.2.2.2.2.2.2.2.2.2.1 y1.2.1.2.2.2.2.2.2.2.2.2.2.2.2.2.2.2.1 y2.2.1.1 y2.2.1.2.1 y2.2.1.2.2.1 y2.2.1.2.2.2.1 y2.2.1.2.2.2.2.1 y2.2.1.2.2.2.2.2.1 y2.2.1.2.2.2.2.2.2.1 y2.2.1.2.2.2.2.2.2.2.1 y2.2.1.2.2.2.2.2.2.2.2.1 y2.2.1.2.2.2.2.2.2.2.2.2.1 y2.2.1.2.2.2.2.2.2.2.2.2.2.1 y2.2.1.2.2.2.2.2.2.2.2.2.2.2.1 y2.2.1.2.2.2.2.2.2.2.2.2.2.2.2.1 y2.2.1.2.2.2.2.2.2.2.2.2.2.2.2.2.1 y2.2.1.2.2.2.2.2.2.2.2.2.2.2.2.2.2.1 y2.2.1.2.2.2.2.2.2.2.2.2.2.2.2.2.2.2.1).bind fun y3 =>
 bif (!y3.1.1) then
 some (Sum.inr (Sum.inr ((false, ()), ())))
 else
 some (Sum.inl (((), (), (), (), (), s86, s87, s88, s128, s129, (IntKind.i64.wrap (s130 + (1 : Int))), ()), ((n_f0, n_f1, n_f2, ()), (b_Floors, b_Debounce, b_Room, b_Park, b_Empty, b_Full, b_Over, b_Cars, ()), (m_Phases, m_Flags, m_Leaving, m_Entries, ()), (t_Halves_0, t_Halves_1, t_Select, ()), (x_Halves_0, x_Halves_1, x_Select, ()), ())))
 else
 none
 else
 some (Sum.inr (Sum.inl (((), (), (), (), s86, s87, s88, ()), ((n_f0, n_f1, n_f2, ()), (b_Floors, b_Debounce, b_Room, b_Park, b_Empty, b_Full, b_Over, b_Cars, ()), (m_Phases, m_Flags, m_Leaving, m_Entries, ()), (t_Halves_0, t_Halves_1, t_Select, ()), ()))))
noncomputable def nc6' : (T'73 × T'74) → Option ((T'71 × T'72) ⊕ ((Bool × Unit) × Unit)) := iter (fun x => nc8' x.1.2.2.2.2.2.1 x.1.2.2.2.2.2.2.1 x.1.2.2.2.2.2.2.2.1 x.1.2.2.2.2.2.2.2.2.1 x.1.2.2.2.2.2.2.2.2.2.1 x.1.2.2.2.2.2.2.2.2.2.2.1 x.2.1.1 x.2.1.2.1 x.2.1.2.2.1 x.2.2.1.1 x.2.2.1.2.1 x.2.2.1.2.2.1 x.2.2.1.2.2.2.1 x.2.2.1.2.2.2.2.1 x.2.2.1.2.2.2.2.2.1 x.2.2.1.2.2.2.2.2.2.1 x.2.2.1.2.2.2.2.2.2.2.1 x.2.2.2.1.1 x.2.2.2.1.2.1 x.2.2.2.1.2.2.1 x.2.2.2.1.2.2.2.1 x.2.2.2.2.1.1 x.2.2.2.2.1.2.1 x.2.2.2.2.1.2.2.1 x.2.2.2.2.2.1.1 x.2.2.2.2.2.1.2.1 x.2.2.2.2.2.1.2.2.1) fuel
noncomputable def nc7' (s86 : List (Store)) (s87 s88 n_f0 n_f1 n_f2 b_Floors b_Debounce b_Room b_Park : Int) (b_Empty b_Full b_Over : Nat) (b_Cars : List (Car)) (m_Phases : List (Int)) (m_Flags m_Leaving : List (Bool)) (m_Entries : List (Entry)) (t_Halves_0 t_Halves_1 : ByteArray) (t_Select : Int) : Option (Sum (T'71 × T'72) (((Unit × Unit × Unit) × (T'0 × T'24 × Unit)) ⊕ ((Bool × Unit) × Unit))) :=
 bif (decide (s88 < s87)) then
 bif (inB s88 (List.length s86)) then
 let z0 : Store := (List.getD s86 (Int.toNat s88) (Store.mk (ByteArray.mk (Array.mk [])) (ByteArray.mk (Array.mk [])) (0 : Int)))
 (ncp' b_Floors b_Debounce b_Room b_Park b_Empty b_Full b_Over b_Cars m_Phases m_Flags m_Leaving m_Entries z0.Halves_0 z0.Halves_1 z0.Select).bind fun y1 =>
 (nf6' b_Floors b_Debounce b_Room b_Park b_Empty b_Full b_Over b_Cars m_Phases m_Flags m_Leaving m_Entries z0.Halves_0 z0.Halves_1 z0.Select).bind fun y2 =>
 Option.bind (bif (y1.1.2.1 != y2.1.2.1) then
 some (((), (), (), (), (), s86, s87, s88, true, ()), ((n_f0, n_f1, n_f2, ()), (b_Floors, b_Debounce, b_Room, b_Park, b_Empty, b_Full, b_Over, b_Cars, ()), (m_Phases, m_Flags, m_Leaving, m_Entries, ()), (t_Halves_0, t_Halves_1, t_Select, ()), (z0.Halves_0, z0.Halves_1, z0.Select, ()), ()))
 else
 (nej' y1.2.1.1 y1.2.1.2.1 y1.2.1.2.2.1 y1.2.1.2.2.2.1 y1.2.1.2.2.2.2.1 y1.2.1.2.2.2.2.2.1 y1.2.1.2.2.2.2.2.2.1 y1.2.1.2.2.2.2.2.2.2.1 y1.2.1.2.2.2.2.2.2.2.2.1 y1.2.1.2.2.2.2.2.2.2.2.2.1 y1.2.1.2.2.2.2.2.2.2.2.2.2.1 y1.2.1.2.2.2.2.2.2.2.2.2.2.2.1 y1.2.1.2.2.2.2.2.2.2.2.2.2.2.2.1 y1.2.1.2.2.2.2.2.2.2.2.2.2.2.2.2.1 y1.2.1.2.2.2.2.2.2.2.2.2.2.2.2.2.2.1 y1.2.1.2.2.2.2.2.2.2.2.2.2.2.2.2.2.2.1 y2.2.1.1 y2.2.1.2.1 y2.2.1.2.2.1 y2.2.1.2.2.2.1 y2.2.1.2.2.2.2.1 y2.2.1.2.2.2.2.2.1 y2.2.1.2.2.2.2.2.2.1 y2.2.1.2.2.2.2.2.2.2.1 y2.2.1.2.2.2.2.2.2.2.2.1 y2.2.1.2.2.2.2.2.2.2.2.2.1 y2.2.1.2.2.2.2.2.2.2.2.2.2.1 y2.2.1.2.2.2.2.2.2.2.2.2.2.2.1 y2.2.1.2.2.2.2.2.2.2.2.2.2.2.2.1 y2.2.1.2.2.2.2.2.2.2.2.2.2.2.2.2.1 y2.2.1.2.2.2.2.2.2.2.2.2.2.2.2.2.2.1 y2.2.1.2.2.2.2.2.2.2.2.2.2.2.2.2.2.2.1).bind fun y3 =>
 bif (!y3.1.1) then
 some (((), (), (), (), (), s86, s87, s88, true, ()), ((n_f0, n_f1, n_f2, ()), (b_Floors, b_Debounce, b_Room, b_Park, b_Empty, b_Full, b_Over, b_Cars, ()), (m_Phases, m_Flags, m_Leaving, m_Entries, ()), (t_Halves_0, t_Halves_1, t_Select, ()), (z0.Halves_0, z0.Halves_1, z0.Select, ()), ()))
 else
 bif (y2.1.2.1 == (0 : Int)) then
 (nd3' b_Floors b_Debounce b_Room b_Park b_Empty b_Full b_Over b_Cars y1.2.1.1 y1.2.1.2.1 y1.2.1.2.2.1 y1.2.1.2.2.2.1 y1.2.1.2.2.2.2.1 y1.2.1.2.2.2.2.2.1 y1.2.1.2.2.2.2.2.2.1 y1.2.1.2.2.2.2.2.2.2.1 y1.2.1.2.2.2.2.2.2.2.2.1 y1.2.1.2.2.2.2.2.2.2.2.2.1 y1.2.1.2.2.2.2.2.2.2.2.2.2.1 y1.2.1.2.2.2.2.2.2.2.2.2.2.2.1 y1.2.1.2.2.2.2.2.2.2.2.2.2.2.2.1 y1.2.1.2.2.2.2.2.2.2.2.2.2.2.2.2.1 y1.2.1.2.2.2.2.2.2.2.2.2.2.2.2.2.2.1 y1.2.1.2.2.2.2.2.2.2.2.2.2.2.2.2.2.2.1).bind fun y4 =>
 some (((), (), (), (), (), s86, s87, s88, (!y4.1.1), ()), ((n_f0, n_f1, n_f2, ()), (b_Floors, b_Debounce, b_Room, b_Park, b_Empty, b_Full, b_Over, b_Cars, ()), (m_Phases, m_Flags, m_Leaving, m_Entries, ()), (t_Halves_0, t_Halves_1, t_Select, ()), (z0.Halves_0, z0.Halves_1, z0.Select, ()), ()))
 else
 some (((), (), (), (), (), s86, s87, s88, false, ()), ((n_f0, n_f1, n_f2, ()), (b_Floors, b_Debounce, b_Room, b_Park, b_Empty, b_Full, b_Over, b_Cars, ()), (m_Phases, m_Flags, m_Leaving, m_Entries, ()), (t_Halves_0, t_Halves_1, t_Select, ()), (z0.Halves_0, z0.Halves_1, z0.Select, ()), ()))) fun y5 =>
 bif y5.1.2.2.2.2.2.2.2.2.1 then
 some (Sum.inr (Sum.inr ((false, ()), ())))
 else
 let z1 : List (Int) := [(-1 : Int), (IntKind.i64.wrap y5.2.1.2.2.1), (5000 : Int)]
 (nc6' (((), (), (), (), (), y5.1.2.2.2.2.2.1, y5.1.2.2.2.2.2.2.1, y5.1.2.2.2.2.2.2.2.1, z1, ((List.length z1 : Nat) : Int), (0 : Int), ()), (y5.2.1, y5.2.2.1, y5.2.2.2.1, y5.2.2.2.2.1, y5.2.2.2.2.2.1, ()))).bind fun y6 =>
 (match y6 with
 | .inl y7 =>
 some (Sum.inl (((), (), (), (), y7.1.2.2.2.2.1, y7.1.2.2.2.2.2.1, (IntKind.i64.wrap (y7.1.2.2.2.2.2.2.1 + (1 : Int))), ()), (y7.2.1, y7.2.2.1, y7.2.2.2.1, y7.2.2.2.2.1, ())))
 | .inr y7 =>
 some (Sum.inr (Sum.inr ((y7.1.1, ()), ()))))
 else
 none
 else
 some (Sum.inr (Sum.inl (((), (), ()), ((b_Floors, b_Debounce, b_Room, b_Park, b_Empty, b_Full, b_Over, b_Cars, ()), (t_Halves_0, t_Halves_1, t_Select, ()), ()))))
noncomputable def ndu' : (T'71 × T'72) → Option (((Unit × Unit × Unit) × (T'0 × T'24 × Unit)) ⊕ ((Bool × Unit) × Unit)) := iter (fun x => nc7' x.1.2.2.2.2.1 x.1.2.2.2.2.2.1 x.1.2.2.2.2.2.2.1 x.2.1.1 x.2.1.2.1 x.2.1.2.2.1 x.2.2.1.1 x.2.2.1.2.1 x.2.2.1.2.2.1 x.2.2.1.2.2.2.1 x.2.2.1.2.2.2.2.1 x.2.2.1.2.2.2.2.2.1 x.2.2.1.2.2.2.2.2.2.1 x.2.2.1.2.2.2.2.2.2.2.1 x.2.2.2.1.1 x.2.2.2.1.2.1 x.2.2.2.1.2.2.1 x.2.2.2.1.2.2.2.1 x.2.2.2.2.1.1 x.2.2.2.2.1.2.1 x.2.2.2.2.1.2.2.1) fuel
noncomputable def F_l26_RestartBoots (n_f0 n_f1 n_f2 : Int) (l : List (Int)) (s_Halves_0 s_Halves_1 : ByteArray) (s_Select : Int) : Option ((Bool × Unit) × Unit) :=
 bif (decide ((500 : Int) < ((ByteArray.size s_Halves_0 : Nat) : Int))) then
 (nez').bind fun y1 =>
 some ((y1.1.1, ()), ())
 else
 bif (decide ((500 : Int) < ((ByteArray.size s_Halves_1 : Nat) : Int))) then
 (nez').bind fun y2 =>
 some ((y2.1.1, ()), ())
 else
 (nc5' n_f0 n_f1).bind fun y3 =>
 (nix' y3.2.1.1 y3.2.1.2.1 y3.2.1.2.2.1 y3.2.1.2.2.2.1 y3.2.1.2.2.2.2.1 y3.2.1.2.2.2.2.2.1 y3.2.1.2.2.2.2.2.2.1 y3.2.1.2.2.2.2.2.2.2.1 l).bind fun y4 =>
 (ne2' y3.2.1.1 y3.2.1.2.1 y3.2.1.2.2.1 y3.2.1.2.2.2.1 y3.2.1.2.2.2.2.1 y3.2.1.2.2.2.2.2.1 y3.2.1.2.2.2.2.2.2.1 y3.2.1.2.2.2.2.2.2.2.1 y4.2.1.1 y4.2.1.2.1 y4.2.1.2.2.1 y4.2.1.2.2.2.1).bind fun y5 =>
 (nhr' y3.2.1.1 y3.2.1.2.1 y3.2.1.2.2.1 y3.2.1.2.2.2.1 y3.2.1.2.2.2.2.1 y3.2.1.2.2.2.2.2.1 y3.2.1.2.2.2.2.2.2.1 y3.2.1.2.2.2.2.2.2.2.1 y5.1.1).bind fun y6 =>
 let z0 : Int := ((ByteArray.size s_Halves_0 : Nat) : Int)
 let z1 : Int := (bif (decide (y3.2.1.2.2.1 < z0)) then y3.2.1.2.2.1 else z0)
 bif ((decide ((0 : Int) ≤ z1)) && (decide (z1 ≤ (((ByteArray.size s_Halves_0) : Nat) : Int)))) then
 let z2 : ByteArray := (ByteArray.extract s_Halves_0 0 (Int.toNat z1))
 let z3 : Int := ((ByteArray.size y6.1.1 : Nat) : Int)
 let z4 : Int := (bif (decide (y3.2.1.2.2.1 < z3)) then y3.2.1.2.2.1 else z3)
 bif ((decide ((0 : Int) ≤ z4)) && (decide (z4 ≤ (((ByteArray.size y6.1.1) : Nat) : Int)))) then
 let z5 : ByteArray := (ByteArray.extract y6.1.1 0 (Int.toNat z4))
 let z6 : List (Store) := [(Store.mk s_Halves_0 s_Halves_1 s_Select), (Store.mk z2 z5 (1 : Int)), (Store.mk z5 (ByteArray.mk (Array.mk [])) (0 : Int))]
 (ndu' (((), (), (), (), z6, ((List.length z6 : Nat) : Int), (0 : Int), ()), ((n_f0, n_f1, n_f2, ()), y3.2.1, y4.2.1, (z2, z5, (1 : Int), ()), ()))).bind fun y7 =>
 (match y7 with
 | .inl y8 =>
 (nck' y8.2.1.1 y8.2.1.2.1 y8.2.1.2.2.1 y8.2.1.2.2.2.1 y8.2.1.2.2.2.2.1 y8.2.1.2.2.2.2.2.1 y8.2.1.2.2.2.2.2.2.1 y8.2.1.2.2.2.2.2.2.2.1).bind fun y9 =>
 (niy' y8.2.1.1 y8.2.1.2.1 y8.2.1.2.2.1 y8.2.1.2.2.2.1 y8.2.1.2.2.2.2.1 y8.2.1.2.2.2.2.2.1 y8.2.1.2.2.2.2.2.2.1 y8.2.1.2.2.2.2.2.2.2.1).bind fun y10 =>
 (nck' (0 : Int) (0 : Int) (0 : Int) (0 : Int) 0 0 0 []).bind fun y11 =>
 (ncp' y8.2.1.1 y8.2.1.2.1 y8.2.1.2.2.1 y8.2.1.2.2.2.1 y8.2.1.2.2.2.2.1 y8.2.1.2.2.2.2.2.1 y8.2.1.2.2.2.2.2.2.1 y8.2.1.2.2.2.2.2.2.2.1 [] [] [] [] y8.2.2.1.1 y8.2.2.1.2.1 y8.2.2.1.2.2.1).bind fun y12 =>
 Option.bind (bif (y9.1.2.1 == y10.1.2.1) then
 (nej' y9.2.1.1 y9.2.1.2.1 y9.2.1.2.2.1 y9.2.1.2.2.2.1 y9.2.1.2.2.2.2.1 y9.2.1.2.2.2.2.2.1 y9.2.1.2.2.2.2.2.2.1 y9.2.1.2.2.2.2.2.2.2.1 y9.2.1.2.2.2.2.2.2.2.2.1 y9.2.1.2.2.2.2.2.2.2.2.2.1 y9.2.1.2.2.2.2.2.2.2.2.2.2.1 y9.2.1.2.2.2.2.2.2.2.2.2.2.2.1 y9.2.1.2.2.2.2.2.2.2.2.2.2.2.2.1 y9.2.1.2.2.2.2.2.2.2.2.2.2.2.2.2.1 y9.2.1.2.2.2.2.2.2.2.2.2.2.2.2.2.2.1 y9.2.1.2.2.2.2.2.2.2.2.2.2.2.2.2.2.2.1 y10.2.1.1 y10.2.1.2.1 y10.2.1.2.2.1 y10.2.1.2.2.2.1 y10.2.1.2.2.2.2.1 y10.2.1.2.2.2.2.2.1 y10.2.1.2.2.2.2.2.2.1 y10.2.1.2.2.2.2.2.2.2.1 y10.2.1.2.2.2.2.2.2.2.2.1 y10.2.1.2.2.2.2.2.2.2.2.2.1 y10.2.1.2.2.2.2.2.2.2.2.2.2.1 y10.2.1.2.2.2.2.2.2.2.2.2.2.2.1 y10.2.1.2.2.2.2.2.2.2.2.2.2.2.2.1 y10.2.1.2.2.2.2.2.2.2.2.2.2.2.2.2.1 y10.2.1.2.2.2.2.2.2.2.2.2.2.2.2.2.2.1 y10.2.1.2.2.2.2.2.2.2.2.2.2.2.2.2.2.2.1).bind fun y13 =>
 bif y13.1.1 then
 bif (y11.1.2.1 == (1 : Int)) then
 bif (y12.1.2.1 == (1 : Int)) then
 (nez').bind fun y14 =>
 some ((y14.1.1, ()), ())
 else
 some ((false, ()), ())
 else
 some ((false, ()), ())
 else
 some ((false, ()), ())
 else
 some ((false, ()), ())) fun y15 =>
 some ((y15.1.1, ()), ())
 | .inr y8 =>
 some ((y8.1.1, ()), ()))
 else
 none
 else
 none
end Go.Ovl
