/- What each function of the program comes to: part 1. -/
import Derived.Test.YthdomhdippmaiaaTy
namespace Go.Ovl
open Go Go.Ab
set_option maxRecDepth 100000
/-! ### overlay/overlaylaw01.Sample -/
noncomputable def R_l01_Sample_0 (floors : Int) (cars : Int) (i : Int) (b4_Floors : Int) (b4_Debounce : Int) (b4_Room : Int) (b4_Park : Int) (b4_Empty : Nat) (b4_Full : Nat) (b4_Over : Nat) (b4_Cars : List (Car)) (b_Floors : Int) (b_Debounce : Int) (b_Room : Int) (b_Park : Int) (b_Empty : Nat) (b_Full : Nat) (b_Over : Nat) (b_Cars : List (Car)) : Option (Sum ((Int × Int × Unit × Unit × Int × Unit) × ((Int × Int × Int × Int × Nat × Nat × Nat × List (Car) × Unit) × (Int × Int × Int × Int × Nat × Nat × Nat × List (Car) × Unit) × Unit)) ((Unit × Unit × Unit) × ((Int × Int × Int × Int × Nat × Nat × Nat × List (Car) × Unit) × (Int × Int × Int × Int × Nat × Nat × Nat × List (Car) × Unit) × Unit))) :=
  bif (decide (i < cars)) then
    bif (floors != (0 : Int)) then
      let z0 : List (Car) := [(Car.mk (100 : Int) (2 : Int) (6 : Int) (5 : Int) (4 : Int) (2 : Int) (3 : Int) (10 : Int) (Int.tmod i floors))]
      bif (Nat.ble ((List.length b_Cars) + (List.length z0)) 2147483648) then
        some (Sum.inl ((floors, cars, (), (), (Go.IntKind.wrap Go.IntKind.i64 (i + (1 : Int))), ()), ((b4_Floors, b4_Debounce, b4_Room, b4_Park, b4_Empty, b4_Full, b4_Over, b4_Cars, ()), (b_Floors, b_Debounce, b_Room, b_Park, b_Empty, b_Full, b_Over, (b_Cars ++ z0), ()), ())))
      else
        none
    else
      none
  else
    some (Sum.inr (((), (), ()), ((b4_Floors, b4_Debounce, b4_Room, b4_Park, b4_Empty, b4_Full, b4_Over, b4_Cars, ()), (b_Floors, b_Debounce, b_Room, b_Park, b_Empty, b_Full, b_Over, b_Cars, ()), ())))
noncomputable def L_l01_Sample_0 : ((Int × Int × Unit × Unit × Int × Unit) × ((Int × Int × Int × Int × Nat × Nat × Nat × List (Car) × Unit) × (Int × Int × Int × Int × Nat × Nat × Nat × List (Car) × Unit) × Unit)) → Option ((Unit × Unit × Unit) × ((Int × Int × Int × Int × Nat × Nat × Nat × List (Car) × Unit) × (Int × Int × Int × Int × Nat × Nat × Nat × List (Car) × Unit) × Unit)) := iter (fun x => R_l01_Sample_0 x.1.1 x.1.2.1 x.1.2.2.2.2.1 x.2.1.1 x.2.1.2.1 x.2.1.2.2.1 x.2.1.2.2.2.1 x.2.1.2.2.2.2.1 x.2.1.2.2.2.2.2.1 x.2.1.2.2.2.2.2.2.1 x.2.1.2.2.2.2.2.2.2.1 x.2.2.1.1 x.2.2.1.2.1 x.2.2.1.2.2.1 x.2.2.1.2.2.2.1 x.2.2.1.2.2.2.2.1 x.2.2.1.2.2.2.2.2.1 x.2.2.1.2.2.2.2.2.2.1 x.2.2.1.2.2.2.2.2.2.2.1) fuel
noncomputable def F_l01_Sample (floors : Int) (cars : Int) : Option ((Unit × Unit) × ((Int × Int × Int × Int × Nat × Nat × Nat × List (Car) × Unit) × Unit)) :=
  (L_l01_Sample_0 ((floors, cars, (), (), (0 : Int), ()), (((0 : Int), (0 : Int), (0 : Int), (0 : Int), 0, 0, 0, ([] : List (Car)), ()), (floors, (1 : Int), (4000 : Int), (30 : Int), 4591870180066957722, 4605380978949069210, 4607632778762754458, ([] : List (Car)), ()), ()))).bind fun y1 =>
  some (((), ()), ((y1.2.2.1.1, y1.2.2.1.2.1, y1.2.2.1.2.2.1, y1.2.2.1.2.2.2.1, y1.2.2.1.2.2.2.2.1, y1.2.2.1.2.2.2.2.2.1, y1.2.2.1.2.2.2.2.2.2.1, y1.2.2.1.2.2.2.2.2.2.2.1, ()), ()))
/-! ### overlay/overlaylaw10.Building -/
noncomputable def F_l10_Building (n : Int) (room : Int) : Option ((Unit × Unit) × ((Int × Int × Int × Int × Nat × Nat × Nat × List (Car) × Unit) × Unit)) :=
  (F_l01_Sample (Go.IntKind.wrap Go.IntKind.i64 ((2 : Int) + (Go.IntKind.wrap Go.IntKind.i64 (Int.tmod n (7 : Int))))) (Go.IntKind.wrap Go.IntKind.i64 ((1 : Int) + (Go.IntKind.wrap Go.IntKind.i64 (Int.tmod (Go.IntKind.wrap Go.IntKind.u8 (Int.tdiv n (7 : Int))) (3 : Int)))))).bind fun y1 =>
  some (((), ()), ((y1.2.1.1, y1.2.1.2.1, (Go.IntKind.wrap Go.IntKind.i64 ((Go.IntKind.wrap Go.IntKind.i64 ((Go.IntKind.wrap Go.IntKind.i64 ((18 : Int) * ((List.length y1.2.1.2.2.2.2.2.2.2.1 : Nat) : Int))) + (24 : Int))) + (Go.IntKind.wrap Go.IntKind.i64 room))), y1.2.1.2.2.2.1, y1.2.1.2.2.2.2.1, y1.2.1.2.2.2.2.2.1, y1.2.1.2.2.2.2.2.2.1, y1.2.1.2.2.2.2.2.2.2.1, ()), ()))
/-! ### overlay/building.within -/
noncomputable def R_building_within_0 (lo : Int) (hi : Int) (s9 : List (Int)) (s10 : Int) (s11 : Int) : Option (Sum ((Int × Int × List (Int) × Int × Int × Unit) × Unit) ((Unit × Unit) ⊕ ((Bool × Unit) × Unit))) :=
  bif (decide (s11 < s10)) then
    bif (Go.Ab.inB s11 (List.length s9)) then
      let z0 : Int := (List.getD s9 (Int.toNat s11) (0 : Int))
      bif (decide (z0 < lo)) then
        some (Sum.inr (Sum.inr ((false, ()), ())))
      else
        bif (decide (hi < z0)) then
          some (Sum.inr (Sum.inr ((false, ()), ())))
        else
          some (Sum.inl ((lo, hi, s9, s10, (Go.IntKind.wrap Go.IntKind.i64 (s11 + (1 : Int))), ()), ()))
    else
      none
  else
    some (Sum.inr (Sum.inl ((), ())))
noncomputable def L_building_within_0 : ((Int × Int × List (Int) × Int × Int × Unit) × Unit) → Option ((Unit × Unit) ⊕ ((Bool × Unit) × Unit)) := iter (fun x => R_building_within_0 x.1.1 x.1.2.1 x.1.2.2.1 x.1.2.2.2.1 x.1.2.2.2.2.1) fuel
noncomputable def F_building_within (lo : Int) (hi : Int) (l : List (Int)) : Option ((Bool × Unit) × Unit) :=
  (L_building_within_0 ((lo, hi, l, ((List.length l : Nat) : Int), (0 : Int), ()), ())).bind fun y1 =>
  (match y1 with
  | .inl y2 =>
    some ((true, ()), ())
  | .inr y2 =>
    some ((y2.1.1, ()), ()))
/-! ### overlay/building.times -/
noncomputable def F_building_times (c_Deadline : Int) (c_Pulse : Int) (c_Quiet : Int) (c_Slack : Int) (c_Step : Int) (c_Travel : Int) (c_Dwell : Int) (c_Hold : Int) (c_Home : Int) (floors : Int) : Option ((Bool × Unit) × Unit) :=
  Option.bind ((F_building_within (1 : Int) (10000 : Int) [c_Deadline, c_Pulse, c_Quiet, c_Step, c_Travel, c_Dwell, c_Hold]).bind fun y1 =>
      bif y1.1.1 then
        (F_building_within (0 : Int) (10000 : Int) [c_Slack]).bind fun y2 =>
        bif y2.1.1 then
          bif (decide (c_Dwell ≤ c_Hold)) then
            (F_building_within (0 : Int) (Go.IntKind.wrap Go.IntKind.i64 (floors - (1 : Int))) [c_Home]).bind fun y3 =>
            some ((y3.1.1, ()), ())
          else
            some ((false, ()), ())
        else
          some ((false, ()), ())
      else
        some ((false, ()), ())) fun y4 =>
  some ((y4.1.1, ()), ())
/-! ### overlay/building.loads -/
noncomputable def F_building_loads (b_Floors : Int) (b_Debounce : Int) (b_Room : Int) (b_Park : Int) (b_Empty : Nat) (b_Full : Nat) (b_Over : Nat) (b_Cars : List (Car)) : Option ((Bool × Unit) × Unit) :=
  Option.bind (bif (((Go.FloatKind.format Go.FloatKind.f64).order 0 b_Empty) == some Ordering.lt) then
        bif (((Go.FloatKind.format Go.FloatKind.f64).order b_Empty b_Full) == some Ordering.lt) then
          bif (((Go.FloatKind.format Go.FloatKind.f64).order b_Full b_Over) == some Ordering.lt) then
            some (((((Go.FloatKind.format Go.FloatKind.f64).order b_Over 9218868437227405311) == some Ordering.lt || ((Go.FloatKind.format Go.FloatKind.f64).order b_Over 9218868437227405311) == some Ordering.eq), ()), ())
          else
            some ((false, ()), ())
        else
          some ((false, ()), ())
      else
        some ((false, ()), ())) fun y1 =>
  some ((y1.1.1, ()), ())
/-! ### overlay/building.Valid -/
noncomputable def R_building_Valid_0 (good : Bool) (s28 : List (Car)) (s29 : Int) (s30 : Int) (b_Floors : Int) (b_Debounce : Int) (b_Room : Int) (b_Park : Int) (b_Empty : Nat) (b_Full : Nat) (b_Over : Nat) (b_Cars : List (Car)) : Option (Sum ((Unit × Bool × List (Car) × Int × Int × Unit) × ((Int × Int × Int × Int × Nat × Nat × Nat × List (Car) × Unit) × Unit)) ((Unit × Bool × Unit) × ((Int × Int × Int × Int × Nat × Nat × Nat × List (Car) × Unit) × Unit))) :=
  bif (decide (s30 < s29)) then
    bif (Go.Ab.inB s30 (List.length s28)) then
      let z0 : Car := (List.getD s28 (Int.toNat s30) (Car.mk (0 : Int) (0 : Int) (0 : Int) (0 : Int) (0 : Int) (0 : Int) (0 : Int) (0 : Int) (0 : Int)))
      Option.bind (bif good then
            (F_building_times z0.Deadline z0.Pulse z0.Quiet z0.Slack z0.Step z0.Travel z0.Dwell z0.Hold z0.Home b_Floors).bind fun y1 =>
            some (((), y1.1.1, s28, s29, s30, ()), ((b_Floors, b_Debounce, b_Room, b_Park, b_Empty, b_Full, b_Over, b_Cars, ()), ()))
          else
            some (((), false, s28, s29, s30, ()), ((b_Floors, b_Debounce, b_Room, b_Park, b_Empty, b_Full, b_Over, b_Cars, ()), ()))) fun y2 =>
      some (Sum.inl (((), y2.1.2.1, y2.1.2.2.1, y2.1.2.2.2.1, (Go.IntKind.wrap Go.IntKind.i64 (y2.1.2.2.2.2.1 + (1 : Int))), ()), ((y2.2.1.1, y2.2.1.2.1, y2.2.1.2.2.1, y2.2.1.2.2.2.1, y2.2.1.2.2.2.2.1, y2.2.1.2.2.2.2.2.1, y2.2.1.2.2.2.2.2.2.1, y2.2.1.2.2.2.2.2.2.2.1, ()), ())))
    else
      none
  else
    some (Sum.inr (((), good, ()), ((b_Floors, b_Debounce, b_Room, b_Park, b_Empty, b_Full, b_Over, b_Cars, ()), ())))
noncomputable def L_building_Valid_0 : ((Unit × Bool × List (Car) × Int × Int × Unit) × ((Int × Int × Int × Int × Nat × Nat × Nat × List (Car) × Unit) × Unit)) → Option ((Unit × Bool × Unit) × ((Int × Int × Int × Int × Nat × Nat × Nat × List (Car) × Unit) × Unit)) := iter (fun x => R_building_Valid_0 x.1.2.1 x.1.2.2.1 x.1.2.2.2.1 x.1.2.2.2.2.1 x.2.1.1 x.2.1.2.1 x.2.1.2.2.1 x.2.1.2.2.2.1 x.2.1.2.2.2.2.1 x.2.1.2.2.2.2.2.1 x.2.1.2.2.2.2.2.2.1 x.2.1.2.2.2.2.2.2.2.1) fuel
noncomputable def F_building_Valid (b_Floors : Int) (b_Debounce : Int) (b_Room : Int) (b_Park : Int) (b_Empty : Nat) (b_Full : Nat) (b_Over : Nat) (b_Cars : List (Car)) : Option ((Int × Unit) × Unit) :=
  (F_building_within (2 : Int) (32 : Int) [b_Floors]).bind fun y1 =>
  bif (!y1.1.1) then
    some (((10 : Int), ()), ())
  else
    (F_building_within (1 : Int) (8 : Int) [((List.length b_Cars : Nat) : Int)]).bind fun y2 =>
    bif (!y2.1.1) then
      some (((11 : Int), ()), ())
    else
      Option.bind ((F_building_within (1 : Int) (16 : Int) [b_Debounce]).bind fun y3 =>
          bif y3.1.1 then
            (F_building_within (1 : Int) (10000 : Int) [b_Park]).bind fun y4 =>
            some (((), y4.1.1, ()), ((b_Floors, b_Debounce, b_Room, b_Park, b_Empty, b_Full, b_Over, b_Cars, ()), ()))
          else
            some (((), false, ()), ((b_Floors, b_Debounce, b_Room, b_Park, b_Empty, b_Full, b_Over, b_Cars, ()), ()))) fun y5 =>
      (L_building_Valid_0 (((), y5.1.2.1, y5.2.1.2.2.2.2.2.2.2.1, ((List.length y5.2.1.2.2.2.2.2.2.2.1 : Nat) : Int), (0 : Int), ()), ((y5.2.1.1, y5.2.1.2.1, y5.2.1.2.2.1, y5.2.1.2.2.2.1, y5.2.1.2.2.2.2.1, y5.2.1.2.2.2.2.2.1, y5.2.1.2.2.2.2.2.2.1, y5.2.1.2.2.2.2.2.2.2.1, ()), ()))).bind fun y6 =>
      bif (!y6.1.2.1) then
        some (((12 : Int), ()), ())
      else
        (F_building_loads y6.2.1.1 y6.2.1.2.1 y6.2.1.2.2.1 y6.2.1.2.2.2.1 y6.2.1.2.2.2.2.1 y6.2.1.2.2.2.2.2.1 y6.2.1.2.2.2.2.2.2.1 y6.2.1.2.2.2.2.2.2.2.1).bind fun y7 =>
        bif (!y7.1.1) then
          some (((13 : Int), ()), ())
        else
          (F_building_within (Go.IntKind.wrap Go.IntKind.i64 ((Go.IntKind.wrap Go.IntKind.i64 ((18 : Int) * ((List.length y6.2.1.2.2.2.2.2.2.2.1 : Nat) : Int))) + (24 : Int))) (65536 : Int) [y6.2.1.2.2.1]).bind fun y8 =>
          bif (!y8.1.1) then
            some (((14 : Int), ()), ())
          else
            some (((0 : Int), ()), ())
/-! ### overlay/log.Initial -/
noncomputable def F_log_Initial (b_Floors : Int) (b_Debounce : Int) (b_Room : Int) (b_Park : Int) (b_Empty : Nat) (b_Full : Nat) (b_Over : Nat) (b_Cars : List (Car)) : Option ((Unit × Unit) × ((List (Int) × List (Bool) × List (Bool) × List (Entry) × Unit) × Unit)) :=
  (F_building_Valid b_Floors b_Debounce b_Room b_Park b_Empty b_Full b_Over b_Cars).bind fun y1 =>
  bif (y1.1.1 != (0 : Int)) then
    some (((), ()), ((([] : List (Int)), ([] : List (Bool)), ([] : List (Bool)), ([] : List (Entry)), ()), ()))
  else
    let z0 : Int := ((List.length b_Cars : Nat) : Int)
    bif (((decide ((0 : Int) ≤ z0)) && (decide (z0 ≤ z0))) && (decide (z0 ≤ (2147483648 : Int)))) then
      bif (((decide ((0 : Int) ≤ z0)) && (decide (z0 ≤ z0))) && (decide (z0 ≤ (2147483648 : Int)))) then
        bif (((decide ((0 : Int) ≤ z0)) && (decide (z0 ≤ z0))) && (decide (z0 ≤ (2147483648 : Int)))) then
          some (((), ()), (((List.replicate (Int.toNat z0) (0 : Int)), (List.replicate (Int.toNat z0) false), (List.replicate (Int.toNat z0) false), ([] : List (Entry)), ()), ()))
        else
          none
      else
        none
    else
      none
/-! ### overlay/building.isCall -/
noncomputable def F_building_isCall (floors : Int) (floor : Int) (dir : Int) : Option ((Bool × Unit) × Unit) :=
  Option.bind (bif (dir == (1 : Int)) then
        (F_building_within (0 : Int) (Go.IntKind.wrap Go.IntKind.i64 (floors - (2 : Int))) [floor]).bind fun y1 =>
        bif y1.1.1 then
          some ((true, ()), ())
        else
          bif (dir == (2 : Int)) then
            (F_building_within (1 : Int) (Go.IntKind.wrap Go.IntKind.i64 (floors - (1 : Int))) [floor]).bind fun y2 =>
            some ((y2.1.1, ()), ())
          else
            some ((false, ()), ())
      else
        bif (dir == (2 : Int)) then
          (F_building_within (1 : Int) (Go.IntKind.wrap Go.IntKind.i64 (floors - (1 : Int))) [floor]).bind fun y3 =>
          some ((y3.1.1, ()), ())
        else
          some ((false, ()), ())) fun y4 =>
  some ((y4.1.1, ()), ())
/-! ### overlay/building.IsCall -/
noncomputable def F_building_IsCall (b_Floors : Int) (b_Debounce : Int) (b_Room : Int) (b_Park : Int) (b_Empty : Nat) (b_Full : Nat) (b_Over : Nat) (b_Cars : List (Car)) (floor : Int) (dir : Int) : Option ((Bool × Unit) × Unit) :=
  Option.bind ((F_building_Valid b_Floors b_Debounce b_Room b_Park b_Empty b_Full b_Over b_Cars).bind fun y1 =>
      bif (y1.1.1 == (0 : Int)) then
        (F_building_isCall b_Floors floor dir).bind fun y2 =>
        some ((y2.1.1, ()), ())
      else
        some ((false, ()), ())) fun y3 =>
  some ((y3.1.1, ()), ())
/-! ### overlay/log.isEntry -/
noncomputable def F_log_isEntry (b_Floors : Int) (b_Debounce : Int) (b_Room : Int) (b_Park : Int) (b_Empty : Nat) (b_Full : Nat) (b_Over : Nat) (b_Cars : List (Car)) (e_Floor : Int) (e_Dir : Int) (e_Car : Int) (e_Moves : Int) (e_Moved : Bool) : Option ((Bool × Unit) × Unit) :=
  Option.bind ((F_building_IsCall b_Floors b_Debounce b_Room b_Park b_Empty b_Full b_Over b_Cars e_Floor e_Dir).bind fun y1 =>
      bif y1.1.1 then
        bif (decide ((-2 : Int) ≤ e_Car)) then
          bif (decide (e_Car < ((List.length b_Cars : Nat) : Int))) then
            bif (decide ((0 : Int) ≤ e_Moves)) then
              some (((decide (e_Moves ≤ (255 : Int))), ()), ())
            else
              some ((false, ()), ())
          else
            some ((false, ()), ())
        else
          some ((false, ()), ())
      else
        some ((false, ()), ())) fun y2 =>
  some ((y2.1.1, ()), ())
/-! ### cmp.isNaN[int] -/
noncomputable def F_cmp_isNaN_int (x_1 : Int) : Option ((Bool × Unit) × Unit) :=
  some (((x_1 != x_1), ()), ())
/-! ### cmp.Compare[int] -/
noncomputable def F_cmp_Compare_int (x_1 : Int) (y : Int) : Option ((Int × Unit) × Unit) :=
  (F_cmp_isNaN_int x_1).bind fun y1 =>
  (F_cmp_isNaN_int y).bind fun y2 =>
  bif y1.1.1 then
    bif y2.1.1 then
      some (((0 : Int), ()), ())
    else
      some (((-1 : Int), ()), ())
  else
    bif y2.1.1 then
      some (((1 : Int), ()), ())
    else
      bif (decide (x_1 < y)) then
        some (((-1 : Int), ()), ())
      else
        bif (decide (y < x_1)) then
          some (((1 : Int), ()), ())
        else
          some (((0 : Int), ()), ())
/-! ### cmp.Or[int] -/
noncomputable def R_cmp_Or_int_0 (zero : Int) (s6 : List (Int)) (s7 : Int) (s8 : Int) : Option (Sum ((Int × List (Int) × Int × Int × Unit) × Unit) (((Int × Unit) × Unit) ⊕ ((Int × Unit) × Unit))) :=
  bif (decide (s8 < s7)) then
    bif (Go.Ab.inB s8 (List.length s6)) then
      let z0 : Int := (List.getD s6 (Int.toNat s8) (0 : Int))
      bif (z0 != zero) then
        some (Sum.inr (Sum.inr ((z0, ()), ())))
      else
        some (Sum.inl ((zero, s6, s7, (Go.IntKind.wrap Go.IntKind.i64 (s8 + (1 : Int))), ()), ()))
    else
      none
  else
    some (Sum.inr (Sum.inl ((zero, ()), ())))
noncomputable def L_cmp_Or_int_0 : ((Int × List (Int) × Int × Int × Unit) × Unit) → Option (((Int × Unit) × Unit) ⊕ ((Int × Unit) × Unit)) := iter (fun x => R_cmp_Or_int_0 x.1.1 x.1.2.1 x.1.2.2.1 x.1.2.2.2.1) fuel
noncomputable def F_cmp_Or_int (vals : List (Int)) : Option ((Int × Unit) × Unit) :=
  (L_cmp_Or_int_0 (((0 : Int), vals, ((List.length vals : Nat) : Int), (0 : Int), ()), ())).bind fun y1 =>
  (match y1 with
  | .inl y2 =>
    some ((y2.1.1, ()), ())
  | .inr y2 =>
    some ((y2.1.1, ()), ()))
/-! ### overlay/log.compare -/
noncomputable def F_log_compare (a_Floor : Int) (a_Dir : Int) (a_Car : Int) (a_Moves : Int) (a_Moved : Bool) (b_Floor : Int) (b_Dir : Int) (b_Car : Int) (b_Moves : Int) (b_Moved : Bool) : Option ((Int × Unit) × Unit) :=
  (F_cmp_Compare_int a_Floor b_Floor).bind fun y1 =>
  (F_cmp_Compare_int a_Dir b_Dir).bind fun y2 =>
  (F_cmp_Or_int [y1.1.1, y2.1.1]).bind fun y3 =>
  some ((y3.1.1, ()), ())
/-! ### overlay/log.IsImage -/
noncomputable def R_log_IsImage_1 (s52 : List (Entry)) (s53 : Int) (s54 : Int) (b_Floors : Int) (b_Debounce : Int) (b_Room : Int) (b_Park : Int) (b_Empty : Nat) (b_Full : Nat) (b_Over : Nat) (b_Cars : List (Car)) (m_Phases : List (Int)) (m_Flags : List (Bool)) (m_Leaving : List (Bool)) (m_Entries : List (Entry)) : Option (Sum ((Unit × Unit × List (Entry) × Int × Int × Unit) × ((Int × Int × Int × Int × Nat × Nat × Nat × List (Car) × Unit) × (List (Int) × List (Bool) × List (Bool) × List (Entry) × Unit) × Unit)) ((Unit × Unit) ⊕ ((Bool × Unit) × Unit))) :=
  bif (decide (s54 < s53)) then
    bif (Go.Ab.inB s54 (List.length s52)) then
      let z0 : Entry := (List.getD s52 (Int.toNat s54) (Entry.mk (0 : Int) (0 : Int) (0 : Int) (0 : Int) false))
      Option.bind ((F_log_isEntry b_Floors b_Debounce b_Room b_Park b_Empty b_Full b_Over b_Cars z0.Floor z0.Dir z0.Car z0.Moves z0.Moved).bind fun y1 =>
          bif (!y1.1.1) then
            some (((), (), s52, s53, s54, true, ()), ((b_Floors, b_Debounce, b_Room, b_Park, b_Empty, b_Full, b_Over, b_Cars, ()), (m_Phases, m_Flags, m_Leaving, m_Entries, ()), ()))
          else
            bif (decide ((0 : Int) < s54)) then
              let z1 : Int := (Go.IntKind.wrap Go.IntKind.i64 (s54 - (1 : Int)))
              bif (Go.Ab.inB z1 (List.length m_Entries)) then
                let z2 : Entry := (List.getD m_Entries (Int.toNat z1) (Entry.mk (0 : Int) (0 : Int) (0 : Int) (0 : Int) false))
                (F_log_compare z2.Floor z2.Dir z2.Car z2.Moves z2.Moved z0.Floor z0.Dir z0.Car z0.Moves z0.Moved).bind fun y2 =>
                some (((), (), s52, s53, s54, (decide ((0 : Int) ≤ y2.1.1)), ()), ((b_Floors, b_Debounce, b_Room, b_Park, b_Empty, b_Full, b_Over, b_Cars, ()), (m_Phases, m_Flags, m_Leaving, m_Entries, ()), ()))
              else
                none
            else
              some (((), (), s52, s53, s54, false, ()), ((b_Floors, b_Debounce, b_Room, b_Park, b_Empty, b_Full, b_Over, b_Cars, ()), (m_Phases, m_Flags, m_Leaving, m_Entries, ()), ()))) fun y3 =>
      bif y3.1.2.2.2.2.2.1 then
        some (Sum.inr (Sum.inr ((false, ()), ())))
      else
        some (Sum.inl (((), (), y3.1.2.2.1, y3.1.2.2.2.1, (Go.IntKind.wrap Go.IntKind.i64 (y3.1.2.2.2.2.1 + (1 : Int))), ()), ((y3.2.1.1, y3.2.1.2.1, y3.2.1.2.2.1, y3.2.1.2.2.2.1, y3.2.1.2.2.2.2.1, y3.2.1.2.2.2.2.2.1, y3.2.1.2.2.2.2.2.2.1, y3.2.1.2.2.2.2.2.2.2.1, ()), (y3.2.2.1.1, y3.2.2.1.2.1, y3.2.2.1.2.2.1, y3.2.2.1.2.2.2.1, ()), ())))
    else
      none
  else
    some (Sum.inr (Sum.inl ((), ())))
noncomputable def L_log_IsImage_1 : ((Unit × Unit × List (Entry) × Int × Int × Unit) × ((Int × Int × Int × Int × Nat × Nat × Nat × List (Car) × Unit) × (List (Int) × List (Bool) × List (Bool) × List (Entry) × Unit) × Unit)) → Option ((Unit × Unit) ⊕ ((Bool × Unit) × Unit)) := iter (fun x => R_log_IsImage_1 x.1.2.2.1 x.1.2.2.2.1 x.1.2.2.2.2.1 x.2.1.1 x.2.1.2.1 x.2.1.2.2.1 x.2.1.2.2.2.1 x.2.1.2.2.2.2.1 x.2.1.2.2.2.2.2.1 x.2.1.2.2.2.2.2.2.1 x.2.1.2.2.2.2.2.2.2.1 x.2.2.1.1 x.2.2.1.2.1 x.2.2.1.2.2.1 x.2.2.1.2.2.2.1) fuel
noncomputable def R_log_IsImage_0 (s38 : List (Int)) (s39 : Int) (s40 : Int) (b_Floors : Int) (b_Debounce : Int) (b_Room : Int) (b_Park : Int) (b_Empty : Nat) (b_Full : Nat) (b_Over : Nat) (b_Cars : List (Car)) (m_Phases : List (Int)) (m_Flags : List (Bool)) (m_Leaving : List (Bool)) (m_Entries : List (Entry)) : Option (Sum ((Unit × Unit × List (Int) × Int × Int × Unit) × ((Int × Int × Int × Int × Nat × Nat × Nat × List (Car) × Unit) × (List (Int) × List (Bool) × List (Bool) × List (Entry) × Unit) × Unit)) (((Unit × Unit × Unit) × ((Int × Int × Int × Int × Nat × Nat × Nat × List (Car) × Unit) × (List (Int) × List (Bool) × List (Bool) × List (Entry) × Unit) × Unit)) ⊕ ((Bool × Unit) × Unit))) :=
  bif (decide (s40 < s39)) then
    bif (Go.Ab.inB s40 (List.length s38)) then
      let z0 : Int := (List.getD s38 (Int.toNat s40) (0 : Int))
      bif (decide (z0 < (0 : Int))) then
        some (Sum.inr (Sum.inr ((false, ()), ())))
      else
        bif (decide ((4 : Int) < z0)) then
          some (Sum.inr (Sum.inr ((false, ()), ())))
        else
          some (Sum.inl (((), (), s38, s39, (Go.IntKind.wrap Go.IntKind.i64 (s40 + (1 : Int))), ()), ((b_Floors, b_Debounce, b_Room, b_Park, b_Empty, b_Full, b_Over, b_Cars, ()), (m_Phases, m_Flags, m_Leaving, m_Entries, ()), ())))
    else
      none
  else
    some (Sum.inr (Sum.inl (((), (), ()), ((b_Floors, b_Debounce, b_Room, b_Park, b_Empty, b_Full, b_Over, b_Cars, ()), (m_Phases, m_Flags, m_Leaving, m_Entries, ()), ()))))
noncomputable def L_log_IsImage_0 : ((Unit × Unit × List (Int) × Int × Int × Unit) × ((Int × Int × Int × Int × Nat × Nat × Nat × List (Car) × Unit) × (List (Int) × List (Bool) × List (Bool) × List (Entry) × Unit) × Unit)) → Option (((Unit × Unit × Unit) × ((Int × Int × Int × Int × Nat × Nat × Nat × List (Car) × Unit) × (List (Int) × List (Bool) × List (Bool) × List (Entry) × Unit) × Unit)) ⊕ ((Bool × Unit) × Unit)) := iter (fun x => R_log_IsImage_0 x.1.2.2.1 x.1.2.2.2.1 x.1.2.2.2.2.1 x.2.1.1 x.2.1.2.1 x.2.1.2.2.1 x.2.1.2.2.2.1 x.2.1.2.2.2.2.1 x.2.1.2.2.2.2.2.1 x.2.1.2.2.2.2.2.2.1 x.2.1.2.2.2.2.2.2.2.1 x.2.2.1.1 x.2.2.1.2.1 x.2.2.1.2.2.1 x.2.2.1.2.2.2.1) fuel
noncomputable def F_log_IsImage (b_Floors : Int) (b_Debounce : Int) (b_Room : Int) (b_Park : Int) (b_Empty : Nat) (b_Full : Nat) (b_Over : Nat) (b_Cars : List (Car)) (m_Phases : List (Int)) (m_Flags : List (Bool)) (m_Leaving : List (Bool)) (m_Entries : List (Entry)) : Option ((Bool × Unit) × Unit) :=
  let z0 : Int := ((List.length b_Cars : Nat) : Int)
  (F_building_Valid b_Floors b_Debounce b_Room b_Park b_Empty b_Full b_Over b_Cars).bind fun y1 =>
  bif (y1.1.1 != (0 : Int)) then
    some ((false, ()), ())
  else
    bif (((List.length m_Phases : Nat) : Int) != z0) then
      some ((false, ()), ())
    else
      bif (((List.length m_Flags : Nat) : Int) != z0) then
        some ((false, ()), ())
      else
        bif (((List.length m_Leaving : Nat) : Int) != z0) then
          some ((false, ()), ())
        else
          (L_log_IsImage_0 (((), (), m_Phases, ((List.length m_Phases : Nat) : Int), (0 : Int), ()), ((b_Floors, b_Debounce, b_Room, b_Park, b_Empty, b_Full, b_Over, b_Cars, ()), (m_Phases, m_Flags, m_Leaving, m_Entries, ()), ()))).bind fun y2 =>
          (match y2 with
          | .inl y3 =>
            (L_log_IsImage_1 (((), (), y3.2.2.1.2.2.2.1, ((List.length y3.2.2.1.2.2.2.1 : Nat) : Int), (0 : Int), ()), ((y3.2.1.1, y3.2.1.2.1, y3.2.1.2.2.1, y3.2.1.2.2.2.1, y3.2.1.2.2.2.2.1, y3.2.1.2.2.2.2.2.1, y3.2.1.2.2.2.2.2.2.1, y3.2.1.2.2.2.2.2.2.2.1, ()), (y3.2.2.1.1, y3.2.2.1.2.1, y3.2.2.1.2.2.1, y3.2.2.1.2.2.2.1, ()), ()))).bind fun y4 =>
            (match y4 with
            | .inl y5 =>
              some ((true, ()), ())
            | .inr y5 =>
              some ((y5.1.1, ()), ()))
          | .inr y3 =>
            some ((y3.1.1, ()), ()))
/-! ### overlay/record.within -/
noncomputable def F_record_within (n : Int) (lo : Int) (hi : Int) : Option ((Bool × Unit) × Unit) :=
  Option.bind (bif (decide (lo ≤ n)) then
        some (((decide (n ≤ hi)), ()), ())
      else
        some ((false, ()), ())) fun y1 =>
  some ((y1.1.1, ()), ())
/-! ### overlay/record.Valid -/
noncomputable def F_record_Valid (b_Floors : Int) (b_Debounce : Int) (b_Room : Int) (b_Park : Int) (b_Empty : Nat) (b_Full : Nat) (b_Over : Nat) (b_Cars : List (Car)) (r_Kind : Int) (r_Floor : Int) (r_Dir : Int) (r_Car : Int) (r_Value : Int) : Option ((Bool × Unit) × Unit) :=
  (F_building_Valid b_Floors b_Debounce b_Room b_Park b_Empty b_Full b_Over b_Cars).bind fun y1 =>
  bif (y1.1.1 != (0 : Int)) then
    some ((false, ()), ())
  else
    (F_building_IsCall b_Floors b_Debounce b_Room b_Park b_Empty b_Full b_Over b_Cars r_Floor r_Dir).bind fun y2 =>
    Option.bind (bif (r_Floor == (0 : Int)) then
          bif (r_Dir == (0 : Int)) then
            (F_record_within r_Car (0 : Int) (Go.IntKind.wrap Go.IntKind.i64 (((List.length b_Cars : Nat) : Int) - (1 : Int)))).bind fun y3 =>
            some (((), (), y2.1.1, y3.1.1, ()), ((b_Floors, b_Debounce, b_Room, b_Park, b_Empty, b_Full, b_Over, b_Cars, ()), (r_Kind, r_Floor, r_Dir, r_Car, r_Value, ()), ()))
          else
            some (((), (), y2.1.1, false, ()), ((b_Floors, b_Debounce, b_Room, b_Park, b_Empty, b_Full, b_Over, b_Cars, ()), (r_Kind, r_Floor, r_Dir, r_Car, r_Value, ()), ()))
        else
          some (((), (), y2.1.1, false, ()), ((b_Floors, b_Debounce, b_Room, b_Park, b_Empty, b_Full, b_Over, b_Cars, ()), (r_Kind, r_Floor, r_Dir, r_Car, r_Value, ()), ()))) fun y4 =>
    bif (y4.2.2.1.1 == (1 : Int)) then
      Option.bind (bif y4.1.2.2.1 then
            bif (y4.2.2.1.2.2.2.1 == (0 : Int)) then
              some (((y4.2.2.1.2.2.2.2.1 == (0 : Int)), ()), ())
            else
              some ((false, ()), ())
          else
            some ((false, ()), ())) fun y5 =>
      some ((y5.1.1, ()), ())
    else
      bif (y4.2.2.1.1 == (2 : Int)) then
        Option.bind (bif y4.1.2.2.1 then
              bif (y4.2.2.1.2.2.2.1 == (0 : Int)) then
                some (((y4.2.2.1.2.2.2.2.1 == (0 : Int)), ()), ())
              else
                some ((false, ()), ())
            else
              some ((false, ()), ())) fun y6 =>
        some ((y6.1.1, ()), ())
      else
        bif (y4.2.2.1.1 == (3 : Int)) then
          Option.bind (bif y4.1.2.2.1 then
                (F_record_within y4.2.2.1.2.2.2.1 (-2 : Int) (Go.IntKind.wrap Go.IntKind.i64 (((List.length y4.2.1.2.2.2.2.2.2.2.1 : Nat) : Int) - (1 : Int)))).bind fun y7 =>
                bif y7.1.1 then
                  some (((y4.2.2.1.2.2.2.2.1 == (0 : Int)), ()), ())
                else
                  some ((false, ()), ())
              else
                some ((false, ()), ())) fun y8 =>
          some ((y8.1.1, ()), ())
        else
          bif (y4.2.2.1.1 == (7 : Int)) then
            Option.bind (bif y4.1.2.2.1 then
                  (F_record_within y4.2.2.1.2.2.2.1 (0 : Int) (1 : Int)).bind fun y9 =>
                  bif y9.1.1 then
                    (F_record_within y4.2.2.1.2.2.2.2.1 (0 : Int) (255 : Int)).bind fun y10 =>
                    some ((y10.1.1, ()), ())
                  else
                    some ((false, ()), ())
                else
                  some ((false, ()), ())) fun y11 =>
            some ((y11.1.1, ()), ())
          else
            bif (y4.2.2.1.1 == (4 : Int)) then
              Option.bind (bif y4.1.2.2.2.1 then
                    (F_record_within y4.2.2.1.2.2.2.2.1 (0 : Int) (4 : Int)).bind fun y12 =>
                    some ((y12.1.1, ()), ())
                  else
                    some ((false, ()), ())) fun y13 =>
              some ((y13.1.1, ()), ())
            else
              bif (y4.2.2.1.1 == (5 : Int)) then
                Option.bind (bif y4.1.2.2.2.1 then
                      (F_record_within y4.2.2.1.2.2.2.2.1 (0 : Int) (1 : Int)).bind fun y14 =>
                      some ((y14.1.1, ()), ())
                    else
                      some ((false, ()), ())) fun y15 =>
                some ((y15.1.1, ()), ())
              else
                bif (y4.2.2.1.1 == (6 : Int)) then
                  Option.bind (bif y4.1.2.2.2.1 then
                        (F_record_within y4.2.2.1.2.2.2.2.1 (0 : Int) (1 : Int)).bind fun y16 =>
                        some ((y16.1.1, ()), ())
                      else
                        some ((false, ()), ())) fun y17 =>
                  some ((y17.1.1, ()), ())
                else
                  some ((false, ()), ())
/-! ### slices.Clone[[]int,int] -/
noncomputable def F_slices_Clone_sl_int_int (s : List (Int)) : Option ((List (Int) × Unit) × Unit) :=
  cloF s
/-! ### slices.Clone[[]bool,bool] -/
noncomputable def F_slices_Clone_sl_bool_bool (s : List (Bool)) : Option ((List (Bool) × Unit) × Unit) :=
  cloF s
/-! ### slices.Clone[[]overlay/api.Entry,overlay/api.Entry] -/
noncomputable def F_slices_Clone_sl_api_Entry_api_Entry (s : List (Entry)) : Option ((List (Entry) × Unit) × Unit) :=
  cloF s
/-! ### overlay/log.clone -/
noncomputable def F_log_clone (m_Phases : List (Int)) (m_Flags : List (Bool)) (m_Leaving : List (Bool)) (m_Entries : List (Entry)) : Option ((Unit × Unit) × ((List (Int) × List (Bool) × List (Bool) × List (Entry) × Unit) × Unit)) :=
  (F_slices_Clone_sl_int_int m_Phases).bind fun y1 =>
  (F_slices_Clone_sl_bool_bool m_Flags).bind fun y2 =>
  (F_slices_Clone_sl_bool_bool m_Leaving).bind fun y3 =>
  (F_slices_Clone_sl_api_Entry_api_Entry m_Entries).bind fun y4 =>
  some (((), ()), ((y1.1.1, y2.1.1, y3.1.1, y4.1.1, ()), ()))
/-! ### slices.BinarySearchFunc[[]overlay/api.Entry,overlay/api.Entry,overlay/api.Entry] -/
noncomputable def R_slices_BinarySearchFunc_sl_api_Entry_api_Entry_api_Entry_log_compare_0 (x_1 : List (Entry)) (n : Int) (i : Int) (j : Int) (target_Floor : Int) (target_Dir : Int) (target_Car : Int) (target_Moves : Int) (target_Moved : Bool) : Option (Sum ((List (Entry) × Unit × Unit × Int × Int × Int × Unit) × ((Int × Int × Int × Int × Bool × Unit) × Unit)) ((List (Entry) × Unit × Unit × Int × Int × Unit) × ((Int × Int × Int × Int × Bool × Unit) × Unit))) :=
  bif (decide (i < j)) then
    let z0 : Int := (Go.IntKind.wrap Go.IntKind.i64 (Int.fdiv (Go.IntKind.wrap Go.IntKind.u64 (Go.IntKind.wrap Go.IntKind.i64 (i + j))) ((2 : Int) ^ (Min.min (Int.toNat (1 : Int)) (Go.IntKind.bits Go.IntKind.u64)))))
    bif (Go.Ab.inB z0 (List.length x_1)) then
      let z1 : Entry := (List.getD x_1 (Int.toNat z0) (Entry.mk (0 : Int) (0 : Int) (0 : Int) (0 : Int) false))
      (F_log_compare z1.Floor z1.Dir z1.Car z1.Moves z1.Moved target_Floor target_Dir target_Car target_Moves target_Moved).bind fun y1 =>
      bif (decide (y1.1.1 < (0 : Int))) then
        some (Sum.inl ((x_1, (), (), n, (Go.IntKind.wrap Go.IntKind.i64 (z0 + (1 : Int))), j, ()), ((target_Floor, target_Dir, target_Car, target_Moves, target_Moved, ()), ())))
      else
        some (Sum.inl ((x_1, (), (), n, i, z0, ()), ((target_Floor, target_Dir, target_Car, target_Moves, target_Moved, ()), ())))
    else
      none
  else
    some (Sum.inr ((x_1, (), (), n, i, ()), ((target_Floor, target_Dir, target_Car, target_Moves, target_Moved, ()), ())))
noncomputable def L_slices_BinarySearchFunc_sl_api_Entry_api_Entry_api_Entry_log_compare_0 : ((List (Entry) × Unit × Unit × Int × Int × Int × Unit) × ((Int × Int × Int × Int × Bool × Unit) × Unit)) → Option ((List (Entry) × Unit × Unit × Int × Int × Unit) × ((Int × Int × Int × Int × Bool × Unit) × Unit)) := iter (fun x => R_slices_BinarySearchFunc_sl_api_Entry_api_Entry_api_Entry_log_compare_0 x.1.1 x.1.2.2.2.1 x.1.2.2.2.2.1 x.1.2.2.2.2.2.1 x.2.1.1 x.2.1.2.1 x.2.1.2.2.1 x.2.1.2.2.2.1 x.2.1.2.2.2.2.1) fuel
noncomputable def F_slices_BinarySearchFunc_sl_api_Entry_api_Entry_api_Entry_log_compare (x_1 : List (Entry)) (target_Floor : Int) (target_Dir : Int) (target_Car : Int) (target_Moves : Int) (target_Moved : Bool) : Option ((Int × Bool × Unit) × Unit) :=
  let z0 : Int := ((List.length x_1 : Nat) : Int)
  (L_slices_BinarySearchFunc_sl_api_Entry_api_Entry_api_Entry_log_compare_0 ((x_1, (), (), z0, (0 : Int), z0, ()), ((target_Floor, target_Dir, target_Car, target_Moves, target_Moved, ()), ()))).bind fun y1 =>
  Option.bind (bif (decide (y1.1.2.2.2.2.1 < y1.1.2.2.2.1)) then
        bif (Go.Ab.inB y1.1.2.2.2.2.1 (List.length y1.1.1)) then
          let z1 : Entry := (List.getD y1.1.1 (Int.toNat y1.1.2.2.2.2.1) (Entry.mk (0 : Int) (0 : Int) (0 : Int) (0 : Int) false))
          (F_log_compare z1.Floor z1.Dir z1.Car z1.Moves z1.Moved y1.2.1.1 y1.2.1.2.1 y1.2.1.2.2.1 y1.2.1.2.2.2.1 y1.2.1.2.2.2.2.1).bind fun y2 =>
          some ((y1.1.2.2.2.2.1, (y2.1.1 == (0 : Int)), ()), ())
        else
          none
      else
        some ((y1.1.2.2.2.2.1, false, ()), ())) fun y3 =>
  some ((y3.1.1, y3.1.2.1, ()), ())
/-! ### overlay/log.find -/
noncomputable def F_log_find (m_Phases : List (Int)) (m_Flags : List (Bool)) (m_Leaving : List (Bool)) (m_Entries : List (Entry)) (floor : Int) (dir : Int) : Option ((Int × Bool × Unit) × Unit) :=
  (F_slices_BinarySearchFunc_sl_api_Entry_api_Entry_api_Entry_log_compare m_Entries floor dir (0 : Int) (0 : Int) false).bind fun y1 =>
  some ((y1.1.1, y1.1.2.1, ()), ())
/-! ### slices.Insert[[]overlay/api.Entry,overlay/api.Entry] -/
noncomputable def F_slices_Insert_sl_api_Entry_api_Entry (s : List (Entry)) (i : Int) (v : List (Entry)) : Option ((List (Entry) × Unit) × Unit) :=
  insF s i v
/-! ### slices.Delete[[]overlay/api.Entry,overlay/api.Entry] -/
noncomputable def F_slices_Delete_sl_api_Entry_api_Entry (s : List (Entry)) (i : Int) (j : Int) : Option ((List (Entry) × Unit) × Unit) :=
  delF s i j
/-! ### overlay/log.change -/
noncomputable def F_log_change (r_Kind : Int) (r_Floor : Int) (r_Dir : Int) (r_Car : Int) (r_Value : Int) (m_Phases : List (Int)) (m_Flags : List (Bool)) (m_Leaving : List (Bool)) (m_Entries : List (Entry)) : Option (Unit × ((List (Int) × List (Bool) × List (Bool) × List (Entry) × Unit) × Unit)) :=
  (F_log_find m_Phases m_Flags m_Leaving m_Entries r_Floor r_Dir).bind fun y1 =>
  bif (r_Kind == (4 : Int)) then
    bif (Go.Ab.inB r_Car (List.length m_Phases)) then
      some ((), (((List.set m_Phases (Int.toNat r_Car) r_Value), m_Flags, m_Leaving, m_Entries, ()), ()))
    else
      none
  else
    bif (r_Kind == (5 : Int)) then
      bif (Go.Ab.inB r_Car (List.length m_Flags)) then
        some ((), ((m_Phases, (List.set m_Flags (Int.toNat r_Car) (r_Value == (1 : Int))), m_Leaving, m_Entries, ()), ()))
      else
        none
    else
      bif (r_Kind == (6 : Int)) then
        bif (Go.Ab.inB r_Car (List.length m_Leaving)) then
          some ((), ((m_Phases, m_Flags, (List.set m_Leaving (Int.toNat r_Car) (r_Value == (1 : Int))), m_Entries, ()), ()))
        else
          none
      else
        bif (r_Kind == (1 : Int)) then
          bif (!y1.1.2.1) then
            (F_slices_Insert_sl_api_Entry_api_Entry m_Entries y1.1.1 [(Entry.mk r_Floor r_Dir (-1 : Int) (0 : Int) false)]).bind fun y2 =>
            some ((), ((m_Phases, m_Flags, m_Leaving, y2.1.1, ()), ()))
          else
            some ((), ((m_Phases, m_Flags, m_Leaving, m_Entries, ()), ()))
        else
          bif (r_Kind == (2 : Int)) then
            bif y1.1.2.1 then
              (F_slices_Delete_sl_api_Entry_api_Entry m_Entries y1.1.1 (Go.IntKind.wrap Go.IntKind.i64 (y1.1.1 + (1 : Int)))).bind fun y3 =>
              some ((), ((m_Phases, m_Flags, m_Leaving, y3.1.1, ()), ()))
            else
              some ((), ((m_Phases, m_Flags, m_Leaving, m_Entries, ()), ()))
          else
            bif (r_Kind == (3 : Int)) then
              bif y1.1.2.1 then
                bif (Go.Ab.inB y1.1.1 (List.length m_Entries)) then
                  let z0 : Nat := (Int.toNat y1.1.1)
                  let z1 : Entry := (List.getD m_Entries z0 (Entry.mk (0 : Int) (0 : Int) (0 : Int) (0 : Int) false))
                  some ((), ((m_Phases, m_Flags, m_Leaving, (List.set m_Entries z0 (Entry.mk z1.Floor z1.Dir r_Car z1.Moves z1.Moved)), ()), ()))
                else
                  none
              else
                some ((), ((m_Phases, m_Flags, m_Leaving, m_Entries, ()), ()))
            else
              bif (r_Kind == (7 : Int)) then
                bif y1.1.2.1 then
                  bif (Go.Ab.inB y1.1.1 (List.length m_Entries)) then
                    let z2 : Nat := (Int.toNat y1.1.1)
                    let z3 : Entry := (List.getD m_Entries z2 (Entry.mk (0 : Int) (0 : Int) (0 : Int) (0 : Int) false))
                    let z4 : List (Entry) := (List.set m_Entries z2 (Entry.mk z3.Floor z3.Dir z3.Car r_Value z3.Moved))
                    bif (Go.Ab.inB y1.1.1 (List.length z4)) then
                      let z5 : Nat := (Int.toNat y1.1.1)
                      let z6 : Entry := (List.getD z4 z5 (Entry.mk (0 : Int) (0 : Int) (0 : Int) (0 : Int) false))
                      some ((), ((m_Phases, m_Flags, m_Leaving, (List.set z4 z5 (Entry.mk z6.Floor z6.Dir z6.Car z6.Moves (r_Car == (1 : Int)))), ()), ()))
                    else
                      none
                  else
                    none
                else
                  some ((), ((m_Phases, m_Flags, m_Leaving, m_Entries, ()), ()))
              else
                some ((), ((m_Phases, m_Flags, m_Leaving, m_Entries, ()), ()))
/-! ### overlay/log.Apply -/
noncomputable def F_log_Apply (b_Floors : Int) (b_Debounce : Int) (b_Room : Int) (b_Park : Int) (b_Empty : Nat) (b_Full : Nat) (b_Over : Nat) (b_Cars : List (Car)) (m_Phases : List (Int)) (m_Flags : List (Bool)) (m_Leaving : List (Bool)) (m_Entries : List (Entry)) (r_Kind : Int) (r_Floor : Int) (r_Dir : Int) (r_Car : Int) (r_Value : Int) : Option ((Unit × Int × Unit) × ((List (Int) × List (Bool) × List (Bool) × List (Entry) × Unit) × Unit)) :=
  (F_log_IsImage b_Floors b_Debounce b_Room b_Park b_Empty b_Full b_Over b_Cars m_Phases m_Flags m_Leaving m_Entries).bind fun y1 =>
  bif (!y1.1.1) then
    some (((), (1 : Int), ()), ((([] : List (Int)), ([] : List (Bool)), ([] : List (Bool)), ([] : List (Entry)), ()), ()))
  else
    (F_record_Valid b_Floors b_Debounce b_Room b_Park b_Empty b_Full b_Over b_Cars r_Kind r_Floor r_Dir r_Car r_Value).bind fun y2 =>
    bif (!y2.1.1) then
      some (((), (1 : Int), ()), ((([] : List (Int)), ([] : List (Bool)), ([] : List (Bool)), ([] : List (Entry)), ()), ()))
    else
      (F_log_clone m_Phases m_Flags m_Leaving m_Entries).bind fun y3 =>
      (F_log_change r_Kind r_Floor r_Dir r_Car r_Value y3.2.1.1 y3.2.1.2.1 y3.2.1.2.2.1 y3.2.1.2.2.2.1).bind fun y4 =>
      some (((), (0 : Int), ()), ((y4.2.1.1, y4.2.1.2.1, y4.2.1.2.2.1, y4.2.1.2.2.2.1, ()), ()))
/-! ### overlay/store.IsStore -/
noncomputable def F_store_IsStore (room : Int) (s_Halves_0 : ByteArray) (s_Halves_1 : ByteArray) (s_Select : Int) : Option ((Bool × Unit) × Unit) :=
  Option.bind (bif (decide ((1 : Int) ≤ room)) then
        bif (decide (room ≤ (65536 : Int))) then
          bif (decide (((ByteArray.size s_Halves_0 : Nat) : Int) ≤ room)) then
            bif (decide (((ByteArray.size s_Halves_1 : Nat) : Int) ≤ room)) then
              bif (s_Select == (0 : Int)) then
                some ((true, ()), ())
              else
                some (((s_Select == (1 : Int)), ()), ())
            else
              some ((false, ()), ())
          else
            some ((false, ()), ())
        else
          some ((false, ()), ())
      else
        some ((false, ()), ())) fun y1 =>
  some ((y1.1.1, ()), ())
/-! ### overlay/log.Room -/
noncomputable def F_log_Room (b_Floors : Int) (b_Debounce : Int) (b_Room : Int) (b_Park : Int) (b_Empty : Nat) (b_Full : Nat) (b_Over : Nat) (b_Cars : List (Car)) (m_Phases : List (Int)) (m_Flags : List (Bool)) (m_Leaving : List (Bool)) (m_Entries : List (Entry)) : Option ((Bool × Unit) × Unit) :=
  Option.bind ((F_log_IsImage b_Floors b_Debounce b_Room b_Park b_Empty b_Full b_Over b_Cars m_Phases m_Flags m_Leaving m_Entries).bind fun y1 =>
      bif y1.1.1 then
        some (((decide ((Go.IntKind.wrap Go.IntKind.i64 ((Go.IntKind.wrap Go.IntKind.i64 ((18 : Int) * (Go.IntKind.wrap Go.IntKind.i64 ((Go.IntKind.wrap Go.IntKind.i64 (((List.length b_Cars : Nat) : Int) + ((List.length m_Entries : Nat) : Int))) + (1 : Int))))) + (6 : Int))) ≤ b_Room)), ()), ())
      else
        some ((false, ()), ())) fun y2 =>
  some ((y2.1.1, ()), ())
/-! ### overlay/crc.Sum8 -/
noncomputable def R_crc_Sum8_1 (s : ByteArray) (r : Int) (s7 : Int) (s8 : Int) (s16 : Int) : Option (Sum ((ByteArray × Int × Int × Int × Int × Unit) × Unit) ((ByteArray × Int × Int × Int × Unit) × Unit)) :=
  bif (decide (s16 < (8 : Int))) then
    let z0 : Int := (Go.IntKind.wrap Go.IntKind.u8 (r * ((2 : Int) ^ (Min.min (Int.toNat (1 : Int)) (Go.IntKind.bits Go.IntKind.u8)))))
    let z1 : Int := (Go.IntKind.wrap Go.IntKind.u8 ((Int.fdiv r ((2 : Int) ^ (Min.min (Int.toNat (7 : Int)) (Go.IntKind.bits Go.IntKind.u8)))) * (7 : Int)))
    some (Sum.inl ((s, (Go.IntKind.wrap Go.IntKind.u8 (Go.Ab.stk z0 z1 (BitVec.toNat ((BitVec.ofInt (Go.IntKind.bits Go.IntKind.u8) z0) ^^^ (BitVec.ofInt (Go.IntKind.bits Go.IntKind.u8) z1))))), s7, s8, (Go.IntKind.wrap Go.IntKind.i64 (s16 + (1 : Int))), ()), ()))
  else
    some (Sum.inr ((s, r, s7, s8, ()), ()))
noncomputable def L_crc_Sum8_1 : ((ByteArray × Int × Int × Int × Int × Unit) × Unit) → Option ((ByteArray × Int × Int × Int × Unit) × Unit) := iter (fun x => R_crc_Sum8_1 x.1.1 x.1.2.1 x.1.2.2.1 x.1.2.2.2.1 x.1.2.2.2.2.1) fuel
noncomputable def R_crc_Sum8_0 (s : ByteArray) (r : Int) (s7 : Int) (s8 : Int) : Option (Sum ((ByteArray × Int × Int × Int × Unit) × Unit) ((Int × Unit) × Unit)) :=
  bif (decide (s8 < s7)) then
    bif (Go.Ab.inB s8 (ByteArray.size s)) then
      let z0 : Int := (Go.Ab.byteAt s (Int.toNat s8))
      (L_crc_Sum8_1 ((s, (Go.IntKind.wrap Go.IntKind.u8 (Go.Ab.stk r z0 (BitVec.toNat ((BitVec.ofInt (Go.IntKind.bits Go.IntKind.u8) r) ^^^ (BitVec.ofInt (Go.IntKind.bits Go.IntKind.u8) z0))))), s7, s8, (0 : Int), ()), ())).bind fun y1 =>
      some (Sum.inl ((y1.1.1, y1.1.2.1, y1.1.2.2.1, (Go.IntKind.wrap Go.IntKind.i64 (y1.1.2.2.2.1 + (1 : Int))), ()), ()))
    else
      none
  else
    some (Sum.inr ((r, ()), ()))
noncomputable def L_crc_Sum8_0 : ((ByteArray × Int × Int × Int × Unit) × Unit) → Option ((Int × Unit) × Unit) := iter (fun x => R_crc_Sum8_0 x.1.1 x.1.2.1 x.1.2.2.1 x.1.2.2.2.1) fuel
noncomputable def F_crc_Sum8 (s : ByteArray) : Option ((Int × Unit) × Unit) :=
  (L_crc_Sum8_0 ((s, (0 : Int), ((ByteArray.size s : Nat) : Int), (0 : Int), ()), ())).bind fun y1 =>
  some ((y1.1.1, ()), ())
/-! ### overlay/record.Encode -/
noncomputable def F_record_Encode (b_Floors : Int) (b_Debounce : Int) (b_Room : Int) (b_Park : Int) (b_Empty : Nat) (b_Full : Nat) (b_Over : Nat) (b_Cars : List (Car)) (r_Kind : Int) (r_Floor : Int) (r_Dir : Int) (r_Car : Int) (r_Value : Int) : Option ((ByteArray × Int × Unit) × Unit) :=
  (F_record_Valid b_Floors b_Debounce b_Room b_Park b_Empty b_Full b_Over b_Cars r_Kind r_Floor r_Dir r_Car r_Value).bind fun y1 =>
  bif (!y1.1.1) then
    some (((ByteArray.mk (Array.mk [])), (1 : Int), ()), ())
  else
    let z0 : ByteArray := (textU [(Go.IntKind.wrap Go.IntKind.u8 r_Kind), (Go.IntKind.wrap Go.IntKind.u8 r_Floor), (Go.IntKind.wrap Go.IntKind.u8 r_Dir), (Go.IntKind.wrap Go.IntKind.u8 (Go.IntKind.wrap Go.IntKind.i64 (r_Car + (2 : Int)))), (Go.IntKind.wrap Go.IntKind.u8 r_Value)])
    (F_crc_Sum8 z0).bind fun y2 =>
    let z1 : ByteArray := (textU [y2.1.1])
    bif (Nat.ble ((ByteArray.size z0) + (ByteArray.size z1)) 4611686018427387904) then
      some (((z0 ++ z1), (0 : Int), ()), ())
    else
      none
/-! ### overlay/store.Current -/
noncomputable def F_store_Current (s_Halves_0 : ByteArray) (s_Halves_1 : ByteArray) (s_Select : Int) : Option ((ByteArray × Unit) × Unit) :=
  bif (s_Select == (1 : Int)) then
    some ((s_Halves_1, ()), ())
  else
    some ((s_Halves_0, ()), ())
/-! ### overlay/store.check -/
noncomputable def F_store_check (room : Int) (s_Halves_0 : ByteArray) (s_Halves_1 : ByteArray) (s_Select : Int) (half : Int) (budget : Int) : Option ((Int × Unit) × Unit) :=
  (F_store_IsStore room s_Halves_0 s_Halves_1 s_Select).bind fun y1 =>
  bif (!y1.1.1) then
    some (((1 : Int), ()), ())
  else
    Option.bind (bif (half != (0 : Int)) then
          some ((budget, (half != (1 : Int)), ()), ())
        else
          some ((budget, false, ()), ())) fun y2 =>
    bif y2.1.2.1 then
      some (((2 : Int), ()), ())
    else
      bif (decide (y2.1.1 < (0 : Int))) then
        some (((2 : Int), ()), ())
      else
        some (((0 : Int), ()), ())
/-! ### overlay/store.Write -/
noncomputable def F_store_Write (room : Int) (s_Halves_0 : ByteArray) (s_Halves_1 : ByteArray) (s_Select : Int) (half : Int) (data : ByteArray) (budget : Int) : Option ((Unit × Int × Int × Unit) × ((ByteArray × ByteArray × Int × Unit) × Unit)) :=
  (F_store_check room s_Halves_0 s_Halves_1 s_Select half budget).bind fun y1 =>
  bif (y1.1.1 != (0 : Int)) then
    some (((), (0 : Int), y1.1.1, ()), (((ByteArray.mk (Array.mk [])), (ByteArray.mk (Array.mk [])), (0 : Int), ()), ()))
  else
    bif (Go.Ab.inB half 2) then
      bif (decide ((Go.IntKind.wrap Go.IntKind.i64 (room - ((ByteArray.size (List.getD [s_Halves_0, s_Halves_1] (Int.toNat half) (ByteArray.mk (Array.mk []))) : Nat) : Int))) < ((ByteArray.size data : Nat) : Int))) then
        some (((), (0 : Int), (7 : Int), ()), (((ByteArray.mk (Array.mk [])), (ByteArray.mk (Array.mk [])), (0 : Int), ()), ()))
      else
        bif (decide (budget < ((ByteArray.size data : Nat) : Int))) then
          bif (Go.Ab.inB half 2) then
            let z0 : ByteArray := (List.getD [s_Halves_0, s_Halves_1] (Int.toNat half) (ByteArray.mk (Array.mk [])))
            bif ((decide ((0 : Int) ≤ budget)) && (decide (budget ≤ (((ByteArray.size data) : Nat) : Int)))) then
              let z1 : ByteArray := (ByteArray.extract data 0 (Int.toNat budget))
              bif (Nat.ble ((ByteArray.size z0) + (ByteArray.size z1)) 4611686018427387904) then
                let z2 : ByteArray := (z0 ++ z1)
                bif (Go.Ab.inB half 2) then
                  let z3 : Nat := (Int.toNat half)
                  some (((), (0 : Int), (8 : Int), ()), (((bif (Nat.beq z3 0) then z2 else s_Halves_0), (bif (Nat.beq z3 1) then z2 else s_Halves_1), s_Select, ()), ()))
                else
                  none
              else
                none
            else
              none
          else
            none
        else
          bif (Go.Ab.inB half 2) then
            let z4 : ByteArray := (List.getD [s_Halves_0, s_Halves_1] (Int.toNat half) (ByteArray.mk (Array.mk [])))
            bif (Nat.ble ((ByteArray.size z4) + (ByteArray.size data)) 4611686018427387904) then
              let z5 : ByteArray := (z4 ++ data)
              bif (Go.Ab.inB half 2) then
                let z6 : Nat := (Int.toNat half)
                some (((), (Go.IntKind.wrap Go.IntKind.i64 (budget - ((ByteArray.size data : Nat) : Int))), (0 : Int), ()), (((bif (Nat.beq z6 0) then z5 else s_Halves_0), (bif (Nat.beq z6 1) then z5 else s_Halves_1), s_Select, ()), ()))
              else
                none
            else
              none
          else
            none
    else
      none
/-! ### overlay/log.Snapshot$1 -/
noncomputable def F_log_Snapshot_1 (kind : Int) (value : Int) (b0 : List (Record)) (b1 : Int) : Option (Unit × ((List (Record) × Unit) × (Int × Unit) × Unit)) :=
  let z0 : List (Record) := [(Record.mk kind (0 : Int) (0 : Int) b1 value)]
  bif (Nat.ble ((List.length b0) + (List.length z0)) 2147483648) then
    some ((), (((b0 ++ z0), ()), (b1, ()), ()))
  else
    none
/-! ### overlay/log.number -/
noncomputable def F_log_number (on_1 : Bool) : Option ((Int × Unit) × Unit) :=
  bif on_1 then
    some (((1 : Int), ()), ())
  else
    some (((0 : Int), ()), ())
/-! ### overlay/log.Snapshot$2 -/
noncomputable def F_log_Snapshot_2 (kind : Int) (car : Int) (value : Int) (b0 : List (Record)) (b1_Floor : Int) (b1_Dir : Int) (b1_Car : Int) (b1_Moves : Int) (b1_Moved : Bool) : Option (Unit × ((List (Record) × Unit) × (Int × Int × Int × Int × Bool × Unit) × Unit)) :=
  let z0 : List (Record) := [(Record.mk kind b1_Floor b1_Dir car value)]
  bif (Nat.ble ((List.length b0) + (List.length z0)) 2147483648) then
    some ((), (((b0 ++ z0), ()), (b1_Floor, b1_Dir, b1_Car, b1_Moves, b1_Moved, ()), ()))
  else
    none
/-! ### overlay/log.Snapshot -/
noncomputable def R_log_Snapshot_1 (s47 : List (Entry)) (s48 : Int) (s49 : Int) (l : List (Record)) : Option (Sum ((Unit × List (Entry) × Int × Int × Unit) × ((List (Record) × Unit) × Unit)) ((Unit × Unit) × ((List (Record) × Unit) × Unit))) :=
  bif (decide (s49 < s48)) then
    bif (Go.Ab.inB s49 (List.length s47)) then
      let z0 : Entry := (List.getD s47 (Int.toNat s49) (Entry.mk (0 : Int) (0 : Int) (0 : Int) (0 : Int) false))
      (F_log_Snapshot_2 (1 : Int) (0 : Int) (0 : Int) l z0.Floor z0.Dir z0.Car z0.Moves z0.Moved).bind fun y1 =>
      (F_log_Snapshot_2 (3 : Int) y1.2.2.1.2.2.1 (0 : Int) y1.2.1.1 y1.2.2.1.1 y1.2.2.1.2.1 y1.2.2.1.2.2.1 y1.2.2.1.2.2.2.1 y1.2.2.1.2.2.2.2.1).bind fun y2 =>
      (F_log_number y2.2.2.1.2.2.2.2.1).bind fun y3 =>
      (F_log_Snapshot_2 (7 : Int) y3.1.1 y2.2.2.1.2.2.2.1 y2.2.1.1 y2.2.2.1.1 y2.2.2.1.2.1 y2.2.2.1.2.2.1 y2.2.2.1.2.2.2.1 y2.2.2.1.2.2.2.2.1).bind fun y4 =>
      some (Sum.inl (((), s47, s48, (Go.IntKind.wrap Go.IntKind.i64 (s49 + (1 : Int))), ()), ((y4.2.1.1, ()), ())))
    else
      none
  else
    some (Sum.inr (((), ()), ((l, ()), ())))
noncomputable def L_log_Snapshot_1 : ((Unit × List (Entry) × Int × Int × Unit) × ((List (Record) × Unit) × Unit)) → Option ((Unit × Unit) × ((List (Record) × Unit) × Unit)) := iter (fun x => R_log_Snapshot_1 x.1.2.1 x.1.2.2.1 x.1.2.2.2.1 x.2.1.1) fuel
noncomputable def R_log_Snapshot_0 (s17 : Int) (s18 : Int) (m_Phases : List (Int)) (m_Flags : List (Bool)) (m_Leaving : List (Bool)) (m_Entries : List (Entry)) (l : List (Record)) : Option (Sum ((Unit × Unit × Int × Int × Unit) × ((List (Int) × List (Bool) × List (Bool) × List (Entry) × Unit) × (List (Record) × Unit) × Unit)) ((Unit × Unit × Unit) × ((List (Int) × List (Bool) × List (Bool) × List (Entry) × Unit) × (List (Record) × Unit) × Unit))) :=
  bif (decide (s18 < s17)) then
    bif (Go.Ab.inB s18 (List.length m_Phases)) then
      (F_log_Snapshot_1 (4 : Int) (List.getD m_Phases (Int.toNat s18) (0 : Int)) l s18).bind fun y1 =>
      bif (Go.Ab.inB y1.2.2.1.1 (List.length m_Flags)) then
        (F_log_number (List.getD m_Flags (Int.toNat y1.2.2.1.1) false)).bind fun y2 =>
        (F_log_Snapshot_1 (5 : Int) y2.1.1 y1.2.1.1 y1.2.2.1.1).bind fun y3 =>
        bif (Go.Ab.inB y3.2.2.1.1 (List.length m_Leaving)) then
          (F_log_number (List.getD m_Leaving (Int.toNat y3.2.2.1.1) false)).bind fun y4 =>
          (F_log_Snapshot_1 (6 : Int) y4.1.1 y3.2.1.1 y3.2.2.1.1).bind fun y5 =>
          some (Sum.inl (((), (), s17, (Go.IntKind.wrap Go.IntKind.i64 (s18 + (1 : Int))), ()), ((m_Phases, m_Flags, m_Leaving, m_Entries, ()), (y5.2.1.1, ()), ())))
        else
          none
      else
        none
    else
      none
  else
    some (Sum.inr (((), (), ()), ((m_Phases, m_Flags, m_Leaving, m_Entries, ()), (l, ()), ())))
noncomputable def L_log_Snapshot_0 : ((Unit × Unit × Int × Int × Unit) × ((List (Int) × List (Bool) × List (Bool) × List (Entry) × Unit) × (List (Record) × Unit) × Unit)) → Option ((Unit × Unit × Unit) × ((List (Int) × List (Bool) × List (Bool) × List (Entry) × Unit) × (List (Record) × Unit) × Unit)) := iter (fun x => R_log_Snapshot_0 x.1.2.2.1 x.1.2.2.2.1 x.2.1.1 x.2.1.2.1 x.2.1.2.2.1 x.2.1.2.2.2.1 x.2.2.1.1) fuel
noncomputable def F_log_Snapshot (b_Floors : Int) (b_Debounce : Int) (b_Room : Int) (b_Park : Int) (b_Empty : Nat) (b_Full : Nat) (b_Over : Nat) (b_Cars : List (Car)) (m_Phases : List (Int)) (m_Flags : List (Bool)) (m_Leaving : List (Bool)) (m_Entries : List (Entry)) : Option ((List (Record) × Unit) × Unit) :=
  (F_log_IsImage b_Floors b_Debounce b_Room b_Park b_Empty b_Full b_Over b_Cars m_Phases m_Flags m_Leaving m_Entries).bind fun y1 =>
  bif (!y1.1.1) then
    some ((([] : List (Record)), ()), ())
  else
    (L_log_Snapshot_0 (((), (), ((List.length m_Phases : Nat) : Int), (0 : Int), ()), ((m_Phases, m_Flags, m_Leaving, m_Entries, ()), (([] : List (Record)), ()), ()))).bind fun y2 =>
    (L_log_Snapshot_1 (((), y2.2.1.2.2.2.1, ((List.length y2.2.1.2.2.2.1 : Nat) : Int), (0 : Int), ()), ((y2.2.2.1.1, ()), ()))).bind fun y3 =>
    some ((y3.2.1.1, ()), ())
/-! ### (*strings.Builder).WriteString -/
noncomputable def F_strings_Builder_WriteString (s : ByteArray) (b_buf : List (Int)) : Option ((Int × Unit × Unit) × ((Unit × List (Int) × Unit) × Unit)) :=
  wsF (fun b => (b.toNat : Int)) s b_buf
/-! ### overlay/store.Erase$1 -/
noncomputable def F_store_Erase_1 (s_Halves_0 : ByteArray) (s_Halves_1 : ByteArray) (s_Select : Int) (b1 : Int) : Option (Unit × ((ByteArray × ByteArray × Int × Unit) × (Int × Unit) × Unit)) :=
  bif (Go.Ab.inB b1 2) then
    let z0 : Nat := (Int.toNat b1)
    some ((), (((bif (Nat.beq z0 0) then (ByteArray.mk (Array.mk [])) else s_Halves_0), (bif (Nat.beq z0 1) then (ByteArray.mk (Array.mk [])) else s_Halves_1), s_Select, ()), (b1, ()), ()))
  else
    none
/-! ### overlay/store.unit -/
noncomputable def F_store_unit_store_Erase_1 (room : Int) (s_Halves_0 : ByteArray) (s_Halves_1 : ByteArray) (s_Select : Int) (half : Int) (budget : Int) (b0 : Int) : Option ((Unit × Int × Int × Unit) × ((ByteArray × ByteArray × Int × Unit) × (Int × Unit) × Unit)) :=
  (F_store_check room s_Halves_0 s_Halves_1 s_Select half budget).bind fun y1 =>
  bif (y1.1.1 != (0 : Int)) then
    some (((), (0 : Int), y1.1.1, ()), (((ByteArray.mk (Array.mk [])), (ByteArray.mk (Array.mk [])), (0 : Int), ()), (b0, ()), ()))
  else
    bif (budget == (0 : Int)) then
      some (((), (0 : Int), (8 : Int), ()), ((s_Halves_0, s_Halves_1, s_Select, ()), (b0, ()), ()))
    else
      (F_store_Erase_1 s_Halves_0 s_Halves_1 s_Select b0).bind fun y2 =>
      some (((), (Go.IntKind.wrap Go.IntKind.i64 (budget - (1 : Int))), (0 : Int), ()), ((y2.2.1.1, y2.2.1.2.1, y2.2.1.2.2.1, ()), (y2.2.2.1.1, ()), ()))
/-! ### overlay/store.Erase -/
noncomputable def F_store_Erase (room : Int) (s_Halves_0 : ByteArray) (s_Halves_1 : ByteArray) (s_Select : Int) (half : Int) (budget : Int) : Option ((Unit × Int × Int × Unit) × ((ByteArray × ByteArray × Int × Unit) × Unit)) :=
  (F_store_unit_store_Erase_1 room s_Halves_0 s_Halves_1 s_Select half budget half).bind fun y1 =>
  some (((), y1.1.2.1, y1.1.2.2.1, ()), ((y1.2.1.1, y1.2.1.2.1, y1.2.1.2.2.1, ()), ()))
/-! ### (*strings.Builder).String -/
noncomputable def F_strings_Builder_String (b_buf : List (Int)) : Option ((ByteArray × Unit) × ((Unit × List (Int) × Unit) × Unit)) :=
  bif someL b_buf && List.all b_buf (fun n => decide (0 ≤ n) && decide (n < 256)) then some ((textU b_buf, ()), (((), b_buf, ()), ())) else none
/-! ### overlay/store.Choose$1 -/
noncomputable def F_store_Choose_1 (s_Halves_0 : ByteArray) (s_Halves_1 : ByteArray) (s_Select : Int) (b1 : Int) : Option (Unit × ((ByteArray × ByteArray × Int × Unit) × (Int × Unit) × Unit)) :=
  some ((), ((s_Halves_0, s_Halves_1, b1, ()), (b1, ()), ()))
/-! ### overlay/store.unit -/
noncomputable def F_store_unit_store_Choose_1 (room : Int) (s_Halves_0 : ByteArray) (s_Halves_1 : ByteArray) (s_Select : Int) (half : Int) (budget : Int) (b0 : Int) : Option ((Unit × Int × Int × Unit) × ((ByteArray × ByteArray × Int × Unit) × (Int × Unit) × Unit)) :=
  (F_store_check room s_Halves_0 s_Halves_1 s_Select half budget).bind fun y1 =>
  bif (y1.1.1 != (0 : Int)) then
    some (((), (0 : Int), y1.1.1, ()), (((ByteArray.mk (Array.mk [])), (ByteArray.mk (Array.mk [])), (0 : Int), ()), (b0, ()), ()))
  else
    bif (budget == (0 : Int)) then
      some (((), (0 : Int), (8 : Int), ()), ((s_Halves_0, s_Halves_1, s_Select, ()), (b0, ()), ()))
    else
      (F_store_Choose_1 s_Halves_0 s_Halves_1 s_Select b0).bind fun y2 =>
      some (((), (Go.IntKind.wrap Go.IntKind.i64 (budget - (1 : Int))), (0 : Int), ()), ((y2.2.1.1, y2.2.1.2.1, y2.2.1.2.2.1, ()), (y2.2.2.1.1, ()), ()))
/-! ### overlay/store.Choose -/
noncomputable def F_store_Choose (room : Int) (s_Halves_0 : ByteArray) (s_Halves_1 : ByteArray) (s_Select : Int) (half : Int) (budget : Int) : Option ((Unit × Int × Int × Unit) × ((ByteArray × ByteArray × Int × Unit) × Unit)) :=
  (F_store_unit_store_Choose_1 room s_Halves_0 s_Halves_1 s_Select half budget half).bind fun y1 =>
  some (((), y1.1.2.1, y1.1.2.2.1, ()), ((y1.2.1.1, y1.2.1.2.1, y1.2.1.2.2.1, ()), ()))
/-! ### overlay/log.Compact -/
noncomputable def R_log_Compact_0 (budget : Int) (s36 : List (Record)) (s37 : Int) (s38 : Int) (b_Floors : Int) (b_Debounce : Int) (b_Room : Int) (b_Park : Int) (b_Empty : Nat) (b_Full : Nat) (b_Over : Nat) (b_Cars : List (Car)) (s_Halves_0 : ByteArray) (s_Halves_1 : ByteArray) (s_Select : Int) (b8_Halves_0 : ByteArray) (b8_Halves_1 : ByteArray) (b8_Select : Int) (text_buf : List (Int)) : Option (Sum ((Int × Unit × Unit × Unit × Unit × List (Record) × Int × Int × Unit) × ((Int × Int × Int × Int × Nat × Nat × Nat × List (Car) × Unit) × (ByteArray × ByteArray × Int × Unit) × (ByteArray × ByteArray × Int × Unit) × (Unit × List (Int) × Unit) × Unit)) ((Int × Unit × Unit × Unit × Unit × Unit) × ((Int × Int × Int × Int × Nat × Nat × Nat × List (Car) × Unit) × (ByteArray × ByteArray × Int × Unit) × (ByteArray × ByteArray × Int × Unit) × (Unit × List (Int) × Unit) × Unit))) :=
  bif (decide (s38 < s37)) then
    bif (Go.Ab.inB s38 (List.length s36)) then
      let z0 : Record := (List.getD s36 (Int.toNat s38) (Record.mk (0 : Int) (0 : Int) (0 : Int) (0 : Int) (0 : Int)))
      (F_record_Encode b_Floors b_Debounce b_Room b_Park b_Empty b_Full b_Over b_Cars z0.Kind z0.Floor z0.Dir z0.Car z0.Value).bind fun y1 =>
      (F_strings_Builder_WriteString y1.1.1 text_buf).bind fun y2 =>
      some (Sum.inl ((budget, (), (), (), (), s36, s37, (Go.IntKind.wrap Go.IntKind.i64 (s38 + (1 : Int))), ()), ((b_Floors, b_Debounce, b_Room, b_Park, b_Empty, b_Full, b_Over, b_Cars, ()), (s_Halves_0, s_Halves_1, s_Select, ()), (b8_Halves_0, b8_Halves_1, b8_Select, ()), ((), y2.2.1.2.1, ()), ())))
    else
      none
  else
    some (Sum.inr ((budget, (), (), (), (), ()), ((b_Floors, b_Debounce, b_Room, b_Park, b_Empty, b_Full, b_Over, b_Cars, ()), (s_Halves_0, s_Halves_1, s_Select, ()), (b8_Halves_0, b8_Halves_1, b8_Select, ()), ((), text_buf, ()), ())))
noncomputable def L_log_Compact_0 : ((Int × Unit × Unit × Unit × Unit × List (Record) × Int × Int × Unit) × ((Int × Int × Int × Int × Nat × Nat × Nat × List (Car) × Unit) × (ByteArray × ByteArray × Int × Unit) × (ByteArray × ByteArray × Int × Unit) × (Unit × List (Int) × Unit) × Unit)) → Option ((Int × Unit × Unit × Unit × Unit × Unit) × ((Int × Int × Int × Int × Nat × Nat × Nat × List (Car) × Unit) × (ByteArray × ByteArray × Int × Unit) × (ByteArray × ByteArray × Int × Unit) × (Unit × List (Int) × Unit) × Unit)) := iter (fun x => R_log_Compact_0 x.1.1 x.1.2.2.2.2.2.1 x.1.2.2.2.2.2.2.1 x.1.2.2.2.2.2.2.2.1 x.2.1.1 x.2.1.2.1 x.2.1.2.2.1 x.2.1.2.2.2.1 x.2.1.2.2.2.2.1 x.2.1.2.2.2.2.2.1 x.2.1.2.2.2.2.2.2.1 x.2.1.2.2.2.2.2.2.2.1 x.2.2.1.1 x.2.2.1.2.1 x.2.2.1.2.2.1 x.2.2.2.1.1 x.2.2.2.1.2.1 x.2.2.2.1.2.2.1 x.2.2.2.2.1.2.1) fuel
noncomputable def F_log_Compact (b_Floors : Int) (b_Debounce : Int) (b_Room : Int) (b_Park : Int) (b_Empty : Nat) (b_Full : Nat) (b_Over : Nat) (b_Cars : List (Car)) (s_Halves_0 : ByteArray) (s_Halves_1 : ByteArray) (s_Select : Int) (m_Phases : List (Int)) (m_Flags : List (Bool)) (m_Leaving : List (Bool)) (m_Entries : List (Entry)) (budget : Int) : Option ((Unit × Int × Int × Unit) × ((ByteArray × ByteArray × Int × Unit) × Unit)) :=
  (F_store_IsStore b_Room s_Halves_0 s_Halves_1 s_Select).bind fun y1 =>
  bif (!y1.1.1) then
    some (((), (0 : Int), (1 : Int), ()), (((ByteArray.mk (Array.mk [])), (ByteArray.mk (Array.mk [])), (0 : Int), ()), ()))
  else
    bif (decide (budget < (0 : Int))) then
      some (((), (0 : Int), (1 : Int), ()), (((ByteArray.mk (Array.mk [])), (ByteArray.mk (Array.mk [])), (0 : Int), ()), ()))
    else
      (F_log_IsImage b_Floors b_Debounce b_Room b_Park b_Empty b_Full b_Over b_Cars m_Phases m_Flags m_Leaving m_Entries).bind fun y2 =>
      bif (!y2.1.1) then
        some (((), (0 : Int), (1 : Int), ()), (((ByteArray.mk (Array.mk [])), (ByteArray.mk (Array.mk [])), (0 : Int), ()), ()))
      else
        (F_log_Snapshot b_Floors b_Debounce b_Room b_Park b_Empty b_Full b_Over b_Cars m_Phases m_Flags m_Leaving m_Entries).bind fun y3 =>
        (L_log_Compact_0 ((budget, (), (), (), (), y3.1.1, ((List.length y3.1.1 : Nat) : Int), (0 : Int), ()), ((b_Floors, b_Debounce, b_Room, b_Park, b_Empty, b_Full, b_Over, b_Cars, ()), (s_Halves_0, s_Halves_1, s_Select, ()), ((ByteArray.mk (Array.mk [])), (ByteArray.mk (Array.mk [])), (0 : Int), ()), ((), ([] : List (Int)), ()), ()))).bind fun y4 =>
        let z0 : Int := (Go.IntKind.wrap Go.IntKind.i64 ((1 : Int) - y4.2.2.1.2.2.1))
        (F_store_Erase y4.2.1.2.2.1 y4.2.2.1.1 y4.2.2.1.2.1 y4.2.2.1.2.2.1 z0 y4.1.1).bind fun y5 =>
        Option.bind (bif (y5.1.2.2.1 == (0 : Int)) then
              (F_strings_Builder_String y4.2.2.2.2.1.2.1).bind fun y6 =>
              (F_store_Write y4.2.1.2.2.1 y5.2.1.1 y5.2.1.2.1 y5.2.1.2.2.1 z0 y6.1.1 y5.1.2.1).bind fun y7 =>
              some ((y7.1.2.1, (), (), (), z0, y7.1.2.2.1, ()), ((y4.2.1.1, y4.2.1.2.1, y4.2.1.2.2.1, y4.2.1.2.2.2.1, y4.2.1.2.2.2.2.1, y4.2.1.2.2.2.2.2.1, y4.2.1.2.2.2.2.2.2.1, y4.2.1.2.2.2.2.2.2.2.1, ()), (y7.2.1.1, y7.2.1.2.1, y7.2.1.2.2.1, ()), (y4.2.2.2.1.1, y4.2.2.2.1.2.1, y4.2.2.2.1.2.2.1, ()), ()))
            else
              some ((y5.1.2.1, (), (), (), z0, y5.1.2.2.1, ()), ((y4.2.1.1, y4.2.1.2.1, y4.2.1.2.2.1, y4.2.1.2.2.2.1, y4.2.1.2.2.2.2.1, y4.2.1.2.2.2.2.2.1, y4.2.1.2.2.2.2.2.2.1, y4.2.1.2.2.2.2.2.2.2.1, ()), (y5.2.1.1, y5.2.1.2.1, y5.2.1.2.2.1, ()), (y4.2.2.2.1.1, y4.2.2.2.1.2.1, y4.2.2.2.1.2.2.1, ()), ()))) fun y8 =>
        bif (y8.1.2.2.2.2.2.1 == (0 : Int)) then
          (F_store_Choose y8.2.1.2.2.1 y8.2.2.1.1 y8.2.2.1.2.1 y8.2.2.1.2.2.1 y8.1.2.2.2.2.1 y8.1.1).bind fun y9 =>
          some (((), y9.1.2.1, y9.1.2.2.1, ()), ((y9.2.1.1, y9.2.1.2.1, y9.2.1.2.2.1, ()), ()))
        else
          some (((), y8.1.1, y8.1.2.2.2.2.2.1, ()), ((y8.2.2.1.1, y8.2.2.1.2.1, y8.2.2.1.2.2.1, ()), ()))
/-! ### overlay/log.Append -/
noncomputable def F_log_Append (b_Floors : Int) (b_Debounce : Int) (b_Room : Int) (b_Park : Int) (b_Empty : Nat) (b_Full : Nat) (b_Over : Nat) (b_Cars : List (Car)) (s_Halves_0 : ByteArray) (s_Halves_1 : ByteArray) (s_Select : Int) (m_Phases : List (Int)) (m_Flags : List (Bool)) (m_Leaving : List (Bool)) (m_Entries : List (Entry)) (r_Kind : Int) (r_Floor : Int) (r_Dir : Int) (r_Car : Int) (r_Value : Int) (budget : Int) : Option ((Unit × Unit × Int × Int × Unit) × ((ByteArray × ByteArray × Int × Unit) × (List (Int) × List (Bool) × List (Bool) × List (Entry) × Unit) × Unit)) :=
  (F_log_Apply b_Floors b_Debounce b_Room b_Park b_Empty b_Full b_Over b_Cars m_Phases m_Flags m_Leaving m_Entries r_Kind r_Floor r_Dir r_Car r_Value).bind fun y1 =>
  bif (y1.1.2.1 != (0 : Int)) then
    some (((), (), (0 : Int), (1 : Int), ()), (((ByteArray.mk (Array.mk [])), (ByteArray.mk (Array.mk [])), (0 : Int), ()), (([] : List (Int)), ([] : List (Bool)), ([] : List (Bool)), ([] : List (Entry)), ()), ()))
  else
    (F_store_IsStore b_Room s_Halves_0 s_Halves_1 s_Select).bind fun y2 =>
    bif (!y2.1.1) then
      some (((), (), (0 : Int), (1 : Int), ()), (((ByteArray.mk (Array.mk [])), (ByteArray.mk (Array.mk [])), (0 : Int), ()), (([] : List (Int)), ([] : List (Bool)), ([] : List (Bool)), ([] : List (Entry)), ()), ()))
    else
      bif (decide (budget < (0 : Int))) then
        some (((), (), (0 : Int), (1 : Int), ()), (((ByteArray.mk (Array.mk [])), (ByteArray.mk (Array.mk [])), (0 : Int), ()), (([] : List (Int)), ([] : List (Bool)), ([] : List (Bool)), ([] : List (Entry)), ()), ()))
      else
        (F_log_find m_Phases m_Flags m_Leaving m_Entries r_Floor r_Dir).bind fun y3 =>
        Option.bind (bif (r_Kind == (1 : Int)) then
              bif (!y3.1.2.1) then
                (F_log_Room b_Floors b_Debounce b_Room b_Park b_Empty b_Full b_Over b_Cars m_Phases m_Flags m_Leaving m_Entries).bind fun y4 =>
                some ((budget, (), (), (), (), (), (), (), (!y4.1.1), ()), ((b_Floors, b_Debounce, b_Room, b_Park, b_Empty, b_Full, b_Over, b_Cars, ()), (s_Halves_0, s_Halves_1, s_Select, ()), (m_Phases, m_Flags, m_Leaving, m_Entries, ()), (r_Kind, r_Floor, r_Dir, r_Car, r_Value, ()), ((ByteArray.mk (Array.mk [])), (ByteArray.mk (Array.mk [])), (0 : Int), ()), (([] : List (Int)), ([] : List (Bool)), ([] : List (Bool)), ([] : List (Entry)), ()), (y1.2.1.1, y1.2.1.2.1, y1.2.1.2.2.1, y1.2.1.2.2.2.1, ()), ()))
              else
                some ((budget, (), (), (), (), (), (), (), false, ()), ((b_Floors, b_Debounce, b_Room, b_Park, b_Empty, b_Full, b_Over, b_Cars, ()), (s_Halves_0, s_Halves_1, s_Select, ()), (m_Phases, m_Flags, m_Leaving, m_Entries, ()), (r_Kind, r_Floor, r_Dir, r_Car, r_Value, ()), ((ByteArray.mk (Array.mk [])), (ByteArray.mk (Array.mk [])), (0 : Int), ()), (([] : List (Int)), ([] : List (Bool)), ([] : List (Bool)), ([] : List (Entry)), ()), (y1.2.1.1, y1.2.1.2.1, y1.2.1.2.2.1, y1.2.1.2.2.2.1, ()), ()))
            else
              some ((budget, (), (), (), (), (), (), (), false, ()), ((b_Floors, b_Debounce, b_Room, b_Park, b_Empty, b_Full, b_Over, b_Cars, ()), (s_Halves_0, s_Halves_1, s_Select, ()), (m_Phases, m_Flags, m_Leaving, m_Entries, ()), (r_Kind, r_Floor, r_Dir, r_Car, r_Value, ()), ((ByteArray.mk (Array.mk [])), (ByteArray.mk (Array.mk [])), (0 : Int), ()), (([] : List (Int)), ([] : List (Bool)), ([] : List (Bool)), ([] : List (Entry)), ()), (y1.2.1.1, y1.2.1.2.1, y1.2.1.2.2.1, y1.2.1.2.2.2.1, ()), ()))) fun y5 =>
        bif y5.1.2.2.2.2.2.2.2.2.1 then
          some (((), (), (0 : Int), (7 : Int), ()), (((ByteArray.mk (Array.mk [])), (ByteArray.mk (Array.mk [])), (0 : Int), ()), (([] : List (Int)), ([] : List (Bool)), ([] : List (Bool)), ([] : List (Entry)), ()), ()))
        else
          (F_record_Encode y5.2.1.1 y5.2.1.2.1 y5.2.1.2.2.1 y5.2.1.2.2.2.1 y5.2.1.2.2.2.2.1 y5.2.1.2.2.2.2.2.1 y5.2.1.2.2.2.2.2.2.1 y5.2.1.2.2.2.2.2.2.2.1 y5.2.2.2.2.1.1 y5.2.2.2.2.1.2.1 y5.2.2.2.2.1.2.2.1 y5.2.2.2.2.1.2.2.2.1 y5.2.2.2.2.1.2.2.2.2.1).bind fun y6 =>
          Option.bind ((F_store_Current y5.2.2.1.1 y5.2.2.1.2.1 y5.2.2.1.2.2.1).bind fun y7 =>
              bif (decide (((ByteArray.size y6.1.1 : Nat) : Int) ≤ (Go.IntKind.wrap Go.IntKind.i64 (y5.2.1.2.2.1 - ((ByteArray.size y7.1.1 : Nat) : Int))))) then
                (F_store_Write y5.2.1.2.2.1 y5.2.2.1.1 y5.2.2.1.2.1 y5.2.2.1.2.2.1 y5.2.2.1.2.2.1 y6.1.1 y5.1.1).bind fun y8 =>
                some ((y8.1.2.1, (), (), (), (), (), y8.1.2.2.1, ()), ((y8.2.1.1, y8.2.1.2.1, y8.2.1.2.2.1, ()), (y5.2.2.2.1.1, y5.2.2.2.1.2.1, y5.2.2.2.1.2.2.1, y5.2.2.2.1.2.2.2.1, ()), (y5.2.2.2.2.2.1.1, y5.2.2.2.2.2.1.2.1, y5.2.2.2.2.2.1.2.2.1, ()), (y5.2.2.2.2.2.2.1.1, y5.2.2.2.2.2.2.1.2.1, y5.2.2.2.2.2.2.1.2.2.1, y5.2.2.2.2.2.2.1.2.2.2.1, ()), (y5.2.2.2.2.2.2.2.1.1, y5.2.2.2.2.2.2.2.1.2.1, y5.2.2.2.2.2.2.2.1.2.2.1, y5.2.2.2.2.2.2.2.1.2.2.2.1, ()), ()))
              else
                (F_log_Compact y5.2.1.1 y5.2.1.2.1 y5.2.1.2.2.1 y5.2.1.2.2.2.1 y5.2.1.2.2.2.2.1 y5.2.1.2.2.2.2.2.1 y5.2.1.2.2.2.2.2.2.1 y5.2.1.2.2.2.2.2.2.2.1 y5.2.2.1.1 y5.2.2.1.2.1 y5.2.2.1.2.2.1 y5.2.2.2.2.2.2.2.1.1 y5.2.2.2.2.2.2.2.1.2.1 y5.2.2.2.2.2.2.2.1.2.2.1 y5.2.2.2.2.2.2.2.1.2.2.2.1 y5.1.1).bind fun y9 =>
                some ((y9.1.2.1, (), (), (), (), (), y9.1.2.2.1, ()), ((y9.2.1.1, y9.2.1.2.1, y9.2.1.2.2.1, ()), (y5.2.2.2.1.1, y5.2.2.2.1.2.1, y5.2.2.2.1.2.2.1, y5.2.2.2.1.2.2.2.1, ()), (y5.2.2.2.2.2.1.1, y5.2.2.2.2.2.1.2.1, y5.2.2.2.2.2.1.2.2.1, ()), (y5.2.2.2.2.2.2.1.1, y5.2.2.2.2.2.2.1.2.1, y5.2.2.2.2.2.2.1.2.2.1, y5.2.2.2.2.2.2.1.2.2.2.1, ()), (y5.2.2.2.2.2.2.2.1.1, y5.2.2.2.2.2.2.2.1.2.1, y5.2.2.2.2.2.2.2.1.2.2.1, y5.2.2.2.2.2.2.2.1.2.2.2.1, ()), ()))) fun y10 =>
          bif (y10.1.2.2.2.2.2.2.1 == (0 : Int)) then
            some (((), (), y10.1.1, y10.1.2.2.2.2.2.2.1, ()), ((y10.2.1.1, y10.2.1.2.1, y10.2.1.2.2.1, ()), (y10.2.2.2.2.2.1.1, y10.2.2.2.2.2.1.2.1, y10.2.2.2.2.2.1.2.2.1, y10.2.2.2.2.2.1.2.2.2.1, ()), ()))
          else
            bif (y10.1.2.2.2.2.2.2.1 == (8 : Int)) then
              (F_log_clone y10.2.2.1.1 y10.2.2.1.2.1 y10.2.2.1.2.2.1 y10.2.2.1.2.2.2.1).bind fun y11 =>
              some (((), (), (0 : Int), y10.1.2.2.2.2.2.2.1, ()), ((y10.2.1.1, y10.2.1.2.1, y10.2.1.2.2.1, ()), (y11.2.1.1, y11.2.1.2.1, y11.2.1.2.2.1, y11.2.1.2.2.2.1, ()), ()))
            else
              some (((), (), (0 : Int), y10.1.2.2.2.2.2.2.1, ()), (((ByteArray.mk (Array.mk [])), (ByteArray.mk (Array.mk [])), (0 : Int), ()), (([] : List (Int)), ([] : List (Bool)), ([] : List (Bool)), ([] : List (Entry)), ()), ()))
/-! ### slices.Equal[[]int,int] -/
noncomputable def R_slices_Equal_sl_int_int_0 (s1 : List (Int)) (s2 : List (Int)) (s12 : Int) (s13 : Int) : Option (Sum ((List (Int) × List (Int) × Int × Int × Unit) × Unit) ((Unit × Unit) ⊕ ((Bool × Unit) × Unit))) :=
  bif (decide (s13 < s12)) then
    bif (Go.Ab.inB s13 (List.length s1)) then
      bif (Go.Ab.inB s13 (List.length s2)) then
        bif ((List.getD s1 (Int.toNat s13) (0 : Int)) != (List.getD s2 (Int.toNat s13) (0 : Int))) then
          some (Sum.inr (Sum.inr ((false, ()), ())))
        else
          some (Sum.inl ((s1, s2, s12, (Go.IntKind.wrap Go.IntKind.i64 (s13 + (1 : Int))), ()), ()))
      else
        none
    else
      none
  else
    some (Sum.inr (Sum.inl ((), ())))
noncomputable def L_slices_Equal_sl_int_int_0 : ((List (Int) × List (Int) × Int × Int × Unit) × Unit) → Option ((Unit × Unit) ⊕ ((Bool × Unit) × Unit)) := iter (fun x => R_slices_Equal_sl_int_int_0 x.1.1 x.1.2.1 x.1.2.2.1 x.1.2.2.2.1) fuel
noncomputable def F_slices_Equal_sl_int_int (s1 : List (Int)) (s2 : List (Int)) : Option ((Bool × Unit) × Unit) :=
  bif (((List.length s1 : Nat) : Int) != ((List.length s2 : Nat) : Int)) then
    some ((false, ()), ())
  else
    (L_slices_Equal_sl_int_int_0 ((s1, s2, ((List.length s1 : Nat) : Int), (0 : Int), ()), ())).bind fun y1 =>
    (match y1 with
    | .inl y2 =>
      some ((true, ()), ())
    | .inr y2 =>
      some ((y2.1.1, ()), ()))
/-! ### slices.Equal[[]bool,bool] -/
noncomputable def R_slices_Equal_sl_bool_bool_0 (s1 : List (Bool)) (s2 : List (Bool)) (s12 : Int) (s13 : Int) : Option (Sum ((List (Bool) × List (Bool) × Int × Int × Unit) × Unit) ((Unit × Unit) ⊕ ((Bool × Unit) × Unit))) :=
  bif (decide (s13 < s12)) then
    bif (Go.Ab.inB s13 (List.length s1)) then
      bif (Go.Ab.inB s13 (List.length s2)) then
        bif (!((List.getD s1 (Int.toNat s13) false) == (List.getD s2 (Int.toNat s13) false))) then
          some (Sum.inr (Sum.inr ((false, ()), ())))
        else
          some (Sum.inl ((s1, s2, s12, (Go.IntKind.wrap Go.IntKind.i64 (s13 + (1 : Int))), ()), ()))
      else
        none
    else
      none
  else
    some (Sum.inr (Sum.inl ((), ())))
noncomputable def L_slices_Equal_sl_bool_bool_0 : ((List (Bool) × List (Bool) × Int × Int × Unit) × Unit) → Option ((Unit × Unit) ⊕ ((Bool × Unit) × Unit)) := iter (fun x => R_slices_Equal_sl_bool_bool_0 x.1.1 x.1.2.1 x.1.2.2.1 x.1.2.2.2.1) fuel
noncomputable def F_slices_Equal_sl_bool_bool (s1 : List (Bool)) (s2 : List (Bool)) : Option ((Bool × Unit) × Unit) :=
  bif (((List.length s1 : Nat) : Int) != ((List.length s2 : Nat) : Int)) then
    some ((false, ()), ())
  else
    (L_slices_Equal_sl_bool_bool_0 ((s1, s2, ((List.length s1 : Nat) : Int), (0 : Int), ()), ())).bind fun y1 =>
    (match y1 with
    | .inl y2 =>
      some ((true, ()), ())
    | .inr y2 =>
      some ((y2.1.1, ()), ()))
/-! ### slices.Equal[[]overlay/api.Entry,overlay/api.Entry] -/
noncomputable def R_slices_Equal_sl_api_Entry_api_Entry_0 (s1 : List (Entry)) (s2 : List (Entry)) (s12 : Int) (s13 : Int) : Option (Sum ((List (Entry) × List (Entry) × Int × Int × Unit) × Unit) ((Unit × Unit) ⊕ ((Bool × Unit) × Unit))) :=
  bif (decide (s13 < s12)) then
    bif (Go.Ab.inB s13 (List.length s1)) then
      let z0 : Entry := (List.getD s1 (Int.toNat s13) (Entry.mk (0 : Int) (0 : Int) (0 : Int) (0 : Int) false))
      bif (Go.Ab.inB s13 (List.length s2)) then
        let z1 : Entry := (List.getD s2 (Int.toNat s13) (Entry.mk (0 : Int) (0 : Int) (0 : Int) (0 : Int) false))
        bif (!((z0.Floor == z1.Floor) && ((z0.Dir == z1.Dir) && ((z0.Car == z1.Car) && ((z0.Moves == z1.Moves) && ((z0.Moved == z1.Moved) && true)))))) then
          some (Sum.inr (Sum.inr ((false, ()), ())))
        else
          some (Sum.inl ((s1, s2, s12, (Go.IntKind.wrap Go.IntKind.i64 (s13 + (1 : Int))), ()), ()))
      else
        none
    else
      none
  else
    some (Sum.inr (Sum.inl ((), ())))
noncomputable def L_slices_Equal_sl_api_Entry_api_Entry_0 : ((List (Entry) × List (Entry) × Int × Int × Unit) × Unit) → Option ((Unit × Unit) ⊕ ((Bool × Unit) × Unit)) := iter (fun x => R_slices_Equal_sl_api_Entry_api_Entry_0 x.1.1 x.1.2.1 x.1.2.2.1 x.1.2.2.2.1) fuel
noncomputable def F_slices_Equal_sl_api_Entry_api_Entry (s1 : List (Entry)) (s2 : List (Entry)) : Option ((Bool × Unit) × Unit) :=
  bif (((List.length s1 : Nat) : Int) != ((List.length s2 : Nat) : Int)) then
    some ((false, ()), ())
  else
    (L_slices_Equal_sl_api_Entry_api_Entry_0 ((s1, s2, ((List.length s1 : Nat) : Int), (0 : Int), ()), ())).bind fun y1 =>
    (match y1 with
    | .inl y2 =>
      some ((true, ()), ())
    | .inr y2 =>
      some ((y2.1.1, ()), ()))
/-! ### overlay/log.Same -/
noncomputable def F_log_Same (a_Phases : List (Int)) (a_Flags : List (Bool)) (a_Leaving : List (Bool)) (a_Entries : List (Entry)) (b_Phases : List (Int)) (b_Flags : List (Bool)) (b_Leaving : List (Bool)) (b_Entries : List (Entry)) : Option ((Bool × Unit) × Unit) :=
  Option.bind ((F_slices_Equal_sl_int_int a_Phases b_Phases).bind fun y1 =>
      bif y1.1.1 then
        (F_slices_Equal_sl_bool_bool a_Flags b_Flags).bind fun y2 =>
        bif y2.1.1 then
          (F_slices_Equal_sl_bool_bool a_Leaving b_Leaving).bind fun y3 =>
          bif y3.1.1 then
            (F_slices_Equal_sl_api_Entry_api_Entry a_Entries b_Entries).bind fun y4 =>
            some ((y4.1.1, ()), ())
          else
            some ((false, ()), ())
        else
          some ((false, ()), ())
      else
        some ((false, ()), ())) fun y5 =>
  some ((y5.1.1, ()), ())
/-! ### overlay/record.Decode -/
noncomputable def F_record_Decode (b_Floors : Int) (b_Debounce : Int) (b_Room : Int) (b_Park : Int) (b_Empty : Nat) (b_Full : Nat) (b_Over : Nat) (b_Cars : List (Car)) (s : ByteArray) : Option ((Unit × Int × Unit) × ((Int × Int × Int × Int × Int × Unit) × Unit)) :=
  (F_building_Valid b_Floors b_Debounce b_Room b_Park b_Empty b_Full b_Over b_Cars).bind fun y1 =>
  bif (y1.1.1 != (0 : Int)) then
    some (((), (1 : Int), ()), (((0 : Int), (0 : Int), (0 : Int), (0 : Int), (0 : Int), ()), ()))
  else
    bif (((ByteArray.size s : Nat) : Int) != (6 : Int)) then
      some (((), (4 : Int), ()), (((0 : Int), (0 : Int), (0 : Int), (0 : Int), (0 : Int), ()), ()))
    else
      bif (decide ((5 : Int) ≤ (((ByteArray.size s) : Nat) : Int))) then
        (F_crc_Sum8 (ByteArray.extract s 0 5)).bind fun y2 =>
        bif (Go.Ab.inB (5 : Int) (ByteArray.size s)) then
          bif (y2.1.1 != (Go.Ab.byteAt s (Int.toNat (5 : Int)))) then
            some (((), (5 : Int), ()), (((0 : Int), (0 : Int), (0 : Int), (0 : Int), (0 : Int), ()), ()))
          else
            bif (Go.Ab.inB (0 : Int) (ByteArray.size s)) then
              let z0 : Int := (Go.IntKind.wrap Go.IntKind.i64 (Go.Ab.byteAt s (Int.toNat (0 : Int))))
              bif (Go.Ab.inB (1 : Int) (ByteArray.size s)) then
                let z1 : Int := (Go.IntKind.wrap Go.IntKind.i64 (Go.Ab.byteAt s (Int.toNat (1 : Int))))
                bif (Go.Ab.inB (2 : Int) (ByteArray.size s)) then
                  let z2 : Int := (Go.IntKind.wrap Go.IntKind.i64 (Go.Ab.byteAt s (Int.toNat (2 : Int))))
                  bif (Go.Ab.inB (3 : Int) (ByteArray.size s)) then
                    let z3 : Int := (Go.IntKind.wrap Go.IntKind.i64 ((Go.IntKind.wrap Go.IntKind.i64 (Go.Ab.byteAt s (Int.toNat (3 : Int)))) - (2 : Int)))
                    bif (Go.Ab.inB (4 : Int) (ByteArray.size s)) then
                      let z4 : Int := (Go.IntKind.wrap Go.IntKind.i64 (Go.Ab.byteAt s (Int.toNat (4 : Int))))
                      (F_record_Valid b_Floors b_Debounce b_Room b_Park b_Empty b_Full b_Over b_Cars z0 z1 z2 z3 z4).bind fun y3 =>
                      bif (!y3.1.1) then
                        some (((), (9 : Int), ()), (((0 : Int), (0 : Int), (0 : Int), (0 : Int), (0 : Int), ()), ()))
                      else
                        some (((), (0 : Int), ()), ((z0, z1, z2, z3, z4, ()), ()))
                    else
                      none
                  else
                    none
                else
                  none
              else
                none
            else
              none
        else
          none
      else
        none
/-! ### overlay/record.Read -/
noncomputable def R_record_Read_0 (s : ByteArray) (l : List (Record)) (at_1 : Int) (b_Floors : Int) (b_Debounce : Int) (b_Room : Int) (b_Park : Int) (b_Empty : Nat) (b_Full : Nat) (b_Over : Nat) (b_Cars : List (Car)) : Option (Sum ((ByteArray × Unit × List (Record) × Int × Unit) × ((Int × Int × Int × Int × Nat × Nat × Nat × List (Car) × Unit) × Unit)) ((List (Record) × Int × Unit) × Unit)) :=
  bif (decide ((Go.IntKind.wrap Go.IntKind.i64 (at_1 + (6 : Int))) ≤ ((ByteArray.size s : Nat) : Int))) then
    let z0 : Int := (Go.IntKind.wrap Go.IntKind.i64 (at_1 + (6 : Int)))
    bif ((decide ((0 : Int) ≤ z0)) && (decide (z0 ≤ (((ByteArray.size s) : Nat) : Int)))) then
      bif ((decide ((0 : Int) ≤ at_1)) && (decide (at_1 ≤ (((Int.toNat z0) : Nat) : Int)))) then
        (F_record_Decode b_Floors b_Debounce b_Room b_Park b_Empty b_Full b_Over b_Cars (ByteArray.extract s (Int.toNat at_1) (Int.toNat z0))).bind fun y1 =>
        bif (y1.1.2.1 != (0 : Int)) then
          some (Sum.inr ((l, at_1, ()), ()))
        else
          let z1 : List (Record) := [(Record.mk y1.2.1.1 y1.2.1.2.1 y1.2.1.2.2.1 y1.2.1.2.2.2.1 y1.2.1.2.2.2.2.1)]
          bif (Nat.ble ((List.length l) + (List.length z1)) 2147483648) then
            some (Sum.inl ((s, (), (l ++ z1), (Go.IntKind.wrap Go.IntKind.i64 (at_1 + (6 : Int))), ()), ((b_Floors, b_Debounce, b_Room, b_Park, b_Empty, b_Full, b_Over, b_Cars, ()), ())))
          else
            none
      else
        none
    else
      none
  else
    some (Sum.inr ((l, at_1, ()), ()))
noncomputable def L_record_Read_0 : ((ByteArray × Unit × List (Record) × Int × Unit) × ((Int × Int × Int × Int × Nat × Nat × Nat × List (Car) × Unit) × Unit)) → Option ((List (Record) × Int × Unit) × Unit) := iter (fun x => R_record_Read_0 x.1.1 x.1.2.2.1 x.1.2.2.2.1 x.2.1.1 x.2.1.2.1 x.2.1.2.2.1 x.2.1.2.2.2.1 x.2.1.2.2.2.2.1 x.2.1.2.2.2.2.2.1 x.2.1.2.2.2.2.2.2.1 x.2.1.2.2.2.2.2.2.2.1) fuel
noncomputable def F_record_Read (b_Floors : Int) (b_Debounce : Int) (b_Room : Int) (b_Park : Int) (b_Empty : Nat) (b_Full : Nat) (b_Over : Nat) (b_Cars : List (Car)) (s : ByteArray) : Option ((List (Record) × Int × Unit) × Unit) :=
  (L_record_Read_0 ((s, (), ([] : List (Record)), (0 : Int), ()), ((b_Floors, b_Debounce, b_Room, b_Park, b_Empty, b_Full, b_Over, b_Cars, ()), ()))).bind fun y1 =>
  some ((y1.1.1, y1.1.2.1, ()), ())
/-! ### overlay/log.Replay -/
noncomputable def R_log_Replay_0 (s19 : List (Record)) (s20 : Int) (s21 : Int) (b4_Phases : List (Int)) (b4_Flags : List (Bool)) (b4_Leaving : List (Bool)) (b4_Entries : List (Entry)) (m_Phases : List (Int)) (m_Flags : List (Bool)) (m_Leaving : List (Bool)) (m_Entries : List (Entry)) : Option (Sum ((Unit × Unit × List (Record) × Int × Int × Unit) × ((List (Int) × List (Bool) × List (Bool) × List (Entry) × Unit) × (List (Int) × List (Bool) × List (Bool) × List (Entry) × Unit) × Unit)) ((Unit × Unit × Unit) × ((List (Int) × List (Bool) × List (Bool) × List (Entry) × Unit) × (List (Int) × List (Bool) × List (Bool) × List (Entry) × Unit) × Unit))) :=
  bif (decide (s21 < s20)) then
    bif (Go.Ab.inB s21 (List.length s19)) then
      let z0 : Record := (List.getD s19 (Int.toNat s21) (Record.mk (0 : Int) (0 : Int) (0 : Int) (0 : Int) (0 : Int)))
      (F_log_change z0.Kind z0.Floor z0.Dir z0.Car z0.Value m_Phases m_Flags m_Leaving m_Entries).bind fun y1 =>
      some (Sum.inl (((), (), s19, s20, (Go.IntKind.wrap Go.IntKind.i64 (s21 + (1 : Int))), ()), ((b4_Phases, b4_Flags, b4_Leaving, b4_Entries, ()), (y1.2.1.1, y1.2.1.2.1, y1.2.1.2.2.1, y1.2.1.2.2.2.1, ()), ())))
    else
      none
  else
    some (Sum.inr (((), (), ()), ((b4_Phases, b4_Flags, b4_Leaving, b4_Entries, ()), (m_Phases, m_Flags, m_Leaving, m_Entries, ()), ())))
noncomputable def L_log_Replay_0 : ((Unit × Unit × List (Record) × Int × Int × Unit) × ((List (Int) × List (Bool) × List (Bool) × List (Entry) × Unit) × (List (Int) × List (Bool) × List (Bool) × List (Entry) × Unit) × Unit)) → Option ((Unit × Unit × Unit) × ((List (Int) × List (Bool) × List (Bool) × List (Entry) × Unit) × (List (Int) × List (Bool) × List (Bool) × List (Entry) × Unit) × Unit)) := iter (fun x => R_log_Replay_0 x.1.2.2.1 x.1.2.2.2.1 x.1.2.2.2.2.1 x.2.1.1 x.2.1.2.1 x.2.1.2.2.1 x.2.1.2.2.2.1 x.2.2.1.1 x.2.2.1.2.1 x.2.2.1.2.2.1 x.2.2.1.2.2.2.1) fuel
noncomputable def F_log_Replay (b_Floors : Int) (b_Debounce : Int) (b_Room : Int) (b_Park : Int) (b_Empty : Nat) (b_Full : Nat) (b_Over : Nat) (b_Cars : List (Car)) (s_Halves_0 : ByteArray) (s_Halves_1 : ByteArray) (s_Select : Int) : Option ((Unit × Unit) × ((List (Int) × List (Bool) × List (Bool) × List (Entry) × Unit) × Unit)) :=
  (F_log_Initial b_Floors b_Debounce b_Room b_Park b_Empty b_Full b_Over b_Cars).bind fun y1 =>
  (F_store_Current s_Halves_0 s_Halves_1 s_Select).bind fun y2 =>
  (F_record_Read b_Floors b_Debounce b_Room b_Park b_Empty b_Full b_Over b_Cars y2.1.1).bind fun y3 =>
  (L_log_Replay_0 (((), (), y3.1.1, ((List.length y3.1.1 : Nat) : Int), (0 : Int), ()), ((([] : List (Int)), ([] : List (Bool)), ([] : List (Bool)), ([] : List (Entry)), ()), (y1.2.1.1, y1.2.1.2.1, y1.2.1.2.2.1, y1.2.1.2.2.2.1, ()), ()))).bind fun y4 =>
  some (((), ()), ((y4.2.2.1.1, y4.2.2.1.2.1, y4.2.2.1.2.2.1, y4.2.2.1.2.2.2.1, ()), ()))
/-! ### overlay/overlaylaw10.sane -/
noncomputable def F_l10_sane  : Option ((Bool × Unit) × Unit) :=
  (F_l10_Building (9 : Int) (30 : Int)).bind fun y1 =>
  (F_log_Initial y1.2.1.1 y1.2.1.2.1 y1.2.1.2.2.1 y1.2.1.2.2.2.1 y1.2.1.2.2.2.2.1 y1.2.1.2.2.2.2.2.1 y1.2.1.2.2.2.2.2.2.1 y1.2.1.2.2.2.2.2.2.2.1).bind fun y2 =>
  (F_log_Append y1.2.1.1 y1.2.1.2.1 y1.2.1.2.2.1 y1.2.1.2.2.2.1 y1.2.1.2.2.2.2.1 y1.2.1.2.2.2.2.2.1 y1.2.1.2.2.2.2.2.2.1 y1.2.1.2.2.2.2.2.2.2.1 (ByteArray.mk (Array.mk [])) (ByteArray.mk (Array.mk [])) (0 : Int) y2.2.1.1 y2.2.1.2.1 y2.2.1.2.2.1 y2.2.1.2.2.2.1 (1 : Int) (2 : Int) (1 : Int) (0 : Int) (0 : Int) (100 : Int)).bind fun y3 =>
  (F_log_Append y1.2.1.1 y1.2.1.2.1 y1.2.1.2.2.1 y1.2.1.2.2.2.1 y1.2.1.2.2.2.2.1 y1.2.1.2.2.2.2.2.1 y1.2.1.2.2.2.2.2.2.1 y1.2.1.2.2.2.2.2.2.2.1 y3.2.1.1 y3.2.1.2.1 y3.2.1.2.2.1 y3.2.2.1.1 y3.2.2.1.2.1 y3.2.2.1.2.2.1 y3.2.2.1.2.2.2.1 (3 : Int) (2 : Int) (1 : Int) (0 : Int) (0 : Int) y3.1.2.2.1).bind fun y4 =>
  (F_log_Append y1.2.1.1 y1.2.1.2.1 y1.2.1.2.2.1 y1.2.1.2.2.2.1 y1.2.1.2.2.2.2.1 y1.2.1.2.2.2.2.2.1 y1.2.1.2.2.2.2.2.2.1 y1.2.1.2.2.2.2.2.2.2.1 y4.2.1.1 y4.2.1.2.1 y4.2.1.2.2.1 y4.2.2.1.1 y4.2.2.1.2.1 y4.2.2.1.2.2.1 y4.2.2.1.2.2.2.1 (2 : Int) (2 : Int) (1 : Int) (0 : Int) (0 : Int) (5 : Int)).bind fun y5 =>
  Option.bind (bif (y3.1.2.2.2.1 == (0 : Int)) then
        bif (y3.1.2.2.1 == (94 : Int)) then
          bif (y4.1.2.2.2.1 == (0 : Int)) then
            bif (y4.1.2.2.1 == (88 : Int)) then
              bif (((List.length y4.2.2.1.2.2.2.1 : Nat) : Int) == (1 : Int)) then
                bif (Go.Ab.inB (0 : Int) (List.length y4.2.2.1.2.2.2.1)) then
                  let z0 : Entry := (List.getD y4.2.2.1.2.2.2.1 (Int.toNat (0 : Int)) (Entry.mk (0 : Int) (0 : Int) (0 : Int) (0 : Int) false))
                  bif ((z0.Floor == (2 : Int)) && ((z0.Dir == (1 : Int)) && ((z0.Car == (0 : Int)) && ((z0.Moves == (0 : Int)) && ((z0.Moved == false) && true))))) then
                    bif (y5.1.2.2.2.1 == (8 : Int)) then
                      (F_log_Same y5.2.2.1.1 y5.2.2.1.2.1 y5.2.2.1.2.2.1 y5.2.2.1.2.2.2.1 y4.2.2.1.1 y4.2.2.1.2.1 y4.2.2.1.2.2.1 y4.2.2.1.2.2.2.1).bind fun y6 =>
                      bif y6.1.1 then
                        (F_log_Replay y1.2.1.1 y1.2.1.2.1 y1.2.1.2.2.1 y1.2.1.2.2.2.1 y1.2.1.2.2.2.2.1 y1.2.1.2.2.2.2.2.1 y1.2.1.2.2.2.2.2.2.1 y1.2.1.2.2.2.2.2.2.2.1 y5.2.1.1 y5.2.1.2.1 y5.2.1.2.2.1).bind fun y7 =>
                        (F_log_Same y7.2.1.1 y7.2.1.2.1 y7.2.1.2.2.1 y7.2.1.2.2.2.1 y4.2.2.1.1 y4.2.2.1.2.1 y4.2.2.1.2.2.1 y4.2.2.1.2.2.2.1).bind fun y8 =>
                        some ((y8.1.1, ()), ())
                      else
                        some ((false, ()), ())
                    else
                      some ((false, ()), ())
                  else
                    some ((false, ()), ())
                else
                  none
              else
                some ((false, ()), ())
            else
              some ((false, ()), ())
          else
            some ((false, ()), ())
        else
          some ((false, ()), ())
      else
        some ((false, ()), ())) fun y9 =>
  some ((y9.1.1, ()), ())
/-! ### overlay/overlayref01.in -/
noncomputable def F_r01_in (n : Int) (lo : Int) (hi : Int) : Option ((Bool × Unit) × Unit) :=
  Option.bind (bif (decide (lo ≤ n)) then
        some (((decide (n ≤ hi)), ()), ())
      else
        some ((false, ()), ())) fun y1 =>
  some ((y1.1.1, ()), ())
/-! ### overlay/overlayref01.times -/
noncomputable def R_r01_times_0 (l : List (Int)) (i : Int) (b_Floors : Int) (b_Debounce : Int) (b_Room : Int) (b_Park : Int) (b_Empty : Nat) (b_Full : Nat) (b_Over : Nat) (b_Cars : List (Car)) (c_Deadline : Int) (c_Pulse : Int) (c_Quiet : Int) (c_Slack : Int) (c_Step : Int) (c_Travel : Int) (c_Dwell : Int) (c_Hold : Int) (c_Home : Int) : Option (Sum ((Unit × Unit × List (Int) × Int × Unit) × ((Int × Int × Int × Int × Nat × Nat × Nat × List (Car) × Unit) × (Int × Int × Int × Int × Int × Int × Int × Int × Int × Unit) × Unit)) (((Unit × Unit × Unit) × ((Int × Int × Int × Int × Nat × Nat × Nat × List (Car) × Unit) × (Int × Int × Int × Int × Int × Int × Int × Int × Int × Unit) × Unit)) ⊕ ((Bool × Unit) × Unit))) :=
  bif (decide (i < (7 : Int))) then
    bif (Go.Ab.inB i (List.length l)) then
      (F_r01_in (List.getD l (Int.toNat i) (0 : Int)) (1 : Int) (10000 : Int)).bind fun y1 =>
      bif (!y1.1.1) then
        some (Sum.inr (Sum.inr ((false, ()), ())))
      else
        some (Sum.inl (((), (), l, (Go.IntKind.wrap Go.IntKind.i64 (i + (1 : Int))), ()), ((b_Floors, b_Debounce, b_Room, b_Park, b_Empty, b_Full, b_Over, b_Cars, ()), (c_Deadline, c_Pulse, c_Quiet, c_Slack, c_Step, c_Travel, c_Dwell, c_Hold, c_Home, ()), ())))
    else
      none
  else
    some (Sum.inr (Sum.inl (((), (), ()), ((b_Floors, b_Debounce, b_Room, b_Park, b_Empty, b_Full, b_Over, b_Cars, ()), (c_Deadline, c_Pulse, c_Quiet, c_Slack, c_Step, c_Travel, c_Dwell, c_Hold, c_Home, ()), ()))))
noncomputable def L_r01_times_0 : ((Unit × Unit × List (Int) × Int × Unit) × ((Int × Int × Int × Int × Nat × Nat × Nat × List (Car) × Unit) × (Int × Int × Int × Int × Int × Int × Int × Int × Int × Unit) × Unit)) → Option (((Unit × Unit × Unit) × ((Int × Int × Int × Int × Nat × Nat × Nat × List (Car) × Unit) × (Int × Int × Int × Int × Int × Int × Int × Int × Int × Unit) × Unit)) ⊕ ((Bool × Unit) × Unit)) := iter (fun x => R_r01_times_0 x.1.2.2.1 x.1.2.2.2.1 x.2.1.1 x.2.1.2.1 x.2.1.2.2.1 x.2.1.2.2.2.1 x.2.1.2.2.2.2.1 x.2.1.2.2.2.2.2.1 x.2.1.2.2.2.2.2.2.1 x.2.1.2.2.2.2.2.2.2.1 x.2.2.1.1 x.2.2.1.2.1 x.2.2.1.2.2.1 x.2.2.1.2.2.2.1 x.2.2.1.2.2.2.2.1 x.2.2.1.2.2.2.2.2.1 x.2.2.1.2.2.2.2.2.2.1 x.2.2.1.2.2.2.2.2.2.2.1 x.2.2.1.2.2.2.2.2.2.2.2.1) fuel
noncomputable def F_r01_times (b_Floors : Int) (b_Debounce : Int) (b_Room : Int) (b_Park : Int) (b_Empty : Nat) (b_Full : Nat) (b_Over : Nat) (b_Cars : List (Car)) (c_Deadline : Int) (c_Pulse : Int) (c_Quiet : Int) (c_Slack : Int) (c_Step : Int) (c_Travel : Int) (c_Dwell : Int) (c_Hold : Int) (c_Home : Int) : Option ((Bool × Unit) × Unit) :=
  bif (decide (c_Slack < (0 : Int))) then
    some ((false, ()), ())
  else
    bif (decide ((10000 : Int) < c_Slack)) then
      some ((false, ()), ())
    else
      (L_r01_times_0 (((), (), [c_Deadline, c_Pulse, c_Quiet, c_Step, c_Travel, c_Dwell, c_Hold, (Go.IntKind.wrap Go.IntKind.i64 (c_Slack + (1 : Int)))], (0 : Int), ()), ((b_Floors, b_Debounce, b_Room, b_Park, b_Empty, b_Full, b_Over, b_Cars, ()), (c_Deadline, c_Pulse, c_Quiet, c_Slack, c_Step, c_Travel, c_Dwell, c_Hold, c_Home, ()), ()))).bind fun y1 =>
      (match y1 with
      | .inl y2 =>
        Option.bind (bif (decide (y2.2.2.1.2.2.2.2.2.2.1 ≤ y2.2.2.1.2.2.2.2.2.2.2.1)) then
              (F_r01_in y2.2.2.1.2.2.2.2.2.2.2.2.1 (0 : Int) (Go.IntKind.wrap Go.IntKind.i64 (y2.2.1.1 - (1 : Int)))).bind fun y3 =>
              some ((y3.1.1, ()), ())
            else
              some ((false, ()), ())) fun y4 =>
        some ((y4.1.1, ()), ())
      | .inr y2 =>
        some ((y2.1.1, ()), ()))
/-! ### overlay/overlayref01.Valid -/
noncomputable def R_r01_Valid_0 (ok : Bool) (i : Int) (b_Floors : Int) (b_Debounce : Int) (b_Room : Int) (b_Park : Int) (b_Empty : Nat) (b_Full : Nat) (b_Over : Nat) (b_Cars : List (Car)) : Option (Sum ((Unit × Bool × Int × Unit) × ((Int × Int × Int × Int × Nat × Nat × Nat × List (Car) × Unit) × Unit)) ((Unit × Bool × Unit) × ((Int × Int × Int × Int × Nat × Nat × Nat × List (Car) × Unit) × Unit))) :=
  bif (decide (i < ((List.length b_Cars : Nat) : Int))) then
    Option.bind (bif ok then
          bif (Go.Ab.inB i (List.length b_Cars)) then
            let z0 : Car := (List.getD b_Cars (Int.toNat i) (Car.mk (0 : Int) (0 : Int) (0 : Int) (0 : Int) (0 : Int) (0 : Int) (0 : Int) (0 : Int) (0 : Int)))
            (F_r01_times b_Floors b_Debounce b_Room b_Park b_Empty b_Full b_Over b_Cars z0.Deadline z0.Pulse z0.Quiet z0.Slack z0.Step z0.Travel z0.Dwell z0.Hold z0.Home).bind fun y1 =>
            some (((), y1.1.1, i, ()), ((b_Floors, b_Debounce, b_Room, b_Park, b_Empty, b_Full, b_Over, b_Cars, ()), ()))
          else
            none
        else
          some (((), false, i, ()), ((b_Floors, b_Debounce, b_Room, b_Park, b_Empty, b_Full, b_Over, b_Cars, ()), ()))) fun y2 =>
    some (Sum.inl (((), y2.1.2.1, (Go.IntKind.wrap Go.IntKind.i64 (y2.1.2.2.1 + (1 : Int))), ()), ((y2.2.1.1, y2.2.1.2.1, y2.2.1.2.2.1, y2.2.1.2.2.2.1, y2.2.1.2.2.2.2.1, y2.2.1.2.2.2.2.2.1, y2.2.1.2.2.2.2.2.2.1, y2.2.1.2.2.2.2.2.2.2.1, ()), ())))
  else
    some (Sum.inr (((), ok, ()), ((b_Floors, b_Debounce, b_Room, b_Park, b_Empty, b_Full, b_Over, b_Cars, ()), ())))
noncomputable def L_r01_Valid_0 : ((Unit × Bool × Int × Unit) × ((Int × Int × Int × Int × Nat × Nat × Nat × List (Car) × Unit) × Unit)) → Option ((Unit × Bool × Unit) × ((Int × Int × Int × Int × Nat × Nat × Nat × List (Car) × Unit) × Unit)) := iter (fun x => R_r01_Valid_0 x.1.2.1 x.1.2.2.1 x.2.1.1 x.2.1.2.1 x.2.1.2.2.1 x.2.1.2.2.2.1 x.2.1.2.2.2.2.1 x.2.1.2.2.2.2.2.1 x.2.1.2.2.2.2.2.2.1 x.2.1.2.2.2.2.2.2.2.1) fuel
noncomputable def F_r01_Valid (b_Floors : Int) (b_Debounce : Int) (b_Room : Int) (b_Park : Int) (b_Empty : Nat) (b_Full : Nat) (b_Over : Nat) (b_Cars : List (Car)) : Option ((Int × Unit) × Unit) :=
  (F_r01_in b_Floors (2 : Int) (32 : Int)).bind fun y1 =>
  bif (!y1.1.1) then
    some (((10 : Int), ()), ())
  else
    (F_r01_in ((List.length b_Cars : Nat) : Int) (1 : Int) (8 : Int)).bind fun y2 =>
    bif (!y2.1.1) then
      some (((11 : Int), ()), ())
    else
      Option.bind ((F_r01_in b_Debounce (1 : Int) (16 : Int)).bind fun y3 =>
          bif y3.1.1 then
            (F_r01_in b_Park (1 : Int) (10000 : Int)).bind fun y4 =>
            some (((), y4.1.1, ()), ((b_Floors, b_Debounce, b_Room, b_Park, b_Empty, b_Full, b_Over, b_Cars, ()), ()))
          else
            some (((), false, ()), ((b_Floors, b_Debounce, b_Room, b_Park, b_Empty, b_Full, b_Over, b_Cars, ()), ()))) fun y5 =>
      (L_r01_Valid_0 (((), y5.1.2.1, (0 : Int), ()), ((y5.2.1.1, y5.2.1.2.1, y5.2.1.2.2.1, y5.2.1.2.2.2.1, y5.2.1.2.2.2.2.1, y5.2.1.2.2.2.2.2.1, y5.2.1.2.2.2.2.2.2.1, y5.2.1.2.2.2.2.2.2.2.1, ()), ()))).bind fun y6 =>
      bif (!y6.1.2.1) then
        some (((12 : Int), ()), ())
      else
        bif (((Go.FloatKind.format Go.FloatKind.f64).order 0 y6.2.1.2.2.2.2.1) == some Ordering.lt) then
          bif (((Go.FloatKind.format Go.FloatKind.f64).order y6.2.1.2.2.2.2.1 y6.2.1.2.2.2.2.2.1) == some Ordering.lt) then
            bif (((Go.FloatKind.format Go.FloatKind.f64).order y6.2.1.2.2.2.2.2.1 y6.2.1.2.2.2.2.2.2.1) == some Ordering.lt) then
              bif (!(((Go.FloatKind.format Go.FloatKind.f64).order y6.2.1.2.2.2.2.2.2.1 9218868437227405311) == some Ordering.lt || ((Go.FloatKind.format Go.FloatKind.f64).order y6.2.1.2.2.2.2.2.2.1 9218868437227405311) == some Ordering.eq)) then
                some (((13 : Int), ()), ())
              else
                (F_r01_in y6.2.1.2.2.1 (Go.IntKind.wrap Go.IntKind.i64 ((Go.IntKind.wrap Go.IntKind.i64 ((18 : Int) * ((List.length y6.2.1.2.2.2.2.2.2.2.1 : Nat) : Int))) + (24 : Int))) (65536 : Int)).bind fun y7 =>
                bif (!y7.1.1) then
                  some (((14 : Int), ()), ())
                else
                  some (((0 : Int), ()), ())
            else
              some (((13 : Int), ()), ())
          else
            some (((13 : Int), ()), ())
        else
          some (((13 : Int), ()), ())
/-! ### overlay/overlayref10.Initial -/
noncomputable def F_r10_Initial (b_Floors : Int) (b_Debounce : Int) (b_Room : Int) (b_Park : Int) (b_Empty : Nat) (b_Full : Nat) (b_Over : Nat) (b_Cars : List (Car)) : Option ((Unit × Unit) × ((List (Int) × List (Bool) × List (Bool) × List (Entry) × Unit) × Unit)) :=
  (F_r01_Valid b_Floors b_Debounce b_Room b_Park b_Empty b_Full b_Over b_Cars).bind fun y1 =>
  bif (y1.1.1 != (0 : Int)) then
    some (((), ()), ((([] : List (Int)), ([] : List (Bool)), ([] : List (Bool)), ([] : List (Entry)), ()), ()))
  else
    let z0 : Int := ((List.length b_Cars : Nat) : Int)
    bif (((decide ((0 : Int) ≤ z0)) && (decide (z0 ≤ z0))) && (decide (z0 ≤ (2147483648 : Int)))) then
      bif (((decide ((0 : Int) ≤ z0)) && (decide (z0 ≤ z0))) && (decide (z0 ≤ (2147483648 : Int)))) then
        bif (((decide ((0 : Int) ≤ z0)) && (decide (z0 ≤ z0))) && (decide (z0 ≤ (2147483648 : Int)))) then
          some (((), ()), (((List.replicate (Int.toNat z0) (0 : Int)), (List.replicate (Int.toNat z0) false), (List.replicate (Int.toNat z0) false), ([] : List (Entry)), ()), ()))
        else
          none
      else
        none
    else
      none
/-! ### overlay/overlaylaw09.Records -/
noncomputable def R_l09_Records_0 (l : List (Int)) (most : Int) (out : List (Record)) (f : Int) (c : Int) (i : Int) : Option (Sum ((List (Int) × Int × List (Record) × Int × Int × Int × Unit) × Unit) ((List (Record) × Unit) × Unit)) :=
  bif (decide ((Go.IntKind.wrap Go.IntKind.i64 (i + (1 : Int))) < ((List.length l : Nat) : Int))) then
    bif (decide (((List.length out : Nat) : Int) < most)) then
      bif (Go.Ab.inB i (List.length l)) then
        let z0 : Int := (Go.IntKind.wrap Go.IntKind.i64 (List.getD l (Int.toNat i) (0 : Int)))
        let z1 : Int := (Go.IntKind.wrap Go.IntKind.i64 (i + (1 : Int)))
        bif (Go.Ab.inB z1 (List.length l)) then
          let z2 : Int := (Go.IntKind.wrap Go.IntKind.i64 (List.getD l (Int.toNat z1) (0 : Int)))
          let z3 : Int := (Go.IntKind.wrap Go.IntKind.i64 ((1 : Int) + (Int.tmod z0 (7 : Int))))
          Option.bind (bif (z3 == (4 : Int)) then
                bif (c != (0 : Int)) then
                  some ((l, most, out, f, c, i, z0, (), ()), ((z3, (0 : Int), (0 : Int), (Int.tmod (Go.IntKind.wrap Go.IntKind.i64 (Int.tdiv z0 (7 : Int))) c), (Int.tmod z2 (5 : Int)), ()), ()))
                else
                  none
              else
                bif (z3 == (5 : Int)) then
                  bif (c != (0 : Int)) then
                    some ((l, most, out, f, c, i, z0, (), ()), ((z3, (0 : Int), (0 : Int), (Int.tmod (Go.IntKind.wrap Go.IntKind.i64 (Int.tdiv z0 (7 : Int))) c), (Int.tmod z2 (2 : Int)), ()), ()))
                  else
                    none
                else
                  bif (z3 == (6 : Int)) then
                    bif (c != (0 : Int)) then
                      some ((l, most, out, f, c, i, z0, (), ()), ((z3, (0 : Int), (0 : Int), (Int.tmod (Go.IntKind.wrap Go.IntKind.i64 (Int.tdiv z0 (7 : Int))) c), (Int.tmod z2 (2 : Int)), ()), ()))
                    else
                      none
                  else
                    let z4 : Int := (Go.IntKind.wrap Go.IntKind.i64 ((1 : Int) + (Int.tmod z2 (2 : Int))))
                    let z5 : Int := (Go.IntKind.wrap Go.IntKind.i64 (f - (1 : Int)))
                    bif (z5 != (0 : Int)) then
                      let z6 : Int := (Int.tmod (Go.IntKind.wrap Go.IntKind.i64 (Int.tdiv z2 (2 : Int))) z5)
                      bif (z4 == (2 : Int)) then
                        some ((l, most, out, f, c, i, z0, (), ()), ((z3, (Go.IntKind.wrap Go.IntKind.i64 (z6 + (1 : Int))), z4, (0 : Int), (0 : Int), ()), ()))
                      else
                        some ((l, most, out, f, c, i, z0, (), ()), ((z3, z6, z4, (0 : Int), (0 : Int), ()), ()))
                    else
                      none) fun y1 =>
          Option.bind (bif (y1.2.1.1 == (3 : Int)) then
                let z7 : Int := (Go.IntKind.wrap Go.IntKind.i64 (y1.1.2.2.2.2.1 + (2 : Int)))
                bif (z7 != (0 : Int)) then
                  some ((y1.1.1, y1.1.2.1, y1.1.2.2.1, y1.1.2.2.2.1, y1.1.2.2.2.2.1, y1.1.2.2.2.2.2.1, y1.1.2.2.2.2.2.2.1, (), ()), ((y1.2.1.1, y1.2.1.2.1, y1.2.1.2.2.1, (Go.IntKind.wrap Go.IntKind.i64 ((Int.tmod (Go.IntKind.wrap Go.IntKind.i64 (Int.tdiv y1.1.2.2.2.2.2.2.1 (7 : Int))) z7) - (2 : Int))), y1.2.1.2.2.2.2.1, ()), ()))
                else
                  none
              else
                some ((y1.1.1, y1.1.2.1, y1.1.2.2.1, y1.1.2.2.2.1, y1.1.2.2.2.2.1, y1.1.2.2.2.2.2.1, y1.1.2.2.2.2.2.2.1, (), ()), ((y1.2.1.1, y1.2.1.2.1, y1.2.1.2.2.1, y1.2.1.2.2.2.1, y1.2.1.2.2.2.2.1, ()), ()))) fun y2 =>
          bif (y2.2.1.1 == (7 : Int)) then
            let z8 : List (Record) := [(Record.mk y2.2.1.1 y2.2.1.2.1 y2.2.1.2.2.1 (Int.tmod (Go.IntKind.wrap Go.IntKind.i64 (Int.tdiv y2.1.2.2.2.2.2.2.1 (7 : Int))) (2 : Int)) (Go.IntKind.wrap Go.IntKind.i64 (Int.tdiv y2.1.2.2.2.2.2.2.1 (14 : Int))))]
            bif (Nat.ble ((List.length y2.1.2.2.1) + (List.length z8)) 2147483648) then
              some (Sum.inl ((y2.1.1, y2.1.2.1, (y2.1.2.2.1 ++ z8), y2.1.2.2.2.1, y2.1.2.2.2.2.1, (Go.IntKind.wrap Go.IntKind.i64 (y2.1.2.2.2.2.2.1 + (2 : Int))), ()), ()))
            else
              none
          else
            let z9 : List (Record) := [(Record.mk y2.2.1.1 y2.2.1.2.1 y2.2.1.2.2.1 y2.2.1.2.2.2.1 y2.2.1.2.2.2.2.1)]
            bif (Nat.ble ((List.length y2.1.2.2.1) + (List.length z9)) 2147483648) then
              some (Sum.inl ((y2.1.1, y2.1.2.1, (y2.1.2.2.1 ++ z9), y2.1.2.2.2.1, y2.1.2.2.2.2.1, (Go.IntKind.wrap Go.IntKind.i64 (y2.1.2.2.2.2.2.1 + (2 : Int))), ()), ()))
            else
              none
        else
          none
      else
        none
    else
      some (Sum.inr ((out, ()), ()))
  else
    some (Sum.inr ((out, ()), ()))
noncomputable def L_l09_Records_0 : ((List (Int) × Int × List (Record) × Int × Int × Int × Unit) × Unit) → Option ((List (Record) × Unit) × Unit) := iter (fun x => R_l09_Records_0 x.1.1 x.1.2.1 x.1.2.2.1 x.1.2.2.2.1 x.1.2.2.2.2.1 x.1.2.2.2.2.2.1) fuel
noncomputable def F_l09_Records (b_Floors : Int) (b_Debounce : Int) (b_Room : Int) (b_Park : Int) (b_Empty : Nat) (b_Full : Nat) (b_Over : Nat) (b_Cars : List (Car)) (l : List (Int)) (most : Int) : Option ((List (Record) × Unit) × Unit) :=
  (L_l09_Records_0 ((l, most, ([] : List (Record)), b_Floors, ((List.length b_Cars : Nat) : Int), (0 : Int), ()), ())).bind fun y1 =>
  some ((y1.1.1, ()), ())
/-! ### overlay/overlayref01.IsCall -/
noncomputable def F_r01_IsCall (b_Floors : Int) (b_Debounce : Int) (b_Room : Int) (b_Park : Int) (b_Empty : Nat) (b_Full : Nat) (b_Over : Nat) (b_Cars : List (Car)) (floor : Int) (dir : Int) : Option ((Bool × Unit) × Unit) :=
  (F_r01_Valid b_Floors b_Debounce b_Room b_Park b_Empty b_Full b_Over b_Cars).bind fun y1 =>
  bif (y1.1.1 != (0 : Int)) then
    some ((false, ()), ())
  else
    Option.bind (bif (dir == (1 : Int)) then
          (F_r01_in floor (0 : Int) (Go.IntKind.wrap Go.IntKind.i64 (b_Floors - (2 : Int)))).bind fun y2 =>
          bif y2.1.1 then
            some ((true, ()), ())
          else
            bif (dir == (2 : Int)) then
              (F_r01_in floor (1 : Int) (Go.IntKind.wrap Go.IntKind.i64 (b_Floors - (1 : Int)))).bind fun y3 =>
              some ((y3.1.1, ()), ())
            else
              some ((false, ()), ())
        else
          bif (dir == (2 : Int)) then
            (F_r01_in floor (1 : Int) (Go.IntKind.wrap Go.IntKind.i64 (b_Floors - (1 : Int)))).bind fun y4 =>
            some ((y4.1.1, ()), ())
          else
            some ((false, ()), ())) fun y5 =>
    some ((y5.1.1, ()), ())
/-! ### overlay/overlayref10.less -/
noncomputable def F_r10_less (a_Floor : Int) (a_Dir : Int) (a_Car : Int) (a_Moves : Int) (a_Moved : Bool) (b_Floor : Int) (b_Dir : Int) (b_Car : Int) (b_Moves : Int) (b_Moved : Bool) : Option ((Bool × Unit) × Unit) :=
  Option.bind (bif (decide (a_Floor < b_Floor)) then
        some ((true, ()), ())
      else
        bif (a_Floor == b_Floor) then
          some (((decide (a_Dir < b_Dir)), ()), ())
        else
          some ((false, ()), ())) fun y1 =>
  some ((y1.1.1, ()), ())
/-! ### overlay/overlayref10.IsImage -/
noncomputable def R_r10_IsImage_1 (n : Int) (i : Int) (b_Floors : Int) (b_Debounce : Int) (b_Room : Int) (b_Park : Int) (b_Empty : Nat) (b_Full : Nat) (b_Over : Nat) (b_Cars : List (Car)) (m_Phases : List (Int)) (m_Flags : List (Bool)) (m_Leaving : List (Bool)) (m_Entries : List (Entry)) : Option (Sum ((Unit × Unit × Int × Int × Unit) × ((Int × Int × Int × Int × Nat × Nat × Nat × List (Car) × Unit) × (List (Int) × List (Bool) × List (Bool) × List (Entry) × Unit) × Unit)) ((Unit × Unit) ⊕ ((Bool × Unit) × Unit))) :=
  bif (decide (i < ((List.length m_Entries : Nat) : Int))) then
    bif (Go.Ab.inB i (List.length m_Entries)) then
      let z0 : Entry := (List.getD m_Entries (Int.toNat i) (Entry.mk (0 : Int) (0 : Int) (0 : Int) (0 : Int) false))
      Option.bind ((F_r01_IsCall b_Floors b_Debounce b_Room b_Park b_Empty b_Full b_Over b_Cars z0.Floor z0.Dir).bind fun y1 =>
          bif (!y1.1.1) then
            some (((), (), n, i, true, ()), ((b_Floors, b_Debounce, b_Room, b_Park, b_Empty, b_Full, b_Over, b_Cars, ()), (m_Phases, m_Flags, m_Leaving, m_Entries, ()), ()))
          else
            bif (decide (z0.Car < (-2 : Int))) then
              some (((), (), n, i, true, ()), ((b_Floors, b_Debounce, b_Room, b_Park, b_Empty, b_Full, b_Over, b_Cars, ()), (m_Phases, m_Flags, m_Leaving, m_Entries, ()), ()))
            else
              bif (decide (n ≤ z0.Car)) then
                some (((), (), n, i, true, ()), ((b_Floors, b_Debounce, b_Room, b_Park, b_Empty, b_Full, b_Over, b_Cars, ()), (m_Phases, m_Flags, m_Leaving, m_Entries, ()), ()))
              else
                bif (decide (z0.Moves < (0 : Int))) then
                  some (((), (), n, i, true, ()), ((b_Floors, b_Debounce, b_Room, b_Park, b_Empty, b_Full, b_Over, b_Cars, ()), (m_Phases, m_Flags, m_Leaving, m_Entries, ()), ()))
                else
                  bif (decide ((255 : Int) < z0.Moves)) then
                    some (((), (), n, i, true, ()), ((b_Floors, b_Debounce, b_Room, b_Park, b_Empty, b_Full, b_Over, b_Cars, ()), (m_Phases, m_Flags, m_Leaving, m_Entries, ()), ()))
                  else
                    bif (decide ((0 : Int) < i)) then
                      let z1 : Int := (Go.IntKind.wrap Go.IntKind.i64 (i - (1 : Int)))
                      bif (Go.Ab.inB z1 (List.length m_Entries)) then
                        let z2 : Entry := (List.getD m_Entries (Int.toNat z1) (Entry.mk (0 : Int) (0 : Int) (0 : Int) (0 : Int) false))
                        (F_r10_less z2.Floor z2.Dir z2.Car z2.Moves z2.Moved z0.Floor z0.Dir z0.Car z0.Moves z0.Moved).bind fun y2 =>
                        some (((), (), n, i, (!y2.1.1), ()), ((b_Floors, b_Debounce, b_Room, b_Park, b_Empty, b_Full, b_Over, b_Cars, ()), (m_Phases, m_Flags, m_Leaving, m_Entries, ()), ()))
                      else
                        none
                    else
                      some (((), (), n, i, false, ()), ((b_Floors, b_Debounce, b_Room, b_Park, b_Empty, b_Full, b_Over, b_Cars, ()), (m_Phases, m_Flags, m_Leaving, m_Entries, ()), ()))) fun y3 =>
      bif y3.1.2.2.2.2.1 then
        some (Sum.inr (Sum.inr ((false, ()), ())))
      else
        some (Sum.inl (((), (), y3.1.2.2.1, (Go.IntKind.wrap Go.IntKind.i64 (y3.1.2.2.2.1 + (1 : Int))), ()), ((y3.2.1.1, y3.2.1.2.1, y3.2.1.2.2.1, y3.2.1.2.2.2.1, y3.2.1.2.2.2.2.1, y3.2.1.2.2.2.2.2.1, y3.2.1.2.2.2.2.2.2.1, y3.2.1.2.2.2.2.2.2.2.1, ()), (y3.2.2.1.1, y3.2.2.1.2.1, y3.2.2.1.2.2.1, y3.2.2.1.2.2.2.1, ()), ())))
    else
      none
  else
    some (Sum.inr (Sum.inl ((), ())))
noncomputable def L_r10_IsImage_1 : ((Unit × Unit × Int × Int × Unit) × ((Int × Int × Int × Int × Nat × Nat × Nat × List (Car) × Unit) × (List (Int) × List (Bool) × List (Bool) × List (Entry) × Unit) × Unit)) → Option ((Unit × Unit) ⊕ ((Bool × Unit) × Unit)) := iter (fun x => R_r10_IsImage_1 x.1.2.2.1 x.1.2.2.2.1 x.2.1.1 x.2.1.2.1 x.2.1.2.2.1 x.2.1.2.2.2.1 x.2.1.2.2.2.2.1 x.2.1.2.2.2.2.2.1 x.2.1.2.2.2.2.2.2.1 x.2.1.2.2.2.2.2.2.2.1 x.2.2.1.1 x.2.2.1.2.1 x.2.2.1.2.2.1 x.2.2.1.2.2.2.1) fuel
noncomputable def R_r10_IsImage_0 (n : Int) (i : Int) (b_Floors : Int) (b_Debounce : Int) (b_Room : Int) (b_Park : Int) (b_Empty : Nat) (b_Full : Nat) (b_Over : Nat) (b_Cars : List (Car)) (m_Phases : List (Int)) (m_Flags : List (Bool)) (m_Leaving : List (Bool)) (m_Entries : List (Entry)) : Option (Sum ((Unit × Unit × Int × Int × Unit) × ((Int × Int × Int × Int × Nat × Nat × Nat × List (Car) × Unit) × (List (Int) × List (Bool) × List (Bool) × List (Entry) × Unit) × Unit)) (((Unit × Unit × Int × Unit) × ((Int × Int × Int × Int × Nat × Nat × Nat × List (Car) × Unit) × (List (Int) × List (Bool) × List (Bool) × List (Entry) × Unit) × Unit)) ⊕ ((Bool × Unit) × Unit))) :=
  bif (decide (i < n)) then
    bif (Go.Ab.inB i (List.length m_Phases)) then
      bif (decide ((List.getD m_Phases (Int.toNat i) (0 : Int)) < (0 : Int))) then
        some (Sum.inr (Sum.inr ((false, ()), ())))
      else
        bif (Go.Ab.inB i (List.length m_Phases)) then
          bif (decide ((4 : Int) < (List.getD m_Phases (Int.toNat i) (0 : Int)))) then
            some (Sum.inr (Sum.inr ((false, ()), ())))
          else
            some (Sum.inl (((), (), n, (Go.IntKind.wrap Go.IntKind.i64 (i + (1 : Int))), ()), ((b_Floors, b_Debounce, b_Room, b_Park, b_Empty, b_Full, b_Over, b_Cars, ()), (m_Phases, m_Flags, m_Leaving, m_Entries, ()), ())))
        else
          none
    else
      none
  else
    some (Sum.inr (Sum.inl (((), (), n, ()), ((b_Floors, b_Debounce, b_Room, b_Park, b_Empty, b_Full, b_Over, b_Cars, ()), (m_Phases, m_Flags, m_Leaving, m_Entries, ()), ()))))
noncomputable def L_r10_IsImage_0 : ((Unit × Unit × Int × Int × Unit) × ((Int × Int × Int × Int × Nat × Nat × Nat × List (Car) × Unit) × (List (Int) × List (Bool) × List (Bool) × List (Entry) × Unit) × Unit)) → Option (((Unit × Unit × Int × Unit) × ((Int × Int × Int × Int × Nat × Nat × Nat × List (Car) × Unit) × (List (Int) × List (Bool) × List (Bool) × List (Entry) × Unit) × Unit)) ⊕ ((Bool × Unit) × Unit)) := iter (fun x => R_r10_IsImage_0 x.1.2.2.1 x.1.2.2.2.1 x.2.1.1 x.2.1.2.1 x.2.1.2.2.1 x.2.1.2.2.2.1 x.2.1.2.2.2.2.1 x.2.1.2.2.2.2.2.1 x.2.1.2.2.2.2.2.2.1 x.2.1.2.2.2.2.2.2.2.1 x.2.2.1.1 x.2.2.1.2.1 x.2.2.1.2.2.1 x.2.2.1.2.2.2.1) fuel
noncomputable def F_r10_IsImage (b_Floors : Int) (b_Debounce : Int) (b_Room : Int) (b_Park : Int) (b_Empty : Nat) (b_Full : Nat) (b_Over : Nat) (b_Cars : List (Car)) (m_Phases : List (Int)) (m_Flags : List (Bool)) (m_Leaving : List (Bool)) (m_Entries : List (Entry)) : Option ((Bool × Unit) × Unit) :=
  let z0 : Int := ((List.length b_Cars : Nat) : Int)
  (F_r01_Valid b_Floors b_Debounce b_Room b_Park b_Empty b_Full b_Over b_Cars).bind fun y1 =>
  bif (y1.1.1 != (0 : Int)) then
    some ((false, ()), ())
  else
    bif (((List.length m_Phases : Nat) : Int) != z0) then
      some ((false, ()), ())
    else
      bif (((List.length m_Flags : Nat) : Int) != z0) then
        some ((false, ()), ())
      else
        bif (((List.length m_Leaving : Nat) : Int) != z0) then
          some ((false, ()), ())
        else
          (L_r10_IsImage_0 (((), (), z0, (0 : Int), ()), ((b_Floors, b_Debounce, b_Room, b_Park, b_Empty, b_Full, b_Over, b_Cars, ()), (m_Phases, m_Flags, m_Leaving, m_Entries, ()), ()))).bind fun y2 =>
          (match y2 with
          | .inl y3 =>
            (L_r10_IsImage_1 (((), (), y3.1.2.2.1, (0 : Int), ()), ((y3.2.1.1, y3.2.1.2.1, y3.2.1.2.2.1, y3.2.1.2.2.2.1, y3.2.1.2.2.2.2.1, y3.2.1.2.2.2.2.2.1, y3.2.1.2.2.2.2.2.2.1, y3.2.1.2.2.2.2.2.2.2.1, ()), (y3.2.2.1.1, y3.2.2.1.2.1, y3.2.2.1.2.2.1, y3.2.2.1.2.2.2.1, ()), ()))).bind fun y4 =>
            (match y4 with
            | .inl y5 =>
              some ((true, ()), ())
            | .inr y5 =>
              some ((y5.1.1, ()), ()))
          | .inr y3 =>
            some ((y3.1.1, ()), ()))
/-! ### overlay/overlayref09.in -/
noncomputable def F_r09_in (n : Int) (lo : Int) (hi : Int) : Option ((Bool × Unit) × Unit) :=
  Option.bind (bif (decide (lo ≤ n)) then
        some (((decide (n ≤ hi)), ()), ())
      else
        some ((false, ()), ())) fun y1 =>
  some ((y1.1.1, ()), ())
/-! ### overlay/overlayref09.Valid -/
noncomputable def F_r09_Valid (b_Floors : Int) (b_Debounce : Int) (b_Room : Int) (b_Park : Int) (b_Empty : Nat) (b_Full : Nat) (b_Over : Nat) (b_Cars : List (Car)) (r_Kind : Int) (r_Floor : Int) (r_Dir : Int) (r_Car : Int) (r_Value : Int) : Option ((Bool × Unit) × Unit) :=
  (F_r01_Valid b_Floors b_Debounce b_Room b_Park b_Empty b_Full b_Over b_Cars).bind fun y1 =>
  bif (y1.1.1 != (0 : Int)) then
    some ((false, ()), ())
  else
    (F_r01_IsCall b_Floors b_Debounce b_Room b_Park b_Empty b_Full b_Over b_Cars r_Floor r_Dir).bind fun y2 =>
    Option.bind ((F_r09_in r_Car (0 : Int) (Go.IntKind.wrap Go.IntKind.i64 (((List.length b_Cars : Nat) : Int) - (1 : Int)))).bind fun y3 =>
        bif y3.1.1 then
          bif (r_Floor == (0 : Int)) then
            some (((), (), y2.1.1, (r_Dir == (0 : Int)), ()), ((b_Floors, b_Debounce, b_Room, b_Park, b_Empty, b_Full, b_Over, b_Cars, ()), (r_Kind, r_Floor, r_Dir, r_Car, r_Value, ()), ()))
          else
            some (((), (), y2.1.1, false, ()), ((b_Floors, b_Debounce, b_Room, b_Park, b_Empty, b_Full, b_Over, b_Cars, ()), (r_Kind, r_Floor, r_Dir, r_Car, r_Value, ()), ()))
        else
          some (((), (), y2.1.1, false, ()), ((b_Floors, b_Debounce, b_Room, b_Park, b_Empty, b_Full, b_Over, b_Cars, ()), (r_Kind, r_Floor, r_Dir, r_Car, r_Value, ()), ()))) fun y4 =>
    bif (y4.2.2.1.1 == (1 : Int)) then
      Option.bind (bif y4.1.2.2.1 then
            bif (y4.2.2.1.2.2.2.1 == (0 : Int)) then
              some (((y4.2.2.1.2.2.2.2.1 == (0 : Int)), ()), ())
            else
              some ((false, ()), ())
          else
            some ((false, ()), ())) fun y5 =>
      some ((y5.1.1, ()), ())
    else
      bif (y4.2.2.1.1 == (2 : Int)) then
        Option.bind (bif y4.1.2.2.1 then
              bif (y4.2.2.1.2.2.2.1 == (0 : Int)) then
                some (((y4.2.2.1.2.2.2.2.1 == (0 : Int)), ()), ())
              else
                some ((false, ()), ())
            else
              some ((false, ()), ())) fun y6 =>
        some ((y6.1.1, ()), ())
      else
        bif (y4.2.2.1.1 == (3 : Int)) then
          Option.bind (bif y4.1.2.2.1 then
                (F_r09_in y4.2.2.1.2.2.2.1 (-2 : Int) (Go.IntKind.wrap Go.IntKind.i64 (((List.length y4.2.1.2.2.2.2.2.2.2.1 : Nat) : Int) - (1 : Int)))).bind fun y7 =>
                bif y7.1.1 then
                  some (((y4.2.2.1.2.2.2.2.1 == (0 : Int)), ()), ())
                else
                  some ((false, ()), ())
              else
                some ((false, ()), ())) fun y8 =>
          some ((y8.1.1, ()), ())
        else
          bif (y4.2.2.1.1 == (4 : Int)) then
            Option.bind (bif y4.1.2.2.2.1 then
                  (F_r09_in y4.2.2.1.2.2.2.2.1 (0 : Int) (4 : Int)).bind fun y9 =>
                  some ((y9.1.1, ()), ())
                else
                  some ((false, ()), ())) fun y10 =>
            some ((y10.1.1, ()), ())
          else
            bif (y4.2.2.1.1 == (5 : Int)) then
              Option.bind (bif y4.1.2.2.2.1 then
                    (F_r09_in y4.2.2.1.2.2.2.2.1 (0 : Int) (1 : Int)).bind fun y11 =>
                    some ((y11.1.1, ()), ())
                  else
                    some ((false, ()), ())) fun y12 =>
              some ((y12.1.1, ()), ())
            else
              bif (y4.2.2.1.1 == (6 : Int)) then
                Option.bind (bif y4.1.2.2.2.1 then
                      (F_r09_in y4.2.2.1.2.2.2.2.1 (0 : Int) (1 : Int)).bind fun y13 =>
                      some ((y13.1.1, ()), ())
                    else
                      some ((false, ()), ())) fun y14 =>
                some ((y14.1.1, ()), ())
              else
                bif (y4.2.2.1.1 == (7 : Int)) then
                  Option.bind (bif y4.1.2.2.1 then
                        (F_r09_in y4.2.2.1.2.2.2.1 (0 : Int) (1 : Int)).bind fun y15 =>
                        bif y15.1.1 then
                          (F_r09_in y4.2.2.1.2.2.2.2.1 (0 : Int) (255 : Int)).bind fun y16 =>
                          some ((y16.1.1, ()), ())
                        else
                          some ((false, ()), ())
                      else
                        some ((false, ()), ())) fun y17 =>
                  some ((y17.1.1, ()), ())
                else
                  some ((false, ()), ())
/-! ### overlay/overlayref10.Find -/
noncomputable def R_r10_Find_0 (floor : Int) (dir : Int) (i : Int) (m_Phases : List (Int)) (m_Flags : List (Bool)) (m_Leaving : List (Bool)) (m_Entries : List (Entry)) : Option (Sum ((Int × Int × Unit × Int × Unit) × ((List (Int) × List (Bool) × List (Bool) × List (Entry) × Unit) × Unit)) ((Unit × Unit) ⊕ ((Int × Unit) × Unit))) :=
  bif (decide (i < ((List.length m_Entries : Nat) : Int))) then
    Option.bind (bif (Go.Ab.inB i (List.length m_Entries)) then
          bif ((List.getD m_Entries (Int.toNat i) (Entry.mk (0 : Int) (0 : Int) (0 : Int) (0 : Int) false)).Floor == floor) then
            bif (Go.Ab.inB i (List.length m_Entries)) then
              some ((floor, dir, (), i, ((List.getD m_Entries (Int.toNat i) (Entry.mk (0 : Int) (0 : Int) (0 : Int) (0 : Int) false)).Dir == dir), ()), ((m_Phases, m_Flags, m_Leaving, m_Entries, ()), ()))
            else
              none
          else
            some ((floor, dir, (), i, false, ()), ((m_Phases, m_Flags, m_Leaving, m_Entries, ()), ()))
        else
          none) fun y1 =>
    bif y1.1.2.2.2.2.1 then
      some (Sum.inr (Sum.inr ((y1.1.2.2.2.1, ()), ())))
    else
      some (Sum.inl ((y1.1.1, y1.1.2.1, (), (Go.IntKind.wrap Go.IntKind.i64 (y1.1.2.2.2.1 + (1 : Int))), ()), ((y1.2.1.1, y1.2.1.2.1, y1.2.1.2.2.1, y1.2.1.2.2.2.1, ()), ())))
  else
    some (Sum.inr (Sum.inl ((), ())))
noncomputable def L_r10_Find_0 : ((Int × Int × Unit × Int × Unit) × ((List (Int) × List (Bool) × List (Bool) × List (Entry) × Unit) × Unit)) → Option ((Unit × Unit) ⊕ ((Int × Unit) × Unit)) := iter (fun x => R_r10_Find_0 x.1.1 x.1.2.1 x.1.2.2.2.1 x.2.1.1 x.2.1.2.1 x.2.1.2.2.1 x.2.1.2.2.2.1) fuel
noncomputable def F_r10_Find (m_Phases : List (Int)) (m_Flags : List (Bool)) (m_Leaving : List (Bool)) (m_Entries : List (Entry)) (floor : Int) (dir : Int) : Option ((Int × Unit) × Unit) :=
  (L_r10_Find_0 ((floor, dir, (), (0 : Int), ()), ((m_Phases, m_Flags, m_Leaving, m_Entries, ()), ()))).bind fun y1 =>
  (match y1 with
  | .inl y2 =>
    some (((-1 : Int), ()), ())
  | .inr y2 =>
    some ((y2.1.1, ()), ()))
/-! ### overlay/overlayref10.entered -/
noncomputable def R_r10_entered_0 (l : List (Entry)) (out : List (Entry)) (done : Bool) (i : Int) (e_Floor : Int) (e_Dir : Int) (e_Car : Int) (e_Moves : Int) (e_Moved : Bool) : Option (Sum ((List (Entry) × Unit × List (Entry) × Bool × Int × Unit) × ((Int × Int × Int × Int × Bool × Unit) × Unit)) ((Unit × List (Entry) × Bool × Unit) × ((Int × Int × Int × Int × Bool × Unit) × Unit))) :=
  bif (decide (i < ((List.length l : Nat) : Int))) then
    Option.bind (Option.bind (bif (!done) then
              bif (Go.Ab.inB i (List.length l)) then
                let z0 : Entry := (List.getD l (Int.toNat i) (Entry.mk (0 : Int) (0 : Int) (0 : Int) (0 : Int) false))
                (F_r10_less e_Floor e_Dir e_Car e_Moves e_Moved z0.Floor z0.Dir z0.Car z0.Moves z0.Moved).bind fun y1 =>
                some ((l, (), out, done, i, y1.1.1, ()), ((e_Floor, e_Dir, e_Car, e_Moves, e_Moved, ()), ()))
              else
                none
            else
              some ((l, (), out, done, i, false, ()), ((e_Floor, e_Dir, e_Car, e_Moves, e_Moved, ()), ()))) fun y2 =>
        bif y2.1.2.2.2.2.2.1 then
          let z1 : List (Entry) := [(Entry.mk y2.2.1.1 y2.2.1.2.1 y2.2.1.2.2.1 y2.2.1.2.2.2.1 y2.2.1.2.2.2.2.1)]
          bif (Nat.ble ((List.length y2.1.2.2.1) + (List.length z1)) 2147483648) then
            some ((y2.1.1, (), (y2.1.2.2.1 ++ z1), true, y2.1.2.2.2.2.1, ()), ((y2.2.1.1, y2.2.1.2.1, y2.2.1.2.2.1, y2.2.1.2.2.2.1, y2.2.1.2.2.2.2.1, ()), ()))
          else
            none
        else
          some ((y2.1.1, (), y2.1.2.2.1, y2.1.2.2.2.1, y2.1.2.2.2.2.1, ()), ((y2.2.1.1, y2.2.1.2.1, y2.2.1.2.2.1, y2.2.1.2.2.2.1, y2.2.1.2.2.2.2.1, ()), ()))) fun y3 =>
    bif (Go.Ab.inB y3.1.2.2.2.2.1 (List.length y3.1.1)) then
      let z2 : Entry := (List.getD y3.1.1 (Int.toNat y3.1.2.2.2.2.1) (Entry.mk (0 : Int) (0 : Int) (0 : Int) (0 : Int) false))
      let z3 : List (Entry) := [(Entry.mk z2.Floor z2.Dir z2.Car z2.Moves z2.Moved)]
      bif (Nat.ble ((List.length y3.1.2.2.1) + (List.length z3)) 2147483648) then
        some (Sum.inl ((y3.1.1, (), (y3.1.2.2.1 ++ z3), y3.1.2.2.2.1, (Go.IntKind.wrap Go.IntKind.i64 (y3.1.2.2.2.2.1 + (1 : Int))), ()), ((y3.2.1.1, y3.2.1.2.1, y3.2.1.2.2.1, y3.2.1.2.2.2.1, y3.2.1.2.2.2.2.1, ()), ())))
      else
        none
    else
      none
  else
    some (Sum.inr (((), out, done, ()), ((e_Floor, e_Dir, e_Car, e_Moves, e_Moved, ()), ())))
noncomputable def L_r10_entered_0 : ((List (Entry) × Unit × List (Entry) × Bool × Int × Unit) × ((Int × Int × Int × Int × Bool × Unit) × Unit)) → Option ((Unit × List (Entry) × Bool × Unit) × ((Int × Int × Int × Int × Bool × Unit) × Unit)) := iter (fun x => R_r10_entered_0 x.1.1 x.1.2.2.1 x.1.2.2.2.1 x.1.2.2.2.2.1 x.2.1.1 x.2.1.2.1 x.2.1.2.2.1 x.2.1.2.2.2.1 x.2.1.2.2.2.2.1) fuel
noncomputable def F_r10_entered (l : List (Entry)) (e_Floor : Int) (e_Dir : Int) (e_Car : Int) (e_Moves : Int) (e_Moved : Bool) : Option ((List (Entry) × Unit) × Unit) :=
  (L_r10_entered_0 ((l, (), ([] : List (Entry)), false, (0 : Int), ()), ((e_Floor, e_Dir, e_Car, e_Moves, e_Moved, ()), ()))).bind fun y1 =>
  bif (!y1.1.2.2.1) then
    let z0 : List (Entry) := [(Entry.mk y1.2.1.1 y1.2.1.2.1 y1.2.1.2.2.1 y1.2.1.2.2.2.1 y1.2.1.2.2.2.2.1)]
    bif (Nat.ble ((List.length y1.1.2.1) + (List.length z0)) 2147483648) then
      some (((y1.1.2.1 ++ z0), ()), ())
    else
      none
  else
    some ((y1.1.2.1, ()), ())
/-! ### overlay/overlayref10.Apply -/
noncomputable def F_r10_Apply (b_Floors : Int) (b_Debounce : Int) (b_Room : Int) (b_Park : Int) (b_Empty : Nat) (b_Full : Nat) (b_Over : Nat) (b_Cars : List (Car)) (m_Phases : List (Int)) (m_Flags : List (Bool)) (m_Leaving : List (Bool)) (m_Entries : List (Entry)) (r_Kind : Int) (r_Floor : Int) (r_Dir : Int) (r_Car : Int) (r_Value : Int) : Option ((Unit × Int × Unit) × ((List (Int) × List (Bool) × List (Bool) × List (Entry) × Unit) × Unit)) :=
  (F_r10_IsImage b_Floors b_Debounce b_Room b_Park b_Empty b_Full b_Over b_Cars m_Phases m_Flags m_Leaving m_Entries).bind fun y1 =>
  bif (!y1.1.1) then
    some (((), (1 : Int), ()), ((([] : List (Int)), ([] : List (Bool)), ([] : List (Bool)), ([] : List (Entry)), ()), ()))
  else
    (F_r09_Valid b_Floors b_Debounce b_Room b_Park b_Empty b_Full b_Over b_Cars r_Kind r_Floor r_Dir r_Car r_Value).bind fun y2 =>
    bif (!y2.1.1) then
      some (((), (1 : Int), ()), ((([] : List (Int)), ([] : List (Bool)), ([] : List (Bool)), ([] : List (Entry)), ()), ()))
    else
      bif (Nat.ble ((List.length ([] : List (Int))) + (List.length m_Phases)) 2147483648) then
        let z0 : List (Int) := (([] : List (Int)) ++ m_Phases)
        bif (Nat.ble ((List.length ([] : List (Bool))) + (List.length m_Flags)) 2147483648) then
          let z1 : List (Bool) := (([] : List (Bool)) ++ m_Flags)
          bif (Nat.ble ((List.length ([] : List (Bool))) + (List.length m_Leaving)) 2147483648) then
            let z2 : List (Bool) := (([] : List (Bool)) ++ m_Leaving)
            bif (Nat.ble ((List.length ([] : List (Entry))) + (List.length m_Entries)) 2147483648) then
              let z3 : List (Entry) := (([] : List (Entry)) ++ m_Entries)
              (F_r10_Find z0 z1 z2 z3 r_Floor r_Dir).bind fun y3 =>
              bif (r_Kind == (4 : Int)) then
                bif (Go.Ab.inB r_Car (List.length z0)) then
                  some (((), (0 : Int), ()), (((List.set z0 (Int.toNat r_Car) r_Value), z1, z2, z3, ()), ()))
                else
                  none
              else
                bif (r_Kind == (5 : Int)) then
                  bif (Go.Ab.inB r_Car (List.length z1)) then
                    some (((), (0 : Int), ()), ((z0, (List.set z1 (Int.toNat r_Car) (r_Value == (1 : Int))), z2, z3, ()), ()))
                  else
                    none
                else
                  bif (r_Kind == (6 : Int)) then
                    bif (Go.Ab.inB r_Car (List.length z2)) then
                      some (((), (0 : Int), ()), ((z0, z1, (List.set z2 (Int.toNat r_Car) (r_Value == (1 : Int))), z3, ()), ()))
                    else
                      none
                  else
                    Option.bind (bif (r_Kind == (1 : Int)) then
                          some (((), (), (), y3.1.1, (decide (y3.1.1 < (0 : Int))), ()), ((z0, z1, z2, z3, ()), (r_Kind, r_Floor, r_Dir, r_Car, r_Value, ()), (([] : List (Int)), ([] : List (Bool)), ([] : List (Bool)), ([] : List (Entry)), ()), ()))
                        else
                          some (((), (), (), y3.1.1, false, ()), ((z0, z1, z2, z3, ()), (r_Kind, r_Floor, r_Dir, r_Car, r_Value, ()), (([] : List (Int)), ([] : List (Bool)), ([] : List (Bool)), ([] : List (Entry)), ()), ()))) fun y4 =>
                    bif y4.1.2.2.2.2.1 then
                      (F_r10_entered y4.2.1.2.2.2.1 y4.2.2.1.2.1 y4.2.2.1.2.2.1 (-1 : Int) (0 : Int) false).bind fun y5 =>
                      some (((), (0 : Int), ()), ((y4.2.1.1, y4.2.1.2.1, y4.2.1.2.2.1, y5.1.1, ()), ()))
                    else
                      bif (decide (y4.1.2.2.2.1 < (0 : Int))) then
                        some (((), (0 : Int), ()), ((y4.2.1.1, y4.2.1.2.1, y4.2.1.2.2.1, y4.2.1.2.2.2.1, ()), ()))
                      else
                        bif (y4.2.2.1.1 == (2 : Int)) then
                          Option.bind (some (((), (), y4.1.2.2.2.1, ()), ((y4.2.1.1, y4.2.1.2.1, y4.2.1.2.2.1, y4.2.1.2.2.2.1, ()), (y4.2.2.2.1.1, y4.2.2.2.1.2.1, y4.2.2.2.1.2.2.1, y4.2.2.2.1.2.2.2.1, ()), ()))) fun y6 =>
                          bif ((decide ((0 : Int) ≤ y6.1.2.2.1)) && (decide (y6.1.2.2.1 ≤ (((List.length y6.2.1.2.2.2.1) : Nat) : Int)))) then
                            let z4 : List (Entry) := (List.drop 0 (List.take (Int.toNat y6.1.2.2.1) y6.2.1.2.2.2.1))
                            bif (Nat.ble ((List.length ([] : List (Entry))) + (List.length z4)) 2147483648) then
                              let z5 : List (Entry) := (([] : List (Entry)) ++ z4)
                              let z6 : Int := (Go.IntKind.wrap Go.IntKind.i64 (y6.1.2.2.1 + (1 : Int)))
                              bif ((decide ((0 : Int) ≤ z6)) && (decide (z6 ≤ (((List.length y6.2.1.2.2.2.1) : Nat) : Int)))) then
                                let z7 : List (Entry) := (List.drop (Int.toNat z6) (List.take (List.length y6.2.1.2.2.2.1) y6.2.1.2.2.2.1))
                                bif (Nat.ble ((List.length z5) + (List.length z7)) 2147483648) then
                                  some (((), (0 : Int), ()), ((y6.2.1.1, y6.2.1.2.1, y6.2.1.2.2.1, (z5 ++ z7), ()), ()))
                                else
                                  none
                              else
                                none
                            else
                              none
                          else
                            none
                        else
                          bif (y4.2.2.1.1 == (3 : Int)) then
                            bif (Go.Ab.inB y4.1.2.2.2.1 (List.length y4.2.1.2.2.2.1)) then
                              let z8 : Nat := (Int.toNat y4.1.2.2.2.1)
                              let z9 : Entry := (List.getD y4.2.1.2.2.2.1 z8 (Entry.mk (0 : Int) (0 : Int) (0 : Int) (0 : Int) false))
                              some (((), (0 : Int), ()), ((y4.2.1.1, y4.2.1.2.1, y4.2.1.2.2.1, (List.set y4.2.1.2.2.2.1 z8 (Entry.mk z9.Floor z9.Dir y4.2.2.1.2.2.2.1 z9.Moves z9.Moved)), ()), ()))
                            else
                              none
                          else
                            bif (y4.2.2.1.1 == (7 : Int)) then
                              bif (Go.Ab.inB y4.1.2.2.2.1 (List.length y4.2.1.2.2.2.1)) then
                                let z10 : Nat := (Int.toNat y4.1.2.2.2.1)
                                let z11 : Entry := (List.getD y4.2.1.2.2.2.1 z10 (Entry.mk (0 : Int) (0 : Int) (0 : Int) (0 : Int) false))
                                let z12 : List (Entry) := (List.set y4.2.1.2.2.2.1 z10 (Entry.mk z11.Floor z11.Dir z11.Car y4.2.2.1.2.2.2.2.1 z11.Moved))
                                bif (Go.Ab.inB y4.1.2.2.2.1 (List.length z12)) then
                                  let z13 : Nat := (Int.toNat y4.1.2.2.2.1)
                                  let z14 : Entry := (List.getD z12 z13 (Entry.mk (0 : Int) (0 : Int) (0 : Int) (0 : Int) false))
                                  some (((), (0 : Int), ()), ((y4.2.1.1, y4.2.1.2.1, y4.2.1.2.2.1, (List.set z12 z13 (Entry.mk z14.Floor z14.Dir z14.Car z14.Moves (y4.2.2.1.2.2.2.1 == (1 : Int)))), ()), ()))
                                else
                                  none
                              else
                                none
                            else
                              some (((), (0 : Int), ()), ((y4.2.1.1, y4.2.1.2.1, y4.2.1.2.2.1, y4.2.1.2.2.2.1, ()), ()))
            else
              none
          else
            none
        else
          none
      else
        none
/-! ### overlay/overlaylaw10.Image -/
noncomputable def R_l10_Image_0 (x_1 : List (Record)) (i : Int) (b_Floors : Int) (b_Debounce : Int) (b_Room : Int) (b_Park : Int) (b_Empty : Nat) (b_Full : Nat) (b_Over : Nat) (b_Cars : List (Car)) (b4_Phases : List (Int)) (b4_Flags : List (Bool)) (b4_Leaving : List (Bool)) (b4_Entries : List (Entry)) (m_Phases : List (Int)) (m_Flags : List (Bool)) (m_Leaving : List (Bool)) (m_Entries : List (Entry)) : Option (Sum ((Unit × Unit × Unit × List (Record) × Int × Unit) × ((Int × Int × Int × Int × Nat × Nat × Nat × List (Car) × Unit) × (List (Int) × List (Bool) × List (Bool) × List (Entry) × Unit) × (List (Int) × List (Bool) × List (Bool) × List (Entry) × Unit) × Unit)) ((Unit × Unit × Unit) × ((List (Int) × List (Bool) × List (Bool) × List (Entry) × Unit) × (List (Int) × List (Bool) × List (Bool) × List (Entry) × Unit) × Unit))) :=
  bif (decide (i < ((List.length x_1 : Nat) : Int))) then
    bif (Go.Ab.inB i (List.length x_1)) then
      let z0 : Record := (List.getD x_1 (Int.toNat i) (Record.mk (0 : Int) (0 : Int) (0 : Int) (0 : Int) (0 : Int)))
      (F_r10_Apply b_Floors b_Debounce b_Room b_Park b_Empty b_Full b_Over b_Cars m_Phases m_Flags m_Leaving m_Entries z0.Kind z0.Floor z0.Dir z0.Car z0.Value).bind fun y1 =>
      some (Sum.inl (((), (), (), x_1, (Go.IntKind.wrap Go.IntKind.i64 (i + (1 : Int))), ()), ((b_Floors, b_Debounce, b_Room, b_Park, b_Empty, b_Full, b_Over, b_Cars, ()), (b4_Phases, b4_Flags, b4_Leaving, b4_Entries, ()), (y1.2.1.1, y1.2.1.2.1, y1.2.1.2.2.1, y1.2.1.2.2.2.1, ()), ())))
    else
      none
  else
    some (Sum.inr (((), (), ()), ((b4_Phases, b4_Flags, b4_Leaving, b4_Entries, ()), (m_Phases, m_Flags, m_Leaving, m_Entries, ()), ())))
noncomputable def L_l10_Image_0 : ((Unit × Unit × Unit × List (Record) × Int × Unit) × ((Int × Int × Int × Int × Nat × Nat × Nat × List (Car) × Unit) × (List (Int) × List (Bool) × List (Bool) × List (Entry) × Unit) × (List (Int) × List (Bool) × List (Bool) × List (Entry) × Unit) × Unit)) → Option ((Unit × Unit × Unit) × ((List (Int) × List (Bool) × List (Bool) × List (Entry) × Unit) × (List (Int) × List (Bool) × List (Bool) × List (Entry) × Unit) × Unit)) := iter (fun x => R_l10_Image_0 x.1.2.2.2.1 x.1.2.2.2.2.1 x.2.1.1 x.2.1.2.1 x.2.1.2.2.1 x.2.1.2.2.2.1 x.2.1.2.2.2.2.1 x.2.1.2.2.2.2.2.1 x.2.1.2.2.2.2.2.2.1 x.2.1.2.2.2.2.2.2.2.1 x.2.2.1.1 x.2.2.1.2.1 x.2.2.1.2.2.1 x.2.2.1.2.2.2.1 x.2.2.2.1.1 x.2.2.2.1.2.1 x.2.2.2.1.2.2.1 x.2.2.2.1.2.2.2.1) fuel
noncomputable def F_l10_Image (b_Floors : Int) (b_Debounce : Int) (b_Room : Int) (b_Park : Int) (b_Empty : Nat) (b_Full : Nat) (b_Over : Nat) (b_Cars : List (Car)) (l : List (Int)) : Option ((Unit × Unit) × ((List (Int) × List (Bool) × List (Bool) × List (Entry) × Unit) × Unit)) :=
  (F_r10_Initial b_Floors b_Debounce b_Room b_Park b_Empty b_Full b_Over b_Cars).bind fun y1 =>
  (F_l09_Records b_Floors b_Debounce b_Room b_Park b_Empty b_Full b_Over b_Cars l (60 : Int)).bind fun y2 =>
  (L_l10_Image_0 (((), (), (), y2.1.1, (0 : Int), ()), ((b_Floors, b_Debounce, b_Room, b_Park, b_Empty, b_Full, b_Over, b_Cars, ()), (([] : List (Int)), ([] : List (Bool)), ([] : List (Bool)), ([] : List (Entry)), ()), (y1.2.1.1, y1.2.1.2.1, y1.2.1.2.2.1, y1.2.1.2.2.2.1, ()), ()))).bind fun y3 =>
  some (((), ()), ((y3.2.2.1.1, y3.2.2.1.2.1, y3.2.2.1.2.2.1, y3.2.2.1.2.2.2.1, ()), ()))
/-! ### overlay/overlayref02.Sum8 -/
noncomputable def R_r02_Sum8_1 (s : ByteArray) (r : Int) (i : Int) (k : Int) : Option (Sum ((ByteArray × Int × Int × Int × Unit) × Unit) ((ByteArray × Int × Int × Unit) × Unit)) :=
  bif (decide (k < (8 : Int))) then
    let z0 : Int := (Int.tmod (Go.IntKind.wrap Go.IntKind.i64 (r * (2 : Int))) (256 : Int))
    bif (decide ((128 : Int) ≤ r)) then
      some (Sum.inl ((s, (Go.IntKind.wrap Go.IntKind.i64 (Go.Ab.stk z0 (7 : Int) (BitVec.toNat ((BitVec.ofInt (Go.IntKind.bits Go.IntKind.i64) z0) ^^^ (BitVec.ofInt (Go.IntKind.bits Go.IntKind.i64) (7 : Int)))))), i, (Go.IntKind.wrap Go.IntKind.i64 (k + (1 : Int))), ()), ()))
    else
      some (Sum.inl ((s, z0, i, (Go.IntKind.wrap Go.IntKind.i64 (k + (1 : Int))), ()), ()))
  else
    some (Sum.inr ((s, r, i, ()), ()))
noncomputable def L_r02_Sum8_1 : ((ByteArray × Int × Int × Int × Unit) × Unit) → Option ((ByteArray × Int × Int × Unit) × Unit) := iter (fun x => R_r02_Sum8_1 x.1.1 x.1.2.1 x.1.2.2.1 x.1.2.2.2.1) fuel
noncomputable def R_r02_Sum8_0 (s : ByteArray) (r : Int) (i : Int) : Option (Sum ((ByteArray × Int × Int × Unit) × Unit) ((Int × Unit) × Unit)) :=
  bif (decide (i < ((ByteArray.size s : Nat) : Int))) then
    bif (Go.Ab.inB i (ByteArray.size s)) then
      let z0 : Int := (Go.IntKind.wrap Go.IntKind.i64 (Go.Ab.byteAt s (Int.toNat i)))
      (L_r02_Sum8_1 ((s, (Go.IntKind.wrap Go.IntKind.i64 (Go.Ab.stk r z0 (BitVec.toNat ((BitVec.ofInt (Go.IntKind.bits Go.IntKind.i64) r) ^^^ (BitVec.ofInt (Go.IntKind.bits Go.IntKind.i64) z0))))), i, (0 : Int), ()), ())).bind fun y1 =>
      some (Sum.inl ((y1.1.1, y1.1.2.1, (Go.IntKind.wrap Go.IntKind.i64 (y1.1.2.2.1 + (1 : Int))), ()), ()))
    else
      none
  else
    some (Sum.inr ((r, ()), ()))
noncomputable def L_r02_Sum8_0 : ((ByteArray × Int × Int × Unit) × Unit) → Option ((Int × Unit) × Unit) := iter (fun x => R_r02_Sum8_0 x.1.1 x.1.2.1 x.1.2.2.1) fuel
noncomputable def F_r02_Sum8 (s : ByteArray) : Option ((Int × Unit) × Unit) :=
  (L_r02_Sum8_0 ((s, (0 : Int), (0 : Int), ()), ())).bind fun y1 =>
  some (((Go.IntKind.wrap Go.IntKind.u8 y1.1.1), ()), ())
/-! ### overlay/overlayref09.Encode -/
noncomputable def F_r09_Encode (b_Floors : Int) (b_Debounce : Int) (b_Room : Int) (b_Park : Int) (b_Empty : Nat) (b_Full : Nat) (b_Over : Nat) (b_Cars : List (Car)) (r_Kind : Int) (r_Floor : Int) (r_Dir : Int) (r_Car : Int) (r_Value : Int) : Option ((ByteArray × Int × Unit) × Unit) :=
  (F_r09_Valid b_Floors b_Debounce b_Room b_Park b_Empty b_Full b_Over b_Cars r_Kind r_Floor r_Dir r_Car r_Value).bind fun y1 =>
  bif (!y1.1.1) then
    some (((ByteArray.mk (Array.mk [])), (1 : Int), ()), ())
  else
    let z0 : ByteArray := (textU [(Go.IntKind.wrap Go.IntKind.u8 r_Kind), (Go.IntKind.wrap Go.IntKind.u8 r_Floor), (Go.IntKind.wrap Go.IntKind.u8 r_Dir), (Go.IntKind.wrap Go.IntKind.u8 (Go.IntKind.wrap Go.IntKind.i64 (r_Car + (2 : Int)))), (Go.IntKind.wrap Go.IntKind.u8 r_Value)])
    (F_r02_Sum8 z0).bind fun y2 =>
    let z1 : ByteArray := (textU [y2.1.1])
    bif (Nat.ble ((ByteArray.size z0) + (ByteArray.size z1)) 4611686018427387904) then
      some (((z0 ++ z1), (0 : Int), ()), ())
    else
      none
/-! ### overlay/overlayref10.Bytes -/
noncomputable def R_r10_Bytes_0 (l : List (Record)) (s : ByteArray) (i : Int) (b_Floors : Int) (b_Debounce : Int) (b_Room : Int) (b_Park : Int) (b_Empty : Nat) (b_Full : Nat) (b_Over : Nat) (b_Cars : List (Car)) : Option (Sum ((List (Record) × Unit × ByteArray × Int × Unit) × ((Int × Int × Int × Int × Nat × Nat × Nat × List (Car) × Unit) × Unit)) ((ByteArray × Unit) × Unit)) :=
  bif (decide (i < ((List.length l : Nat) : Int))) then
    bif (Go.Ab.inB i (List.length l)) then
      let z0 : Record := (List.getD l (Int.toNat i) (Record.mk (0 : Int) (0 : Int) (0 : Int) (0 : Int) (0 : Int)))
      (F_r09_Encode b_Floors b_Debounce b_Room b_Park b_Empty b_Full b_Over b_Cars z0.Kind z0.Floor z0.Dir z0.Car z0.Value).bind fun y1 =>
      bif (Nat.ble ((ByteArray.size s) + (ByteArray.size y1.1.1)) 4611686018427387904) then
        some (Sum.inl ((l, (), (s ++ y1.1.1), (Go.IntKind.wrap Go.IntKind.i64 (i + (1 : Int))), ()), ((b_Floors, b_Debounce, b_Room, b_Park, b_Empty, b_Full, b_Over, b_Cars, ()), ())))
      else
        none
    else
      none
  else
    some (Sum.inr ((s, ()), ()))
noncomputable def L_r10_Bytes_0 : ((List (Record) × Unit × ByteArray × Int × Unit) × ((Int × Int × Int × Int × Nat × Nat × Nat × List (Car) × Unit) × Unit)) → Option ((ByteArray × Unit) × Unit) := iter (fun x => R_r10_Bytes_0 x.1.1 x.1.2.2.1 x.1.2.2.2.1 x.2.1.1 x.2.1.2.1 x.2.1.2.2.1 x.2.1.2.2.2.1 x.2.1.2.2.2.2.1 x.2.1.2.2.2.2.2.1 x.2.1.2.2.2.2.2.2.1 x.2.1.2.2.2.2.2.2.2.1) fuel
noncomputable def F_r10_Bytes (b_Floors : Int) (b_Debounce : Int) (b_Room : Int) (b_Park : Int) (b_Empty : Nat) (b_Full : Nat) (b_Over : Nat) (b_Cars : List (Car)) (l : List (Record)) : Option ((ByteArray × Unit) × Unit) :=
  (L_r10_Bytes_0 ((l, (), (ByteArray.mk (Array.mk [])), (0 : Int), ()), ((b_Floors, b_Debounce, b_Room, b_Park, b_Empty, b_Full, b_Over, b_Cars, ()), ()))).bind fun y1 =>
  some ((y1.1.1, ()), ())
/-! ### overlay/overlayref08.IsStore -/
noncomputable def F_r08_IsStore (room : Int) (s_Halves_0 : ByteArray) (s_Halves_1 : ByteArray) (s_Select : Int) : Option ((Bool × Unit) × Unit) :=
  Option.bind (bif (decide ((1 : Int) ≤ room)) then
        bif (decide (room ≤ (65536 : Int))) then
          bif (decide (((ByteArray.size s_Halves_0 : Nat) : Int) ≤ room)) then
            bif (decide (((ByteArray.size s_Halves_1 : Nat) : Int) ≤ room)) then
              bif (s_Select == (0 : Int)) then
                some ((true, ()), ())
              else
                some (((s_Select == (1 : Int)), ()), ())
            else
              some ((false, ()), ())
          else
            some ((false, ()), ())
        else
          some ((false, ()), ())
      else
        some ((false, ()), ())) fun y1 =>
  some ((y1.1.1, ()), ())
/-! ### overlay/overlayref10.ok -/
noncomputable def F_r10_ok (b_Floors : Int) (b_Debounce : Int) (b_Room : Int) (b_Park : Int) (b_Empty : Nat) (b_Full : Nat) (b_Over : Nat) (b_Cars : List (Car)) (s_Halves_0 : ByteArray) (s_Halves_1 : ByteArray) (s_Select : Int) (budget : Int) : Option ((Bool × Unit) × Unit) :=
  Option.bind ((F_r01_Valid b_Floors b_Debounce b_Room b_Park b_Empty b_Full b_Over b_Cars).bind fun y1 =>
      bif (y1.1.1 == (0 : Int)) then
        (F_r08_IsStore b_Room s_Halves_0 s_Halves_1 s_Select).bind fun y2 =>
        bif y2.1.1 then
          some (((decide ((0 : Int) ≤ budget)), ()), ())
        else
          some ((false, ()), ())
      else
        some ((false, ()), ())) fun y3 =>
  some ((y3.1.1, ()), ())
/-! ### overlay/overlayref10.Room -/
noncomputable def F_r10_Room (b_Floors : Int) (b_Debounce : Int) (b_Room : Int) (b_Park : Int) (b_Empty : Nat) (b_Full : Nat) (b_Over : Nat) (b_Cars : List (Car)) (m_Phases : List (Int)) (m_Flags : List (Bool)) (m_Leaving : List (Bool)) (m_Entries : List (Entry)) : Option ((Bool × Unit) × Unit) :=
  Option.bind ((F_r10_IsImage b_Floors b_Debounce b_Room b_Park b_Empty b_Full b_Over b_Cars m_Phases m_Flags m_Leaving m_Entries).bind fun y1 =>
      bif y1.1.1 then
        some (((decide ((Go.IntKind.wrap Go.IntKind.i64 ((Go.IntKind.wrap Go.IntKind.i64 ((18 : Int) * (Go.IntKind.wrap Go.IntKind.i64 ((Go.IntKind.wrap Go.IntKind.i64 (((List.length b_Cars : Nat) : Int) + ((List.length m_Entries : Nat) : Int))) + (1 : Int))))) + (6 : Int))) ≤ b_Room)), ()), ())
      else
        some ((false, ()), ())) fun y2 =>
  some ((y2.1.1, ()), ())
/-! ### overlay/overlayref08.Current -/
noncomputable def F_r08_Current (s_Halves_0 : ByteArray) (s_Halves_1 : ByteArray) (s_Select : Int) : Option ((ByteArray × Unit) × Unit) :=
  bif (s_Select == (1 : Int)) then
    some ((s_Halves_1, ()), ())
  else
    some ((s_Halves_0, ()), ())
/-! ### overlay/overlayref08.check -/
noncomputable def F_r08_check (room : Int) (s_Halves_0 : ByteArray) (s_Halves_1 : ByteArray) (s_Select : Int) (half : Int) (budget : Int) : Option ((Int × Unit) × Unit) :=
  (F_r08_IsStore room s_Halves_0 s_Halves_1 s_Select).bind fun y1 =>
  bif (!y1.1.1) then
    some (((1 : Int), ()), ())
  else
    Option.bind (bif (half != (0 : Int)) then
          bif (half != (1 : Int)) then
            some ((true, ()), ())
          else
            some (((decide (budget < (0 : Int))), ()), ())
        else
          some (((decide (budget < (0 : Int))), ()), ())) fun y2 =>
    bif y2.1.1 then
      some (((2 : Int), ()), ())
    else
      some (((0 : Int), ()), ())
/-! ### overlay/overlayref08.Write -/
noncomputable def R_r08_Write_0 (half : Int) (data : ByteArray) (budget : Int) (i : Int) (s_Halves_0 : ByteArray) (s_Halves_1 : ByteArray) (s_Select : Int) (b10_Halves_0 : ByteArray) (b10_Halves_1 : ByteArray) (b10_Select : Int) : Option (Sum ((Int × ByteArray × Int × Unit × Unit × Int × Unit) × ((ByteArray × ByteArray × Int × Unit) × (ByteArray × ByteArray × Int × Unit) × Unit)) (((Int × Unit × Unit × Unit) × ((ByteArray × ByteArray × Int × Unit) × (ByteArray × ByteArray × Int × Unit) × Unit)) ⊕ ((Unit × Int × Int × Unit) × ((ByteArray × ByteArray × Int × Unit) × Unit)))) :=
  bif (decide (i < ((ByteArray.size data : Nat) : Int))) then
    bif (budget == (0 : Int)) then
      some (Sum.inr (Sum.inr (((), (0 : Int), (8 : Int), ()), ((s_Halves_0, s_Halves_1, s_Select, ()), ()))))
    else
      bif (Go.Ab.inB half 2) then
        let z0 : ByteArray := (List.getD [s_Halves_0, s_Halves_1] (Int.toNat half) (ByteArray.mk (Array.mk [])))
        let z1 : Int := (Go.IntKind.wrap Go.IntKind.i64 (i + (1 : Int)))
        bif ((decide ((0 : Int) ≤ z1)) && (decide (z1 ≤ (((ByteArray.size data) : Nat) : Int)))) then
          bif ((decide ((0 : Int) ≤ i)) && (decide (i ≤ (((Int.toNat z1) : Nat) : Int)))) then
            let z2 : ByteArray := (ByteArray.extract data (Int.toNat i) (Int.toNat z1))
            bif (Nat.ble ((ByteArray.size z0) + (ByteArray.size z2)) 4611686018427387904) then
              let z3 : ByteArray := (z0 ++ z2)
              bif (Go.Ab.inB half 2) then
                let z4 : Nat := (Int.toNat half)
                some (Sum.inl ((half, data, (Go.IntKind.wrap Go.IntKind.i64 (budget - (1 : Int))), (), (), (Go.IntKind.wrap Go.IntKind.i64 (i + (1 : Int))), ()), (((bif (Nat.beq z4 0) then z3 else s_Halves_0), (bif (Nat.beq z4 1) then z3 else s_Halves_1), s_Select, ()), (b10_Halves_0, b10_Halves_1, b10_Select, ()), ())))
              else
                none
            else
              none
          else
            none
        else
          none
      else
        none
  else
    some (Sum.inr (Sum.inl ((budget, (), (), ()), ((s_Halves_0, s_Halves_1, s_Select, ()), (b10_Halves_0, b10_Halves_1, b10_Select, ()), ()))))
noncomputable def L_r08_Write_0 : ((Int × ByteArray × Int × Unit × Unit × Int × Unit) × ((ByteArray × ByteArray × Int × Unit) × (ByteArray × ByteArray × Int × Unit) × Unit)) → Option (((Int × Unit × Unit × Unit) × ((ByteArray × ByteArray × Int × Unit) × (ByteArray × ByteArray × Int × Unit) × Unit)) ⊕ ((Unit × Int × Int × Unit) × ((ByteArray × ByteArray × Int × Unit) × Unit))) := iter (fun x => R_r08_Write_0 x.1.1 x.1.2.1 x.1.2.2.1 x.1.2.2.2.2.2.1 x.2.1.1 x.2.1.2.1 x.2.1.2.2.1 x.2.2.1.1 x.2.2.1.2.1 x.2.2.1.2.2.1) fuel
noncomputable def F_r08_Write (room : Int) (s_Halves_0 : ByteArray) (s_Halves_1 : ByteArray) (s_Select : Int) (half : Int) (data : ByteArray) (budget : Int) : Option ((Unit × Int × Int × Unit) × ((ByteArray × ByteArray × Int × Unit) × Unit)) :=
  (F_r08_check room s_Halves_0 s_Halves_1 s_Select half budget).bind fun y1 =>
  bif (y1.1.1 != (0 : Int)) then
    some (((), (0 : Int), y1.1.1, ()), (((ByteArray.mk (Array.mk [])), (ByteArray.mk (Array.mk [])), (0 : Int), ()), ()))
  else
    bif (Go.Ab.inB half 2) then
      bif (decide (room < (Go.IntKind.wrap Go.IntKind.i64 (((ByteArray.size (List.getD [s_Halves_0, s_Halves_1] (Int.toNat half) (ByteArray.mk (Array.mk []))) : Nat) : Int) + ((ByteArray.size data : Nat) : Int))))) then
        some (((), (0 : Int), (7 : Int), ()), (((ByteArray.mk (Array.mk [])), (ByteArray.mk (Array.mk [])), (0 : Int), ()), ()))
      else
        (L_r08_Write_0 ((half, data, budget, (), (), (0 : Int), ()), ((s_Halves_0, s_Halves_1, s_Select, ()), ((ByteArray.mk (Array.mk [])), (ByteArray.mk (Array.mk [])), (0 : Int), ()), ()))).bind fun y2 =>
        (match y2 with
        | .inl y3 =>
          some (((), y3.1.1, (0 : Int), ()), ((y3.2.1.1, y3.2.1.2.1, y3.2.1.2.2.1, ()), ()))
        | .inr y3 =>
          some (((), y3.1.2.1, y3.1.2.2.1, ()), ((y3.2.1.1, y3.2.1.2.1, y3.2.1.2.2.1, ()), ())))
    else
      none
/-! ### overlay/overlayref08.Erase -/
noncomputable def F_r08_Erase (room : Int) (s_Halves_0 : ByteArray) (s_Halves_1 : ByteArray) (s_Select : Int) (half : Int) (budget : Int) : Option ((Unit × Int × Int × Unit) × ((ByteArray × ByteArray × Int × Unit) × Unit)) :=
  (F_r08_check room s_Halves_0 s_Halves_1 s_Select half budget).bind fun y1 =>
  bif (y1.1.1 != (0 : Int)) then
    some (((), (0 : Int), y1.1.1, ()), (((ByteArray.mk (Array.mk [])), (ByteArray.mk (Array.mk [])), (0 : Int), ()), ()))
  else
    bif (budget == (0 : Int)) then
      some (((), (0 : Int), (8 : Int), ()), ((s_Halves_0, s_Halves_1, s_Select, ()), ()))
    else
      bif (Go.Ab.inB half 2) then
        let z0 : Nat := (Int.toNat half)
        some (((), (Go.IntKind.wrap Go.IntKind.i64 (budget - (1 : Int))), (0 : Int), ()), (((bif (Nat.beq z0 0) then (ByteArray.mk (Array.mk [])) else s_Halves_0), (bif (Nat.beq z0 1) then (ByteArray.mk (Array.mk [])) else s_Halves_1), s_Select, ()), ()))
      else
        none
/-! ### overlay/overlayref10.one -/
noncomputable def F_r10_one (b : Bool) : Option ((Int × Unit) × Unit) :=
  bif b then
    some (((1 : Int), ()), ())
  else
    some (((0 : Int), ()), ())
/-! ### overlay/overlayref10.Snapshot -/
noncomputable def R_r10_Snapshot_1 (out : List (Record)) (i : Int) (m_Phases : List (Int)) (m_Flags : List (Bool)) (m_Leaving : List (Bool)) (m_Entries : List (Entry)) : Option (Sum ((Unit × List (Record) × Int × Unit) × ((List (Int) × List (Bool) × List (Bool) × List (Entry) × Unit) × Unit)) ((List (Record) × Unit) × Unit)) :=
  bif (decide (i < ((List.length m_Entries : Nat) : Int))) then
    bif (Go.Ab.inB i (List.length m_Entries)) then
      let z0 : Entry := (List.getD m_Entries (Int.toNat i) (Entry.mk (0 : Int) (0 : Int) (0 : Int) (0 : Int) false))
      (F_r10_one z0.Moved).bind fun y1 =>
      let z1 : List (Record) := [(Record.mk (1 : Int) z0.Floor z0.Dir (0 : Int) (0 : Int)), (Record.mk (3 : Int) z0.Floor z0.Dir z0.Car (0 : Int)), (Record.mk (7 : Int) z0.Floor z0.Dir y1.1.1 z0.Moves)]
      bif (Nat.ble ((List.length out) + (List.length z1)) 2147483648) then
        some (Sum.inl (((), (out ++ z1), (Go.IntKind.wrap Go.IntKind.i64 (i + (1 : Int))), ()), ((m_Phases, m_Flags, m_Leaving, m_Entries, ()), ())))
      else
        none
    else
      none
  else
    some (Sum.inr ((out, ()), ()))
noncomputable def L_r10_Snapshot_1 : ((Unit × List (Record) × Int × Unit) × ((List (Int) × List (Bool) × List (Bool) × List (Entry) × Unit) × Unit)) → Option ((List (Record) × Unit) × Unit) := iter (fun x => R_r10_Snapshot_1 x.1.2.1 x.1.2.2.1 x.2.1.1 x.2.1.2.1 x.2.1.2.2.1 x.2.1.2.2.2.1) fuel
noncomputable def R_r10_Snapshot_0 (out : List (Record)) (i : Int) (m_Phases : List (Int)) (m_Flags : List (Bool)) (m_Leaving : List (Bool)) (m_Entries : List (Entry)) : Option (Sum ((Unit × List (Record) × Int × Unit) × ((List (Int) × List (Bool) × List (Bool) × List (Entry) × Unit) × Unit)) ((Unit × List (Record) × Unit) × ((List (Int) × List (Bool) × List (Bool) × List (Entry) × Unit) × Unit))) :=
  bif (decide (i < ((List.length m_Phases : Nat) : Int))) then
    bif (Go.Ab.inB i (List.length m_Phases)) then
      bif (Go.Ab.inB i (List.length m_Flags)) then
        (F_r10_one (List.getD m_Flags (Int.toNat i) false)).bind fun y1 =>
        bif (Go.Ab.inB i (List.length m_Leaving)) then
          (F_r10_one (List.getD m_Leaving (Int.toNat i) false)).bind fun y2 =>
          let z0 : List (Record) := [(Record.mk (4 : Int) (0 : Int) (0 : Int) i (List.getD m_Phases (Int.toNat i) (0 : Int))), (Record.mk (5 : Int) (0 : Int) (0 : Int) i y1.1.1), (Record.mk (6 : Int) (0 : Int) (0 : Int) i y2.1.1)]
          bif (Nat.ble ((List.length out) + (List.length z0)) 2147483648) then
            some (Sum.inl (((), (out ++ z0), (Go.IntKind.wrap Go.IntKind.i64 (i + (1 : Int))), ()), ((m_Phases, m_Flags, m_Leaving, m_Entries, ()), ())))
          else
            none
        else
          none
      else
        none
    else
      none
  else
    some (Sum.inr (((), out, ()), ((m_Phases, m_Flags, m_Leaving, m_Entries, ()), ())))
noncomputable def L_r10_Snapshot_0 : ((Unit × List (Record) × Int × Unit) × ((List (Int) × List (Bool) × List (Bool) × List (Entry) × Unit) × Unit)) → Option ((Unit × List (Record) × Unit) × ((List (Int) × List (Bool) × List (Bool) × List (Entry) × Unit) × Unit)) := iter (fun x => R_r10_Snapshot_0 x.1.2.1 x.1.2.2.1 x.2.1.1 x.2.1.2.1 x.2.1.2.2.1 x.2.1.2.2.2.1) fuel
noncomputable def F_r10_Snapshot (b_Floors : Int) (b_Debounce : Int) (b_Room : Int) (b_Park : Int) (b_Empty : Nat) (b_Full : Nat) (b_Over : Nat) (b_Cars : List (Car)) (m_Phases : List (Int)) (m_Flags : List (Bool)) (m_Leaving : List (Bool)) (m_Entries : List (Entry)) : Option ((List (Record) × Unit) × Unit) :=
  (F_r10_IsImage b_Floors b_Debounce b_Room b_Park b_Empty b_Full b_Over b_Cars m_Phases m_Flags m_Leaving m_Entries).bind fun y1 =>
  bif (!y1.1.1) then
    some ((([] : List (Record)), ()), ())
  else
    (L_r10_Snapshot_0 (((), ([] : List (Record)), (0 : Int), ()), ((m_Phases, m_Flags, m_Leaving, m_Entries, ()), ()))).bind fun y2 =>
    (L_r10_Snapshot_1 (((), y2.1.2.1, (0 : Int), ()), ((y2.2.1.1, y2.2.1.2.1, y2.2.1.2.2.1, y2.2.1.2.2.2.1, ()), ()))).bind fun y3 =>
    some ((y3.1.1, ()), ())
/-! ### overlay/overlayref08.Choose -/
noncomputable def F_r08_Choose (room : Int) (s_Halves_0 : ByteArray) (s_Halves_1 : ByteArray) (s_Select : Int) (half : Int) (budget : Int) : Option ((Unit × Int × Int × Unit) × ((ByteArray × ByteArray × Int × Unit) × Unit)) :=
  (F_r08_check room s_Halves_0 s_Halves_1 s_Select half budget).bind fun y1 =>
  bif (y1.1.1 != (0 : Int)) then
    some (((), (0 : Int), y1.1.1, ()), (((ByteArray.mk (Array.mk [])), (ByteArray.mk (Array.mk [])), (0 : Int), ()), ()))
  else
    bif (budget == (0 : Int)) then
      some (((), (0 : Int), (8 : Int), ()), ((s_Halves_0, s_Halves_1, s_Select, ()), ()))
    else
      some (((), (Go.IntKind.wrap Go.IntKind.i64 (budget - (1 : Int))), (0 : Int), ()), ((s_Halves_0, s_Halves_1, half, ()), ()))
/-! ### overlay/overlayref10.Compact -/
noncomputable def F_r10_Compact (b_Floors : Int) (b_Debounce : Int) (b_Room : Int) (b_Park : Int) (b_Empty : Nat) (b_Full : Nat) (b_Over : Nat) (b_Cars : List (Car)) (s_Halves_0 : ByteArray) (s_Halves_1 : ByteArray) (s_Select : Int) (m_Phases : List (Int)) (m_Flags : List (Bool)) (m_Leaving : List (Bool)) (m_Entries : List (Entry)) (budget : Int) : Option ((Unit × Int × Int × Unit) × ((ByteArray × ByteArray × Int × Unit) × Unit)) :=
  (F_r10_ok b_Floors b_Debounce b_Room b_Park b_Empty b_Full b_Over b_Cars s_Halves_0 s_Halves_1 s_Select budget).bind fun y1 =>
  bif (!y1.1.1) then
    some (((), (0 : Int), (1 : Int), ()), (((ByteArray.mk (Array.mk [])), (ByteArray.mk (Array.mk [])), (0 : Int), ()), ()))
  else
    (F_r10_IsImage b_Floors b_Debounce b_Room b_Park b_Empty b_Full b_Over b_Cars m_Phases m_Flags m_Leaving m_Entries).bind fun y2 =>
    bif (!y2.1.1) then
      some (((), (0 : Int), (1 : Int), ()), (((ByteArray.mk (Array.mk [])), (ByteArray.mk (Array.mk [])), (0 : Int), ()), ()))
    else
      let z0 : Int := (Go.IntKind.wrap Go.IntKind.i64 ((1 : Int) - s_Select))
      (F_r08_Erase b_Room s_Halves_0 s_Halves_1 s_Select z0 budget).bind fun y3 =>
      bif (y3.1.2.2.1 != (0 : Int)) then
        some (((), (0 : Int), y3.1.2.2.1, ()), ((y3.2.1.1, y3.2.1.2.1, y3.2.1.2.2.1, ()), ()))
      else
        (F_r10_Snapshot b_Floors b_Debounce b_Room b_Park b_Empty b_Full b_Over b_Cars m_Phases m_Flags m_Leaving m_Entries).bind fun y4 =>
        (F_r10_Bytes b_Floors b_Debounce b_Room b_Park b_Empty b_Full b_Over b_Cars y4.1.1).bind fun y5 =>
        (F_r08_Write b_Room y3.2.1.1 y3.2.1.2.1 y3.2.1.2.2.1 z0 y5.1.1 y3.1.2.1).bind fun y6 =>
        bif (y6.1.2.2.1 != (0 : Int)) then
          some (((), (0 : Int), y6.1.2.2.1, ()), ((y6.2.1.1, y6.2.1.2.1, y6.2.1.2.2.1, ()), ()))
        else
          (F_r08_Choose b_Room y6.2.1.1 y6.2.1.2.1 y6.2.1.2.2.1 z0 y6.1.2.1).bind fun y7 =>
          some (((), y7.1.2.1, y7.1.2.2.1, ()), ((y7.2.1.1, y7.2.1.2.1, y7.2.1.2.2.1, ()), ()))
/-! ### overlay/overlayref10.Append -/
noncomputable def F_r10_Append (b_Floors : Int) (b_Debounce : Int) (b_Room : Int) (b_Park : Int) (b_Empty : Nat) (b_Full : Nat) (b_Over : Nat) (b_Cars : List (Car)) (s_Halves_0 : ByteArray) (s_Halves_1 : ByteArray) (s_Select : Int) (m_Phases : List (Int)) (m_Flags : List (Bool)) (m_Leaving : List (Bool)) (m_Entries : List (Entry)) (r_Kind : Int) (r_Floor : Int) (r_Dir : Int) (r_Car : Int) (r_Value : Int) (budget : Int) : Option ((Unit × Unit × Int × Int × Unit) × ((ByteArray × ByteArray × Int × Unit) × (List (Int) × List (Bool) × List (Bool) × List (Entry) × Unit) × Unit)) :=
  (F_r10_ok b_Floors b_Debounce b_Room b_Park b_Empty b_Full b_Over b_Cars s_Halves_0 s_Halves_1 s_Select budget).bind fun y1 =>
  bif (!y1.1.1) then
    some (((), (), (0 : Int), (1 : Int), ()), (((ByteArray.mk (Array.mk [])), (ByteArray.mk (Array.mk [])), (0 : Int), ()), (([] : List (Int)), ([] : List (Bool)), ([] : List (Bool)), ([] : List (Entry)), ()), ()))
  else
    (F_r10_IsImage b_Floors b_Debounce b_Room b_Park b_Empty b_Full b_Over b_Cars m_Phases m_Flags m_Leaving m_Entries).bind fun y2 =>
    bif (!y2.1.1) then
      some (((), (), (0 : Int), (1 : Int), ()), (((ByteArray.mk (Array.mk [])), (ByteArray.mk (Array.mk [])), (0 : Int), ()), (([] : List (Int)), ([] : List (Bool)), ([] : List (Bool)), ([] : List (Entry)), ()), ()))
    else
      (F_r09_Valid b_Floors b_Debounce b_Room b_Park b_Empty b_Full b_Over b_Cars r_Kind r_Floor r_Dir r_Car r_Value).bind fun y3 =>
      bif (!y3.1.1) then
        some (((), (), (0 : Int), (1 : Int), ()), (((ByteArray.mk (Array.mk [])), (ByteArray.mk (Array.mk [])), (0 : Int), ()), (([] : List (Int)), ([] : List (Bool)), ([] : List (Bool)), ([] : List (Entry)), ()), ()))
      else
        Option.bind (bif (r_Kind == (1 : Int)) then
              (F_r10_Find m_Phases m_Flags m_Leaving m_Entries r_Floor r_Dir).bind fun y4 =>
              bif (decide (y4.1.1 < (0 : Int))) then
                (F_r10_Room b_Floors b_Debounce b_Room b_Park b_Empty b_Full b_Over b_Cars m_Phases m_Flags m_Leaving m_Entries).bind fun y5 =>
                some ((budget, (), (), (), (), (), (), (!y5.1.1), ()), ((b_Floors, b_Debounce, b_Room, b_Park, b_Empty, b_Full, b_Over, b_Cars, ()), (s_Halves_0, s_Halves_1, s_Select, ()), (m_Phases, m_Flags, m_Leaving, m_Entries, ()), (r_Kind, r_Floor, r_Dir, r_Car, r_Value, ()), ((ByteArray.mk (Array.mk [])), (ByteArray.mk (Array.mk [])), (0 : Int), ()), (([] : List (Int)), ([] : List (Bool)), ([] : List (Bool)), ([] : List (Entry)), ()), ()))
              else
                some ((budget, (), (), (), (), (), (), false, ()), ((b_Floors, b_Debounce, b_Room, b_Park, b_Empty, b_Full, b_Over, b_Cars, ()), (s_Halves_0, s_Halves_1, s_Select, ()), (m_Phases, m_Flags, m_Leaving, m_Entries, ()), (r_Kind, r_Floor, r_Dir, r_Car, r_Value, ()), ((ByteArray.mk (Array.mk [])), (ByteArray.mk (Array.mk [])), (0 : Int), ()), (([] : List (Int)), ([] : List (Bool)), ([] : List (Bool)), ([] : List (Entry)), ()), ()))
            else
              some ((budget, (), (), (), (), (), (), false, ()), ((b_Floors, b_Debounce, b_Room, b_Park, b_Empty, b_Full, b_Over, b_Cars, ()), (s_Halves_0, s_Halves_1, s_Select, ()), (m_Phases, m_Flags, m_Leaving, m_Entries, ()), (r_Kind, r_Floor, r_Dir, r_Car, r_Value, ()), ((ByteArray.mk (Array.mk [])), (ByteArray.mk (Array.mk [])), (0 : Int), ()), (([] : List (Int)), ([] : List (Bool)), ([] : List (Bool)), ([] : List (Entry)), ()), ()))) fun y6 =>
        bif y6.1.2.2.2.2.2.2.2.1 then
          some (((), (), (0 : Int), (7 : Int), ()), (((ByteArray.mk (Array.mk [])), (ByteArray.mk (Array.mk [])), (0 : Int), ()), (([] : List (Int)), ([] : List (Bool)), ([] : List (Bool)), ([] : List (Entry)), ()), ()))
        else
          (F_r10_Apply y6.2.1.1 y6.2.1.2.1 y6.2.1.2.2.1 y6.2.1.2.2.2.1 y6.2.1.2.2.2.2.1 y6.2.1.2.2.2.2.2.1 y6.2.1.2.2.2.2.2.2.1 y6.2.1.2.2.2.2.2.2.2.1 y6.2.2.2.1.1 y6.2.2.2.1.2.1 y6.2.2.2.1.2.2.1 y6.2.2.2.1.2.2.2.1 y6.2.2.2.2.1.1 y6.2.2.2.2.1.2.1 y6.2.2.2.2.1.2.2.1 y6.2.2.2.2.1.2.2.2.1 y6.2.2.2.2.1.2.2.2.2.1).bind fun y7 =>
          Option.bind ((F_r08_Current y6.2.2.1.1 y6.2.2.1.2.1 y6.2.2.1.2.2.1).bind fun y8 =>
              bif (decide ((Go.IntKind.wrap Go.IntKind.i64 (((ByteArray.size y8.1.1 : Nat) : Int) + (6 : Int))) ≤ y6.2.1.2.2.1)) then
                (F_r10_Bytes y6.2.1.1 y6.2.1.2.1 y6.2.1.2.2.1 y6.2.1.2.2.2.1 y6.2.1.2.2.2.2.1 y6.2.1.2.2.2.2.2.1 y6.2.1.2.2.2.2.2.2.1 y6.2.1.2.2.2.2.2.2.2.1 [(Record.mk y6.2.2.2.2.1.1 y6.2.2.2.2.1.2.1 y6.2.2.2.2.1.2.2.1 y6.2.2.2.2.1.2.2.2.1 y6.2.2.2.2.1.2.2.2.2.1)]).bind fun y9 =>
                (F_r08_Write y6.2.1.2.2.1 y6.2.2.1.1 y6.2.2.1.2.1 y6.2.2.1.2.2.1 y6.2.2.1.2.2.1 y9.1.1 y6.1.1).bind fun y10 =>
                some ((y10.1.2.1, (), (), (), (), (), y10.1.2.2.1, ()), ((y10.2.1.1, y10.2.1.2.1, y10.2.1.2.2.1, ()), (y6.2.2.2.1.1, y6.2.2.2.1.2.1, y6.2.2.2.1.2.2.1, y6.2.2.2.1.2.2.2.1, ()), (y6.2.2.2.2.2.1.1, y6.2.2.2.2.2.1.2.1, y6.2.2.2.2.2.1.2.2.1, ()), (y6.2.2.2.2.2.2.1.1, y6.2.2.2.2.2.2.1.2.1, y6.2.2.2.2.2.2.1.2.2.1, y6.2.2.2.2.2.2.1.2.2.2.1, ()), (y7.2.1.1, y7.2.1.2.1, y7.2.1.2.2.1, y7.2.1.2.2.2.1, ()), ()))
              else
                (F_r10_Compact y6.2.1.1 y6.2.1.2.1 y6.2.1.2.2.1 y6.2.1.2.2.2.1 y6.2.1.2.2.2.2.1 y6.2.1.2.2.2.2.2.1 y6.2.1.2.2.2.2.2.2.1 y6.2.1.2.2.2.2.2.2.2.1 y6.2.2.1.1 y6.2.2.1.2.1 y6.2.2.1.2.2.1 y7.2.1.1 y7.2.1.2.1 y7.2.1.2.2.1 y7.2.1.2.2.2.1 y6.1.1).bind fun y11 =>
                some ((y11.1.2.1, (), (), (), (), (), y11.1.2.2.1, ()), ((y11.2.1.1, y11.2.1.2.1, y11.2.1.2.2.1, ()), (y6.2.2.2.1.1, y6.2.2.2.1.2.1, y6.2.2.2.1.2.2.1, y6.2.2.2.1.2.2.2.1, ()), (y6.2.2.2.2.2.1.1, y6.2.2.2.2.2.1.2.1, y6.2.2.2.2.2.1.2.2.1, ()), (y6.2.2.2.2.2.2.1.1, y6.2.2.2.2.2.2.1.2.1, y6.2.2.2.2.2.2.1.2.2.1, y6.2.2.2.2.2.2.1.2.2.2.1, ()), (y7.2.1.1, y7.2.1.2.1, y7.2.1.2.2.1, y7.2.1.2.2.2.1, ()), ()))) fun y12 =>
          bif (y12.1.2.2.2.2.2.2.1 == (0 : Int)) then
            some (((), (), y12.1.1, (0 : Int), ()), ((y12.2.1.1, y12.2.1.2.1, y12.2.1.2.2.1, ()), (y12.2.2.2.2.2.1.1, y12.2.2.2.2.2.1.2.1, y12.2.2.2.2.2.1.2.2.1, y12.2.2.2.2.2.1.2.2.2.1, ()), ()))
          else
            bif (y12.1.2.2.2.2.2.2.1 == (8 : Int)) then
              some (((), (), (0 : Int), y12.1.2.2.2.2.2.2.1, ()), ((y12.2.1.1, y12.2.1.2.1, y12.2.1.2.2.1, ()), (y12.2.2.1.1, y12.2.2.1.2.1, y12.2.2.1.2.2.1, y12.2.2.1.2.2.2.1, ()), ()))
            else
              some (((), (), (0 : Int), y12.1.2.2.2.2.2.2.1, ()), (((ByteArray.mk (Array.mk [])), (ByteArray.mk (Array.mk [])), (0 : Int), ()), (([] : List (Int)), ([] : List (Bool)), ([] : List (Bool)), ([] : List (Entry)), ()), ()))
/-! ### overlay/overlayref10.Same -/
noncomputable def R_r10_Same_3 (i : Int) (a_Phases : List (Int)) (a_Flags : List (Bool)) (a_Leaving : List (Bool)) (a_Entries : List (Entry)) (b_Phases : List (Int)) (b_Flags : List (Bool)) (b_Leaving : List (Bool)) (b_Entries : List (Entry)) : Option (Sum ((Unit × Unit × Int × Unit) × ((List (Int) × List (Bool) × List (Bool) × List (Entry) × Unit) × (List (Int) × List (Bool) × List (Bool) × List (Entry) × Unit) × Unit)) ((Unit × Unit) ⊕ ((Bool × Unit) × Unit))) :=
  bif (decide (i < ((List.length a_Entries : Nat) : Int))) then
    bif (Go.Ab.inB i (List.length a_Entries)) then
      let z0 : Entry := (List.getD a_Entries (Int.toNat i) (Entry.mk (0 : Int) (0 : Int) (0 : Int) (0 : Int) false))
      bif (Go.Ab.inB i (List.length b_Entries)) then
        let z1 : Entry := (List.getD b_Entries (Int.toNat i) (Entry.mk (0 : Int) (0 : Int) (0 : Int) (0 : Int) false))
        bif (!((z0.Floor == z1.Floor) && ((z0.Dir == z1.Dir) && ((z0.Car == z1.Car) && ((z0.Moves == z1.Moves) && ((z0.Moved == z1.Moved) && true)))))) then
          some (Sum.inr (Sum.inr ((false, ()), ())))
        else
          some (Sum.inl (((), (), (Go.IntKind.wrap Go.IntKind.i64 (i + (1 : Int))), ()), ((a_Phases, a_Flags, a_Leaving, a_Entries, ()), (b_Phases, b_Flags, b_Leaving, b_Entries, ()), ())))
      else
        none
    else
      none
  else
    some (Sum.inr (Sum.inl ((), ())))
noncomputable def L_r10_Same_3 : ((Unit × Unit × Int × Unit) × ((List (Int) × List (Bool) × List (Bool) × List (Entry) × Unit) × (List (Int) × List (Bool) × List (Bool) × List (Entry) × Unit) × Unit)) → Option ((Unit × Unit) ⊕ ((Bool × Unit) × Unit)) := iter (fun x => R_r10_Same_3 x.1.2.2.1 x.2.1.1 x.2.1.2.1 x.2.1.2.2.1 x.2.1.2.2.2.1 x.2.2.1.1 x.2.2.1.2.1 x.2.2.1.2.2.1 x.2.2.1.2.2.2.1) fuel
noncomputable def R_r10_Same_2 (i : Int) (a_Phases : List (Int)) (a_Flags : List (Bool)) (a_Leaving : List (Bool)) (a_Entries : List (Entry)) (b_Phases : List (Int)) (b_Flags : List (Bool)) (b_Leaving : List (Bool)) (b_Entries : List (Entry)) : Option (Sum ((Unit × Unit × Int × Unit) × ((List (Int) × List (Bool) × List (Bool) × List (Entry) × Unit) × (List (Int) × List (Bool) × List (Bool) × List (Entry) × Unit) × Unit)) (((Unit × Unit × Unit) × ((List (Int) × List (Bool) × List (Bool) × List (Entry) × Unit) × (List (Int) × List (Bool) × List (Bool) × List (Entry) × Unit) × Unit)) ⊕ ((Bool × Unit) × Unit))) :=
  bif (decide (i < ((List.length a_Leaving : Nat) : Int))) then
    bif (Go.Ab.inB i (List.length a_Leaving)) then
      bif (Go.Ab.inB i (List.length b_Leaving)) then
        bif (!((List.getD a_Leaving (Int.toNat i) false) == (List.getD b_Leaving (Int.toNat i) false))) then
          some (Sum.inr (Sum.inr ((false, ()), ())))
        else
          some (Sum.inl (((), (), (Go.IntKind.wrap Go.IntKind.i64 (i + (1 : Int))), ()), ((a_Phases, a_Flags, a_Leaving, a_Entries, ()), (b_Phases, b_Flags, b_Leaving, b_Entries, ()), ())))
      else
        none
    else
      none
  else
    some (Sum.inr (Sum.inl (((), (), ()), ((a_Phases, a_Flags, a_Leaving, a_Entries, ()), (b_Phases, b_Flags, b_Leaving, b_Entries, ()), ()))))
noncomputable def L_r10_Same_2 : ((Unit × Unit × Int × Unit) × ((List (Int) × List (Bool) × List (Bool) × List (Entry) × Unit) × (List (Int) × List (Bool) × List (Bool) × List (Entry) × Unit) × Unit)) → Option (((Unit × Unit × Unit) × ((List (Int) × List (Bool) × List (Bool) × List (Entry) × Unit) × (List (Int) × List (Bool) × List (Bool) × List (Entry) × Unit) × Unit)) ⊕ ((Bool × Unit) × Unit)) := iter (fun x => R_r10_Same_2 x.1.2.2.1 x.2.1.1 x.2.1.2.1 x.2.1.2.2.1 x.2.1.2.2.2.1 x.2.2.1.1 x.2.2.1.2.1 x.2.2.1.2.2.1 x.2.2.1.2.2.2.1) fuel
noncomputable def R_r10_Same_1 (i : Int) (a_Phases : List (Int)) (a_Flags : List (Bool)) (a_Leaving : List (Bool)) (a_Entries : List (Entry)) (b_Phases : List (Int)) (b_Flags : List (Bool)) (b_Leaving : List (Bool)) (b_Entries : List (Entry)) : Option (Sum ((Unit × Unit × Int × Unit) × ((List (Int) × List (Bool) × List (Bool) × List (Entry) × Unit) × (List (Int) × List (Bool) × List (Bool) × List (Entry) × Unit) × Unit)) (((Unit × Unit × Unit) × ((List (Int) × List (Bool) × List (Bool) × List (Entry) × Unit) × (List (Int) × List (Bool) × List (Bool) × List (Entry) × Unit) × Unit)) ⊕ ((Bool × Unit) × Unit))) :=
  bif (decide (i < ((List.length a_Flags : Nat) : Int))) then
    bif (Go.Ab.inB i (List.length a_Flags)) then
      bif (Go.Ab.inB i (List.length b_Flags)) then
        bif (!((List.getD a_Flags (Int.toNat i) false) == (List.getD b_Flags (Int.toNat i) false))) then
          some (Sum.inr (Sum.inr ((false, ()), ())))
        else
          some (Sum.inl (((), (), (Go.IntKind.wrap Go.IntKind.i64 (i + (1 : Int))), ()), ((a_Phases, a_Flags, a_Leaving, a_Entries, ()), (b_Phases, b_Flags, b_Leaving, b_Entries, ()), ())))
      else
        none
    else
      none
  else
    some (Sum.inr (Sum.inl (((), (), ()), ((a_Phases, a_Flags, a_Leaving, a_Entries, ()), (b_Phases, b_Flags, b_Leaving, b_Entries, ()), ()))))
noncomputable def L_r10_Same_1 : ((Unit × Unit × Int × Unit) × ((List (Int) × List (Bool) × List (Bool) × List (Entry) × Unit) × (List (Int) × List (Bool) × List (Bool) × List (Entry) × Unit) × Unit)) → Option (((Unit × Unit × Unit) × ((List (Int) × List (Bool) × List (Bool) × List (Entry) × Unit) × (List (Int) × List (Bool) × List (Bool) × List (Entry) × Unit) × Unit)) ⊕ ((Bool × Unit) × Unit)) := iter (fun x => R_r10_Same_1 x.1.2.2.1 x.2.1.1 x.2.1.2.1 x.2.1.2.2.1 x.2.1.2.2.2.1 x.2.2.1.1 x.2.2.1.2.1 x.2.2.1.2.2.1 x.2.2.1.2.2.2.1) fuel
noncomputable def R_r10_Same_0 (i : Int) (a_Phases : List (Int)) (a_Flags : List (Bool)) (a_Leaving : List (Bool)) (a_Entries : List (Entry)) (b_Phases : List (Int)) (b_Flags : List (Bool)) (b_Leaving : List (Bool)) (b_Entries : List (Entry)) : Option (Sum ((Unit × Unit × Int × Unit) × ((List (Int) × List (Bool) × List (Bool) × List (Entry) × Unit) × (List (Int) × List (Bool) × List (Bool) × List (Entry) × Unit) × Unit)) (((Unit × Unit × Unit) × ((List (Int) × List (Bool) × List (Bool) × List (Entry) × Unit) × (List (Int) × List (Bool) × List (Bool) × List (Entry) × Unit) × Unit)) ⊕ ((Bool × Unit) × Unit))) :=
  bif (decide (i < ((List.length a_Phases : Nat) : Int))) then
    bif (Go.Ab.inB i (List.length a_Phases)) then
      bif (Go.Ab.inB i (List.length b_Phases)) then
        bif ((List.getD a_Phases (Int.toNat i) (0 : Int)) != (List.getD b_Phases (Int.toNat i) (0 : Int))) then
          some (Sum.inr (Sum.inr ((false, ()), ())))
        else
          some (Sum.inl (((), (), (Go.IntKind.wrap Go.IntKind.i64 (i + (1 : Int))), ()), ((a_Phases, a_Flags, a_Leaving, a_Entries, ()), (b_Phases, b_Flags, b_Leaving, b_Entries, ()), ())))
      else
        none
    else
      none
  else
    some (Sum.inr (Sum.inl (((), (), ()), ((a_Phases, a_Flags, a_Leaving, a_Entries, ()), (b_Phases, b_Flags, b_Leaving, b_Entries, ()), ()))))
noncomputable def L_r10_Same_0 : ((Unit × Unit × Int × Unit) × ((List (Int) × List (Bool) × List (Bool) × List (Entry) × Unit) × (List (Int) × List (Bool) × List (Bool) × List (Entry) × Unit) × Unit)) → Option (((Unit × Unit × Unit) × ((List (Int) × List (Bool) × List (Bool) × List (Entry) × Unit) × (List (Int) × List (Bool) × List (Bool) × List (Entry) × Unit) × Unit)) ⊕ ((Bool × Unit) × Unit)) := iter (fun x => R_r10_Same_0 x.1.2.2.1 x.2.1.1 x.2.1.2.1 x.2.1.2.2.1 x.2.1.2.2.2.1 x.2.2.1.1 x.2.2.1.2.1 x.2.2.1.2.2.1 x.2.2.1.2.2.2.1) fuel
noncomputable def F_r10_Same (a_Phases : List (Int)) (a_Flags : List (Bool)) (a_Leaving : List (Bool)) (a_Entries : List (Entry)) (b_Phases : List (Int)) (b_Flags : List (Bool)) (b_Leaving : List (Bool)) (b_Entries : List (Entry)) : Option ((Bool × Unit) × Unit) :=
  bif (((List.length a_Phases : Nat) : Int) != ((List.length b_Phases : Nat) : Int)) then
    some ((false, ()), ())
  else
    bif (((List.length a_Flags : Nat) : Int) != ((List.length b_Flags : Nat) : Int)) then
      some ((false, ()), ())
    else
      bif (((List.length a_Leaving : Nat) : Int) != ((List.length b_Leaving : Nat) : Int)) then
        some ((false, ()), ())
      else
        bif (((List.length a_Entries : Nat) : Int) != ((List.length b_Entries : Nat) : Int)) then
          some ((false, ()), ())
        else
          (L_r10_Same_0 (((), (), (0 : Int), ()), ((a_Phases, a_Flags, a_Leaving, a_Entries, ()), (b_Phases, b_Flags, b_Leaving, b_Entries, ()), ()))).bind fun y1 =>
          (match y1 with
          | .inl y2 =>
            (L_r10_Same_1 (((), (), (0 : Int), ()), ((y2.2.1.1, y2.2.1.2.1, y2.2.1.2.2.1, y2.2.1.2.2.2.1, ()), (y2.2.2.1.1, y2.2.2.1.2.1, y2.2.2.1.2.2.1, y2.2.2.1.2.2.2.1, ()), ()))).bind fun y3 =>
            (match y3 with
            | .inl y4 =>
              (L_r10_Same_2 (((), (), (0 : Int), ()), ((y4.2.1.1, y4.2.1.2.1, y4.2.1.2.2.1, y4.2.1.2.2.2.1, ()), (y4.2.2.1.1, y4.2.2.1.2.1, y4.2.2.1.2.2.1, y4.2.2.1.2.2.2.1, ()), ()))).bind fun y5 =>
              (match y5 with
              | .inl y6 =>
                (L_r10_Same_3 (((), (), (0 : Int), ()), ((y6.2.1.1, y6.2.1.2.1, y6.2.1.2.2.1, y6.2.1.2.2.2.1, ()), (y6.2.2.1.1, y6.2.2.1.2.1, y6.2.2.1.2.2.1, y6.2.2.1.2.2.2.1, ()), ()))).bind fun y7 =>
                (match y7 with
                | .inl y8 =>
                  some ((true, ()), ())
                | .inr y8 =>
                  some ((y8.1.1, ()), ()))
              | .inr y6 =>
                some ((y6.1.1, ()), ()))
            | .inr y4 =>
              some ((y4.1.1, ()), ()))
          | .inr y2 =>
            some ((y2.1.1, ()), ()))
/-! ### overlay/log.Recover -/
noncomputable def F_log_Recover (b_Floors : Int) (b_Debounce : Int) (b_Room : Int) (b_Park : Int) (b_Empty : Nat) (b_Full : Nat) (b_Over : Nat) (b_Cars : List (Car)) (s_Halves_0 : ByteArray) (s_Halves_1 : ByteArray) (s_Select : Int) (budget : Int) : Option ((Unit × Unit × Int × Int × Unit) × ((ByteArray × ByteArray × Int × Unit) × (List (Int) × List (Bool) × List (Bool) × List (Entry) × Unit) × Unit)) :=
  (F_log_Replay b_Floors b_Debounce b_Room b_Park b_Empty b_Full b_Over b_Cars s_Halves_0 s_Halves_1 s_Select).bind fun y1 =>
  (F_log_Compact b_Floors b_Debounce b_Room b_Park b_Empty b_Full b_Over b_Cars s_Halves_0 s_Halves_1 s_Select y1.2.1.1 y1.2.1.2.1 y1.2.1.2.2.1 y1.2.1.2.2.2.1 budget).bind fun y2 =>
  bif (y2.1.2.2.1 != (0 : Int)) then
    some (((), (), (0 : Int), y2.1.2.2.1, ()), ((y2.2.1.1, y2.2.1.2.1, y2.2.1.2.2.1, ()), (([] : List (Int)), ([] : List (Bool)), ([] : List (Bool)), ([] : List (Entry)), ()), ()))
  else
    some (((), (), y2.1.2.1, (0 : Int), ()), ((y2.2.1.1, y2.2.1.2.1, y2.2.1.2.2.1, ()), (y1.2.1.1, y1.2.1.2.1, y1.2.1.2.2.1, y1.2.1.2.2.2.1, ()), ()))
/-! ### overlay/overlayref09.Decode -/
noncomputable def F_r09_Decode (b_Floors : Int) (b_Debounce : Int) (b_Room : Int) (b_Park : Int) (b_Empty : Nat) (b_Full : Nat) (b_Over : Nat) (b_Cars : List (Car)) (s : ByteArray) : Option ((Unit × Int × Unit) × ((Int × Int × Int × Int × Int × Unit) × Unit)) :=
  (F_r01_Valid b_Floors b_Debounce b_Room b_Park b_Empty b_Full b_Over b_Cars).bind fun y1 =>
  bif (y1.1.1 != (0 : Int)) then
    some (((), (1 : Int), ()), (((0 : Int), (0 : Int), (0 : Int), (0 : Int), (0 : Int), ()), ()))
  else
    bif (((ByteArray.size s : Nat) : Int) != (6 : Int)) then
      some (((), (4 : Int), ()), (((0 : Int), (0 : Int), (0 : Int), (0 : Int), (0 : Int), ()), ()))
    else
      bif (decide ((5 : Int) ≤ (((ByteArray.size s) : Nat) : Int))) then
        (F_r02_Sum8 (ByteArray.extract s 0 5)).bind fun y2 =>
        bif (Go.Ab.inB (5 : Int) (ByteArray.size s)) then
          bif (y2.1.1 != (Go.Ab.byteAt s (Int.toNat (5 : Int)))) then
            some (((), (5 : Int), ()), (((0 : Int), (0 : Int), (0 : Int), (0 : Int), (0 : Int), ()), ()))
          else
            bif (Go.Ab.inB (0 : Int) (ByteArray.size s)) then
              let z0 : Int := (Go.IntKind.wrap Go.IntKind.i64 (Go.Ab.byteAt s (Int.toNat (0 : Int))))
              bif (Go.Ab.inB (1 : Int) (ByteArray.size s)) then
                let z1 : Int := (Go.IntKind.wrap Go.IntKind.i64 (Go.Ab.byteAt s (Int.toNat (1 : Int))))
                bif (Go.Ab.inB (2 : Int) (ByteArray.size s)) then
                  let z2 : Int := (Go.IntKind.wrap Go.IntKind.i64 (Go.Ab.byteAt s (Int.toNat (2 : Int))))
                  bif (Go.Ab.inB (3 : Int) (ByteArray.size s)) then
                    let z3 : Int := (Go.IntKind.wrap Go.IntKind.i64 ((Go.IntKind.wrap Go.IntKind.i64 (Go.Ab.byteAt s (Int.toNat (3 : Int)))) - (2 : Int)))
                    bif (Go.Ab.inB (4 : Int) (ByteArray.size s)) then
                      let z4 : Int := (Go.IntKind.wrap Go.IntKind.i64 (Go.Ab.byteAt s (Int.toNat (4 : Int))))
                      (F_r09_Valid b_Floors b_Debounce b_Room b_Park b_Empty b_Full b_Over b_Cars z0 z1 z2 z3 z4).bind fun y3 =>
                      bif (!y3.1.1) then
                        some (((), (9 : Int), ()), (((0 : Int), (0 : Int), (0 : Int), (0 : Int), (0 : Int), ()), ()))
                      else
                        some (((), (0 : Int), ()), ((z0, z1, z2, z3, z4, ()), ()))
                    else
                      none
                  else
                    none
                else
                  none
              else
                none
            else
              none
        else
          none
      else
        none
/-! ### overlay/overlayref09.Read -/
noncomputable def R_r09_Read_0 (s : ByteArray) (out : List (Record)) (n : Int) (b_Floors : Int) (b_Debounce : Int) (b_Room : Int) (b_Park : Int) (b_Empty : Nat) (b_Full : Nat) (b_Over : Nat) (b_Cars : List (Car)) : Option (Sum ((ByteArray × Unit × List (Record) × Int × Unit) × ((Int × Int × Int × Int × Nat × Nat × Nat × List (Car) × Unit) × Unit)) ((List (Record) × Int × Unit) × Unit)) :=
  bif (decide ((Go.IntKind.wrap Go.IntKind.i64 (n + (6 : Int))) ≤ ((ByteArray.size s : Nat) : Int))) then
    let z0 : Int := (Go.IntKind.wrap Go.IntKind.i64 (n + (6 : Int)))
    bif ((decide ((0 : Int) ≤ z0)) && (decide (z0 ≤ (((ByteArray.size s) : Nat) : Int)))) then
      bif ((decide ((0 : Int) ≤ n)) && (decide (n ≤ (((Int.toNat z0) : Nat) : Int)))) then
        (F_r09_Decode b_Floors b_Debounce b_Room b_Park b_Empty b_Full b_Over b_Cars (ByteArray.extract s (Int.toNat n) (Int.toNat z0))).bind fun y1 =>
        bif (y1.1.2.1 != (0 : Int)) then
          some (Sum.inr ((out, n, ()), ()))
        else
          let z1 : List (Record) := [(Record.mk y1.2.1.1 y1.2.1.2.1 y1.2.1.2.2.1 y1.2.1.2.2.2.1 y1.2.1.2.2.2.2.1)]
          bif (Nat.ble ((List.length out) + (List.length z1)) 2147483648) then
            some (Sum.inl ((s, (), (out ++ z1), (Go.IntKind.wrap Go.IntKind.i64 (n + (6 : Int))), ()), ((b_Floors, b_Debounce, b_Room, b_Park, b_Empty, b_Full, b_Over, b_Cars, ()), ())))
          else
            none
      else
        none
    else
      none
  else
    some (Sum.inr ((out, n, ()), ()))
noncomputable def L_r09_Read_0 : ((ByteArray × Unit × List (Record) × Int × Unit) × ((Int × Int × Int × Int × Nat × Nat × Nat × List (Car) × Unit) × Unit)) → Option ((List (Record) × Int × Unit) × Unit) := iter (fun x => R_r09_Read_0 x.1.1 x.1.2.2.1 x.1.2.2.2.1 x.2.1.1 x.2.1.2.1 x.2.1.2.2.1 x.2.1.2.2.2.1 x.2.1.2.2.2.2.1 x.2.1.2.2.2.2.2.1 x.2.1.2.2.2.2.2.2.1 x.2.1.2.2.2.2.2.2.2.1) fuel
noncomputable def F_r09_Read (b_Floors : Int) (b_Debounce : Int) (b_Room : Int) (b_Park : Int) (b_Empty : Nat) (b_Full : Nat) (b_Over : Nat) (b_Cars : List (Car)) (s : ByteArray) : Option ((List (Record) × Int × Unit) × Unit) :=
  (L_r09_Read_0 ((s, (), ([] : List (Record)), (0 : Int), ()), ((b_Floors, b_Debounce, b_Room, b_Park, b_Empty, b_Full, b_Over, b_Cars, ()), ()))).bind fun y1 =>
  some ((y1.1.1, y1.1.2.1, ()), ())
/-! ### overlay/overlayref10.Replay -/
noncomputable def R_r10_Replay_0 (l : List (Record)) (i : Int) (b_Floors : Int) (b_Debounce : Int) (b_Room : Int) (b_Park : Int) (b_Empty : Nat) (b_Full : Nat) (b_Over : Nat) (b_Cars : List (Car)) (b4_Phases : List (Int)) (b4_Flags : List (Bool)) (b4_Leaving : List (Bool)) (b4_Entries : List (Entry)) (m_Phases : List (Int)) (m_Flags : List (Bool)) (m_Leaving : List (Bool)) (m_Entries : List (Entry)) : Option (Sum ((Unit × Unit × Unit × List (Record) × Int × Unit) × ((Int × Int × Int × Int × Nat × Nat × Nat × List (Car) × Unit) × (List (Int) × List (Bool) × List (Bool) × List (Entry) × Unit) × (List (Int) × List (Bool) × List (Bool) × List (Entry) × Unit) × Unit)) ((Unit × Unit × Unit) × ((List (Int) × List (Bool) × List (Bool) × List (Entry) × Unit) × (List (Int) × List (Bool) × List (Bool) × List (Entry) × Unit) × Unit))) :=
  bif (decide (i < ((List.length l : Nat) : Int))) then
    bif (Go.Ab.inB i (List.length l)) then
      let z0 : Record := (List.getD l (Int.toNat i) (Record.mk (0 : Int) (0 : Int) (0 : Int) (0 : Int) (0 : Int)))
      (F_r10_Apply b_Floors b_Debounce b_Room b_Park b_Empty b_Full b_Over b_Cars m_Phases m_Flags m_Leaving m_Entries z0.Kind z0.Floor z0.Dir z0.Car z0.Value).bind fun y1 =>
      some (Sum.inl (((), (), (), l, (Go.IntKind.wrap Go.IntKind.i64 (i + (1 : Int))), ()), ((b_Floors, b_Debounce, b_Room, b_Park, b_Empty, b_Full, b_Over, b_Cars, ()), (b4_Phases, b4_Flags, b4_Leaving, b4_Entries, ()), (y1.2.1.1, y1.2.1.2.1, y1.2.1.2.2.1, y1.2.1.2.2.2.1, ()), ())))
    else
      none
  else
    some (Sum.inr (((), (), ()), ((b4_Phases, b4_Flags, b4_Leaving, b4_Entries, ()), (m_Phases, m_Flags, m_Leaving, m_Entries, ()), ())))
noncomputable def L_r10_Replay_0 : ((Unit × Unit × Unit × List (Record) × Int × Unit) × ((Int × Int × Int × Int × Nat × Nat × Nat × List (Car) × Unit) × (List (Int) × List (Bool) × List (Bool) × List (Entry) × Unit) × (List (Int) × List (Bool) × List (Bool) × List (Entry) × Unit) × Unit)) → Option ((Unit × Unit × Unit) × ((List (Int) × List (Bool) × List (Bool) × List (Entry) × Unit) × (List (Int) × List (Bool) × List (Bool) × List (Entry) × Unit) × Unit)) := iter (fun x => R_r10_Replay_0 x.1.2.2.2.1 x.1.2.2.2.2.1 x.2.1.1 x.2.1.2.1 x.2.1.2.2.1 x.2.1.2.2.2.1 x.2.1.2.2.2.2.1 x.2.1.2.2.2.2.2.1 x.2.1.2.2.2.2.2.2.1 x.2.1.2.2.2.2.2.2.2.1 x.2.2.1.1 x.2.2.1.2.1 x.2.2.1.2.2.1 x.2.2.1.2.2.2.1 x.2.2.2.1.1 x.2.2.2.1.2.1 x.2.2.2.1.2.2.1 x.2.2.2.1.2.2.2.1) fuel
noncomputable def F_r10_Replay (b_Floors : Int) (b_Debounce : Int) (b_Room : Int) (b_Park : Int) (b_Empty : Nat) (b_Full : Nat) (b_Over : Nat) (b_Cars : List (Car)) (s_Halves_0 : ByteArray) (s_Halves_1 : ByteArray) (s_Select : Int) : Option ((Unit × Unit) × ((List (Int) × List (Bool) × List (Bool) × List (Entry) × Unit) × Unit)) :=
  (F_r10_Initial b_Floors b_Debounce b_Room b_Park b_Empty b_Full b_Over b_Cars).bind fun y1 =>
  (F_r08_Current s_Halves_0 s_Halves_1 s_Select).bind fun y2 =>
  (F_r09_Read b_Floors b_Debounce b_Room b_Park b_Empty b_Full b_Over b_Cars y2.1.1).bind fun y3 =>
  (L_r10_Replay_0 (((), (), (), y3.1.1, (0 : Int), ()), ((b_Floors, b_Debounce, b_Room, b_Park, b_Empty, b_Full, b_Over, b_Cars, ()), (([] : List (Int)), ([] : List (Bool)), ([] : List (Bool)), ([] : List (Entry)), ()), (y1.2.1.1, y1.2.1.2.1, y1.2.1.2.2.1, y1.2.1.2.2.2.1, ()), ()))).bind fun y4 =>
  some (((), ()), ((y4.2.2.1.1, y4.2.2.1.2.1, y4.2.2.1.2.2.1, y4.2.2.1.2.2.2.1, ()), ()))
/-! ### overlay/overlayref10.Recover -/
noncomputable def F_r10_Recover (b_Floors : Int) (b_Debounce : Int) (b_Room : Int) (b_Park : Int) (b_Empty : Nat) (b_Full : Nat) (b_Over : Nat) (b_Cars : List (Car)) (s_Halves_0 : ByteArray) (s_Halves_1 : ByteArray) (s_Select : Int) (budget : Int) : Option ((Unit × Unit × Int × Int × Unit) × ((ByteArray × ByteArray × Int × Unit) × (List (Int) × List (Bool) × List (Bool) × List (Entry) × Unit) × Unit)) :=
  (F_r10_ok b_Floors b_Debounce b_Room b_Park b_Empty b_Full b_Over b_Cars s_Halves_0 s_Halves_1 s_Select budget).bind fun y1 =>
  bif (!y1.1.1) then
    some (((), (), (0 : Int), (1 : Int), ()), (((ByteArray.mk (Array.mk [])), (ByteArray.mk (Array.mk [])), (0 : Int), ()), (([] : List (Int)), ([] : List (Bool)), ([] : List (Bool)), ([] : List (Entry)), ()), ()))
  else
    (F_r10_Replay b_Floors b_Debounce b_Room b_Park b_Empty b_Full b_Over b_Cars s_Halves_0 s_Halves_1 s_Select).bind fun y2 =>
    (F_r10_Compact b_Floors b_Debounce b_Room b_Park b_Empty b_Full b_Over b_Cars s_Halves_0 s_Halves_1 s_Select y2.2.1.1 y2.2.1.2.1 y2.2.1.2.2.1 y2.2.1.2.2.2.1 budget).bind fun y3 =>
    bif (y3.1.2.2.1 != (0 : Int)) then
      some (((), (), (0 : Int), y3.1.2.2.1, ()), ((y3.2.1.1, y3.2.1.2.1, y3.2.1.2.2.1, ()), (([] : List (Int)), ([] : List (Bool)), ([] : List (Bool)), ([] : List (Entry)), ()), ()))
    else
      some (((), (), y3.1.2.1, (0 : Int), ()), ((y3.2.1.1, y3.2.1.2.1, y3.2.1.2.2.1, ()), (y2.2.1.1, y2.2.1.2.1, y2.2.1.2.2.1, y2.2.1.2.2.2.1, ()), ()))
/-! ### overlay/overlaylaw10.LogActs -/
noncomputable def R_l10_LogActs_0 (r : List (Record)) (k : Int) (x_Store_Halves_0 : ByteArray) (x_Store_Halves_1 : ByteArray) (x_Store_Select : Int) (x_Budget : Int) (x_Record_Kind : Int) (x_Record_Floor : Int) (x_Record_Dir : Int) (x_Record_Car : Int) (x_Record_Value : Int) (b_Floors : Int) (b_Debounce : Int) (b_Room : Int) (b_Park : Int) (b_Empty : Nat) (b_Full : Nat) (b_Over : Nat) (b_Cars : List (Car)) (m_Phases : List (Int)) (m_Flags : List (Bool)) (m_Leaving : List (Bool)) (m_Entries : List (Entry)) : Option (Sum ((Unit × Unit × Unit × List (Record) × Int × Unit) × ((ByteArray × ByteArray × Int × Int × Int × Int × Int × Int × Int × Unit) × (Int × Int × Int × Int × Nat × Nat × Nat × List (Car) × Unit) × (List (Int) × List (Bool) × List (Bool) × List (Entry) × Unit) × Unit)) ((Unit × Unit) ⊕ ((Bool × Unit) × Unit))) :=
  bif (decide (k < (4 : Int))) then
    Option.bind (bif (decide ((0 : Int) < k)) then
          let z0 : Int := (Go.IntKind.wrap Go.IntKind.i64 (Int.tdiv (Go.IntKind.wrap Go.IntKind.i64 (k * ((List.length r : Nat) : Int))) (4 : Int)))
          let z1 : Int := (Go.IntKind.wrap Go.IntKind.i64 (Int.tdiv b_Room (6 : Int)))
          let z2 : Int := (bif (decide (z1 < z0)) then z1 else z0)
          bif ((decide ((0 : Int) ≤ z2)) && (decide (z2 ≤ (((List.length r) : Nat) : Int)))) then
            (F_r10_Bytes b_Floors b_Debounce b_Room b_Park b_Empty b_Full b_Over b_Cars (List.drop 0 (List.take (Int.toNat z2) r))).bind fun y1 =>
            let z3 : Int := ((ByteArray.size x_Store_Halves_1 : Nat) : Int)
            let z4 : Int := (bif (decide (b_Room < z3)) then b_Room else z3)
            bif ((decide ((0 : Int) ≤ z4)) && (decide (z4 ≤ (((ByteArray.size x_Store_Halves_1) : Nat) : Int)))) then
              some (((), (), (), r, k, (), (), (Go.IntKind.wrap Go.IntKind.i64 (Int.tmod (Go.IntKind.wrap Go.IntKind.u64 x_Budget) (200 : Int))), ()), ((x_Store_Halves_0, x_Store_Halves_1, x_Store_Select, x_Budget, x_Record_Kind, x_Record_Floor, x_Record_Dir, x_Record_Car, x_Record_Value, ()), (b_Floors, b_Debounce, b_Room, b_Park, b_Empty, b_Full, b_Over, b_Cars, ()), (m_Phases, m_Flags, m_Leaving, m_Entries, ()), (y1.1.1, (ByteArray.extract x_Store_Halves_1 0 (Int.toNat z4)), (0 : Int), ()), (x_Record_Kind, x_Record_Floor, x_Record_Dir, x_Record_Car, x_Record_Value, ()), ()))
            else
              none
          else
            none
        else
          some (((), (), (), r, k, (), (), x_Budget, ()), ((x_Store_Halves_0, x_Store_Halves_1, x_Store_Select, x_Budget, x_Record_Kind, x_Record_Floor, x_Record_Dir, x_Record_Car, x_Record_Value, ()), (b_Floors, b_Debounce, b_Room, b_Park, b_Empty, b_Full, b_Over, b_Cars, ()), (m_Phases, m_Flags, m_Leaving, m_Entries, ()), (x_Store_Halves_0, x_Store_Halves_1, x_Store_Select, ()), (x_Record_Kind, x_Record_Floor, x_Record_Dir, x_Record_Car, x_Record_Value, ()), ()))) fun y2 =>
    Option.bind (Option.bind (bif (decide ((1 : Int) < y2.1.2.2.2.2.1)) then
              some (((), (), (), y2.1.2.2.2.1, y2.1.2.2.2.2.1, (), (), y2.1.2.2.2.2.2.2.2.1, (decide ((0 : Int) < ((List.length y2.1.2.2.2.1 : Nat) : Int))), ()), ((y2.2.1.1, y2.2.1.2.1, y2.2.1.2.2.1, y2.2.1.2.2.2.1, y2.2.1.2.2.2.2.1, y2.2.1.2.2.2.2.2.1, y2.2.1.2.2.2.2.2.2.1, y2.2.1.2.2.2.2.2.2.2.1, y2.2.1.2.2.2.2.2.2.2.2.1, ()), (y2.2.2.1.1, y2.2.2.1.2.1, y2.2.2.1.2.2.1, y2.2.2.1.2.2.2.1, y2.2.2.1.2.2.2.2.1, y2.2.2.1.2.2.2.2.2.1, y2.2.2.1.2.2.2.2.2.2.1, y2.2.2.1.2.2.2.2.2.2.2.1, ()), (y2.2.2.2.1.1, y2.2.2.2.1.2.1, y2.2.2.2.1.2.2.1, y2.2.2.2.1.2.2.2.1, ()), (y2.2.2.2.2.1.1, y2.2.2.2.2.1.2.1, y2.2.2.2.2.1.2.2.1, ()), (y2.2.2.2.2.2.1.1, y2.2.2.2.2.2.1.2.1, y2.2.2.2.2.2.1.2.2.1, y2.2.2.2.2.2.1.2.2.2.1, y2.2.2.2.2.2.1.2.2.2.2.1, ()), ()))
            else
              some (((), (), (), y2.1.2.2.2.1, y2.1.2.2.2.2.1, (), (), y2.1.2.2.2.2.2.2.2.1, false, ()), ((y2.2.1.1, y2.2.1.2.1, y2.2.1.2.2.1, y2.2.1.2.2.2.1, y2.2.1.2.2.2.2.1, y2.2.1.2.2.2.2.2.1, y2.2.1.2.2.2.2.2.2.1, y2.2.1.2.2.2.2.2.2.2.1, y2.2.1.2.2.2.2.2.2.2.2.1, ()), (y2.2.2.1.1, y2.2.2.1.2.1, y2.2.2.1.2.2.1, y2.2.2.1.2.2.2.1, y2.2.2.1.2.2.2.2.1, y2.2.2.1.2.2.2.2.2.1, y2.2.2.1.2.2.2.2.2.2.1, y2.2.2.1.2.2.2.2.2.2.2.1, ()), (y2.2.2.2.1.1, y2.2.2.2.1.2.1, y2.2.2.2.1.2.2.1, y2.2.2.2.1.2.2.2.1, ()), (y2.2.2.2.2.1.1, y2.2.2.2.2.1.2.1, y2.2.2.2.2.1.2.2.1, ()), (y2.2.2.2.2.2.1.1, y2.2.2.2.2.2.1.2.1, y2.2.2.2.2.2.1.2.2.1, y2.2.2.2.2.2.1.2.2.2.1, y2.2.2.2.2.2.1.2.2.2.2.1, ()), ()))) fun y3 =>
        bif y3.1.2.2.2.2.2.2.2.2.1 then
          let z5 : Int := ((List.length y3.1.2.2.2.1 : Nat) : Int)
          bif (z5 != (0 : Int)) then
            let z6 : Int := (Int.tmod (Go.IntKind.wrap Go.IntKind.i64 (y3.1.2.2.2.2.1 * (7 : Int))) z5)
            bif (Go.Ab.inB z6 (List.length y3.1.2.2.2.1)) then
              let z7 : Record := (List.getD y3.1.2.2.2.1 (Int.toNat z6) (Record.mk (0 : Int) (0 : Int) (0 : Int) (0 : Int) (0 : Int)))
              some (((), (), (), y3.1.2.2.2.1, y3.1.2.2.2.2.1, (), (), y3.1.2.2.2.2.2.2.2.1, ()), ((y3.2.1.1, y3.2.1.2.1, y3.2.1.2.2.1, y3.2.1.2.2.2.1, y3.2.1.2.2.2.2.1, y3.2.1.2.2.2.2.2.1, y3.2.1.2.2.2.2.2.2.1, y3.2.1.2.2.2.2.2.2.2.1, y3.2.1.2.2.2.2.2.2.2.2.1, ()), (y3.2.2.1.1, y3.2.2.1.2.1, y3.2.2.1.2.2.1, y3.2.2.1.2.2.2.1, y3.2.2.1.2.2.2.2.1, y3.2.2.1.2.2.2.2.2.1, y3.2.2.1.2.2.2.2.2.2.1, y3.2.2.1.2.2.2.2.2.2.2.1, ()), (y3.2.2.2.1.1, y3.2.2.2.1.2.1, y3.2.2.2.1.2.2.1, y3.2.2.2.1.2.2.2.1, ()), (y3.2.2.2.2.1.1, y3.2.2.2.2.1.2.1, y3.2.2.2.2.1.2.2.1, ()), (z7.Kind, z7.Floor, z7.Dir, z7.Car, z7.Value, ()), ()))
            else
              none
          else
            none
        else
          some (((), (), (), y3.1.2.2.2.1, y3.1.2.2.2.2.1, (), (), y3.1.2.2.2.2.2.2.2.1, ()), ((y3.2.1.1, y3.2.1.2.1, y3.2.1.2.2.1, y3.2.1.2.2.2.1, y3.2.1.2.2.2.2.1, y3.2.1.2.2.2.2.2.1, y3.2.1.2.2.2.2.2.2.1, y3.2.1.2.2.2.2.2.2.2.1, y3.2.1.2.2.2.2.2.2.2.2.1, ()), (y3.2.2.1.1, y3.2.2.1.2.1, y3.2.2.1.2.2.1, y3.2.2.1.2.2.2.1, y3.2.2.1.2.2.2.2.1, y3.2.2.1.2.2.2.2.2.1, y3.2.2.1.2.2.2.2.2.2.1, y3.2.2.1.2.2.2.2.2.2.2.1, ()), (y3.2.2.2.1.1, y3.2.2.2.1.2.1, y3.2.2.2.1.2.2.1, y3.2.2.2.1.2.2.2.1, ()), (y3.2.2.2.2.1.1, y3.2.2.2.2.1.2.1, y3.2.2.2.2.1.2.2.1, ()), (y3.2.2.2.2.2.1.1, y3.2.2.2.2.2.1.2.1, y3.2.2.2.2.2.1.2.2.1, y3.2.2.2.2.2.1.2.2.2.1, y3.2.2.2.2.2.1.2.2.2.2.1, ()), ()))) fun y4 =>
    (F_log_Append y4.2.2.1.1 y4.2.2.1.2.1 y4.2.2.1.2.2.1 y4.2.2.1.2.2.2.1 y4.2.2.1.2.2.2.2.1 y4.2.2.1.2.2.2.2.2.1 y4.2.2.1.2.2.2.2.2.2.1 y4.2.2.1.2.2.2.2.2.2.2.1 y4.2.2.2.2.1.1 y4.2.2.2.2.1.2.1 y4.2.2.2.2.1.2.2.1 y4.2.2.2.1.1 y4.2.2.2.1.2.1 y4.2.2.2.1.2.2.1 y4.2.2.2.1.2.2.2.1 y4.2.2.2.2.2.1.1 y4.2.2.2.2.2.1.2.1 y4.2.2.2.2.2.1.2.2.1 y4.2.2.2.2.2.1.2.2.2.1 y4.2.2.2.2.2.1.2.2.2.2.1 y4.1.2.2.2.2.2.2.2.1).bind fun y5 =>
    (F_r10_Append y4.2.2.1.1 y4.2.2.1.2.1 y4.2.2.1.2.2.1 y4.2.2.1.2.2.2.1 y4.2.2.1.2.2.2.2.1 y4.2.2.1.2.2.2.2.2.1 y4.2.2.1.2.2.2.2.2.2.1 y4.2.2.1.2.2.2.2.2.2.2.1 y4.2.2.2.2.1.1 y4.2.2.2.2.1.2.1 y4.2.2.2.2.1.2.2.1 y4.2.2.2.1.1 y4.2.2.2.1.2.1 y4.2.2.2.1.2.2.1 y4.2.2.2.1.2.2.2.1 y4.2.2.2.2.2.1.1 y4.2.2.2.2.2.1.2.1 y4.2.2.2.2.2.1.2.2.1 y4.2.2.2.2.2.1.2.2.2.1 y4.2.2.2.2.2.1.2.2.2.2.1 y4.1.2.2.2.2.2.2.2.1).bind fun y6 =>
    bif (!((Go.Ab.eqB y5.2.1.1 y6.2.1.1) && ((Go.Ab.eqB y5.2.1.2.1 y6.2.1.2.1) && ((y5.2.1.2.2.1 == y6.2.1.2.2.1) && true)))) then
      some (Sum.inr (Sum.inr ((false, ()), ())))
    else
      (F_r10_Same y5.2.2.1.1 y5.2.2.1.2.1 y5.2.2.1.2.2.1 y5.2.2.1.2.2.2.1 y6.2.2.1.1 y6.2.2.1.2.1 y6.2.2.1.2.2.1 y6.2.2.1.2.2.2.1).bind fun y7 =>
      bif (!y7.1.1) then
        some (Sum.inr (Sum.inr ((false, ()), ())))
      else
        bif (y5.1.2.2.1 != y6.1.2.2.1) then
          some (Sum.inr (Sum.inr ((false, ()), ())))
        else
          bif (y5.1.2.2.2.1 != y6.1.2.2.2.1) then
            some (Sum.inr (Sum.inr ((false, ()), ())))
          else
            (F_log_Compact y4.2.2.1.1 y4.2.2.1.2.1 y4.2.2.1.2.2.1 y4.2.2.1.2.2.2.1 y4.2.2.1.2.2.2.2.1 y4.2.2.1.2.2.2.2.2.1 y4.2.2.1.2.2.2.2.2.2.1 y4.2.2.1.2.2.2.2.2.2.2.1 y4.2.2.2.2.1.1 y4.2.2.2.2.1.2.1 y4.2.2.2.2.1.2.2.1 y4.2.2.2.1.1 y4.2.2.2.1.2.1 y4.2.2.2.1.2.2.1 y4.2.2.2.1.2.2.2.1 y4.1.2.2.2.2.2.2.2.1).bind fun y8 =>
            (F_r10_Compact y4.2.2.1.1 y4.2.2.1.2.1 y4.2.2.1.2.2.1 y4.2.2.1.2.2.2.1 y4.2.2.1.2.2.2.2.1 y4.2.2.1.2.2.2.2.2.1 y4.2.2.1.2.2.2.2.2.2.1 y4.2.2.1.2.2.2.2.2.2.2.1 y4.2.2.2.2.1.1 y4.2.2.2.2.1.2.1 y4.2.2.2.2.1.2.2.1 y4.2.2.2.1.1 y4.2.2.2.1.2.1 y4.2.2.2.1.2.2.1 y4.2.2.2.1.2.2.2.1 y4.1.2.2.2.2.2.2.2.1).bind fun y9 =>
            bif (!((Go.Ab.eqB y8.2.1.1 y9.2.1.1) && ((Go.Ab.eqB y8.2.1.2.1 y9.2.1.2.1) && ((y8.2.1.2.2.1 == y9.2.1.2.2.1) && true)))) then
              some (Sum.inr (Sum.inr ((false, ()), ())))
            else
              bif (y8.1.2.1 != y9.1.2.1) then
                some (Sum.inr (Sum.inr ((false, ()), ())))
              else
                bif (y8.1.2.2.1 != y9.1.2.2.1) then
                  some (Sum.inr (Sum.inr ((false, ()), ())))
                else
                  (F_log_Recover y4.2.2.1.1 y4.2.2.1.2.1 y4.2.2.1.2.2.1 y4.2.2.1.2.2.2.1 y4.2.2.1.2.2.2.2.1 y4.2.2.1.2.2.2.2.2.1 y4.2.2.1.2.2.2.2.2.2.1 y4.2.2.1.2.2.2.2.2.2.2.1 y4.2.2.2.2.1.1 y4.2.2.2.2.1.2.1 y4.2.2.2.2.1.2.2.1 y4.1.2.2.2.2.2.2.2.1).bind fun y10 =>
                  (F_r10_Recover y4.2.2.1.1 y4.2.2.1.2.1 y4.2.2.1.2.2.1 y4.2.2.1.2.2.2.1 y4.2.2.1.2.2.2.2.1 y4.2.2.1.2.2.2.2.2.1 y4.2.2.1.2.2.2.2.2.2.1 y4.2.2.1.2.2.2.2.2.2.2.1 y4.2.2.2.2.1.1 y4.2.2.2.2.1.2.1 y4.2.2.2.2.1.2.2.1 y4.1.2.2.2.2.2.2.2.1).bind fun y11 =>
                  bif (!((Go.Ab.eqB y10.2.1.1 y11.2.1.1) && ((Go.Ab.eqB y10.2.1.2.1 y11.2.1.2.1) && ((y10.2.1.2.2.1 == y11.2.1.2.2.1) && true)))) then
                    some (Sum.inr (Sum.inr ((false, ()), ())))
                  else
                    (F_r10_Same y10.2.2.1.1 y10.2.2.1.2.1 y10.2.2.1.2.2.1 y10.2.2.1.2.2.2.1 y11.2.2.1.1 y11.2.2.1.2.1 y11.2.2.1.2.2.1 y11.2.2.1.2.2.2.1).bind fun y12 =>
                    bif (!y12.1.1) then
                      some (Sum.inr (Sum.inr ((false, ()), ())))
                    else
                      bif (y10.1.2.2.1 != y11.1.2.2.1) then
                        some (Sum.inr (Sum.inr ((false, ()), ())))
                      else
                        bif (y10.1.2.2.2.1 != y11.1.2.2.2.1) then
                          some (Sum.inr (Sum.inr ((false, ()), ())))
                        else
                          (F_log_Replay y4.2.2.1.1 y4.2.2.1.2.1 y4.2.2.1.2.2.1 y4.2.2.1.2.2.2.1 y4.2.2.1.2.2.2.2.1 y4.2.2.1.2.2.2.2.2.1 y4.2.2.1.2.2.2.2.2.2.1 y4.2.2.1.2.2.2.2.2.2.2.1 y4.2.2.2.2.1.1 y4.2.2.2.2.1.2.1 y4.2.2.2.2.1.2.2.1).bind fun y13 =>
                          (F_r10_Replay y4.2.2.1.1 y4.2.2.1.2.1 y4.2.2.1.2.2.1 y4.2.2.1.2.2.2.1 y4.2.2.1.2.2.2.2.1 y4.2.2.1.2.2.2.2.2.1 y4.2.2.1.2.2.2.2.2.2.1 y4.2.2.1.2.2.2.2.2.2.2.1 y4.2.2.2.2.1.1 y4.2.2.2.2.1.2.1 y4.2.2.2.2.1.2.2.1).bind fun y14 =>
                          (F_r10_Same y13.2.1.1 y13.2.1.2.1 y13.2.1.2.2.1 y13.2.1.2.2.2.1 y14.2.1.1 y14.2.1.2.1 y14.2.1.2.2.1 y14.2.1.2.2.2.1).bind fun y15 =>
                          bif (!y15.1.1) then
                            some (Sum.inr (Sum.inr ((false, ()), ())))
                          else
                            some (Sum.inl (((), (), (), y4.1.2.2.2.1, (Go.IntKind.wrap Go.IntKind.i64 (y4.1.2.2.2.2.1 + (1 : Int))), ()), ((y4.2.1.1, y4.2.1.2.1, y4.2.1.2.2.1, y4.2.1.2.2.2.1, y4.2.1.2.2.2.2.1, y4.2.1.2.2.2.2.2.1, y4.2.1.2.2.2.2.2.2.1, y4.2.1.2.2.2.2.2.2.2.1, y4.2.1.2.2.2.2.2.2.2.2.1, ()), (y4.2.2.1.1, y4.2.2.1.2.1, y4.2.2.1.2.2.1, y4.2.2.1.2.2.2.1, y4.2.2.1.2.2.2.2.1, y4.2.2.1.2.2.2.2.2.1, y4.2.2.1.2.2.2.2.2.2.1, y4.2.2.1.2.2.2.2.2.2.2.1, ()), (y4.2.2.2.1.1, y4.2.2.2.1.2.1, y4.2.2.2.1.2.2.1, y4.2.2.2.1.2.2.2.1, ()), ())))
  else
    some (Sum.inr (Sum.inl ((), ())))
noncomputable def L_l10_LogActs_0 : ((Unit × Unit × Unit × List (Record) × Int × Unit) × ((ByteArray × ByteArray × Int × Int × Int × Int × Int × Int × Int × Unit) × (Int × Int × Int × Int × Nat × Nat × Nat × List (Car) × Unit) × (List (Int) × List (Bool) × List (Bool) × List (Entry) × Unit) × Unit)) → Option ((Unit × Unit) ⊕ ((Bool × Unit) × Unit)) := iter (fun x => R_l10_LogActs_0 x.1.2.2.2.1 x.1.2.2.2.2.1 x.2.1.1 x.2.1.2.1 x.2.1.2.2.1 x.2.1.2.2.2.1 x.2.1.2.2.2.2.1 x.2.1.2.2.2.2.2.1 x.2.1.2.2.2.2.2.2.1 x.2.1.2.2.2.2.2.2.2.1 x.2.1.2.2.2.2.2.2.2.2.1 x.2.2.1.1 x.2.2.1.2.1 x.2.2.1.2.2.1 x.2.2.1.2.2.2.1 x.2.2.1.2.2.2.2.1 x.2.2.1.2.2.2.2.2.1 x.2.2.1.2.2.2.2.2.2.1 x.2.2.1.2.2.2.2.2.2.2.1 x.2.2.2.1.1 x.2.2.2.1.2.1 x.2.2.2.1.2.2.1 x.2.2.2.1.2.2.2.1) fuel
noncomputable def F_l10_LogActs (n : Int) (l : List (Int)) (x_Store_Halves_0 : ByteArray) (x_Store_Halves_1 : ByteArray) (x_Store_Select : Int) (x_Budget : Int) (x_Record_Kind : Int) (x_Record_Floor : Int) (x_Record_Dir : Int) (x_Record_Car : Int) (x_Record_Value : Int) : Option ((Bool × Unit) × Unit) :=
  bif (decide ((500 : Int) < ((ByteArray.size x_Store_Halves_0 : Nat) : Int))) then
    (F_l10_sane).bind fun y1 =>
    some ((y1.1.1, ()), ())
  else
    bif (decide ((500 : Int) < ((ByteArray.size x_Store_Halves_1 : Nat) : Int))) then
      (F_l10_sane).bind fun y2 =>
      some ((y2.1.1, ()), ())
    else
      (F_l10_Building n (Go.IntKind.wrap Go.IntKind.u8 x_Budget)).bind fun y3 =>
      (F_l10_Image y3.2.1.1 y3.2.1.2.1 y3.2.1.2.2.1 y3.2.1.2.2.2.1 y3.2.1.2.2.2.2.1 y3.2.1.2.2.2.2.2.1 y3.2.1.2.2.2.2.2.2.1 y3.2.1.2.2.2.2.2.2.2.1 l).bind fun y4 =>
      (F_l09_Records y3.2.1.1 y3.2.1.2.1 y3.2.1.2.2.1 y3.2.1.2.2.2.1 y3.2.1.2.2.2.2.1 y3.2.1.2.2.2.2.2.1 y3.2.1.2.2.2.2.2.2.1 y3.2.1.2.2.2.2.2.2.2.1 l (60 : Int)).bind fun y5 =>
      (L_l10_LogActs_0 (((), (), (), y5.1.1, (0 : Int), ()), ((x_Store_Halves_0, x_Store_Halves_1, x_Store_Select, x_Budget, x_Record_Kind, x_Record_Floor, x_Record_Dir, x_Record_Car, x_Record_Value, ()), (y3.2.1.1, y3.2.1.2.1, y3.2.1.2.2.1, y3.2.1.2.2.2.1, y3.2.1.2.2.2.2.1, y3.2.1.2.2.2.2.2.1, y3.2.1.2.2.2.2.2.2.1, y3.2.1.2.2.2.2.2.2.2.1, ()), (y4.2.1.1, y4.2.1.2.1, y4.2.1.2.2.1, y4.2.1.2.2.2.1, ()), ()))).bind fun y6 =>
      (match y6 with
      | .inl y7 =>
        (F_l10_sane).bind fun y8 =>
        some ((y8.1.1, ()), ())
      | .inr y7 =>
        some ((y7.1.1, ()), ()))
end Go.Ovl
