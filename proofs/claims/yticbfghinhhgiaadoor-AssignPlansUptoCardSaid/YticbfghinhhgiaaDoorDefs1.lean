/- What each function of the program comes to: part 1. -/
import Derived.Test.YticbfghinhhgiaaDoorTy
namespace Go.Ovl
open Go Go.Ab
set_option maxRecDepth 100000
/-! ### overlay/overlaylaw01.Sample -/
noncomputable def R_l01_Sample_0 (floors : Int) (cars : Int) (i : Int) (b4_Floors : Int) (b4_Debounce : Int) (b4_Room : Int) (b4_Park : Int) (b4_Empty : Nat) (b4_Full : Nat) (b4_Over : Nat) (b4_Cars : List (Car)) (b_Floors : Int) (b_Debounce : Int) (b_Room : Int) (b_Park : Int) (b_Empty : Nat) (b_Full : Nat) (b_Over : Nat) (b_Cars : List (Car)) : Option (Sum ((Int × Int × Unit × Unit × Int × Unit) × ((Int × Int × Int × Int × Nat × Nat × Nat × List (Car) × Unit) × (Int × Int × Int × Int × Nat × Nat × Nat × List (Car) × Unit) × Unit)) ((Unit × Unit × Unit) × ((Int × Int × Int × Int × Nat × Nat × Nat × List (Car) × Unit) × (Int × Int × Int × Int × Nat × Nat × Nat × List (Car) × Unit) × Unit))) :=
  bif (decide (i < cars)) then
    bif (floors != (0 : Int)) then
      let z0 : List (Car) := [(Car.mk (100 : Int) (2 : Int) (6 : Int) (5 : Int) (4 : Int) (2 : Int) (3 : Int) (10 : Int) (Int.tmod i floors))]
      bif (Nat.ble ((List.length b_Cars) + (List.length z0)) 2147483648) then
        some (Sum.inl ((floors, cars, (), (), (Go.IntKind.wrap Go.IntKind.i64 (i + (1 : Int))), ()), ((b4_Floors, b4_Debounce, b4_Room, b4_Park, b4_Empty, b4_Full, b4_Over, b4_Cars, ()), (b_Floors, b_Debounce, b_Room, b_Park, b_Empty, b_Full, b_Over, (b_Cars ++ z0), ()), ())))
      else
        none
    else
      none
  else
    some (Sum.inr (((), (), ()), ((b4_Floors, b4_Debounce, b4_Room, b4_Park, b4_Empty, b4_Full, b4_Over, b4_Cars, ()), (b_Floors, b_Debounce, b_Room, b_Park, b_Empty, b_Full, b_Over, b_Cars, ()), ())))
noncomputable def L_l01_Sample_0 : ((Int × Int × Unit × Unit × Int × Unit) × ((Int × Int × Int × Int × Nat × Nat × Nat × List (Car) × Unit) × (Int × Int × Int × Int × Nat × Nat × Nat × List (Car) × Unit) × Unit)) → Option ((Unit × Unit × Unit) × ((Int × Int × Int × Int × Nat × Nat × Nat × List (Car) × Unit) × (Int × Int × Int × Int × Nat × Nat × Nat × List (Car) × Unit) × Unit)) := iter (fun x => R_l01_Sample_0 x.1.1 x.1.2.1 x.1.2.2.2.2.1 x.2.1.1 x.2.1.2.1 x.2.1.2.2.1 x.2.1.2.2.2.1 x.2.1.2.2.2.2.1 x.2.1.2.2.2.2.2.1 x.2.1.2.2.2.2.2.2.1 x.2.1.2.2.2.2.2.2.2.1 x.2.2.1.1 x.2.2.1.2.1 x.2.2.1.2.2.1 x.2.2.1.2.2.2.1 x.2.2.1.2.2.2.2.1 x.2.2.1.2.2.2.2.2.1 x.2.2.1.2.2.2.2.2.2.1 x.2.2.1.2.2.2.2.2.2.2.1) fuel
noncomputable def F_l01_Sample (floors : Int) (cars : Int) : Option ((Unit × Unit) × ((Int × Int × Int × Int × Nat × Nat × Nat × List (Car) × Unit) × Unit)) :=
  (L_l01_Sample_0 ((floors, cars, (), (), (0 : Int), ()), (((0 : Int), (0 : Int), (0 : Int), (0 : Int), 0, 0, 0, ([] : List (Car)), ()), (floors, (1 : Int), (4000 : Int), (30 : Int), 4591870180066957722, 4605380978949069210, 4607632778762754458, ([] : List (Car)), ()), ()))).bind fun y1 =>
  some (((), ()), ((y1.2.2.1.1, y1.2.2.1.2.1, y1.2.2.1.2.2.1, y1.2.2.1.2.2.2.1, y1.2.2.1.2.2.2.2.1, y1.2.2.1.2.2.2.2.2.1, y1.2.2.1.2.2.2.2.2.2.1, y1.2.2.1.2.2.2.2.2.2.2.1, ()), ()))
/-! ### overlay/overlaylaw10.Building -/
noncomputable def F_l10_Building (n : Int) (room : Int) : Option ((Unit × Unit) × ((Int × Int × Int × Int × Nat × Nat × Nat × List (Car) × Unit) × Unit)) :=
  (F_l01_Sample (Go.IntKind.wrap Go.IntKind.i64 ((2 : Int) + (Go.IntKind.wrap Go.IntKind.i64 (Int.tmod n (7 : Int))))) (Go.IntKind.wrap Go.IntKind.i64 ((1 : Int) + (Go.IntKind.wrap Go.IntKind.i64 (Int.tmod (Go.IntKind.wrap Go.IntKind.u8 (Int.tdiv n (7 : Int))) (3 : Int)))))).bind fun y1 =>
  some (((), ()), ((y1.2.1.1, y1.2.1.2.1, (Go.IntKind.wrap Go.IntKind.i64 ((Go.IntKind.wrap Go.IntKind.i64 ((Go.IntKind.wrap Go.IntKind.i64 ((18 : Int) * ((List.length y1.2.1.2.2.2.2.2.2.2.1 : Nat) : Int))) + (24 : Int))) + (Go.IntKind.wrap Go.IntKind.i64 room))), y1.2.1.2.2.2.1, y1.2.1.2.2.2.2.1, y1.2.1.2.2.2.2.2.1, y1.2.1.2.2.2.2.2.2.1, y1.2.1.2.2.2.2.2.2.2.1, ()), ()))
/-! ### overlay/overlayref01.in -/
noncomputable def F_r01_in (n : Int) (lo : Int) (hi : Int) : Option ((Bool × Unit) × Unit) :=
  Option.bind (bif (decide (lo ≤ n)) then
        some (((decide (n ≤ hi)), ()), ())
      else
        some ((false, ()), ())) fun y1 =>
  some ((y1.1.1, ()), ())
/-! ### overlay/overlayref01.times -/
noncomputable def R_r01_times_0 (l : List (Int)) (i : Int) (b_Floors : Int) (b_Debounce : Int) (b_Room : Int) (b_Park : Int) (b_Empty : Nat) (b_Full : Nat) (b_Over : Nat) (b_Cars : List (Car)) (c_Deadline : Int) (c_Pulse : Int) (c_Quiet : Int) (c_Slack : Int) (c_Step : Int) (c_Travel : Int) (c_Dwell : Int) (c_Hold : Int) (c_Home : Int) : Option (Sum ((Unit × Unit × List (Int) × Int × Unit) × ((Int × Int × Int × Int × Nat × Nat × Nat × List (Car) × Unit) × (Int × Int × Int × Int × Int × Int × Int × Int × Int × Unit) × Unit)) (((Unit × Unit × Unit) × ((Int × Int × Int × Int × Nat × Nat × Nat × List (Car) × Unit) × (Int × Int × Int × Int × Int × Int × Int × Int × Int × Unit) × Unit)) ⊕ ((Bool × Unit) × Unit))) :=
  bif (decide (i < (7 : Int))) then
    bif (Go.Ab.inB i (List.length l)) then
      (F_r01_in (List.getD l (Int.toNat i) (0 : Int)) (1 : Int) (10000 : Int)).bind fun y1 =>
      bif (!y1.1.1) then
        some (Sum.inr (Sum.inr ((false, ()), ())))
      else
        some (Sum.inl (((), (), l, (Go.IntKind.wrap Go.IntKind.i64 (i + (1 : Int))), ()), ((b_Floors, b_Debounce, b_Room, b_Park, b_Empty, b_Full, b_Over, b_Cars, ()), (c_Deadline, c_Pulse, c_Quiet, c_Slack, c_Step, c_Travel, c_Dwell, c_Hold, c_Home, ()), ())))
    else
      none
  else
    some (Sum.inr (Sum.inl (((), (), ()), ((b_Floors, b_Debounce, b_Room, b_Park, b_Empty, b_Full, b_Over, b_Cars, ()), (c_Deadline, c_Pulse, c_Quiet, c_Slack, c_Step, c_Travel, c_Dwell, c_Hold, c_Home, ()), ()))))
noncomputable def L_r01_times_0 : ((Unit × Unit × List (Int) × Int × Unit) × ((Int × Int × Int × Int × Nat × Nat × Nat × List (Car) × Unit) × (Int × Int × Int × Int × Int × Int × Int × Int × Int × Unit) × Unit)) → Option (((Unit × Unit × Unit) × ((Int × Int × Int × Int × Nat × Nat × Nat × List (Car) × Unit) × (Int × Int × Int × Int × Int × Int × Int × Int × Int × Unit) × Unit)) ⊕ ((Bool × Unit) × Unit)) := iter (fun x => R_r01_times_0 x.1.2.2.1 x.1.2.2.2.1 x.2.1.1 x.2.1.2.1 x.2.1.2.2.1 x.2.1.2.2.2.1 x.2.1.2.2.2.2.1 x.2.1.2.2.2.2.2.1 x.2.1.2.2.2.2.2.2.1 x.2.1.2.2.2.2.2.2.2.1 x.2.2.1.1 x.2.2.1.2.1 x.2.2.1.2.2.1 x.2.2.1.2.2.2.1 x.2.2.1.2.2.2.2.1 x.2.2.1.2.2.2.2.2.1 x.2.2.1.2.2.2.2.2.2.1 x.2.2.1.2.2.2.2.2.2.2.1 x.2.2.1.2.2.2.2.2.2.2.2.1) fuel
noncomputable def F_r01_times (b_Floors : Int) (b_Debounce : Int) (b_Room : Int) (b_Park : Int) (b_Empty : Nat) (b_Full : Nat) (b_Over : Nat) (b_Cars : List (Car)) (c_Deadline : Int) (c_Pulse : Int) (c_Quiet : Int) (c_Slack : Int) (c_Step : Int) (c_Travel : Int) (c_Dwell : Int) (c_Hold : Int) (c_Home : Int) : Option ((Bool × Unit) × Unit) :=
  bif (decide (c_Slack < (0 : Int))) then
    some ((false, ()), ())
  else
    bif (decide ((10000 : Int) < c_Slack)) then
      some ((false, ()), ())
    else
      (L_r01_times_0 (((), (), [c_Deadline, c_Pulse, c_Quiet, c_Step, c_Travel, c_Dwell, c_Hold, (Go.IntKind.wrap Go.IntKind.i64 (c_Slack + (1 : Int)))], (0 : Int), ()), ((b_Floors, b_Debounce, b_Room, b_Park, b_Empty, b_Full, b_Over, b_Cars, ()), (c_Deadline, c_Pulse, c_Quiet, c_Slack, c_Step, c_Travel, c_Dwell, c_Hold, c_Home, ()), ()))).bind fun y1 =>
      (match y1 with
      | .inl y2 =>
        Option.bind (bif (decide (y2.2.2.1.2.2.2.2.2.2.1 ≤ y2.2.2.1.2.2.2.2.2.2.2.1)) then
              (F_r01_in y2.2.2.1.2.2.2.2.2.2.2.2.1 (0 : Int) (Go.IntKind.wrap Go.IntKind.i64 (y2.2.1.1 - (1 : Int)))).bind fun y3 =>
              some ((y3.1.1, ()), ())
            else
              some ((false, ()), ())) fun y4 =>
        some ((y4.1.1, ()), ())
      | .inr y2 =>
        some ((y2.1.1, ()), ()))
/-! ### overlay/overlayref01.Valid -/
noncomputable def R_r01_Valid_0 (ok : Bool) (i : Int) (b_Floors : Int) (b_Debounce : Int) (b_Room : Int) (b_Park : Int) (b_Empty : Nat) (b_Full : Nat) (b_Over : Nat) (b_Cars : List (Car)) : Option (Sum ((Unit × Bool × Int × Unit) × ((Int × Int × Int × Int × Nat × Nat × Nat × List (Car) × Unit) × Unit)) ((Unit × Bool × Unit) × ((Int × Int × Int × Int × Nat × Nat × Nat × List (Car) × Unit) × Unit))) :=
  bif (decide (i < ((List.length b_Cars : Nat) : Int))) then
    Option.bind (bif ok then
          bif (Go.Ab.inB i (List.length b_Cars)) then
            let z0 : Car := (List.getD b_Cars (Int.toNat i) (Car.mk (0 : Int) (0 : Int) (0 : Int) (0 : Int) (0 : Int) (0 : Int) (0 : Int) (0 : Int) (0 : Int)))
            (F_r01_times b_Floors b_Debounce b_Room b_Park b_Empty b_Full b_Over b_Cars z0.Deadline z0.Pulse z0.Quiet z0.Slack z0.Step z0.Travel z0.Dwell z0.Hold z0.Home).bind fun y1 =>
            some (((), y1.1.1, i, ()), ((b_Floors, b_Debounce, b_Room, b_Park, b_Empty, b_Full, b_Over, b_Cars, ()), ()))
          else
            none
        else
          some (((), false, i, ()), ((b_Floors, b_Debounce, b_Room, b_Park, b_Empty, b_Full, b_Over, b_Cars, ()), ()))) fun y2 =>
    some (Sum.inl (((), y2.1.2.1, (Go.IntKind.wrap Go.IntKind.i64 (y2.1.2.2.1 + (1 : Int))), ()), ((y2.2.1.1, y2.2.1.2.1, y2.2.1.2.2.1, y2.2.1.2.2.2.1, y2.2.1.2.2.2.2.1, y2.2.1.2.2.2.2.2.1, y2.2.1.2.2.2.2.2.2.1, y2.2.1.2.2.2.2.2.2.2.1, ()), ())))
  else
    some (Sum.inr (((), ok, ()), ((b_Floors, b_Debounce, b_Room, b_Park, b_Empty, b_Full, b_Over, b_Cars, ()), ())))
noncomputable def L_r01_Valid_0 : ((Unit × Bool × Int × Unit) × ((Int × Int × Int × Int × Nat × Nat × Nat × List (Car) × Unit) × Unit)) → Option ((Unit × Bool × Unit) × ((Int × Int × Int × Int × Nat × Nat × Nat × List (Car) × Unit) × Unit)) := iter (fun x => R_r01_Valid_0 x.1.2.1 x.1.2.2.1 x.2.1.1 x.2.1.2.1 x.2.1.2.2.1 x.2.1.2.2.2.1 x.2.1.2.2.2.2.1 x.2.1.2.2.2.2.2.1 x.2.1.2.2.2.2.2.2.1 x.2.1.2.2.2.2.2.2.2.1) fuel
noncomputable def F_r01_Valid (b_Floors : Int) (b_Debounce : Int) (b_Room : Int) (b_Park : Int) (b_Empty : Nat) (b_Full : Nat) (b_Over : Nat) (b_Cars : List (Car)) : Option ((Int × Unit) × Unit) :=
  (F_r01_in b_Floors (2 : Int) (32 : Int)).bind fun y1 =>
  bif (!y1.1.1) then
    some (((10 : Int), ()), ())
  else
    (F_r01_in ((List.length b_Cars : Nat) : Int) (1 : Int) (8 : Int)).bind fun y2 =>
    bif (!y2.1.1) then
      some (((11 : Int), ()), ())
    else
      Option.bind ((F_r01_in b_Debounce (1 : Int) (16 : Int)).bind fun y3 =>
          bif y3.1.1 then
            (F_r01_in b_Park (1 : Int) (10000 : Int)).bind fun y4 =>
            some (((), y4.1.1, ()), ((b_Floors, b_Debounce, b_Room, b_Park, b_Empty, b_Full, b_Over, b_Cars, ()), ()))
          else
            some (((), false, ()), ((b_Floors, b_Debounce, b_Room, b_Park, b_Empty, b_Full, b_Over, b_Cars, ()), ()))) fun y5 =>
      (L_r01_Valid_0 (((), y5.1.2.1, (0 : Int), ()), ((y5.2.1.1, y5.2.1.2.1, y5.2.1.2.2.1, y5.2.1.2.2.2.1, y5.2.1.2.2.2.2.1, y5.2.1.2.2.2.2.2.1, y5.2.1.2.2.2.2.2.2.1, y5.2.1.2.2.2.2.2.2.2.1, ()), ()))).bind fun y6 =>
      bif (!y6.1.2.1) then
        some (((12 : Int), ()), ())
      else
        bif (((Go.FloatKind.format Go.FloatKind.f64).order 0 y6.2.1.2.2.2.2.1) == some Ordering.lt) then
          bif (((Go.FloatKind.format Go.FloatKind.f64).order y6.2.1.2.2.2.2.1 y6.2.1.2.2.2.2.2.1) == some Ordering.lt) then
            bif (((Go.FloatKind.format Go.FloatKind.f64).order y6.2.1.2.2.2.2.2.1 y6.2.1.2.2.2.2.2.2.1) == some Ordering.lt) then
              bif (!(((Go.FloatKind.format Go.FloatKind.f64).order y6.2.1.2.2.2.2.2.2.1 9218868437227405311) == some Ordering.lt || ((Go.FloatKind.format Go.FloatKind.f64).order y6.2.1.2.2.2.2.2.2.1 9218868437227405311) == some Ordering.eq)) then
                some (((13 : Int), ()), ())
              else
                (F_r01_in y6.2.1.2.2.1 (Go.IntKind.wrap Go.IntKind.i64 ((Go.IntKind.wrap Go.IntKind.i64 ((18 : Int) * ((List.length y6.2.1.2.2.2.2.2.2.2.1 : Nat) : Int))) + (24 : Int))) (65536 : Int)).bind fun y7 =>
                bif (!y7.1.1) then
                  some (((14 : Int), ()), ())
                else
                  some (((0 : Int), ()), ())
            else
              some (((13 : Int), ()), ())
          else
            some (((13 : Int), ()), ())
        else
          some (((13 : Int), ()), ())
/-! ### overlay/overlayref10.Initial -/
noncomputable def F_r10_Initial (b_Floors : Int) (b_Debounce : Int) (b_Room : Int) (b_Park : Int) (b_Empty : Nat) (b_Full : Nat) (b_Over : Nat) (b_Cars : List (Car)) : Option ((Unit × Unit) × ((List (Int) × List (Bool) × List (Bool) × List (Entry) × Unit) × Unit)) :=
  (F_r01_Valid b_Floors b_Debounce b_Room b_Park b_Empty b_Full b_Over b_Cars).bind fun y1 =>
  bif (y1.1.1 != (0 : Int)) then
    some (((), ()), ((([] : List (Int)), ([] : List (Bool)), ([] : List (Bool)), ([] : List (Entry)), ()), ()))
  else
    let z0 : Int := ((List.length b_Cars : Nat) : Int)
    bif (((decide ((0 : Int) ≤ z0)) && (decide (z0 ≤ z0))) && (decide (z0 ≤ (2147483648 : Int)))) then
      bif (((decide ((0 : Int) ≤ z0)) && (decide (z0 ≤ z0))) && (decide (z0 ≤ (2147483648 : Int)))) then
        bif (((decide ((0 : Int) ≤ z0)) && (decide (z0 ≤ z0))) && (decide (z0 ≤ (2147483648 : Int)))) then
          some (((), ()), (((List.replicate (Int.toNat z0) (0 : Int)), (List.replicate (Int.toNat z0) false), (List.replicate (Int.toNat z0) false), ([] : List (Entry)), ()), ()))
        else
          none
      else
        none
    else
      none
/-! ### overlay/overlaylaw09.Records -/
noncomputable def R_l09_Records_0 (l : List (Int)) (most : Int) (out : List (Record)) (f : Int) (c : Int) (i : Int) : Option (Sum ((List (Int) × Int × List (Record) × Int × Int × Int × Unit) × Unit) ((List (Record) × Unit) × Unit)) :=
  bif (decide ((Go.IntKind.wrap Go.IntKind.i64 (i + (1 : Int))) < ((List.length l : Nat) : Int))) then
    bif (decide (((List.length out : Nat) : Int) < most)) then
      bif (Go.Ab.inB i (List.length l)) then
        let z0 : Int := (Go.IntKind.wrap Go.IntKind.i64 (List.getD l (Int.toNat i) (0 : Int)))
        let z1 : Int := (Go.IntKind.wrap Go.IntKind.i64 (i + (1 : Int)))
        bif (Go.Ab.inB z1 (List.length l)) then
          let z2 : Int := (Go.IntKind.wrap Go.IntKind.i64 (List.getD l (Int.toNat z1) (0 : Int)))
          let z3 : Int := (Go.IntKind.wrap Go.IntKind.i64 ((1 : Int) + (Int.tmod z0 (7 : Int))))
          Option.bind (bif (z3 == (4 : Int)) then
                bif (c != (0 : Int)) then
                  some ((l, most, out, f, c, i, z0, (), ()), ((z3, (0 : Int), (0 : Int), (Int.tmod (Go.IntKind.wrap Go.IntKind.i64 (Int.tdiv z0 (7 : Int))) c), (Int.tmod z2 (5 : Int)), ()), ()))
                else
                  none
              else
                bif (z3 == (5 : Int)) then
                  bif (c != (0 : Int)) then
                    some ((l, most, out, f, c, i, z0, (), ()), ((z3, (0 : Int), (0 : Int), (Int.tmod (Go.IntKind.wrap Go.IntKind.i64 (Int.tdiv z0 (7 : Int))) c), (Int.tmod z2 (2 : Int)), ()), ()))
                  else
                    none
                else
                  bif (z3 == (6 : Int)) then
                    bif (c != (0 : Int)) then
                      some ((l, most, out, f, c, i, z0, (), ()), ((z3, (0 : Int), (0 : Int), (Int.tmod (Go.IntKind.wrap Go.IntKind.i64 (Int.tdiv z0 (7 : Int))) c), (Int.tmod z2 (2 : Int)), ()), ()))
                    else
                      none
                  else
                    let z4 : Int := (Go.IntKind.wrap Go.IntKind.i64 ((1 : Int) + (Int.tmod z2 (2 : Int))))
                    let z5 : Int := (Go.IntKind.wrap Go.IntKind.i64 (f - (1 : Int)))
                    bif (z5 != (0 : Int)) then
                      let z6 : Int := (Int.tmod (Go.IntKind.wrap Go.IntKind.i64 (Int.tdiv z2 (2 : Int))) z5)
                      bif (z4 == (2 : Int)) then
                        some ((l, most, out, f, c, i, z0, (), ()), ((z3, (Go.IntKind.wrap Go.IntKind.i64 (z6 + (1 : Int))), z4, (0 : Int), (0 : Int), ()), ()))
                      else
                        some ((l, most, out, f, c, i, z0, (), ()), ((z3, z6, z4, (0 : Int), (0 : Int), ()), ()))
                    else
                      none) fun y1 =>
          Option.bind (bif (y1.2.1.1 == (3 : Int)) then
                let z7 : Int := (Go.IntKind.wrap Go.IntKind.i64 (y1.1.2.2.2.2.1 + (2 : Int)))
                bif (z7 != (0 : Int)) then
                  some ((y1.1.1, y1.1.2.1, y1.1.2.2.1, y1.1.2.2.2.1, y1.1.2.2.2.2.1, y1.1.2.2.2.2.2.1, y1.1.2.2.2.2.2.2.1, (), ()), ((y1.2.1.1, y1.2.1.2.1, y1.2.1.2.2.1, (Go.IntKind.wrap Go.IntKind.i64 ((Int.tmod (Go.IntKind.wrap Go.IntKind.i64 (Int.tdiv y1.1.2.2.2.2.2.2.1 (7 : Int))) z7) - (2 : Int))), y1.2.1.2.2.2.2.1, ()), ()))
                else
                  none
              else
                some ((y1.1.1, y1.1.2.1, y1.1.2.2.1, y1.1.2.2.2.1, y1.1.2.2.2.2.1, y1.1.2.2.2.2.2.1, y1.1.2.2.2.2.2.2.1, (), ()), ((y1.2.1.1, y1.2.1.2.1, y1.2.1.2.2.1, y1.2.1.2.2.2.1, y1.2.1.2.2.2.2.1, ()), ()))) fun y2 =>
          bif (y2.2.1.1 == (7 : Int)) then
            let z8 : List (Record) := [(Record.mk y2.2.1.1 y2.2.1.2.1 y2.2.1.2.2.1 (Int.tmod (Go.IntKind.wrap Go.IntKind.i64 (Int.tdiv y2.1.2.2.2.2.2.2.1 (7 : Int))) (2 : Int)) (Go.IntKind.wrap Go.IntKind.i64 (Int.tdiv y2.1.2.2.2.2.2.2.1 (14 : Int))))]
            bif (Nat.ble ((List.length y2.1.2.2.1) + (List.length z8)) 2147483648) then
              some (Sum.inl ((y2.1.1, y2.1.2.1, (y2.1.2.2.1 ++ z8), y2.1.2.2.2.1, y2.1.2.2.2.2.1, (Go.IntKind.wrap Go.IntKind.i64 (y2.1.2.2.2.2.2.1 + (2 : Int))), ()), ()))
            else
              none
          else
            let z9 : List (Record) := [(Record.mk y2.2.1.1 y2.2.1.2.1 y2.2.1.2.2.1 y2.2.1.2.2.2.1 y2.2.1.2.2.2.2.1)]
            bif (Nat.ble ((List.length y2.1.2.2.1) + (List.length z9)) 2147483648) then
              some (Sum.inl ((y2.1.1, y2.1.2.1, (y2.1.2.2.1 ++ z9), y2.1.2.2.2.1, y2.1.2.2.2.2.1, (Go.IntKind.wrap Go.IntKind.i64 (y2.1.2.2.2.2.2.1 + (2 : Int))), ()), ()))
            else
              none
        else
          none
      else
        none
    else
      some (Sum.inr ((out, ()), ()))
  else
    some (Sum.inr ((out, ()), ()))
noncomputable def L_l09_Records_0 : ((List (Int) × Int × List (Record) × Int × Int × Int × Unit) × Unit) → Option ((List (Record) × Unit) × Unit) := iter (fun x => R_l09_Records_0 x.1.1 x.1.2.1 x.1.2.2.1 x.1.2.2.2.1 x.1.2.2.2.2.1 x.1.2.2.2.2.2.1) fuel
noncomputable def F_l09_Records (b_Floors : Int) (b_Debounce : Int) (b_Room : Int) (b_Park : Int) (b_Empty : Nat) (b_Full : Nat) (b_Over : Nat) (b_Cars : List (Car)) (l : List (Int)) (most : Int) : Option ((List (Record) × Unit) × Unit) :=
  (L_l09_Records_0 ((l, most, ([] : List (Record)), b_Floors, ((List.length b_Cars : Nat) : Int), (0 : Int), ()), ())).bind fun y1 =>
  some ((y1.1.1, ()), ())
/-! ### overlay/overlayref01.IsCall -/
noncomputable def F_r01_IsCall (b_Floors : Int) (b_Debounce : Int) (b_Room : Int) (b_Park : Int) (b_Empty : Nat) (b_Full : Nat) (b_Over : Nat) (b_Cars : List (Car)) (floor : Int) (dir : Int) : Option ((Bool × Unit) × Unit) :=
  (F_r01_Valid b_Floors b_Debounce b_Room b_Park b_Empty b_Full b_Over b_Cars).bind fun y1 =>
  bif (y1.1.1 != (0 : Int)) then
    some ((false, ()), ())
  else
    Option.bind (bif (dir == (1 : Int)) then
          (F_r01_in floor (0 : Int) (Go.IntKind.wrap Go.IntKind.i64 (b_Floors - (2 : Int)))).bind fun y2 =>
          bif y2.1.1 then
            some ((true, ()), ())
          else
            bif (dir == (2 : Int)) then
              (F_r01_in floor (1 : Int) (Go.IntKind.wrap Go.IntKind.i64 (b_Floors - (1 : Int)))).bind fun y3 =>
              some ((y3.1.1, ()), ())
            else
              some ((false, ()), ())
        else
          bif (dir == (2 : Int)) then
            (F_r01_in floor (1 : Int) (Go.IntKind.wrap Go.IntKind.i64 (b_Floors - (1 : Int)))).bind fun y4 =>
            some ((y4.1.1, ()), ())
          else
            some ((false, ()), ())) fun y5 =>
    some ((y5.1.1, ()), ())
/-! ### overlay/overlayref10.less -/
noncomputable def F_r10_less (a_Floor : Int) (a_Dir : Int) (a_Car : Int) (a_Moves : Int) (a_Moved : Bool) (b_Floor : Int) (b_Dir : Int) (b_Car : Int) (b_Moves : Int) (b_Moved : Bool) : Option ((Bool × Unit) × Unit) :=
  Option.bind (bif (decide (a_Floor < b_Floor)) then
        some ((true, ()), ())
      else
        bif (a_Floor == b_Floor) then
          some (((decide (a_Dir < b_Dir)), ()), ())
        else
          some ((false, ()), ())) fun y1 =>
  some ((y1.1.1, ()), ())
/-! ### overlay/overlayref10.IsImage -/
noncomputable def R_r10_IsImage_1 (n : Int) (i : Int) (b_Floors : Int) (b_Debounce : Int) (b_Room : Int) (b_Park : Int) (b_Empty : Nat) (b_Full : Nat) (b_Over : Nat) (b_Cars : List (Car)) (m_Phases : List (Int)) (m_Flags : List (Bool)) (m_Leaving : List (Bool)) (m_Entries : List (Entry)) : Option (Sum ((Unit × Unit × Int × Int × Unit) × ((Int × Int × Int × Int × Nat × Nat × Nat × List (Car) × Unit) × (List (Int) × List (Bool) × List (Bool) × List (Entry) × Unit) × Unit)) ((Unit × Unit) ⊕ ((Bool × Unit) × Unit))) :=
  bif (decide (i < ((List.length m_Entries : Nat) : Int))) then
    bif (Go.Ab.inB i (List.length m_Entries)) then
      let z0 : Entry := (List.getD m_Entries (Int.toNat i) (Entry.mk (0 : Int) (0 : Int) (0 : Int) (0 : Int) false))
      Option.bind ((F_r01_IsCall b_Floors b_Debounce b_Room b_Park b_Empty b_Full b_Over b_Cars z0.Floor z0.Dir).bind fun y1 =>
          bif (!y1.1.1) then
            some (((), (), n, i, true, ()), ((b_Floors, b_Debounce, b_Room, b_Park, b_Empty, b_Full, b_Over, b_Cars, ()), (m_Phases, m_Flags, m_Leaving, m_Entries, ()), ()))
          else
            bif (decide (z0.Car < (-2 : Int))) then
              some (((), (), n, i, true, ()), ((b_Floors, b_Debounce, b_Room, b_Park, b_Empty, b_Full, b_Over, b_Cars, ()), (m_Phases, m_Flags, m_Leaving, m_Entries, ()), ()))
            else
              bif (decide (n ≤ z0.Car)) then
                some (((), (), n, i, true, ()), ((b_Floors, b_Debounce, b_Room, b_Park, b_Empty, b_Full, b_Over, b_Cars, ()), (m_Phases, m_Flags, m_Leaving, m_Entries, ()), ()))
              else
                bif (decide (z0.Moves < (0 : Int))) then
                  some (((), (), n, i, true, ()), ((b_Floors, b_Debounce, b_Room, b_Park, b_Empty, b_Full, b_Over, b_Cars, ()), (m_Phases, m_Flags, m_Leaving, m_Entries, ()), ()))
                else
                  bif (decide ((255 : Int) < z0.Moves)) then
                    some (((), (), n, i, true, ()), ((b_Floors, b_Debounce, b_Room, b_Park, b_Empty, b_Full, b_Over, b_Cars, ()), (m_Phases, m_Flags, m_Leaving, m_Entries, ()), ()))
                  else
                    bif (decide ((0 : Int) < i)) then
                      let z1 : Int := (Go.IntKind.wrap Go.IntKind.i64 (i - (1 : Int)))
                      bif (Go.Ab.inB z1 (List.length m_Entries)) then
                        let z2 : Entry := (List.getD m_Entries (Int.toNat z1) (Entry.mk (0 : Int) (0 : Int) (0 : Int) (0 : Int) false))
                        (F_r10_less z2.Floor z2.Dir z2.Car z2.Moves z2.Moved z0.Floor z0.Dir z0.Car z0.Moves z0.Moved).bind fun y2 =>
                        some (((), (), n, i, (!y2.1.1), ()), ((b_Floors, b_Debounce, b_Room, b_Park, b_Empty, b_Full, b_Over, b_Cars, ()), (m_Phases, m_Flags, m_Leaving, m_Entries, ()), ()))
                      else
                        none
                    else
                      some (((), (), n, i, false, ()), ((b_Floors, b_Debounce, b_Room, b_Park, b_Empty, b_Full, b_Over, b_Cars, ()), (m_Phases, m_Flags, m_Leaving, m_Entries, ()), ()))) fun y3 =>
      bif y3.1.2.2.2.2.1 then
        some (Sum.inr (Sum.inr ((false, ()), ())))
      else
        some (Sum.inl (((), (), y3.1.2.2.1, (Go.IntKind.wrap Go.IntKind.i64 (y3.1.2.2.2.1 + (1 : Int))), ()), ((y3.2.1.1, y3.2.1.2.1, y3.2.1.2.2.1, y3.2.1.2.2.2.1, y3.2.1.2.2.2.2.1, y3.2.1.2.2.2.2.2.1, y3.2.1.2.2.2.2.2.2.1, y3.2.1.2.2.2.2.2.2.2.1, ()), (y3.2.2.1.1, y3.2.2.1.2.1, y3.2.2.1.2.2.1, y3.2.2.1.2.2.2.1, ()), ())))
    else
      none
  else
    some (Sum.inr (Sum.inl ((), ())))
noncomputable def L_r10_IsImage_1 : ((Unit × Unit × Int × Int × Unit) × ((Int × Int × Int × Int × Nat × Nat × Nat × List (Car) × Unit) × (List (Int) × List (Bool) × List (Bool) × List (Entry) × Unit) × Unit)) → Option ((Unit × Unit) ⊕ ((Bool × Unit) × Unit)) := iter (fun x => R_r10_IsImage_1 x.1.2.2.1 x.1.2.2.2.1 x.2.1.1 x.2.1.2.1 x.2.1.2.2.1 x.2.1.2.2.2.1 x.2.1.2.2.2.2.1 x.2.1.2.2.2.2.2.1 x.2.1.2.2.2.2.2.2.1 x.2.1.2.2.2.2.2.2.2.1 x.2.2.1.1 x.2.2.1.2.1 x.2.2.1.2.2.1 x.2.2.1.2.2.2.1) fuel
noncomputable def R_r10_IsImage_0 (n : Int) (i : Int) (b_Floors : Int) (b_Debounce : Int) (b_Room : Int) (b_Park : Int) (b_Empty : Nat) (b_Full : Nat) (b_Over : Nat) (b_Cars : List (Car)) (m_Phases : List (Int)) (m_Flags : List (Bool)) (m_Leaving : List (Bool)) (m_Entries : List (Entry)) : Option (Sum ((Unit × Unit × Int × Int × Unit) × ((Int × Int × Int × Int × Nat × Nat × Nat × List (Car) × Unit) × (List (Int) × List (Bool) × List (Bool) × List (Entry) × Unit) × Unit)) (((Unit × Unit × Int × Unit) × ((Int × Int × Int × Int × Nat × Nat × Nat × List (Car) × Unit) × (List (Int) × List (Bool) × List (Bool) × List (Entry) × Unit) × Unit)) ⊕ ((Bool × Unit) × Unit))) :=
  bif (decide (i < n)) then
    bif (Go.Ab.inB i (List.length m_Phases)) then
      bif (decide ((List.getD m_Phases (Int.toNat i) (0 : Int)) < (0 : Int))) then
        some (Sum.inr (Sum.inr ((false, ()), ())))
      else
        bif (Go.Ab.inB i (List.length m_Phases)) then
          bif (decide ((4 : Int) < (List.getD m_Phases (Int.toNat i) (0 : Int)))) then
            some (Sum.inr (Sum.inr ((false, ()), ())))
          else
            some (Sum.inl (((), (), n, (Go.IntKind.wrap Go.IntKind.i64 (i + (1 : Int))), ()), ((b_Floors, b_Debounce, b_Room, b_Park, b_Empty, b_Full, b_Over, b_Cars, ()), (m_Phases, m_Flags, m_Leaving, m_Entries, ()), ())))
        else
          none
    else
      none
  else
    some (Sum.inr (Sum.inl (((), (), n, ()), ((b_Floors, b_Debounce, b_Room, b_Park, b_Empty, b_Full, b_Over, b_Cars, ()), (m_Phases, m_Flags, m_Leaving, m_Entries, ()), ()))))
noncomputable def L_r10_IsImage_0 : ((Unit × Unit × Int × Int × Unit) × ((Int × Int × Int × Int × Nat × Nat × Nat × List (Car) × Unit) × (List (Int) × List (Bool) × List (Bool) × List (Entry) × Unit) × Unit)) → Option (((Unit × Unit × Int × Unit) × ((Int × Int × Int × Int × Nat × Nat × Nat × List (Car) × Unit) × (List (Int) × List (Bool) × List (Bool) × List (Entry) × Unit) × Unit)) ⊕ ((Bool × Unit) × Unit)) := iter (fun x => R_r10_IsImage_0 x.1.2.2.1 x.1.2.2.2.1 x.2.1.1 x.2.1.2.1 x.2.1.2.2.1 x.2.1.2.2.2.1 x.2.1.2.2.2.2.1 x.2.1.2.2.2.2.2.1 x.2.1.2.2.2.2.2.2.1 x.2.1.2.2.2.2.2.2.2.1 x.2.2.1.1 x.2.2.1.2.1 x.2.2.1.2.2.1 x.2.2.1.2.2.2.1) fuel
noncomputable def F_r10_IsImage (b_Floors : Int) (b_Debounce : Int) (b_Room : Int) (b_Park : Int) (b_Empty : Nat) (b_Full : Nat) (b_Over : Nat) (b_Cars : List (Car)) (m_Phases : List (Int)) (m_Flags : List (Bool)) (m_Leaving : List (Bool)) (m_Entries : List (Entry)) : Option ((Bool × Unit) × Unit) :=
  let z0 : Int := ((List.length b_Cars : Nat) : Int)
  (F_r01_Valid b_Floors b_Debounce b_Room b_Park b_Empty b_Full b_Over b_Cars).bind fun y1 =>
  bif (y1.1.1 != (0 : Int)) then
    some ((false, ()), ())
  else
    bif (((List.length m_Phases : Nat) : Int) != z0) then
      some ((false, ()), ())
    else
      bif (((List.length m_Flags : Nat) : Int) != z0) then
        some ((false, ()), ())
      else
        bif (((List.length m_Leaving : Nat) : Int) != z0) then
          some ((false, ()), ())
        else
          (L_r10_IsImage_0 (((), (), z0, (0 : Int), ()), ((b_Floors, b_Debounce, b_Room, b_Park, b_Empty, b_Full, b_Over, b_Cars, ()), (m_Phases, m_Flags, m_Leaving, m_Entries, ()), ()))).bind fun y2 =>
          (match y2 with
          | .inl y3 =>
            (L_r10_IsImage_1 (((), (), y3.1.2.2.1, (0 : Int), ()), ((y3.2.1.1, y3.2.1.2.1, y3.2.1.2.2.1, y3.2.1.2.2.2.1, y3.2.1.2.2.2.2.1, y3.2.1.2.2.2.2.2.1, y3.2.1.2.2.2.2.2.2.1, y3.2.1.2.2.2.2.2.2.2.1, ()), (y3.2.2.1.1, y3.2.2.1.2.1, y3.2.2.1.2.2.1, y3.2.2.1.2.2.2.1, ()), ()))).bind fun y4 =>
            (match y4 with
            | .inl y5 =>
              some ((true, ()), ())
            | .inr y5 =>
              some ((y5.1.1, ()), ()))
          | .inr y3 =>
            some ((y3.1.1, ()), ()))
/-! ### overlay/overlayref09.in -/
noncomputable def F_r09_in (n : Int) (lo : Int) (hi : Int) : Option ((Bool × Unit) × Unit) :=
  Option.bind (bif (decide (lo ≤ n)) then
        some (((decide (n ≤ hi)), ()), ())
      else
        some ((false, ()), ())) fun y1 =>
  some ((y1.1.1, ()), ())
/-! ### overlay/overlayref09.Valid -/
noncomputable def F_r09_Valid (b_Floors : Int) (b_Debounce : Int) (b_Room : Int) (b_Park : Int) (b_Empty : Nat) (b_Full : Nat) (b_Over : Nat) (b_Cars : List (Car)) (r_Kind : Int) (r_Floor : Int) (r_Dir : Int) (r_Car : Int) (r_Value : Int) : Option ((Bool × Unit) × Unit) :=
  (F_r01_Valid b_Floors b_Debounce b_Room b_Park b_Empty b_Full b_Over b_Cars).bind fun y1 =>
  bif (y1.1.1 != (0 : Int)) then
    some ((false, ()), ())
  else
    (F_r01_IsCall b_Floors b_Debounce b_Room b_Park b_Empty b_Full b_Over b_Cars r_Floor r_Dir).bind fun y2 =>
    Option.bind ((F_r09_in r_Car (0 : Int) (Go.IntKind.wrap Go.IntKind.i64 (((List.length b_Cars : Nat) : Int) - (1 : Int)))).bind fun y3 =>
        bif y3.1.1 then
          bif (r_Floor == (0 : Int)) then
            some (((), (), y2.1.1, (r_Dir == (0 : Int)), ()), ((b_Floors, b_Debounce, b_Room, b_Park, b_Empty, b_Full, b_Over, b_Cars, ()), (r_Kind, r_Floor, r_Dir, r_Car, r_Value, ()), ()))
          else
            some (((), (), y2.1.1, false, ()), ((b_Floors, b_Debounce, b_Room, b_Park, b_Empty, b_Full, b_Over, b_Cars, ()), (r_Kind, r_Floor, r_Dir, r_Car, r_Value, ()), ()))
        else
          some (((), (), y2.1.1, false, ()), ((b_Floors, b_Debounce, b_Room, b_Park, b_Empty, b_Full, b_Over, b_Cars, ()), (r_Kind, r_Floor, r_Dir, r_Car, r_Value, ()), ()))) fun y4 =>
    bif (y4.2.2.1.1 == (1 : Int)) then
      Option.bind (bif y4.1.2.2.1 then
            bif (y4.2.2.1.2.2.2.1 == (0 : Int)) then
              some (((y4.2.2.1.2.2.2.2.1 == (0 : Int)), ()), ())
            else
              some ((false, ()), ())
          else
            some ((false, ()), ())) fun y5 =>
      some ((y5.1.1, ()), ())
    else
      bif (y4.2.2.1.1 == (2 : Int)) then
        Option.bind (bif y4.1.2.2.1 then
              bif (y4.2.2.1.2.2.2.1 == (0 : Int)) then
                some (((y4.2.2.1.2.2.2.2.1 == (0 : Int)), ()), ())
              else
                some ((false, ()), ())
            else
              some ((false, ()), ())) fun y6 =>
        some ((y6.1.1, ()), ())
      else
        bif (y4.2.2.1.1 == (3 : Int)) then
          Option.bind (bif y4.1.2.2.1 then
                (F_r09_in y4.2.2.1.2.2.2.1 (-2 : Int) (Go.IntKind.wrap Go.IntKind.i64 (((List.length y4.2.1.2.2.2.2.2.2.2.1 : Nat) : Int) - (1 : Int)))).bind fun y7 =>
                bif y7.1.1 then
                  some (((y4.2.2.1.2.2.2.2.1 == (0 : Int)), ()), ())
                else
                  some ((false, ()), ())
              else
                some ((false, ()), ())) fun y8 =>
          some ((y8.1.1, ()), ())
        else
          bif (y4.2.2.1.1 == (4 : Int)) then
            Option.bind (bif y4.1.2.2.2.1 then
                  (F_r09_in y4.2.2.1.2.2.2.2.1 (0 : Int) (4 : Int)).bind fun y9 =>
                  some ((y9.1.1, ()), ())
                else
                  some ((false, ()), ())) fun y10 =>
            some ((y10.1.1, ()), ())
          else
            bif (y4.2.2.1.1 == (5 : Int)) then
              Option.bind (bif y4.1.2.2.2.1 then
                    (F_r09_in y4.2.2.1.2.2.2.2.1 (0 : Int) (1 : Int)).bind fun y11 =>
                    some ((y11.1.1, ()), ())
                  else
                    some ((false, ()), ())) fun y12 =>
              some ((y12.1.1, ()), ())
            else
              bif (y4.2.2.1.1 == (6 : Int)) then
                Option.bind (bif y4.1.2.2.2.1 then
                      (F_r09_in y4.2.2.1.2.2.2.2.1 (0 : Int) (1 : Int)).bind fun y13 =>
                      some ((y13.1.1, ()), ())
                    else
                      some ((false, ()), ())) fun y14 =>
                some ((y14.1.1, ()), ())
              else
                bif (y4.2.2.1.1 == (7 : Int)) then
                  Option.bind (bif y4.1.2.2.1 then
                        (F_r09_in y4.2.2.1.2.2.2.1 (0 : Int) (1 : Int)).bind fun y15 =>
                        bif y15.1.1 then
                          (F_r09_in y4.2.2.1.2.2.2.2.1 (0 : Int) (255 : Int)).bind fun y16 =>
                          some ((y16.1.1, ()), ())
                        else
                          some ((false, ()), ())
                      else
                        some ((false, ()), ())) fun y17 =>
                  some ((y17.1.1, ()), ())
                else
                  some ((false, ()), ())
/-! ### overlay/overlayref10.Find -/
noncomputable def R_r10_Find_0 (floor : Int) (dir : Int) (i : Int) (m_Phases : List (Int)) (m_Flags : List (Bool)) (m_Leaving : List (Bool)) (m_Entries : List (Entry)) : Option (Sum ((Int × Int × Unit × Int × Unit) × ((List (Int) × List (Bool) × List (Bool) × List (Entry) × Unit) × Unit)) ((Unit × Unit) ⊕ ((Int × Unit) × Unit))) :=
  bif (decide (i < ((List.length m_Entries : Nat) : Int))) then
    Option.bind (bif (Go.Ab.inB i (List.length m_Entries)) then
          bif ((List.getD m_Entries (Int.toNat i) (Entry.mk (0 : Int) (0 : Int) (0 : Int) (0 : Int) false)).Floor == floor) then
            bif (Go.Ab.inB i (List.length m_Entries)) then
              some ((floor, dir, (), i, ((List.getD m_Entries (Int.toNat i) (Entry.mk (0 : Int) (0 : Int) (0 : Int) (0 : Int) false)).Dir == dir), ()), ((m_Phases, m_Flags, m_Leaving, m_Entries, ()), ()))
            else
              none
          else
            some ((floor, dir, (), i, false, ()), ((m_Phases, m_Flags, m_Leaving, m_Entries, ()), ()))
        else
          none) fun y1 =>
    bif y1.1.2.2.2.2.1 then
      some (Sum.inr (Sum.inr ((y1.1.2.2.2.1, ()), ())))
    else
      some (Sum.inl ((y1.1.1, y1.1.2.1, (), (Go.IntKind.wrap Go.IntKind.i64 (y1.1.2.2.2.1 + (1 : Int))), ()), ((y1.2.1.1, y1.2.1.2.1, y1.2.1.2.2.1, y1.2.1.2.2.2.1, ()), ())))
  else
    some (Sum.inr (Sum.inl ((), ())))
noncomputable def L_r10_Find_0 : ((Int × Int × Unit × Int × Unit) × ((List (Int) × List (Bool) × List (Bool) × List (Entry) × Unit) × Unit)) → Option ((Unit × Unit) ⊕ ((Int × Unit) × Unit)) := iter (fun x => R_r10_Find_0 x.1.1 x.1.2.1 x.1.2.2.2.1 x.2.1.1 x.2.1.2.1 x.2.1.2.2.1 x.2.1.2.2.2.1) fuel
noncomputable def F_r10_Find (m_Phases : List (Int)) (m_Flags : List (Bool)) (m_Leaving : List (Bool)) (m_Entries : List (Entry)) (floor : Int) (dir : Int) : Option ((Int × Unit) × Unit) :=
  (L_r10_Find_0 ((floor, dir, (), (0 : Int), ()), ((m_Phases, m_Flags, m_Leaving, m_Entries, ()), ()))).bind fun y1 =>
  (match y1 with
  | .inl y2 =>
    some (((-1 : Int), ()), ())
  | .inr y2 =>
    some ((y2.1.1, ()), ()))
/-! ### overlay/overlayref10.entered -/
noncomputable def R_r10_entered_0 (l : List (Entry)) (out : List (Entry)) (done : Bool) (i : Int) (e_Floor : Int) (e_Dir : Int) (e_Car : Int) (e_Moves : Int) (e_Moved : Bool) : Option (Sum ((List (Entry) × Unit × List (Entry) × Bool × Int × Unit) × ((Int × Int × Int × Int × Bool × Unit) × Unit)) ((Unit × List (Entry) × Bool × Unit) × ((Int × Int × Int × Int × Bool × Unit) × Unit))) :=
  bif (decide (i < ((List.length l : Nat) : Int))) then
    Option.bind (Option.bind (bif (!done) then
              bif (Go.Ab.inB i (List.length l)) then
                let z0 : Entry := (List.getD l (Int.toNat i) (Entry.mk (0 : Int) (0 : Int) (0 : Int) (0 : Int) false))
                (F_r10_less e_Floor e_Dir e_Car e_Moves e_Moved z0.Floor z0.Dir z0.Car z0.Moves z0.Moved).bind fun y1 =>
                some ((l, (), out, done, i, y1.1.1, ()), ((e_Floor, e_Dir, e_Car, e_Moves, e_Moved, ()), ()))
              else
                none
            else
              some ((l, (), out, done, i, false, ()), ((e_Floor, e_Dir, e_Car, e_Moves, e_Moved, ()), ()))) fun y2 =>
        bif y2.1.2.2.2.2.2.1 then
          let z1 : List (Entry) := [(Entry.mk y2.2.1.1 y2.2.1.2.1 y2.2.1.2.2.1 y2.2.1.2.2.2.1 y2.2.1.2.2.2.2.1)]
          bif (Nat.ble ((List.length y2.1.2.2.1) + (List.length z1)) 2147483648) then
            some ((y2.1.1, (), (y2.1.2.2.1 ++ z1), true, y2.1.2.2.2.2.1, ()), ((y2.2.1.1, y2.2.1.2.1, y2.2.1.2.2.1, y2.2.1.2.2.2.1, y2.2.1.2.2.2.2.1, ()), ()))
          else
            none
        else
          some ((y2.1.1, (), y2.1.2.2.1, y2.1.2.2.2.1, y2.1.2.2.2.2.1, ()), ((y2.2.1.1, y2.2.1.2.1, y2.2.1.2.2.1, y2.2.1.2.2.2.1, y2.2.1.2.2.2.2.1, ()), ()))) fun y3 =>
    bif (Go.Ab.inB y3.1.2.2.2.2.1 (List.length y3.1.1)) then
      let z2 : Entry := (List.getD y3.1.1 (Int.toNat y3.1.2.2.2.2.1) (Entry.mk (0 : Int) (0 : Int) (0 : Int) (0 : Int) false))
      let z3 : List (Entry) := [(Entry.mk z2.Floor z2.Dir z2.Car z2.Moves z2.Moved)]
      bif (Nat.ble ((List.length y3.1.2.2.1) + (List.length z3)) 2147483648) then
        some (Sum.inl ((y3.1.1, (), (y3.1.2.2.1 ++ z3), y3.1.2.2.2.1, (Go.IntKind.wrap Go.IntKind.i64 (y3.1.2.2.2.2.1 + (1 : Int))), ()), ((y3.2.1.1, y3.2.1.2.1, y3.2.1.2.2.1, y3.2.1.2.2.2.1, y3.2.1.2.2.2.2.1, ()), ())))
      else
        none
    else
      none
  else
    some (Sum.inr (((), out, done, ()), ((e_Floor, e_Dir, e_Car, e_Moves, e_Moved, ()), ())))
noncomputable def L_r10_entered_0 : ((List (Entry) × Unit × List (Entry) × Bool × Int × Unit) × ((Int × Int × Int × Int × Bool × Unit) × Unit)) → Option ((Unit × List (Entry) × Bool × Unit) × ((Int × Int × Int × Int × Bool × Unit) × Unit)) := iter (fun x => R_r10_entered_0 x.1.1 x.1.2.2.1 x.1.2.2.2.1 x.1.2.2.2.2.1 x.2.1.1 x.2.1.2.1 x.2.1.2.2.1 x.2.1.2.2.2.1 x.2.1.2.2.2.2.1) fuel
noncomputable def F_r10_entered (l : List (Entry)) (e_Floor : Int) (e_Dir : Int) (e_Car : Int) (e_Moves : Int) (e_Moved : Bool) : Option ((List (Entry) × Unit) × Unit) :=
  (L_r10_entered_0 ((l, (), ([] : List (Entry)), false, (0 : Int), ()), ((e_Floor, e_Dir, e_Car, e_Moves, e_Moved, ()), ()))).bind fun y1 =>
  bif (!y1.1.2.2.1) then
    let z0 : List (Entry) := [(Entry.mk y1.2.1.1 y1.2.1.2.1 y1.2.1.2.2.1 y1.2.1.2.2.2.1 y1.2.1.2.2.2.2.1)]
    bif (Nat.ble ((List.length y1.1.2.1) + (List.length z0)) 2147483648) then
      some (((y1.1.2.1 ++ z0), ()), ())
    else
      none
  else
    some ((y1.1.2.1, ()), ())
/-! ### overlay/overlayref10.Apply -/
noncomputable def F_r10_Apply (b_Floors : Int) (b_Debounce : Int) (b_Room : Int) (b_Park : Int) (b_Empty : Nat) (b_Full : Nat) (b_Over : Nat) (b_Cars : List (Car)) (m_Phases : List (Int)) (m_Flags : List (Bool)) (m_Leaving : List (Bool)) (m_Entries : List (Entry)) (r_Kind : Int) (r_Floor : Int) (r_Dir : Int) (r_Car : Int) (r_Value : Int) : Option ((Unit × Int × Unit) × ((List (Int) × List (Bool) × List (Bool) × List (Entry) × Unit) × Unit)) :=
  (F_r10_IsImage b_Floors b_Debounce b_Room b_Park b_Empty b_Full b_Over b_Cars m_Phases m_Flags m_Leaving m_Entries).bind fun y1 =>
  bif (!y1.1.1) then
    some (((), (1 : Int), ()), ((([] : List (Int)), ([] : List (Bool)), ([] : List (Bool)), ([] : List (Entry)), ()), ()))
  else
    (F_r09_Valid b_Floors b_Debounce b_Room b_Park b_Empty b_Full b_Over b_Cars r_Kind r_Floor r_Dir r_Car r_Value).bind fun y2 =>
    bif (!y2.1.1) then
      some (((), (1 : Int), ()), ((([] : List (Int)), ([] : List (Bool)), ([] : List (Bool)), ([] : List (Entry)), ()), ()))
    else
      bif (Nat.ble ((List.length ([] : List (Int))) + (List.length m_Phases)) 2147483648) then
        let z0 : List (Int) := (([] : List (Int)) ++ m_Phases)
        bif (Nat.ble ((List.length ([] : List (Bool))) + (List.length m_Flags)) 2147483648) then
          let z1 : List (Bool) := (([] : List (Bool)) ++ m_Flags)
          bif (Nat.ble ((List.length ([] : List (Bool))) + (List.length m_Leaving)) 2147483648) then
            let z2 : List (Bool) := (([] : List (Bool)) ++ m_Leaving)
            bif (Nat.ble ((List.length ([] : List (Entry))) + (List.length m_Entries)) 2147483648) then
              let z3 : List (Entry) := (([] : List (Entry)) ++ m_Entries)
              (F_r10_Find z0 z1 z2 z3 r_Floor r_Dir).bind fun y3 =>
              bif (r_Kind == (4 : Int)) then
                bif (Go.Ab.inB r_Car (List.length z0)) then
                  some (((), (0 : Int), ()), (((List.set z0 (Int.toNat r_Car) r_Value), z1, z2, z3, ()), ()))
                else
                  none
              else
                bif (r_Kind == (5 : Int)) then
                  bif (Go.Ab.inB r_Car (List.length z1)) then
                    some (((), (0 : Int), ()), ((z0, (List.set z1 (Int.toNat r_Car) (r_Value == (1 : Int))), z2, z3, ()), ()))
                  else
                    none
                else
                  bif (r_Kind == (6 : Int)) then
                    bif (Go.Ab.inB r_Car (List.length z2)) then
                      some (((), (0 : Int), ()), ((z0, z1, (List.set z2 (Int.toNat r_Car) (r_Value == (1 : Int))), z3, ()), ()))
                    else
                      none
                  else
                    Option.bind (bif (r_Kind == (1 : Int)) then
                          some (((), (), (), y3.1.1, (decide (y3.1.1 < (0 : Int))), ()), ((z0, z1, z2, z3, ()), (r_Kind, r_Floor, r_Dir, r_Car, r_Value, ()), (([] : List (Int)), ([] : List (Bool)), ([] : List (Bool)), ([] : List (Entry)), ()), ()))
                        else
                          some (((), (), (), y3.1.1, false, ()), ((z0, z1, z2, z3, ()), (r_Kind, r_Floor, r_Dir, r_Car, r_Value, ()), (([] : List (Int)), ([] : List (Bool)), ([] : List (Bool)), ([] : List (Entry)), ()), ()))) fun y4 =>
                    bif y4.1.2.2.2.2.1 then
                      (F_r10_entered y4.2.1.2.2.2.1 y4.2.2.1.2.1 y4.2.2.1.2.2.1 (-1 : Int) (0 : Int) false).bind fun y5 =>
                      some (((), (0 : Int), ()), ((y4.2.1.1, y4.2.1.2.1, y4.2.1.2.2.1, y5.1.1, ()), ()))
                    else
                      bif (decide (y4.1.2.2.2.1 < (0 : Int))) then
                        some (((), (0 : Int), ()), ((y4.2.1.1, y4.2.1.2.1, y4.2.1.2.2.1, y4.2.1.2.2.2.1, ()), ()))
                      else
                        bif (y4.2.2.1.1 == (2 : Int)) then
                          Option.bind (some (((), (), y4.1.2.2.2.1, ()), ((y4.2.1.1, y4.2.1.2.1, y4.2.1.2.2.1, y4.2.1.2.2.2.1, ()), (y4.2.2.2.1.1, y4.2.2.2.1.2.1, y4.2.2.2.1.2.2.1, y4.2.2.2.1.2.2.2.1, ()), ()))) fun y6 =>
                          bif ((decide ((0 : Int) ≤ y6.1.2.2.1)) && (decide (y6.1.2.2.1 ≤ (((List.length y6.2.1.2.2.2.1) : Nat) : Int)))) then
                            let z4 : List (Entry) := (List.drop 0 (List.take (Int.toNat y6.1.2.2.1) y6.2.1.2.2.2.1))
                            bif (Nat.ble ((List.length ([] : List (Entry))) + (List.length z4)) 2147483648) then
                              let z5 : List (Entry) := (([] : List (Entry)) ++ z4)
                              let z6 : Int := (Go.IntKind.wrap Go.IntKind.i64 (y6.1.2.2.1 + (1 : Int)))
                              bif ((decide ((0 : Int) ≤ z6)) && (decide (z6 ≤ (((List.length y6.2.1.2.2.2.1) : Nat) : Int)))) then
                                let z7 : List (Entry) := (List.drop (Int.toNat z6) (List.take (List.length y6.2.1.2.2.2.1) y6.2.1.2.2.2.1))
                                bif (Nat.ble ((List.length z5) + (List.length z7)) 2147483648) then
                                  some (((), (0 : Int), ()), ((y6.2.1.1, y6.2.1.2.1, y6.2.1.2.2.1, (z5 ++ z7), ()), ()))
                                else
                                  none
                              else
                                none
                            else
                              none
                          else
                            none
                        else
                          bif (y4.2.2.1.1 == (3 : Int)) then
                            bif (Go.Ab.inB y4.1.2.2.2.1 (List.length y4.2.1.2.2.2.1)) then
                              let z8 : Nat := (Int.toNat y4.1.2.2.2.1)
                              let z9 : Entry := (List.getD y4.2.1.2.2.2.1 z8 (Entry.mk (0 : Int) (0 : Int) (0 : Int) (0 : Int) false))
                              some (((), (0 : Int), ()), ((y4.2.1.1, y4.2.1.2.1, y4.2.1.2.2.1, (List.set y4.2.1.2.2.2.1 z8 (Entry.mk z9.Floor z9.Dir y4.2.2.1.2.2.2.1 z9.Moves z9.Moved)), ()), ()))
                            else
                              none
                          else
                            bif (y4.2.2.1.1 == (7 : Int)) then
                              bif (Go.Ab.inB y4.1.2.2.2.1 (List.length y4.2.1.2.2.2.1)) then
                                let z10 : Nat := (Int.toNat y4.1.2.2.2.1)
                                let z11 : Entry := (List.getD y4.2.1.2.2.2.1 z10 (Entry.mk (0 : Int) (0 : Int) (0 : Int) (0 : Int) false))
                                let z12 : List (Entry) := (List.set y4.2.1.2.2.2.1 z10 (Entry.mk z11.Floor z11.Dir z11.Car y4.2.2.1.2.2.2.2.1 z11.Moved))
                                bif (Go.Ab.inB y4.1.2.2.2.1 (List.length z12)) then
                                  let z13 : Nat := (Int.toNat y4.1.2.2.2.1)
                                  let z14 : Entry := (List.getD z12 z13 (Entry.mk (0 : Int) (0 : Int) (0 : Int) (0 : Int) false))
                                  some (((), (0 : Int), ()), ((y4.2.1.1, y4.2.1.2.1, y4.2.1.2.2.1, (List.set z12 z13 (Entry.mk z14.Floor z14.Dir z14.Car z14.Moves (y4.2.2.1.2.2.2.1 == (1 : Int)))), ()), ()))
                                else
                                  none
                              else
                                none
                            else
                              some (((), (0 : Int), ()), ((y4.2.1.1, y4.2.1.2.1, y4.2.1.2.2.1, y4.2.1.2.2.2.1, ()), ()))
            else
              none
          else
            none
        else
          none
      else
        none
/-! ### overlay/overlaylaw10.Image -/
noncomputable def R_l10_Image_0 (x_1 : List (Record)) (i : Int) (b_Floors : Int) (b_Debounce : Int) (b_Room : Int) (b_Park : Int) (b_Empty : Nat) (b_Full : Nat) (b_Over : Nat) (b_Cars : List (Car)) (b4_Phases : List (Int)) (b4_Flags : List (Bool)) (b4_Leaving : List (Bool)) (b4_Entries : List (Entry)) (m_Phases : List (Int)) (m_Flags : List (Bool)) (m_Leaving : List (Bool)) (m_Entries : List (Entry)) : Option (Sum ((Unit × Unit × Unit × List (Record) × Int × Unit) × ((Int × Int × Int × Int × Nat × Nat × Nat × List (Car) × Unit) × (List (Int) × List (Bool) × List (Bool) × List (Entry) × Unit) × (List (Int) × List (Bool) × List (Bool) × List (Entry) × Unit) × Unit)) ((Unit × Unit × Unit) × ((List (Int) × List (Bool) × List (Bool) × List (Entry) × Unit) × (List (Int) × List (Bool) × List (Bool) × List (Entry) × Unit) × Unit))) :=
  bif (decide (i < ((List.length x_1 : Nat) : Int))) then
    bif (Go.Ab.inB i (List.length x_1)) then
      let z0 : Record := (List.getD x_1 (Int.toNat i) (Record.mk (0 : Int) (0 : Int) (0 : Int) (0 : Int) (0 : Int)))
      (F_r10_Apply b_Floors b_Debounce b_Room b_Park b_Empty b_Full b_Over b_Cars m_Phases m_Flags m_Leaving m_Entries z0.Kind z0.Floor z0.Dir z0.Car z0.Value).bind fun y1 =>
      some (Sum.inl (((), (), (), x_1, (Go.IntKind.wrap Go.IntKind.i64 (i + (1 : Int))), ()), ((b_Floors, b_Debounce, b_Room, b_Park, b_Empty, b_Full, b_Over, b_Cars, ()), (b4_Phases, b4_Flags, b4_Leaving, b4_Entries, ()), (y1.2.1.1, y1.2.1.2.1, y1.2.1.2.2.1, y1.2.1.2.2.2.1, ()), ())))
    else
      none
  else
    some (Sum.inr (((), (), ()), ((b4_Phases, b4_Flags, b4_Leaving, b4_Entries, ()), (m_Phases, m_Flags, m_Leaving, m_Entries, ()), ())))
noncomputable def L_l10_Image_0 : ((Unit × Unit × Unit × List (Record) × Int × Unit) × ((Int × Int × Int × Int × Nat × Nat × Nat × List (Car) × Unit) × (List (Int) × List (Bool) × List (Bool) × List (Entry) × Unit) × (List (Int) × List (Bool) × List (Bool) × List (Entry) × Unit) × Unit)) → Option ((Unit × Unit × Unit) × ((List (Int) × List (Bool) × List (Bool) × List (Entry) × Unit) × (List (Int) × List (Bool) × List (Bool) × List (Entry) × Unit) × Unit)) := iter (fun x => R_l10_Image_0 x.1.2.2.2.1 x.1.2.2.2.2.1 x.2.1.1 x.2.1.2.1 x.2.1.2.2.1 x.2.1.2.2.2.1 x.2.1.2.2.2.2.1 x.2.1.2.2.2.2.2.1 x.2.1.2.2.2.2.2.2.1 x.2.1.2.2.2.2.2.2.2.1 x.2.2.1.1 x.2.2.1.2.1 x.2.2.1.2.2.1 x.2.2.1.2.2.2.1 x.2.2.2.1.1 x.2.2.2.1.2.1 x.2.2.2.1.2.2.1 x.2.2.2.1.2.2.2.1) fuel
noncomputable def F_l10_Image (b_Floors : Int) (b_Debounce : Int) (b_Room : Int) (b_Park : Int) (b_Empty : Nat) (b_Full : Nat) (b_Over : Nat) (b_Cars : List (Car)) (l : List (Int)) : Option ((Unit × Unit) × ((List (Int) × List (Bool) × List (Bool) × List (Entry) × Unit) × Unit)) :=
  (F_r10_Initial b_Floors b_Debounce b_Room b_Park b_Empty b_Full b_Over b_Cars).bind fun y1 =>
  (F_l09_Records b_Floors b_Debounce b_Room b_Park b_Empty b_Full b_Over b_Cars l (60 : Int)).bind fun y2 =>
  (L_l10_Image_0 (((), (), (), y2.1.1, (0 : Int), ()), ((b_Floors, b_Debounce, b_Room, b_Park, b_Empty, b_Full, b_Over, b_Cars, ()), (([] : List (Int)), ([] : List (Bool)), ([] : List (Bool)), ([] : List (Entry)), ()), (y1.2.1.1, y1.2.1.2.1, y1.2.1.2.2.1, y1.2.1.2.2.2.1, ()), ()))).bind fun y3 =>
  some (((), ()), ((y3.2.2.1.1, y3.2.2.1.2.1, y3.2.2.1.2.2.1, y3.2.2.1.2.2.2.1, ()), ()))
/-! ### overlay/overlaylaw22.Views -/
noncomputable def R_l22_Views_1 (l : List (Int)) (out : List (View)) (i : Int) (k : Int) (b_Floors : Int) (b_Debounce : Int) (b_Room : Int) (b_Park : Int) (b_Empty : Nat) (b_Full : Nat) (b_Over : Nat) (b_Cars : List (Car)) (x_f0 : Int) (x_f1 : Int) (x_f2 : Int) (x_f3 : Int) : Option (Sum ((List (Int) × Unit × List (View) × Int × Unit × Int × Unit) × ((Int × Int × Int × Int × Nat × Nat × Nat × List (Car) × Unit) × (Int × Int × Int × Int × Unit) × Unit)) ((List (Int) × Unit × List (View) × Int × Unit × Unit) × ((Int × Int × Int × Int × Nat × Nat × Nat × List (Car) × Unit) × (Int × Int × Int × Int × Unit) × Unit))) :=
  bif (decide (k < (4 : Int))) then
    bif (decide ((0 : Int) < ((List.length l : Nat) : Int))) then
      let z0 : Int := ((List.length l : Nat) : Int)
      bif (z0 != (0 : Int)) then
        let z1 : Int := (Int.tmod (Go.IntKind.wrap Go.IntKind.i64 ((Go.IntKind.wrap Go.IntKind.i64 ((4 : Int) * i)) + k)) z0)
        bif (Go.Ab.inB z1 (List.length l)) then
          let z2 : Int := (List.getD l (Int.toNat z1) (0 : Int))
          bif (Go.Ab.inB k 4) then
            let z3 : Nat := (Int.toNat k)
            some (Sum.inl ((l, (), out, i, (), (Go.IntKind.wrap Go.IntKind.i64 (k + (1 : Int))), ()), ((b_Floors, b_Debounce, b_Room, b_Park, b_Empty, b_Full, b_Over, b_Cars, ()), ((bif (Nat.beq z3 0) then z2 else x_f0), (bif (Nat.beq z3 1) then z2 else x_f1), (bif (Nat.beq z3 2) then z2 else x_f2), (bif (Nat.beq z3 3) then z2 else x_f3), ()), ())))
          else
            none
        else
          none
      else
        none
    else
      some (Sum.inr ((l, (), out, i, (), ()), ((b_Floors, b_Debounce, b_Room, b_Park, b_Empty, b_Full, b_Over, b_Cars, ()), (x_f0, x_f1, x_f2, x_f3, ()), ())))
  else
    some (Sum.inr ((l, (), out, i, (), ()), ((b_Floors, b_Debounce, b_Room, b_Park, b_Empty, b_Full, b_Over, b_Cars, ()), (x_f0, x_f1, x_f2, x_f3, ()), ())))
noncomputable def L_l22_Views_1 : ((List (Int) × Unit × List (View) × Int × Unit × Int × Unit) × ((Int × Int × Int × Int × Nat × Nat × Nat × List (Car) × Unit) × (Int × Int × Int × Int × Unit) × Unit)) → Option ((List (Int) × Unit × List (View) × Int × Unit × Unit) × ((Int × Int × Int × Int × Nat × Nat × Nat × List (Car) × Unit) × (Int × Int × Int × Int × Unit) × Unit)) := iter (fun x => R_l22_Views_1 x.1.1 x.1.2.2.1 x.1.2.2.2.1 x.1.2.2.2.2.2.1 x.2.1.1 x.2.1.2.1 x.2.1.2.2.1 x.2.1.2.2.2.1 x.2.1.2.2.2.2.1 x.2.1.2.2.2.2.2.1 x.2.1.2.2.2.2.2.2.1 x.2.1.2.2.2.2.2.2.2.1 x.2.2.1.1 x.2.2.1.2.1 x.2.2.1.2.2.1 x.2.2.1.2.2.2.1) fuel
noncomputable def R_l22_Views_0 (l : List (Int)) (out : List (View)) (i : Int) (b_Floors : Int) (b_Debounce : Int) (b_Room : Int) (b_Park : Int) (b_Empty : Nat) (b_Full : Nat) (b_Over : Nat) (b_Cars : List (Car)) : Option (Sum ((List (Int) × Unit × List (View) × Int × Unit) × ((Int × Int × Int × Int × Nat × Nat × Nat × List (Car) × Unit) × Unit)) ((List (View) × Unit) × Unit)) :=
  bif (decide (i < ((List.length b_Cars : Nat) : Int))) then
    (L_l22_Views_1 ((l, (), out, i, (), (0 : Int), ()), ((b_Floors, b_Debounce, b_Room, b_Park, b_Empty, b_Full, b_Over, b_Cars, ()), ((0 : Int), (0 : Int), (0 : Int), (0 : Int), ()), ()))).bind fun y1 =>
    let z0 : Bool := (decide ((0 : Int) < (Int.tmod y1.2.2.1.1 (8 : Int))))
    let z1 : Bool := ((Int.tmod (Go.IntKind.wrap Go.IntKind.u8 (Int.tdiv y1.2.2.1.1 (8 : Int))) (2 : Int)) == (0 : Int))
    let z2 : Bool := ((Int.tmod (Go.IntKind.wrap Go.IntKind.u8 (Int.tdiv y1.2.2.1.1 (16 : Int))) (4 : Int)) == (0 : Int))
    let z3 : Int := (Go.IntKind.wrap Go.IntKind.i64 (y1.2.1.1 + (1 : Int)))
    bif (z3 != (0 : Int)) then
      let z4 : Int := (Go.IntKind.wrap Go.IntKind.i64 ((Int.tmod (Go.IntKind.wrap Go.IntKind.i64 y1.2.2.1.2.1) z3) - (1 : Int)))
      let z5 : Int := (Go.IntKind.wrap Go.IntKind.i64 (Int.tmod (Go.IntKind.wrap Go.IntKind.u8 (Int.tdiv y1.2.2.1.2.1 (16 : Int))) (4 : Int)))
      let z6 : Int := (Go.IntKind.wrap Go.IntKind.i64 (Int.tmod y1.2.2.1.2.2.1 (5 : Int)))
      let z7 : Int := (Go.IntKind.wrap Go.IntKind.u32 (Go.IntKind.wrap Go.IntKind.u8 (Go.Ab.stk y1.2.2.1.2.2.1 y1.2.2.1.2.2.2.1 (BitVec.toNat ((BitVec.ofInt (Go.IntKind.bits Go.IntKind.u8) y1.2.2.1.2.2.1) &&& (BitVec.ofInt (Go.IntKind.bits Go.IntKind.u8) y1.2.2.1.2.2.2.1))))))
      let z8 : Int := (Go.IntKind.wrap Go.IntKind.u32 (Go.IntKind.wrap Go.IntKind.u8 (Go.Ab.stk y1.2.2.1.2.2.2.1 (5 : Int) (BitVec.toNat ((BitVec.ofInt (Go.IntKind.bits Go.IntKind.u8) y1.2.2.1.2.2.2.1) &&& (BitVec.ofInt (Go.IntKind.bits Go.IntKind.u8) (5 : Int)))))))
      let z9 : Int := (Int.fdiv y1.2.2.1.2.2.2.1 ((2 : Int) ^ (Min.min (Int.toNat (4 : Int)) (Go.IntKind.bits Go.IntKind.u8))))
      let z10 : Int := (Go.IntKind.wrap Go.IntKind.u32 (Go.IntKind.wrap Go.IntKind.u8 (Go.Ab.stk z9 (6 : Int) (BitVec.toNat ((BitVec.ofInt (Go.IntKind.bits Go.IntKind.u8) z9) &&& (BitVec.ofInt (Go.IntKind.bits Go.IntKind.u8) (6 : Int)))))))
      bif z2 then
        let z11 : List (View) := [(View.mk false z0 z1 z2 z4 z5 z6 (0 : Int) (0 : Int) z7 z8 z10)]
        bif (Nat.ble ((List.length y1.1.2.2.1) + (List.length z11)) 2147483648) then
          some (Sum.inl ((y1.1.1, (), (y1.1.2.2.1 ++ z11), (Go.IntKind.wrap Go.IntKind.i64 (y1.1.2.2.2.1 + (1 : Int))), ()), ((y1.2.1.1, y1.2.1.2.1, y1.2.1.2.2.1, y1.2.1.2.2.2.1, y1.2.1.2.2.2.2.1, y1.2.1.2.2.2.2.2.1, y1.2.1.2.2.2.2.2.2.1, y1.2.1.2.2.2.2.2.2.2.1, ()), ())))
        else
          none
      else
        let z12 : List (View) := [(View.mk (decide ((0 : Int) < (Int.tmod y1.2.2.1.1 (4 : Int)))) z0 z1 z2 z4 z5 z6 (0 : Int) (0 : Int) z7 z8 z10)]
        bif (Nat.ble ((List.length y1.1.2.2.1) + (List.length z12)) 2147483648) then
          some (Sum.inl ((y1.1.1, (), (y1.1.2.2.1 ++ z12), (Go.IntKind.wrap Go.IntKind.i64 (y1.1.2.2.2.1 + (1 : Int))), ()), ((y1.2.1.1, y1.2.1.2.1, y1.2.1.2.2.1, y1.2.1.2.2.2.1, y1.2.1.2.2.2.2.1, y1.2.1.2.2.2.2.2.1, y1.2.1.2.2.2.2.2.2.1, y1.2.1.2.2.2.2.2.2.2.1, ()), ())))
        else
          none
    else
      none
  else
    some (Sum.inr ((out, ()), ()))
noncomputable def L_l22_Views_0 : ((List (Int) × Unit × List (View) × Int × Unit) × ((Int × Int × Int × Int × Nat × Nat × Nat × List (Car) × Unit) × Unit)) → Option ((List (View) × Unit) × Unit) := iter (fun x => R_l22_Views_0 x.1.1 x.1.2.2.1 x.1.2.2.2.1 x.2.1.1 x.2.1.2.1 x.2.1.2.2.1 x.2.1.2.2.2.1 x.2.1.2.2.2.2.1 x.2.1.2.2.2.2.2.1 x.2.1.2.2.2.2.2.2.1 x.2.1.2.2.2.2.2.2.2.1) fuel
noncomputable def F_l22_Views (b_Floors : Int) (b_Debounce : Int) (b_Room : Int) (b_Park : Int) (b_Empty : Nat) (b_Full : Nat) (b_Over : Nat) (b_Cars : List (Car)) (l : List (Int)) : Option ((List (View) × Unit) × Unit) :=
  (L_l22_Views_0 ((l, (), ([] : List (View)), (0 : Int), ()), ((b_Floors, b_Debounce, b_Room, b_Park, b_Empty, b_Full, b_Over, b_Cars, ()), ()))).bind fun y1 =>
  some ((y1.1.1, ()), ())
/-! ### overlay/overlaylaw22.expects -/
noncomputable def R_l22_expects_0 (l : List (Int)) (out : List (Int)) (i : Int) (m_Phases : List (Int)) (m_Flags : List (Bool)) (m_Leaving : List (Bool)) (m_Entries : List (Entry)) : Option (Sum ((List (Int) × Unit × List (Int) × Int × Unit) × ((List (Int) × List (Bool) × List (Bool) × List (Entry) × Unit) × Unit)) ((List (Int) × Unit) × Unit)) :=
  bif (decide (i < ((List.length m_Entries : Nat) : Int))) then
    bif (decide ((0 : Int) < ((List.length l : Nat) : Int))) then
      let z0 : Int := ((List.length l : Nat) : Int)
      bif (z0 != (0 : Int)) then
        let z1 : Int := (Int.tmod i z0)
        bif (Go.Ab.inB z1 (List.length l)) then
          let z2 : List (Int) := [(Int.tmod (Go.IntKind.wrap Go.IntKind.i64 (List.getD l (Int.toNat z1) (0 : Int))) (4 : Int))]
          bif (Nat.ble ((List.length out) + (List.length z2)) 2147483648) then
            some (Sum.inl ((l, (), (out ++ z2), (Go.IntKind.wrap Go.IntKind.i64 (i + (1 : Int))), ()), ((m_Phases, m_Flags, m_Leaving, m_Entries, ()), ())))
          else
            none
        else
          none
      else
        none
    else
      let z3 : List (Int) := [(0 : Int)]
      bif (Nat.ble ((List.length out) + (List.length z3)) 2147483648) then
        some (Sum.inl ((l, (), (out ++ z3), (Go.IntKind.wrap Go.IntKind.i64 (i + (1 : Int))), ()), ((m_Phases, m_Flags, m_Leaving, m_Entries, ()), ())))
      else
        none
  else
    some (Sum.inr ((out, ()), ()))
noncomputable def L_l22_expects_0 : ((List (Int) × Unit × List (Int) × Int × Unit) × ((List (Int) × List (Bool) × List (Bool) × List (Entry) × Unit) × Unit)) → Option ((List (Int) × Unit) × Unit) := iter (fun x => R_l22_expects_0 x.1.1 x.1.2.2.1 x.1.2.2.2.1 x.2.1.1 x.2.1.2.1 x.2.1.2.2.1 x.2.1.2.2.2.1) fuel
noncomputable def F_l22_expects (m_Phases : List (Int)) (m_Flags : List (Bool)) (m_Leaving : List (Bool)) (m_Entries : List (Entry)) (l : List (Int)) : Option ((List (Int) × Unit) × Unit) :=
  (L_l22_expects_0 ((l, (), ([] : List (Int)), (0 : Int), ()), ((m_Phases, m_Flags, m_Leaving, m_Entries, ()), ()))).bind fun y1 =>
  some ((y1.1.1, ()), ())
/-! ### overlay/building.within -/
noncomputable def R_building_within_0 (lo : Int) (hi : Int) (s9 : List (Int)) (s10 : Int) (s11 : Int) : Option (Sum ((Int × Int × List (Int) × Int × Int × Unit) × Unit) ((Unit × Unit) ⊕ ((Bool × Unit) × Unit))) :=
  bif (decide (s11 < s10)) then
    bif (Go.Ab.inB s11 (List.length s9)) then
      let z0 : Int := (List.getD s9 (Int.toNat s11) (0 : Int))
      bif (decide (z0 < lo)) then
        some (Sum.inr (Sum.inr ((false, ()), ())))
      else
        bif (decide (hi < z0)) then
          some (Sum.inr (Sum.inr ((false, ()), ())))
        else
          some (Sum.inl ((lo, hi, s9, s10, (Go.IntKind.wrap Go.IntKind.i64 (s11 + (1 : Int))), ()), ()))
    else
      none
  else
    some (Sum.inr (Sum.inl ((), ())))
noncomputable def L_building_within_0 : ((Int × Int × List (Int) × Int × Int × Unit) × Unit) → Option ((Unit × Unit) ⊕ ((Bool × Unit) × Unit)) := iter (fun x => R_building_within_0 x.1.1 x.1.2.1 x.1.2.2.1 x.1.2.2.2.1 x.1.2.2.2.2.1) fuel
noncomputable def F_building_within (lo : Int) (hi : Int) (l : List (Int)) : Option ((Bool × Unit) × Unit) :=
  (L_building_within_0 ((lo, hi, l, ((List.length l : Nat) : Int), (0 : Int), ()), ())).bind fun y1 =>
  (match y1 with
  | .inl y2 =>
    some ((true, ()), ())
  | .inr y2 =>
    some ((y2.1.1, ()), ()))
/-! ### overlay/building.times -/
noncomputable def F_building_times (c_Deadline : Int) (c_Pulse : Int) (c_Quiet : Int) (c_Slack : Int) (c_Step : Int) (c_Travel : Int) (c_Dwell : Int) (c_Hold : Int) (c_Home : Int) (floors : Int) : Option ((Bool × Unit) × Unit) :=
  Option.bind ((F_building_within (1 : Int) (10000 : Int) [c_Deadline, c_Pulse, c_Quiet, c_Step, c_Travel, c_Dwell, c_Hold]).bind fun y1 =>
      bif y1.1.1 then
        (F_building_within (0 : Int) (10000 : Int) [c_Slack]).bind fun y2 =>
        bif y2.1.1 then
          bif (decide (c_Dwell ≤ c_Hold)) then
            (F_building_within (0 : Int) (Go.IntKind.wrap Go.IntKind.i64 (floors - (1 : Int))) [c_Home]).bind fun y3 =>
            some ((y3.1.1, ()), ())
          else
            some ((false, ()), ())
        else
          some ((false, ()), ())
      else
        some ((false, ()), ())) fun y4 =>
  some ((y4.1.1, ()), ())
/-! ### overlay/building.loads -/
noncomputable def F_building_loads (b_Floors : Int) (b_Debounce : Int) (b_Room : Int) (b_Park : Int) (b_Empty : Nat) (b_Full : Nat) (b_Over : Nat) (b_Cars : List (Car)) : Option ((Bool × Unit) × Unit) :=
  Option.bind (bif (((Go.FloatKind.format Go.FloatKind.f64).order 0 b_Empty) == some Ordering.lt) then
        bif (((Go.FloatKind.format Go.FloatKind.f64).order b_Empty b_Full) == some Ordering.lt) then
          bif (((Go.FloatKind.format Go.FloatKind.f64).order b_Full b_Over) == some Ordering.lt) then
            some (((((Go.FloatKind.format Go.FloatKind.f64).order b_Over 9218868437227405311) == some Ordering.lt || ((Go.FloatKind.format Go.FloatKind.f64).order b_Over 9218868437227405311) == some Ordering.eq), ()), ())
          else
            some ((false, ()), ())
        else
          some ((false, ()), ())
      else
        some ((false, ()), ())) fun y1 =>
  some ((y1.1.1, ()), ())
/-! ### overlay/building.Valid -/
noncomputable def R_building_Valid_0 (good : Bool) (s28 : List (Car)) (s29 : Int) (s30 : Int) (b_Floors : Int) (b_Debounce : Int) (b_Room : Int) (b_Park : Int) (b_Empty : Nat) (b_Full : Nat) (b_Over : Nat) (b_Cars : List (Car)) : Option (Sum ((Unit × Bool × List (Car) × Int × Int × Unit) × ((Int × Int × Int × Int × Nat × Nat × Nat × List (Car) × Unit) × Unit)) ((Unit × Bool × Unit) × ((Int × Int × Int × Int × Nat × Nat × Nat × List (Car) × Unit) × Unit))) :=
  bif (decide (s30 < s29)) then
    bif (Go.Ab.inB s30 (List.length s28)) then
      let z0 : Car := (List.getD s28 (Int.toNat s30) (Car.mk (0 : Int) (0 : Int) (0 : Int) (0 : Int) (0 : Int) (0 : Int) (0 : Int) (0 : Int) (0 : Int)))
      Option.bind (bif good then
            (F_building_times z0.Deadline z0.Pulse z0.Quiet z0.Slack z0.Step z0.Travel z0.Dwell z0.Hold z0.Home b_Floors).bind fun y1 =>
            some (((), y1.1.1, s28, s29, s30, ()), ((b_Floors, b_Debounce, b_Room, b_Park, b_Empty, b_Full, b_Over, b_Cars, ()), ()))
          else
            some (((), false, s28, s29, s30, ()), ((b_Floors, b_Debounce, b_Room, b_Park, b_Empty, b_Full, b_Over, b_Cars, ()), ()))) fun y2 =>
      some (Sum.inl (((), y2.1.2.1, y2.1.2.2.1, y2.1.2.2.2.1, (Go.IntKind.wrap Go.IntKind.i64 (y2.1.2.2.2.2.1 + (1 : Int))), ()), ((y2.2.1.1, y2.2.1.2.1, y2.2.1.2.2.1, y2.2.1.2.2.2.1, y2.2.1.2.2.2.2.1, y2.2.1.2.2.2.2.2.1, y2.2.1.2.2.2.2.2.2.1, y2.2.1.2.2.2.2.2.2.2.1, ()), ())))
    else
      none
  else
    some (Sum.inr (((), good, ()), ((b_Floors, b_Debounce, b_Room, b_Park, b_Empty, b_Full, b_Over, b_Cars, ()), ())))
noncomputable def L_building_Valid_0 : ((Unit × Bool × List (Car) × Int × Int × Unit) × ((Int × Int × Int × Int × Nat × Nat × Nat × List (Car) × Unit) × Unit)) → Option ((Unit × Bool × Unit) × ((Int × Int × Int × Int × Nat × Nat × Nat × List (Car) × Unit) × Unit)) := iter (fun x => R_building_Valid_0 x.1.2.1 x.1.2.2.1 x.1.2.2.2.1 x.1.2.2.2.2.1 x.2.1.1 x.2.1.2.1 x.2.1.2.2.1 x.2.1.2.2.2.1 x.2.1.2.2.2.2.1 x.2.1.2.2.2.2.2.1 x.2.1.2.2.2.2.2.2.1 x.2.1.2.2.2.2.2.2.2.1) fuel
noncomputable def F_building_Valid (b_Floors : Int) (b_Debounce : Int) (b_Room : Int) (b_Park : Int) (b_Empty : Nat) (b_Full : Nat) (b_Over : Nat) (b_Cars : List (Car)) : Option ((Int × Unit) × Unit) :=
  (F_building_within (2 : Int) (32 : Int) [b_Floors]).bind fun y1 =>
  bif (!y1.1.1) then
    some (((10 : Int), ()), ())
  else
    (F_building_within (1 : Int) (8 : Int) [((List.length b_Cars : Nat) : Int)]).bind fun y2 =>
    bif (!y2.1.1) then
      some (((11 : Int), ()), ())
    else
      Option.bind ((F_building_within (1 : Int) (16 : Int) [b_Debounce]).bind fun y3 =>
          bif y3.1.1 then
            (F_building_within (1 : Int) (10000 : Int) [b_Park]).bind fun y4 =>
            some (((), y4.1.1, ()), ((b_Floors, b_Debounce, b_Room, b_Park, b_Empty, b_Full, b_Over, b_Cars, ()), ()))
          else
            some (((), false, ()), ((b_Floors, b_Debounce, b_Room, b_Park, b_Empty, b_Full, b_Over, b_Cars, ()), ()))) fun y5 =>
      (L_building_Valid_0 (((), y5.1.2.1, y5.2.1.2.2.2.2.2.2.2.1, ((List.length y5.2.1.2.2.2.2.2.2.2.1 : Nat) : Int), (0 : Int), ()), ((y5.2.1.1, y5.2.1.2.1, y5.2.1.2.2.1, y5.2.1.2.2.2.1, y5.2.1.2.2.2.2.1, y5.2.1.2.2.2.2.2.1, y5.2.1.2.2.2.2.2.2.1, y5.2.1.2.2.2.2.2.2.2.1, ()), ()))).bind fun y6 =>
      bif (!y6.1.2.1) then
        some (((12 : Int), ()), ())
      else
        (F_building_loads y6.2.1.1 y6.2.1.2.1 y6.2.1.2.2.1 y6.2.1.2.2.2.1 y6.2.1.2.2.2.2.1 y6.2.1.2.2.2.2.2.1 y6.2.1.2.2.2.2.2.2.1 y6.2.1.2.2.2.2.2.2.2.1).bind fun y7 =>
        bif (!y7.1.1) then
          some (((13 : Int), ()), ())
        else
          (F_building_within (Go.IntKind.wrap Go.IntKind.i64 ((Go.IntKind.wrap Go.IntKind.i64 ((18 : Int) * ((List.length y6.2.1.2.2.2.2.2.2.2.1 : Nat) : Int))) + (24 : Int))) (65536 : Int) [y6.2.1.2.2.1]).bind fun y8 =>
          bif (!y8.1.1) then
            some (((14 : Int), ()), ())
          else
            some (((0 : Int), ()), ())
/-! ### overlay/building.isCall -/
noncomputable def F_building_isCall (floors : Int) (floor : Int) (dir : Int) : Option ((Bool × Unit) × Unit) :=
  Option.bind (bif (dir == (1 : Int)) then
        (F_building_within (0 : Int) (Go.IntKind.wrap Go.IntKind.i64 (floors - (2 : Int))) [floor]).bind fun y1 =>
        bif y1.1.1 then
          some ((true, ()), ())
        else
          bif (dir == (2 : Int)) then
            (F_building_within (1 : Int) (Go.IntKind.wrap Go.IntKind.i64 (floors - (1 : Int))) [floor]).bind fun y2 =>
            some ((y2.1.1, ()), ())
          else
            some ((false, ()), ())
      else
        bif (dir == (2 : Int)) then
          (F_building_within (1 : Int) (Go.IntKind.wrap Go.IntKind.i64 (floors - (1 : Int))) [floor]).bind fun y3 =>
          some ((y3.1.1, ()), ())
        else
          some ((false, ()), ())) fun y4 =>
  some ((y4.1.1, ()), ())
/-! ### overlay/building.IsCall -/
noncomputable def F_building_IsCall (b_Floors : Int) (b_Debounce : Int) (b_Room : Int) (b_Park : Int) (b_Empty : Nat) (b_Full : Nat) (b_Over : Nat) (b_Cars : List (Car)) (floor : Int) (dir : Int) : Option ((Bool × Unit) × Unit) :=
  Option.bind ((F_building_Valid b_Floors b_Debounce b_Room b_Park b_Empty b_Full b_Over b_Cars).bind fun y1 =>
      bif (y1.1.1 == (0 : Int)) then
        (F_building_isCall b_Floors floor dir).bind fun y2 =>
        some ((y2.1.1, ()), ())
      else
        some ((false, ()), ())) fun y3 =>
  some ((y3.1.1, ()), ())
/-! ### overlay/log.isEntry -/
noncomputable def F_log_isEntry (b_Floors : Int) (b_Debounce : Int) (b_Room : Int) (b_Park : Int) (b_Empty : Nat) (b_Full : Nat) (b_Over : Nat) (b_Cars : List (Car)) (e_Floor : Int) (e_Dir : Int) (e_Car : Int) (e_Moves : Int) (e_Moved : Bool) : Option ((Bool × Unit) × Unit) :=
  Option.bind ((F_building_IsCall b_Floors b_Debounce b_Room b_Park b_Empty b_Full b_Over b_Cars e_Floor e_Dir).bind fun y1 =>
      bif y1.1.1 then
        bif (decide ((-2 : Int) ≤ e_Car)) then
          bif (decide (e_Car < ((List.length b_Cars : Nat) : Int))) then
            bif (decide ((0 : Int) ≤ e_Moves)) then
              some (((decide (e_Moves ≤ (255 : Int))), ()), ())
            else
              some ((false, ()), ())
          else
            some ((false, ()), ())
        else
          some ((false, ()), ())
      else
        some ((false, ()), ())) fun y2 =>
  some ((y2.1.1, ()), ())
/-! ### cmp.isNaN[int] -/
noncomputable def F_cmp_isNaN_int (x_1 : Int) : Option ((Bool × Unit) × Unit) :=
  some (((x_1 != x_1), ()), ())
/-! ### cmp.Compare[int] -/
noncomputable def F_cmp_Compare_int (x_1 : Int) (y : Int) : Option ((Int × Unit) × Unit) :=
  (F_cmp_isNaN_int x_1).bind fun y1 =>
  (F_cmp_isNaN_int y).bind fun y2 =>
  bif y1.1.1 then
    bif y2.1.1 then
      some (((0 : Int), ()), ())
    else
      some (((-1 : Int), ()), ())
  else
    bif y2.1.1 then
      some (((1 : Int), ()), ())
    else
      bif (decide (x_1 < y)) then
        some (((-1 : Int), ()), ())
      else
        bif (decide (y < x_1)) then
          some (((1 : Int), ()), ())
        else
          some (((0 : Int), ()), ())
/-! ### cmp.Or[int] -/
noncomputable def R_cmp_Or_int_0 (zero : Int) (s6 : List (Int)) (s7 : Int) (s8 : Int) : Option (Sum ((Int × List (Int) × Int × Int × Unit) × Unit) (((Int × Unit) × Unit) ⊕ ((Int × Unit) × Unit))) :=
  bif (decide (s8 < s7)) then
    bif (Go.Ab.inB s8 (List.length s6)) then
      let z0 : Int := (List.getD s6 (Int.toNat s8) (0 : Int))
      bif (z0 != zero) then
        some (Sum.inr (Sum.inr ((z0, ()), ())))
      else
        some (Sum.inl ((zero, s6, s7, (Go.IntKind.wrap Go.IntKind.i64 (s8 + (1 : Int))), ()), ()))
    else
      none
  else
    some (Sum.inr (Sum.inl ((zero, ()), ())))
noncomputable def L_cmp_Or_int_0 : ((Int × List (Int) × Int × Int × Unit) × Unit) → Option (((Int × Unit) × Unit) ⊕ ((Int × Unit) × Unit)) := iter (fun x => R_cmp_Or_int_0 x.1.1 x.1.2.1 x.1.2.2.1 x.1.2.2.2.1) fuel
noncomputable def F_cmp_Or_int (vals : List (Int)) : Option ((Int × Unit) × Unit) :=
  (L_cmp_Or_int_0 (((0 : Int), vals, ((List.length vals : Nat) : Int), (0 : Int), ()), ())).bind fun y1 =>
  (match y1 with
  | .inl y2 =>
    some ((y2.1.1, ()), ())
  | .inr y2 =>
    some ((y2.1.1, ()), ()))
/-! ### overlay/log.compare -/
noncomputable def F_log_compare (a_Floor : Int) (a_Dir : Int) (a_Car : Int) (a_Moves : Int) (a_Moved : Bool) (b_Floor : Int) (b_Dir : Int) (b_Car : Int) (b_Moves : Int) (b_Moved : Bool) : Option ((Int × Unit) × Unit) :=
  (F_cmp_Compare_int a_Floor b_Floor).bind fun y1 =>
  (F_cmp_Compare_int a_Dir b_Dir).bind fun y2 =>
  (F_cmp_Or_int [y1.1.1, y2.1.1]).bind fun y3 =>
  some ((y3.1.1, ()), ())
/-! ### overlay/log.IsImage -/
noncomputable def R_log_IsImage_1 (s52 : List (Entry)) (s53 : Int) (s54 : Int) (b_Floors : Int) (b_Debounce : Int) (b_Room : Int) (b_Park : Int) (b_Empty : Nat) (b_Full : Nat) (b_Over : Nat) (b_Cars : List (Car)) (m_Phases : List (Int)) (m_Flags : List (Bool)) (m_Leaving : List (Bool)) (m_Entries : List (Entry)) : Option (Sum ((Unit × Unit × List (Entry) × Int × Int × Unit) × ((Int × Int × Int × Int × Nat × Nat × Nat × List (Car) × Unit) × (List (Int) × List (Bool) × List (Bool) × List (Entry) × Unit) × Unit)) ((Unit × Unit) ⊕ ((Bool × Unit) × Unit))) :=
  bif (decide (s54 < s53)) then
    bif (Go.Ab.inB s54 (List.length s52)) then
      let z0 : Entry := (List.getD s52 (Int.toNat s54) (Entry.mk (0 : Int) (0 : Int) (0 : Int) (0 : Int) false))
      Option.bind ((F_log_isEntry b_Floors b_Debounce b_Room b_Park b_Empty b_Full b_Over b_Cars z0.Floor z0.Dir z0.Car z0.Moves z0.Moved).bind fun y1 =>
          bif (!y1.1.1) then
            some (((), (), s52, s53, s54, true, ()), ((b_Floors, b_Debounce, b_Room, b_Park, b_Empty, b_Full, b_Over, b_Cars, ()), (m_Phases, m_Flags, m_Leaving, m_Entries, ()), ()))
          else
            bif (decide ((0 : Int) < s54)) then
              let z1 : Int := (Go.IntKind.wrap Go.IntKind.i64 (s54 - (1 : Int)))
              bif (Go.Ab.inB z1 (List.length m_Entries)) then
                let z2 : Entry := (List.getD m_Entries (Int.toNat z1) (Entry.mk (0 : Int) (0 : Int) (0 : Int) (0 : Int) false))
                (F_log_compare z2.Floor z2.Dir z2.Car z2.Moves z2.Moved z0.Floor z0.Dir z0.Car z0.Moves z0.Moved).bind fun y2 =>
                some (((), (), s52, s53, s54, (decide ((0 : Int) ≤ y2.1.1)), ()), ((b_Floors, b_Debounce, b_Room, b_Park, b_Empty, b_Full, b_Over, b_Cars, ()), (m_Phases, m_Flags, m_Leaving, m_Entries, ()), ()))
              else
                none
            else
              some (((), (), s52, s53, s54, false, ()), ((b_Floors, b_Debounce, b_Room, b_Park, b_Empty, b_Full, b_Over, b_Cars, ()), (m_Phases, m_Flags, m_Leaving, m_Entries, ()), ()))) fun y3 =>
      bif y3.1.2.2.2.2.2.1 then
        some (Sum.inr (Sum.inr ((false, ()), ())))
      else
        some (Sum.inl (((), (), y3.1.2.2.1, y3.1.2.2.2.1, (Go.IntKind.wrap Go.IntKind.i64 (y3.1.2.2.2.2.1 + (1 : Int))), ()), ((y3.2.1.1, y3.2.1.2.1, y3.2.1.2.2.1, y3.2.1.2.2.2.1, y3.2.1.2.2.2.2.1, y3.2.1.2.2.2.2.2.1, y3.2.1.2.2.2.2.2.2.1, y3.2.1.2.2.2.2.2.2.2.1, ()), (y3.2.2.1.1, y3.2.2.1.2.1, y3.2.2.1.2.2.1, y3.2.2.1.2.2.2.1, ()), ())))
    else
      none
  else
    some (Sum.inr (Sum.inl ((), ())))
noncomputable def L_log_IsImage_1 : ((Unit × Unit × List (Entry) × Int × Int × Unit) × ((Int × Int × Int × Int × Nat × Nat × Nat × List (Car) × Unit) × (List (Int) × List (Bool) × List (Bool) × List (Entry) × Unit) × Unit)) → Option ((Unit × Unit) ⊕ ((Bool × Unit) × Unit)) := iter (fun x => R_log_IsImage_1 x.1.2.2.1 x.1.2.2.2.1 x.1.2.2.2.2.1 x.2.1.1 x.2.1.2.1 x.2.1.2.2.1 x.2.1.2.2.2.1 x.2.1.2.2.2.2.1 x.2.1.2.2.2.2.2.1 x.2.1.2.2.2.2.2.2.1 x.2.1.2.2.2.2.2.2.2.1 x.2.2.1.1 x.2.2.1.2.1 x.2.2.1.2.2.1 x.2.2.1.2.2.2.1) fuel
noncomputable def R_log_IsImage_0 (s38 : List (Int)) (s39 : Int) (s40 : Int) (b_Floors : Int) (b_Debounce : Int) (b_Room : Int) (b_Park : Int) (b_Empty : Nat) (b_Full : Nat) (b_Over : Nat) (b_Cars : List (Car)) (m_Phases : List (Int)) (m_Flags : List (Bool)) (m_Leaving : List (Bool)) (m_Entries : List (Entry)) : Option (Sum ((Unit × Unit × List (Int) × Int × Int × Unit) × ((Int × Int × Int × Int × Nat × Nat × Nat × List (Car) × Unit) × (List (Int) × List (Bool) × List (Bool) × List (Entry) × Unit) × Unit)) (((Unit × Unit × Unit) × ((Int × Int × Int × Int × Nat × Nat × Nat × List (Car) × Unit) × (List (Int) × List (Bool) × List (Bool) × List (Entry) × Unit) × Unit)) ⊕ ((Bool × Unit) × Unit))) :=
  bif (decide (s40 < s39)) then
    bif (Go.Ab.inB s40 (List.length s38)) then
      let z0 : Int := (List.getD s38 (Int.toNat s40) (0 : Int))
      bif (decide (z0 < (0 : Int))) then
        some (Sum.inr (Sum.inr ((false, ()), ())))
      else
        bif (decide ((4 : Int) < z0)) then
          some (Sum.inr (Sum.inr ((false, ()), ())))
        else
          some (Sum.inl (((), (), s38, s39, (Go.IntKind.wrap Go.IntKind.i64 (s40 + (1 : Int))), ()), ((b_Floors, b_Debounce, b_Room, b_Park, b_Empty, b_Full, b_Over, b_Cars, ()), (m_Phases, m_Flags, m_Leaving, m_Entries, ()), ())))
    else
      none
  else
    some (Sum.inr (Sum.inl (((), (), ()), ((b_Floors, b_Debounce, b_Room, b_Park, b_Empty, b_Full, b_Over, b_Cars, ()), (m_Phases, m_Flags, m_Leaving, m_Entries, ()), ()))))
noncomputable def L_log_IsImage_0 : ((Unit × Unit × List (Int) × Int × Int × Unit) × ((Int × Int × Int × Int × Nat × Nat × Nat × List (Car) × Unit) × (List (Int) × List (Bool) × List (Bool) × List (Entry) × Unit) × Unit)) → Option (((Unit × Unit × Unit) × ((Int × Int × Int × Int × Nat × Nat × Nat × List (Car) × Unit) × (List (Int) × List (Bool) × List (Bool) × List (Entry) × Unit) × Unit)) ⊕ ((Bool × Unit) × Unit)) := iter (fun x => R_log_IsImage_0 x.1.2.2.1 x.1.2.2.2.1 x.1.2.2.2.2.1 x.2.1.1 x.2.1.2.1 x.2.1.2.2.1 x.2.1.2.2.2.1 x.2.1.2.2.2.2.1 x.2.1.2.2.2.2.2.1 x.2.1.2.2.2.2.2.2.1 x.2.1.2.2.2.2.2.2.2.1 x.2.2.1.1 x.2.2.1.2.1 x.2.2.1.2.2.1 x.2.2.1.2.2.2.1) fuel
noncomputable def F_log_IsImage (b_Floors : Int) (b_Debounce : Int) (b_Room : Int) (b_Park : Int) (b_Empty : Nat) (b_Full : Nat) (b_Over : Nat) (b_Cars : List (Car)) (m_Phases : List (Int)) (m_Flags : List (Bool)) (m_Leaving : List (Bool)) (m_Entries : List (Entry)) : Option ((Bool × Unit) × Unit) :=
  let z0 : Int := ((List.length b_Cars : Nat) : Int)
  (F_building_Valid b_Floors b_Debounce b_Room b_Park b_Empty b_Full b_Over b_Cars).bind fun y1 =>
  bif (y1.1.1 != (0 : Int)) then
    some ((false, ()), ())
  else
    bif (((List.length m_Phases : Nat) : Int) != z0) then
      some ((false, ()), ())
    else
      bif (((List.length m_Flags : Nat) : Int) != z0) then
        some ((false, ()), ())
      else
        bif (((List.length m_Leaving : Nat) : Int) != z0) then
          some ((false, ()), ())
        else
          (L_log_IsImage_0 (((), (), m_Phases, ((List.length m_Phases : Nat) : Int), (0 : Int), ()), ((b_Floors, b_Debounce, b_Room, b_Park, b_Empty, b_Full, b_Over, b_Cars, ()), (m_Phases, m_Flags, m_Leaving, m_Entries, ()), ()))).bind fun y2 =>
          (match y2 with
          | .inl y3 =>
            (L_log_IsImage_1 (((), (), y3.2.2.1.2.2.2.1, ((List.length y3.2.2.1.2.2.2.1 : Nat) : Int), (0 : Int), ()), ((y3.2.1.1, y3.2.1.2.1, y3.2.1.2.2.1, y3.2.1.2.2.2.1, y3.2.1.2.2.2.2.1, y3.2.1.2.2.2.2.2.1, y3.2.1.2.2.2.2.2.2.1, y3.2.1.2.2.2.2.2.2.2.1, ()), (y3.2.2.1.1, y3.2.2.1.2.1, y3.2.2.1.2.2.1, y3.2.2.1.2.2.2.1, ()), ()))).bind fun y4 =>
            (match y4 with
            | .inl y5 =>
              some ((true, ()), ())
            | .inr y5 =>
              some ((y5.1.1, ()), ()))
          | .inr y3 =>
            some ((y3.1.1, ()), ()))
/-! ### overlay/assign.Plan$1 -/
noncomputable def F_assign_Plan_1 (n : Int) : Option ((Bool × Unit) × Unit) :=
  Option.bind (bif (decide (n < (0 : Int))) then
        some ((true, ()), ())
      else
        some (((decide ((1000000 : Int) < n)), ()), ())) fun y1 =>
  some ((y1.1.1, ()), ())
/-! ### slices.IndexFunc[[]int,int] -/
noncomputable def R_slices_IndexFunc_sl_int_int_assign_Plan_1_0 (s : List (Int)) (s7 : Int) (s8 : Int) : Option (Sum ((List (Int) × Unit × Int × Int × Unit) × Unit) ((Unit × Unit) ⊕ ((Int × Unit) × Unit))) :=
  bif (decide (s8 < s7)) then
    bif (Go.Ab.inB s8 (List.length s)) then
      (F_assign_Plan_1 (List.getD s (Int.toNat s8) (0 : Int))).bind fun y1 =>
      bif y1.1.1 then
        some (Sum.inr (Sum.inr ((s8, ()), ())))
      else
        some (Sum.inl ((s, (), s7, (Go.IntKind.wrap Go.IntKind.i64 (s8 + (1 : Int))), ()), ()))
    else
      none
  else
    some (Sum.inr (Sum.inl ((), ())))
noncomputable def L_slices_IndexFunc_sl_int_int_assign_Plan_1_0 : ((List (Int) × Unit × Int × Int × Unit) × Unit) → Option ((Unit × Unit) ⊕ ((Int × Unit) × Unit)) := iter (fun x => R_slices_IndexFunc_sl_int_int_assign_Plan_1_0 x.1.1 x.1.2.2.1 x.1.2.2.2.1) fuel
noncomputable def F_slices_IndexFunc_sl_int_int_assign_Plan_1 (s : List (Int)) : Option ((Int × Unit) × Unit) :=
  (L_slices_IndexFunc_sl_int_int_assign_Plan_1_0 ((s, (), ((List.length s : Nat) : Int), (0 : Int), ()), ())).bind fun y1 =>
  (match y1 with
  | .inl y2 =>
    some (((-1 : Int), ()), ())
  | .inr y2 =>
    some ((y2.1.1, ()), ()))
/-! ### slices.ContainsFunc[[]int,int] -/
noncomputable def F_slices_ContainsFunc_sl_int_int_assign_Plan_1 (s : List (Int)) : Option ((Bool × Unit) × Unit) :=
  (F_slices_IndexFunc_sl_int_int_assign_Plan_1 s).bind fun y1 =>
  some (((decide ((0 : Int) ≤ y1.1.1)), ()), ())
/-! ### overlay/cost.isFloors -/
noncomputable def F_cost_isFloors (floors : Int) : Option ((Bool × Unit) × Unit) :=
  Option.bind (bif (decide ((2 : Int) ≤ floors)) then
        some (((decide (floors ≤ (32 : Int))), ()), ())
      else
        some ((false, ()), ())) fun y1 =>
  some ((y1.1.1, ()), ())
/-! ### overlay/cost.isCall -/
noncomputable def F_cost_isCall (floors : Int) (floor : Int) (dir : Int) : Option ((Bool × Unit) × Unit) :=
  Option.bind (bif (dir == (1 : Int)) then
        bif (decide ((0 : Int) ≤ floor)) then
          bif (decide (floor < (Go.IntKind.wrap Go.IntKind.i64 (floors - (1 : Int))))) then
            some ((true, ()), ())
          else
            bif (dir == (2 : Int)) then
              bif (decide ((0 : Int) < floor)) then
                some (((decide (floor < floors)), ()), ())
              else
                some ((false, ()), ())
            else
              some ((false, ()), ())
        else
          bif (dir == (2 : Int)) then
            bif (decide ((0 : Int) < floor)) then
              some (((decide (floor < floors)), ()), ())
            else
              some ((false, ()), ())
          else
            some ((false, ()), ())
      else
        bif (dir == (2 : Int)) then
          bif (decide ((0 : Int) < floor)) then
            some (((decide (floor < floors)), ()), ())
          else
            some ((false, ()), ())
        else
          some ((false, ()), ())) fun y1 =>
  some ((y1.1.1, ()), ())
/-! ### overlay/calls.Both -/
noncomputable def F_calls_Both (a_Up : Int) (a_Down : Int) (b_Up : Int) (b_Down : Int) : Option ((Unit × Unit) × ((Int × Int × Unit) × Unit)) :=
  some (((), ()), (((Go.IntKind.wrap Go.IntKind.u32 (Go.Ab.stk a_Up b_Up (BitVec.toNat ((BitVec.ofInt (Go.IntKind.bits Go.IntKind.u32) a_Up) &&& (BitVec.ofInt (Go.IntKind.bits Go.IntKind.u32) b_Up))))), (Go.IntKind.wrap Go.IntKind.u32 (Go.Ab.stk a_Down b_Down (BitVec.toNat ((BitVec.ofInt (Go.IntKind.bits Go.IntKind.u32) a_Down) &&& (BitVec.ofInt (Go.IntKind.bits Go.IntKind.u32) b_Down))))), ()), ()))
/-! ### overlay/cost.counted -/
noncomputable def F_cost_counted (floors : Int) (s_Car : Int) (s_Hall_Up : Int) (s_Hall_Down : Int) : Option ((Unit × Unit) × ((Int × Int × Int × Unit) × Unit)) :=
  bif (decide ((0 : Int) ≤ floors)) then
    let z0 : Int := (Go.IntKind.wrap Go.IntKind.u32 ((Go.IntKind.wrap Go.IntKind.u32 ((1 : Int) * ((2 : Int) ^ (Min.min (Int.toNat floors) (Go.IntKind.bits Go.IntKind.u32))))) - (1 : Int)))
    (F_calls_Both s_Hall_Up s_Hall_Down (Int.fdiv z0 ((2 : Int) ^ (Min.min (Int.toNat (1 : Int)) (Go.IntKind.bits Go.IntKind.u32)))) (Go.IntKind.wrap Go.IntKind.u32 (Go.Ab.stk z0 (1 : Int) (BitVec.toNat ((BitVec.ofInt (Go.IntKind.bits Go.IntKind.u32) z0) &&& (~~~ (BitVec.ofInt (Go.IntKind.bits Go.IntKind.u32) (1 : Int)))))))).bind fun y1 =>
    some (((), ()), (((Go.IntKind.wrap Go.IntKind.u32 (Go.Ab.stk s_Car z0 (BitVec.toNat ((BitVec.ofInt (Go.IntKind.bits Go.IntKind.u32) s_Car) &&& (BitVec.ofInt (Go.IntKind.bits Go.IntKind.u32) z0))))), y1.2.1.1, y1.2.1.2.1, ()), ()))
  else
    none
/-! ### math/bits.TrailingZeros32 -/
noncomputable def F_bits_TrailingZeros32 (x_1 : Int) : Option ((Int × Unit) × Unit) :=
  bif (x_1 == (0 : Int)) then
    some (((32 : Int), ()), ())
  else
    let z0 : Int := (Go.IntKind.wrap Go.IntKind.u32 ((0 : Int) - x_1))
    let z1 : Int := (Int.fdiv (Go.IntKind.wrap Go.IntKind.u32 ((Go.IntKind.wrap Go.IntKind.u32 (Go.Ab.stk x_1 z0 (BitVec.toNat ((BitVec.ofInt (Go.IntKind.bits Go.IntKind.u32) x_1) &&& (BitVec.ofInt (Go.IntKind.bits Go.IntKind.u32) z0))))) * (125613361 : Int))) ((2 : Int) ^ (Min.min (Int.toNat (27 : Int)) (Go.IntKind.bits Go.IntKind.u32))))
    bif (Go.Ab.inB z1 32) then
      some (((Go.IntKind.wrap Go.IntKind.i64 (List.getD [(0 : Int), (1 : Int), (28 : Int), (2 : Int), (29 : Int), (14 : Int), (24 : Int), (3 : Int), (30 : Int), (22 : Int), (20 : Int), (15 : Int), (25 : Int), (17 : Int), (4 : Int), (8 : Int), (31 : Int), (27 : Int), (13 : Int), (23 : Int), (21 : Int), (19 : Int), (16 : Int), (7 : Int), (26 : Int), (12 : Int), (18 : Int), (6 : Int), (11 : Int), (5 : Int), (10 : Int), (9 : Int)] (Int.toNat z1) (0 : Int))), ()), ())
    else
      none
/-! ### math/bits.Len32 -/
noncomputable def F_bits_Len32 (x_1 : Int) : Option ((Int × Unit) × Unit) :=
  Option.bind (bif (decide ((65536 : Int) ≤ x_1)) then
        some (((Int.fdiv x_1 ((2 : Int) ^ (Min.min (Int.toNat (16 : Int)) (Go.IntKind.bits Go.IntKind.u32)))), (16 : Int), ()), ())
      else
        some ((x_1, (0 : Int), ()), ())) fun y1 =>
  Option.bind (bif (decide ((256 : Int) ≤ y1.1.1)) then
        some (((Int.fdiv y1.1.1 ((2 : Int) ^ (Min.min (Int.toNat (8 : Int)) (Go.IntKind.bits Go.IntKind.u32)))), (Go.IntKind.wrap Go.IntKind.i64 (y1.1.2.1 + (8 : Int))), ()), ())
      else
        some ((y1.1.1, y1.1.2.1, ()), ())) fun y2 =>
  let z0 : Int := (Go.IntKind.wrap Go.IntKind.u8 y2.1.1)
  bif (Go.Ab.inB z0 (ByteArray.size (ByteArray.mk (Array.mk [(0 : UInt8), (1 : UInt8), (2 : UInt8), (2 : UInt8), (3 : UInt8), (3 : UInt8), (3 : UInt8), (3 : UInt8), (4 : UInt8), (4 : UInt8), (4 : UInt8), (4 : UInt8), (4 : UInt8), (4 : UInt8), (4 : UInt8), (4 : UInt8), (5 : UInt8), (5 : UInt8), (5 : UInt8), (5 : UInt8), (5 : UInt8), (5 : UInt8), (5 : UInt8), (5 : UInt8), (5 : UInt8), (5 : UInt8), (5 : UInt8), (5 : UInt8), (5 : UInt8), (5 : UInt8), (5 : UInt8), (5 : UInt8), (6 : UInt8), (6 : UInt8), (6 : UInt8), (6 : UInt8), (6 : UInt8), (6 : UInt8), (6 : UInt8), (6 : UInt8), (6 : UInt8), (6 : UInt8), (6 : UInt8), (6 : UInt8), (6 : UInt8), (6 : UInt8), (6 : UInt8), (6 : UInt8), (6 : UInt8), (6 : UInt8), (6 : UInt8), (6 : UInt8), (6 : UInt8), (6 : UInt8), (6 : UInt8), (6 : UInt8), (6 : UInt8), (6 : UInt8), (6 : UInt8), (6 : UInt8), (6 : UInt8), (6 : UInt8), (6 : UInt8), (6 : UInt8), (7 : UInt8), (7 : UInt8), (7 : UInt8), (7 : UInt8), (7 : UInt8), (7 : UInt8), (7 : UInt8), (7 : UInt8), (7 : UInt8), (7 : UInt8), (7 : UInt8), (7 : UInt8), (7 : UInt8), (7 : UInt8), (7 : UInt8), (7 : UInt8), (7 : UInt8), (7 : UInt8), (7 : UInt8), (7 : UInt8), (7 : UInt8), (7 : UInt8), (7 : UInt8), (7 : UInt8), (7 : UInt8), (7 : UInt8), (7 : UInt8), (7 : UInt8), (7 : UInt8), (7 : UInt8), (7 : UInt8), (7 : UInt8), (7 : UInt8), (7 : UInt8), (7 : UInt8), (7 : UInt8), (7 : UInt8), (7 : UInt8), (7 : UInt8), (7 : UInt8), (7 : UInt8), (7 : UInt8), (7 : UInt8), (7 : UInt8), (7 : UInt8), (7 : UInt8), (7 : UInt8), (7 : UInt8), (7 : UInt8), (7 : UInt8), (7 : UInt8), (7 : UInt8), (7 : UInt8), (7 : UInt8), (7 : UInt8), (7 : UInt8), (7 : UInt8), (7 : UInt8), (7 : UInt8), (7 : UInt8), (7 : UInt8), (7 : UInt8), (7 : UInt8), (7 : UInt8), (8 : UInt8), (8 : UInt8), (8 : UInt8), (8 : UInt8), (8 : UInt8), (8 : UInt8), (8 : UInt8), (8 : UInt8), (8 : UInt8), (8 : UInt8), (8 : UInt8), (8 : UInt8), (8 : UInt8), (8 : UInt8), (8 : UInt8), (8 : UInt8), (8 : UInt8), (8 : UInt8), (8 : UInt8), (8 : UInt8), (8 : UInt8), (8 : UInt8), (8 : UInt8), (8 : UInt8), (8 : UInt8), (8 : UInt8), (8 : UInt8), (8 : UInt8), (8 : UInt8), (8 : UInt8), (8 : UInt8), (8 : UInt8), (8 : UInt8), (8 : UInt8), (8 : UInt8), (8 : UInt8), (8 : UInt8), (8 : UInt8), (8 : UInt8), (8 : UInt8), (8 : UInt8), (8 : UInt8), (8 : UInt8), (8 : UInt8), (8 : UInt8), (8 : UInt8), (8 : UInt8), (8 : UInt8), (8 : UInt8), (8 : UInt8), (8 : UInt8), (8 : UInt8), (8 : UInt8), (8 : UInt8), (8 : UInt8), (8 : UInt8), (8 : UInt8), (8 : UInt8), (8 : UInt8), (8 : UInt8), (8 : UInt8), (8 : UInt8), (8 : UInt8), (8 : UInt8), (8 : UInt8), (8 : UInt8), (8 : UInt8), (8 : UInt8), (8 : UInt8), (8 : UInt8), (8 : UInt8), (8 : UInt8), (8 : UInt8), (8 : UInt8), (8 : UInt8), (8 : UInt8), (8 : UInt8), (8 : UInt8), (8 : UInt8), (8 : UInt8), (8 : UInt8), (8 : UInt8), (8 : UInt8), (8 : UInt8), (8 : UInt8), (8 : UInt8), (8 : UInt8), (8 : UInt8), (8 : UInt8), (8 : UInt8), (8 : UInt8), (8 : UInt8), (8 : UInt8), (8 : UInt8), (8 : UInt8), (8 : UInt8), (8 : UInt8), (8 : UInt8), (8 : UInt8), (8 : UInt8), (8 : UInt8), (8 : UInt8), (8 : UInt8), (8 : UInt8), (8 : UInt8), (8 : UInt8), (8 : UInt8), (8 : UInt8), (8 : UInt8), (8 : UInt8), (8 : UInt8), (8 : UInt8), (8 : UInt8), (8 : UInt8), (8 : UInt8), (8 : UInt8), (8 : UInt8), (8 : UInt8), (8 : UInt8), (8 : UInt8), (8 : UInt8), (8 : UInt8), (8 : UInt8), (8 : UInt8), (8 : UInt8), (8 : UInt8), (8 : UInt8), (8 : UInt8)])))) then
    some (((Go.IntKind.wrap Go.IntKind.i64 (y2.1.2.1 + (Go.IntKind.wrap Go.IntKind.i64 (Go.Ab.byteAt (ByteArray.mk (Array.mk [(0 : UInt8), (1 : UInt8), (2 : UInt8), (2 : UInt8), (3 : UInt8), (3 : UInt8), (3 : UInt8), (3 : UInt8), (4 : UInt8), (4 : UInt8), (4 : UInt8), (4 : UInt8), (4 : UInt8), (4 : UInt8), (4 : UInt8), (4 : UInt8), (5 : UInt8), (5 : UInt8), (5 : UInt8), (5 : UInt8), (5 : UInt8), (5 : UInt8), (5 : UInt8), (5 : UInt8), (5 : UInt8), (5 : UInt8), (5 : UInt8), (5 : UInt8), (5 : UInt8), (5 : UInt8), (5 : UInt8), (5 : UInt8), (6 : UInt8), (6 : UInt8), (6 : UInt8), (6 : UInt8), (6 : UInt8), (6 : UInt8), (6 : UInt8), (6 : UInt8), (6 : UInt8), (6 : UInt8), (6 : UInt8), (6 : UInt8), (6 : UInt8), (6 : UInt8), (6 : UInt8), (6 : UInt8), (6 : UInt8), (6 : UInt8), (6 : UInt8), (6 : UInt8), (6 : UInt8), (6 : UInt8), (6 : UInt8), (6 : UInt8), (6 : UInt8), (6 : UInt8), (6 : UInt8), (6 : UInt8), (6 : UInt8), (6 : UInt8), (6 : UInt8), (6 : UInt8), (7 : UInt8), (7 : UInt8), (7 : UInt8), (7 : UInt8), (7 : UInt8), (7 : UInt8), (7 : UInt8), (7 : UInt8), (7 : UInt8), (7 : UInt8), (7 : UInt8), (7 : UInt8), (7 : UInt8), (7 : UInt8), (7 : UInt8), (7 : UInt8), (7 : UInt8), (7 : UInt8), (7 : UInt8), (7 : UInt8), (7 : UInt8), (7 : UInt8), (7 : UInt8), (7 : UInt8), (7 : UInt8), (7 : UInt8), (7 : UInt8), (7 : UInt8), (7 : UInt8), (7 : UInt8), (7 : UInt8), (7 : UInt8), (7 : UInt8), (7 : UInt8), (7 : UInt8), (7 : UInt8), (7 : UInt8), (7 : UInt8), (7 : UInt8), (7 : UInt8), (7 : UInt8), (7 : UInt8), (7 : UInt8), (7 : UInt8), (7 : UInt8), (7 : UInt8), (7 : UInt8), (7 : UInt8), (7 : UInt8), (7 : UInt8), (7 : UInt8), (7 : UInt8), (7 : UInt8), (7 : UInt8), (7 : UInt8), (7 : UInt8), (7 : UInt8), (7 : UInt8), (7 : UInt8), (7 : UInt8), (7 : UInt8), (7 : UInt8), (7 : UInt8), (7 : UInt8), (8 : UInt8), (8 : UInt8), (8 : UInt8), (8 : UInt8), (8 : UInt8), (8 : UInt8), (8 : UInt8), (8 : UInt8), (8 : UInt8), (8 : UInt8), (8 : UInt8), (8 : UInt8), (8 : UInt8), (8 : UInt8), (8 : UInt8), (8 : UInt8), (8 : UInt8), (8 : UInt8), (8 : UInt8), (8 : UInt8), (8 : UInt8), (8 : UInt8), (8 : UInt8), (8 : UInt8), (8 : UInt8), (8 : UInt8), (8 : UInt8), (8 : UInt8), (8 : UInt8), (8 : UInt8), (8 : UInt8), (8 : UInt8), (8 : UInt8), (8 : UInt8), (8 : UInt8), (8 : UInt8), (8 : UInt8), (8 : UInt8), (8 : UInt8), (8 : UInt8), (8 : UInt8), (8 : UInt8), (8 : UInt8), (8 : UInt8), (8 : UInt8), (8 : UInt8), (8 : UInt8), (8 : UInt8), (8 : UInt8), (8 : UInt8), (8 : UInt8), (8 : UInt8), (8 : UInt8), (8 : UInt8), (8 : UInt8), (8 : UInt8), (8 : UInt8), (8 : UInt8), (8 : UInt8), (8 : UInt8), (8 : UInt8), (8 : UInt8), (8 : UInt8), (8 : UInt8), (8 : UInt8), (8 : UInt8), (8 : UInt8), (8 : UInt8), (8 : UInt8), (8 : UInt8), (8 : UInt8), (8 : UInt8), (8 : UInt8), (8 : UInt8), (8 : UInt8), (8 : UInt8), (8 : UInt8), (8 : UInt8), (8 : UInt8), (8 : UInt8), (8 : UInt8), (8 : UInt8), (8 : UInt8), (8 : UInt8), (8 : UInt8), (8 : UInt8), (8 : UInt8), (8 : UInt8), (8 : UInt8), (8 : UInt8), (8 : UInt8), (8 : UInt8), (8 : UInt8), (8 : UInt8), (8 : UInt8), (8 : UInt8), (8 : UInt8), (8 : UInt8), (8 : UInt8), (8 : UInt8), (8 : UInt8), (8 : UInt8), (8 : UInt8), (8 : UInt8), (8 : UInt8), (8 : UInt8), (8 : UInt8), (8 : UInt8), (8 : UInt8), (8 : UInt8), (8 : UInt8), (8 : UInt8), (8 : UInt8), (8 : UInt8), (8 : UInt8), (8 : UInt8), (8 : UInt8), (8 : UInt8), (8 : UInt8), (8 : UInt8), (8 : UInt8), (8 : UInt8), (8 : UInt8), (8 : UInt8), (8 : UInt8), (8 : UInt8), (8 : UInt8), (8 : UInt8)])) (Int.toNat z0))))), ()), ())
  else
    none
/-! ### overlay/cost.Path$1 -/
noncomputable def R_cost_Path_1_h64a48_0 (n : Int) (at_1 : Int) (s13 : List (Int)) (s14 : Int) (s15 : Int) (b0 : Int) (b1 : Int) : Option (Sum ((Int × Int × List (Int) × Int × Int × Unit) × ((Int × Unit) × (Int × Unit) × Unit)) ((Int × Unit) × ((Int × Unit) × (Int × Unit) × Unit))) :=
  bif (decide (s15 < s14)) then
    bif (Go.Ab.inB s15 (List.length s13)) then
      let z0 : Int := (List.getD s13 (Int.toNat s15) (0 : Int))
      let z1 : Int := (Go.IntKind.wrap Go.IntKind.i64 (z0 - at_1))
      let z2 : Int := (Go.IntKind.wrap Go.IntKind.i64 (at_1 - z0))
      some (Sum.inl (((Go.IntKind.wrap Go.IntKind.i64 (n + (bif (decide (z1 < z2)) then z2 else z1))), z0, s13, s14, (Go.IntKind.wrap Go.IntKind.i64 (s15 + (1 : Int))), ()), ((b0, ()), (b1, ()), ())))
    else
      none
  else
    some (Sum.inr ((n, ()), ((b0, ()), (b1, ()), ())))
noncomputable def L_cost_Path_1_h64a48_0 : ((Int × Int × List (Int) × Int × Int × Unit) × ((Int × Unit) × (Int × Unit) × Unit)) → Option ((Int × Unit) × ((Int × Unit) × (Int × Unit) × Unit)) := iter (fun x => R_cost_Path_1_h64a48_0 x.1.1 x.1.2.1 x.1.2.2.1 x.1.2.2.2.1 x.1.2.2.2.2.1 x.2.1.1 x.2.2.1.1) fuel
noncomputable def F_cost_Path_1_h64a48 (by_1 : List (Int)) (b0 : Int) (b1 : Int) : Option ((Int × Unit) × ((Int × Unit) × (Int × Unit) × Unit)) :=
  let z0 : List (Int) := [b1]
  bif (Nat.ble ((List.length by_1) + (List.length z0)) 2147483648) then
    let z1 : List (Int) := (by_1 ++ z0)
    (L_cost_Path_1_h64a48_0 (((0 : Int), b0, z1, ((List.length z1 : Nat) : Int), (0 : Int), ()), ((b0, ()), (b1, ()), ()))).bind fun y1 =>
    some ((y1.1.1, ()), ((y1.2.1.1, ()), (y1.2.2.1.1, ()), ()))
  else
    none
/-! ### overlay/cost.Path -/
noncomputable def F_cost_Path (floors : Int) (from_1 : Int) (sweep : Int) (s_Car : Int) (s_Hall_Up : Int) (s_Hall_Down : Int) (floor : Int) (dir : Int) : Option ((Int × Unit) × Unit) :=
  (F_cost_isFloors floors).bind fun y1 =>
  bif (!y1.1.1) then
    some (((-1 : Int), ()), ())
  else
    bif (decide (from_1 < (0 : Int))) then
      some (((-1 : Int), ()), ())
    else
      bif (decide (floors ≤ from_1)) then
        some (((-1 : Int), ()), ())
      else
        bif (decide (sweep < (0 : Int))) then
          some (((-1 : Int), ()), ())
        else
          bif (decide ((2 : Int) < sweep)) then
            some (((-1 : Int), ()), ())
          else
            (F_cost_isCall floors floor dir).bind fun y2 =>
            bif (!y2.1.1) then
              some (((-1 : Int), ()), ())
            else
              (F_cost_counted floors s_Car s_Hall_Up s_Hall_Down).bind fun y3 =>
              let z0 : Int := (Go.IntKind.wrap Go.IntKind.u32 (Go.Ab.stk y3.2.1.1 y3.2.1.2.1 (BitVec.toNat ((BitVec.ofInt (Go.IntKind.bits Go.IntKind.u32) y3.2.1.1) ||| (BitVec.ofInt (Go.IntKind.bits Go.IntKind.u32) y3.2.1.2.1)))))
              let z1 : Int := (Go.IntKind.wrap Go.IntKind.u32 (Go.Ab.stk z0 y3.2.1.2.2.1 (BitVec.toNat ((BitVec.ofInt (Go.IntKind.bits Go.IntKind.u32) z0) ||| (BitVec.ofInt (Go.IntKind.bits Go.IntKind.u32) y3.2.1.2.2.1)))))
              bif (decide ((0 : Int) ≤ from_1)) then
                let z2 : Int := (Go.IntKind.wrap Go.IntKind.u32 ((1 : Int) * ((2 : Int) ^ (Min.min (Int.toNat from_1) (Go.IntKind.bits Go.IntKind.u32)))))
                let z3 : Int := (Go.IntKind.wrap Go.IntKind.u32 (Go.Ab.stk z1 z2 (BitVec.toNat ((BitVec.ofInt (Go.IntKind.bits Go.IntKind.u32) z1) ||| (BitVec.ofInt (Go.IntKind.bits Go.IntKind.u32) z2)))))
                bif (decide ((0 : Int) ≤ floor)) then
                  let z4 : Int := (Go.IntKind.wrap Go.IntKind.u32 ((1 : Int) * ((2 : Int) ^ (Min.min (Int.toNat floor) (Go.IntKind.bits Go.IntKind.u32)))))
                  let z5 : Int := (Go.IntKind.wrap Go.IntKind.u32 (Go.Ab.stk z3 z4 (BitVec.toNat ((BitVec.ofInt (Go.IntKind.bits Go.IntKind.u32) z3) ||| (BitVec.ofInt (Go.IntKind.bits Go.IntKind.u32) z4)))))
                  (F_bits_TrailingZeros32 z5).bind fun y4 =>
                  (F_bits_Len32 z5).bind fun y5 =>
                  let z6 : Int := (Go.IntKind.wrap Go.IntKind.i64 (y5.1.1 - (1 : Int)))
                  Option.bind (bif (sweep == (1 : Int)) then
                        bif (decide (from_1 ≤ floor)) then
                          some ((sweep, dir, y4.1.1, z6, (), true, ()), ((from_1, ()), (floor, ()), ()))
                        else
                          bif (sweep == (2 : Int)) then
                            some ((sweep, dir, y4.1.1, z6, (), (decide (floor ≤ from_1)), ()), ((from_1, ()), (floor, ()), ()))
                          else
                            some ((sweep, dir, y4.1.1, z6, (), false, ()), ((from_1, ()), (floor, ()), ()))
                      else
                        bif (sweep == (2 : Int)) then
                          some ((sweep, dir, y4.1.1, z6, (), (decide (floor ≤ from_1)), ()), ((from_1, ()), (floor, ()), ()))
                        else
                          some ((sweep, dir, y4.1.1, z6, (), false, ()), ((from_1, ()), (floor, ()), ()))) fun y6 =>
                  Option.bind (bif (y6.1.1 == (0 : Int)) then
                        some ((y6.1.1, y6.1.2.1, y6.1.2.2.1, y6.1.2.2.2.1, (), true, ()), ((y6.2.1.1, ()), (y6.2.2.1.1, ()), ()))
                      else
                        bif (y6.1.1 == y6.1.2.1) then
                          some ((y6.1.1, y6.1.2.1, y6.1.2.2.1, y6.1.2.2.2.1, (), y6.1.2.2.2.2.2.1, ()), ((y6.2.1.1, ()), (y6.2.2.1.1, ()), ()))
                        else
                          some ((y6.1.1, y6.1.2.1, y6.1.2.2.1, y6.1.2.2.2.1, (), false, ()), ((y6.2.1.1, ()), (y6.2.2.1.1, ()), ()))) fun y7 =>
                  bif y7.1.2.2.2.2.2.1 then
                    (F_cost_Path_1_h64a48 [] y7.2.1.1 y7.2.2.1.1).bind fun y8 =>
                    some ((y8.1.1, ()), ())
                  else
                    Option.bind (bif (y7.1.1 != y7.1.2.1) then
                          some ((y7.1.1, y7.1.2.1, y7.1.2.2.1, y7.1.2.2.2.1, (), (y7.1.1 == (1 : Int)), ()), ((y7.2.1.1, ()), (y7.2.2.1.1, ()), ()))
                        else
                          some ((y7.1.1, y7.1.2.1, y7.1.2.2.1, y7.1.2.2.2.1, (), false, ()), ((y7.2.1.1, ()), (y7.2.2.1.1, ()), ()))) fun y9 =>
                    bif y9.1.2.2.2.2.2.1 then
                      (F_cost_Path_1_h64a48 [y9.1.2.2.2.1] y9.2.1.1 y9.2.2.1.1).bind fun y10 =>
                      some ((y10.1.1, ()), ())
                    else
                      bif (y9.1.1 != y9.1.2.1) then
                        (F_cost_Path_1_h64a48 [y9.1.2.2.1] y9.2.1.1 y9.2.2.1.1).bind fun y11 =>
                        some ((y11.1.1, ()), ())
                      else
                        bif (y9.1.1 == (1 : Int)) then
                          (F_cost_Path_1_h64a48 [y9.1.2.2.2.1, y9.1.2.2.1] y9.2.1.1 y9.2.2.1.1).bind fun y12 =>
                          some ((y12.1.1, ()), ())
                        else
                          (F_cost_Path_1_h64a48 [y9.1.2.2.1, y9.1.2.2.2.1] y9.2.1.1 y9.2.2.1.1).bind fun y13 =>
                          some ((y13.1.1, ()), ())
                else
                  none
              else
                none
/-! ### math/bits.OnesCount32 -/
noncomputable def F_bits_OnesCount32 (x_1 : Int) : Option ((Int × Unit) × Unit) :=
  let z0 : Int := (Int.fdiv x_1 ((2 : Int) ^ (Min.min (Int.toNat (24 : Int)) (Go.IntKind.bits Go.IntKind.u32))))
  bif (Go.Ab.inB z0 (ByteArray.size (ByteArray.mk (Array.mk [(0 : UInt8), (1 : UInt8), (1 : UInt8), (2 : UInt8), (1 : UInt8), (2 : UInt8), (2 : UInt8), (3 : UInt8), (1 : UInt8), (2 : UInt8), (2 : UInt8), (3 : UInt8), (2 : UInt8), (3 : UInt8), (3 : UInt8), (4 : UInt8), (1 : UInt8), (2 : UInt8), (2 : UInt8), (3 : UInt8), (2 : UInt8), (3 : UInt8), (3 : UInt8), (4 : UInt8), (2 : UInt8), (3 : UInt8), (3 : UInt8), (4 : UInt8), (3 : UInt8), (4 : UInt8), (4 : UInt8), (5 : UInt8), (1 : UInt8), (2 : UInt8), (2 : UInt8), (3 : UInt8), (2 : UInt8), (3 : UInt8), (3 : UInt8), (4 : UInt8), (2 : UInt8), (3 : UInt8), (3 : UInt8), (4 : UInt8), (3 : UInt8), (4 : UInt8), (4 : UInt8), (5 : UInt8), (2 : UInt8), (3 : UInt8), (3 : UInt8), (4 : UInt8), (3 : UInt8), (4 : UInt8), (4 : UInt8), (5 : UInt8), (3 : UInt8), (4 : UInt8), (4 : UInt8), (5 : UInt8), (4 : UInt8), (5 : UInt8), (5 : UInt8), (6 : UInt8), (1 : UInt8), (2 : UInt8), (2 : UInt8), (3 : UInt8), (2 : UInt8), (3 : UInt8), (3 : UInt8), (4 : UInt8), (2 : UInt8), (3 : UInt8), (3 : UInt8), (4 : UInt8), (3 : UInt8), (4 : UInt8), (4 : UInt8), (5 : UInt8), (2 : UInt8), (3 : UInt8), (3 : UInt8), (4 : UInt8), (3 : UInt8), (4 : UInt8), (4 : UInt8), (5 : UInt8), (3 : UInt8), (4 : UInt8), (4 : UInt8), (5 : UInt8), (4 : UInt8), (5 : UInt8), (5 : UInt8), (6 : UInt8), (2 : UInt8), (3 : UInt8), (3 : UInt8), (4 : UInt8), (3 : UInt8), (4 : UInt8), (4 : UInt8), (5 : UInt8), (3 : UInt8), (4 : UInt8), (4 : UInt8), (5 : UInt8), (4 : UInt8), (5 : UInt8), (5 : UInt8), (6 : UInt8), (3 : UInt8), (4 : UInt8), (4 : UInt8), (5 : UInt8), (4 : UInt8), (5 : UInt8), (5 : UInt8), (6 : UInt8), (4 : UInt8), (5 : UInt8), (5 : UInt8), (6 : UInt8), (5 : UInt8), (6 : UInt8), (6 : UInt8), (7 : UInt8), (1 : UInt8), (2 : UInt8), (2 : UInt8), (3 : UInt8), (2 : UInt8), (3 : UInt8), (3 : UInt8), (4 : UInt8), (2 : UInt8), (3 : UInt8), (3 : UInt8), (4 : UInt8), (3 : UInt8), (4 : UInt8), (4 : UInt8), (5 : UInt8), (2 : UInt8), (3 : UInt8), (3 : UInt8), (4 : UInt8), (3 : UInt8), (4 : UInt8), (4 : UInt8), (5 : UInt8), (3 : UInt8), (4 : UInt8), (4 : UInt8), (5 : UInt8), (4 : UInt8), (5 : UInt8), (5 : UInt8), (6 : UInt8), (2 : UInt8), (3 : UInt8), (3 : UInt8), (4 : UInt8), (3 : UInt8), (4 : UInt8), (4 : UInt8), (5 : UInt8), (3 : UInt8), (4 : UInt8), (4 : UInt8), (5 : UInt8), (4 : UInt8), (5 : UInt8), (5 : UInt8), (6 : UInt8), (3 : UInt8), (4 : UInt8), (4 : UInt8), (5 : UInt8), (4 : UInt8), (5 : UInt8), (5 : UInt8), (6 : UInt8), (4 : UInt8), (5 : UInt8), (5 : UInt8), (6 : UInt8), (5 : UInt8), (6 : UInt8), (6 : UInt8), (7 : UInt8), (2 : UInt8), (3 : UInt8), (3 : UInt8), (4 : UInt8), (3 : UInt8), (4 : UInt8), (4 : UInt8), (5 : UInt8), (3 : UInt8), (4 : UInt8), (4 : UInt8), (5 : UInt8), (4 : UInt8), (5 : UInt8), (5 : UInt8), (6 : UInt8), (3 : UInt8), (4 : UInt8), (4 : UInt8), (5 : UInt8), (4 : UInt8), (5 : UInt8), (5 : UInt8), (6 : UInt8), (4 : UInt8), (5 : UInt8), (5 : UInt8), (6 : UInt8), (5 : UInt8), (6 : UInt8), (6 : UInt8), (7 : UInt8), (3 : UInt8), (4 : UInt8), (4 : UInt8), (5 : UInt8), (4 : UInt8), (5 : UInt8), (5 : UInt8), (6 : UInt8), (4 : UInt8), (5 : UInt8), (5 : UInt8), (6 : UInt8), (5 : UInt8), (6 : UInt8), (6 : UInt8), (7 : UInt8), (4 : UInt8), (5 : UInt8), (5 : UInt8), (6 : UInt8), (5 : UInt8), (6 : UInt8), (6 : UInt8), (7 : UInt8), (5 : UInt8), (6 : UInt8), (6 : UInt8), (7 : UInt8), (6 : UInt8), (7 : UInt8), (7 : UInt8), (8 : UInt8)])))) then
    let z1 : Int := (Int.fdiv x_1 ((2 : Int) ^ (Min.min (Int.toNat (16 : Int)) (Go.IntKind.bits Go.IntKind.u32))))
    let z2 : Int := (Go.IntKind.wrap Go.IntKind.u32 (Go.Ab.stk z1 (255 : Int) (BitVec.toNat ((BitVec.ofInt (Go.IntKind.bits Go.IntKind.u32) z1) &&& (BitVec.ofInt (Go.IntKind.bits Go.IntKind.u32) (255 : Int))))))
    bif (Go.Ab.inB z2 (ByteArray.size (ByteArray.mk (Array.mk [(0 : UInt8), (1 : UInt8), (1 : UInt8), (2 : UInt8), (1 : UInt8), (2 : UInt8), (2 : UInt8), (3 : UInt8), (1 : UInt8), (2 : UInt8), (2 : UInt8), (3 : UInt8), (2 : UInt8), (3 : UInt8), (3 : UInt8), (4 : UInt8), (1 : UInt8), (2 : UInt8), (2 : UInt8), (3 : UInt8), (2 : UInt8), (3 : UInt8), (3 : UInt8), (4 : UInt8), (2 : UInt8), (3 : UInt8), (3 : UInt8), (4 : UInt8), (3 : UInt8), (4 : UInt8), (4 : UInt8), (5 : UInt8), (1 : UInt8), (2 : UInt8), (2 : UInt8), (3 : UInt8), (2 : UInt8), (3 : UInt8), (3 : UInt8), (4 : UInt8), (2 : UInt8), (3 : UInt8), (3 : UInt8), (4 : UInt8), (3 : UInt8), (4 : UInt8), (4 : UInt8), (5 : UInt8), (2 : UInt8), (3 : UInt8), (3 : UInt8), (4 : UInt8), (3 : UInt8), (4 : UInt8), (4 : UInt8), (5 : UInt8), (3 : UInt8), (4 : UInt8), (4 : UInt8), (5 : UInt8), (4 : UInt8), (5 : UInt8), (5 : UInt8), (6 : UInt8), (1 : UInt8), (2 : UInt8), (2 : UInt8), (3 : UInt8), (2 : UInt8), (3 : UInt8), (3 : UInt8), (4 : UInt8), (2 : UInt8), (3 : UInt8), (3 : UInt8), (4 : UInt8), (3 : UInt8), (4 : UInt8), (4 : UInt8), (5 : UInt8), (2 : UInt8), (3 : UInt8), (3 : UInt8), (4 : UInt8), (3 : UInt8), (4 : UInt8), (4 : UInt8), (5 : UInt8), (3 : UInt8), (4 : UInt8), (4 : UInt8), (5 : UInt8), (4 : UInt8), (5 : UInt8), (5 : UInt8), (6 : UInt8), (2 : UInt8), (3 : UInt8), (3 : UInt8), (4 : UInt8), (3 : UInt8), (4 : UInt8), (4 : UInt8), (5 : UInt8), (3 : UInt8), (4 : UInt8), (4 : UInt8), (5 : UInt8), (4 : UInt8), (5 : UInt8), (5 : UInt8), (6 : UInt8), (3 : UInt8), (4 : UInt8), (4 : UInt8), (5 : UInt8), (4 : UInt8), (5 : UInt8), (5 : UInt8), (6 : UInt8), (4 : UInt8), (5 : UInt8), (5 : UInt8), (6 : UInt8), (5 : UInt8), (6 : UInt8), (6 : UInt8), (7 : UInt8), (1 : UInt8), (2 : UInt8), (2 : UInt8), (3 : UInt8), (2 : UInt8), (3 : UInt8), (3 : UInt8), (4 : UInt8), (2 : UInt8), (3 : UInt8), (3 : UInt8), (4 : UInt8), (3 : UInt8), (4 : UInt8), (4 : UInt8), (5 : UInt8), (2 : UInt8), (3 : UInt8), (3 : UInt8), (4 : UInt8), (3 : UInt8), (4 : UInt8), (4 : UInt8), (5 : UInt8), (3 : UInt8), (4 : UInt8), (4 : UInt8), (5 : UInt8), (4 : UInt8), (5 : UInt8), (5 : UInt8), (6 : UInt8), (2 : UInt8), (3 : UInt8), (3 : UInt8), (4 : UInt8), (3 : UInt8), (4 : UInt8), (4 : UInt8), (5 : UInt8), (3 : UInt8), (4 : UInt8), (4 : UInt8), (5 : UInt8), (4 : UInt8), (5 : UInt8), (5 : UInt8), (6 : UInt8), (3 : UInt8), (4 : UInt8), (4 : UInt8), (5 : UInt8), (4 : UInt8), (5 : UInt8), (5 : UInt8), (6 : UInt8), (4 : UInt8), (5 : UInt8), (5 : UInt8), (6 : UInt8), (5 : UInt8), (6 : UInt8), (6 : UInt8), (7 : UInt8), (2 : UInt8), (3 : UInt8), (3 : UInt8), (4 : UInt8), (3 : UInt8), (4 : UInt8), (4 : UInt8), (5 : UInt8), (3 : UInt8), (4 : UInt8), (4 : UInt8), (5 : UInt8), (4 : UInt8), (5 : UInt8), (5 : UInt8), (6 : UInt8), (3 : UInt8), (4 : UInt8), (4 : UInt8), (5 : UInt8), (4 : UInt8), (5 : UInt8), (5 : UInt8), (6 : UInt8), (4 : UInt8), (5 : UInt8), (5 : UInt8), (6 : UInt8), (5 : UInt8), (6 : UInt8), (6 : UInt8), (7 : UInt8), (3 : UInt8), (4 : UInt8), (4 : UInt8), (5 : UInt8), (4 : UInt8), (5 : UInt8), (5 : UInt8), (6 : UInt8), (4 : UInt8), (5 : UInt8), (5 : UInt8), (6 : UInt8), (5 : UInt8), (6 : UInt8), (6 : UInt8), (7 : UInt8), (4 : UInt8), (5 : UInt8), (5 : UInt8), (6 : UInt8), (5 : UInt8), (6 : UInt8), (6 : UInt8), (7 : UInt8), (5 : UInt8), (6 : UInt8), (6 : UInt8), (7 : UInt8), (6 : UInt8), (7 : UInt8), (7 : UInt8), (8 : UInt8)])))) then
      let z3 : Int := (Int.fdiv x_1 ((2 : Int) ^ (Min.min (Int.toNat (8 : Int)) (Go.IntKind.bits Go.IntKind.u32))))
      let z4 : Int := (Go.IntKind.wrap Go.IntKind.u32 (Go.Ab.stk z3 (255 : Int) (BitVec.toNat ((BitVec.ofInt (Go.IntKind.bits Go.IntKind.u32) z3) &&& (BitVec.ofInt (Go.IntKind.bits Go.IntKind.u32) (255 : Int))))))
      bif (Go.Ab.inB z4 (ByteArray.size (ByteArray.mk (Array.mk [(0 : UInt8), (1 : UInt8), (1 : UInt8), (2 : UInt8), (1 : UInt8), (2 : UInt8), (2 : UInt8), (3 : UInt8), (1 : UInt8), (2 : UInt8), (2 : UInt8), (3 : UInt8), (2 : UInt8), (3 : UInt8), (3 : UInt8), (4 : UInt8), (1 : UInt8), (2 : UInt8), (2 : UInt8), (3 : UInt8), (2 : UInt8), (3 : UInt8), (3 : UInt8), (4 : UInt8), (2 : UInt8), (3 : UInt8), (3 : UInt8), (4 : UInt8), (3 : UInt8), (4 : UInt8), (4 : UInt8), (5 : UInt8), (1 : UInt8), (2 : UInt8), (2 : UInt8), (3 : UInt8), (2 : UInt8), (3 : UInt8), (3 : UInt8), (4 : UInt8), (2 : UInt8), (3 : UInt8), (3 : UInt8), (4 : UInt8), (3 : UInt8), (4 : UInt8), (4 : UInt8), (5 : UInt8), (2 : UInt8), (3 : UInt8), (3 : UInt8), (4 : UInt8), (3 : UInt8), (4 : UInt8), (4 : UInt8), (5 : UInt8), (3 : UInt8), (4 : UInt8), (4 : UInt8), (5 : UInt8), (4 : UInt8), (5 : UInt8), (5 : UInt8), (6 : UInt8), (1 : UInt8), (2 : UInt8), (2 : UInt8), (3 : UInt8), (2 : UInt8), (3 : UInt8), (3 : UInt8), (4 : UInt8), (2 : UInt8), (3 : UInt8), (3 : UInt8), (4 : UInt8), (3 : UInt8), (4 : UInt8), (4 : UInt8), (5 : UInt8), (2 : UInt8), (3 : UInt8), (3 : UInt8), (4 : UInt8), (3 : UInt8), (4 : UInt8), (4 : UInt8), (5 : UInt8), (3 : UInt8), (4 : UInt8), (4 : UInt8), (5 : UInt8), (4 : UInt8), (5 : UInt8), (5 : UInt8), (6 : UInt8), (2 : UInt8), (3 : UInt8), (3 : UInt8), (4 : UInt8), (3 : UInt8), (4 : UInt8), (4 : UInt8), (5 : UInt8), (3 : UInt8), (4 : UInt8), (4 : UInt8), (5 : UInt8), (4 : UInt8), (5 : UInt8), (5 : UInt8), (6 : UInt8), (3 : UInt8), (4 : UInt8), (4 : UInt8), (5 : UInt8), (4 : UInt8), (5 : UInt8), (5 : UInt8), (6 : UInt8), (4 : UInt8), (5 : UInt8), (5 : UInt8), (6 : UInt8), (5 : UInt8), (6 : UInt8), (6 : UInt8), (7 : UInt8), (1 : UInt8), (2 : UInt8), (2 : UInt8), (3 : UInt8), (2 : UInt8), (3 : UInt8), (3 : UInt8), (4 : UInt8), (2 : UInt8), (3 : UInt8), (3 : UInt8), (4 : UInt8), (3 : UInt8), (4 : UInt8), (4 : UInt8), (5 : UInt8), (2 : UInt8), (3 : UInt8), (3 : UInt8), (4 : UInt8), (3 : UInt8), (4 : UInt8), (4 : UInt8), (5 : UInt8), (3 : UInt8), (4 : UInt8), (4 : UInt8), (5 : UInt8), (4 : UInt8), (5 : UInt8), (5 : UInt8), (6 : UInt8), (2 : UInt8), (3 : UInt8), (3 : UInt8), (4 : UInt8), (3 : UInt8), (4 : UInt8), (4 : UInt8), (5 : UInt8), (3 : UInt8), (4 : UInt8), (4 : UInt8), (5 : UInt8), (4 : UInt8), (5 : UInt8), (5 : UInt8), (6 : UInt8), (3 : UInt8), (4 : UInt8), (4 : UInt8), (5 : UInt8), (4 : UInt8), (5 : UInt8), (5 : UInt8), (6 : UInt8), (4 : UInt8), (5 : UInt8), (5 : UInt8), (6 : UInt8), (5 : UInt8), (6 : UInt8), (6 : UInt8), (7 : UInt8), (2 : UInt8), (3 : UInt8), (3 : UInt8), (4 : UInt8), (3 : UInt8), (4 : UInt8), (4 : UInt8), (5 : UInt8), (3 : UInt8), (4 : UInt8), (4 : UInt8), (5 : UInt8), (4 : UInt8), (5 : UInt8), (5 : UInt8), (6 : UInt8), (3 : UInt8), (4 : UInt8), (4 : UInt8), (5 : UInt8), (4 : UInt8), (5 : UInt8), (5 : UInt8), (6 : UInt8), (4 : UInt8), (5 : UInt8), (5 : UInt8), (6 : UInt8), (5 : UInt8), (6 : UInt8), (6 : UInt8), (7 : UInt8), (3 : UInt8), (4 : UInt8), (4 : UInt8), (5 : UInt8), (4 : UInt8), (5 : UInt8), (5 : UInt8), (6 : UInt8), (4 : UInt8), (5 : UInt8), (5 : UInt8), (6 : UInt8), (5 : UInt8), (6 : UInt8), (6 : UInt8), (7 : UInt8), (4 : UInt8), (5 : UInt8), (5 : UInt8), (6 : UInt8), (5 : UInt8), (6 : UInt8), (6 : UInt8), (7 : UInt8), (5 : UInt8), (6 : UInt8), (6 : UInt8), (7 : UInt8), (6 : UInt8), (7 : UInt8), (7 : UInt8), (8 : UInt8)])))) then
        let z5 : Int := (Go.IntKind.wrap Go.IntKind.u32 (Go.Ab.stk x_1 (255 : Int) (BitVec.toNat ((BitVec.ofInt (Go.IntKind.bits Go.IntKind.u32) x_1) &&& (BitVec.ofInt (Go.IntKind.bits Go.IntKind.u32) (255 : Int))))))
        bif (Go.Ab.inB z5 (ByteArray.size (ByteArray.mk (Array.mk [(0 : UInt8), (1 : UInt8), (1 : UInt8), (2 : UInt8), (1 : UInt8), (2 : UInt8), (2 : UInt8), (3 : UInt8), (1 : UInt8), (2 : UInt8), (2 : UInt8), (3 : UInt8), (2 : UInt8), (3 : UInt8), (3 : UInt8), (4 : UInt8), (1 : UInt8), (2 : UInt8), (2 : UInt8), (3 : UInt8), (2 : UInt8), (3 : UInt8), (3 : UInt8), (4 : UInt8), (2 : UInt8), (3 : UInt8), (3 : UInt8), (4 : UInt8), (3 : UInt8), (4 : UInt8), (4 : UInt8), (5 : UInt8), (1 : UInt8), (2 : UInt8), (2 : UInt8), (3 : UInt8), (2 : UInt8), (3 : UInt8), (3 : UInt8), (4 : UInt8), (2 : UInt8), (3 : UInt8), (3 : UInt8), (4 : UInt8), (3 : UInt8), (4 : UInt8), (4 : UInt8), (5 : UInt8), (2 : UInt8), (3 : UInt8), (3 : UInt8), (4 : UInt8), (3 : UInt8), (4 : UInt8), (4 : UInt8), (5 : UInt8), (3 : UInt8), (4 : UInt8), (4 : UInt8), (5 : UInt8), (4 : UInt8), (5 : UInt8), (5 : UInt8), (6 : UInt8), (1 : UInt8), (2 : UInt8), (2 : UInt8), (3 : UInt8), (2 : UInt8), (3 : UInt8), (3 : UInt8), (4 : UInt8), (2 : UInt8), (3 : UInt8), (3 : UInt8), (4 : UInt8), (3 : UInt8), (4 : UInt8), (4 : UInt8), (5 : UInt8), (2 : UInt8), (3 : UInt8), (3 : UInt8), (4 : UInt8), (3 : UInt8), (4 : UInt8), (4 : UInt8), (5 : UInt8), (3 : UInt8), (4 : UInt8), (4 : UInt8), (5 : UInt8), (4 : UInt8), (5 : UInt8), (5 : UInt8), (6 : UInt8), (2 : UInt8), (3 : UInt8), (3 : UInt8), (4 : UInt8), (3 : UInt8), (4 : UInt8), (4 : UInt8), (5 : UInt8), (3 : UInt8), (4 : UInt8), (4 : UInt8), (5 : UInt8), (4 : UInt8), (5 : UInt8), (5 : UInt8), (6 : UInt8), (3 : UInt8), (4 : UInt8), (4 : UInt8), (5 : UInt8), (4 : UInt8), (5 : UInt8), (5 : UInt8), (6 : UInt8), (4 : UInt8), (5 : UInt8), (5 : UInt8), (6 : UInt8), (5 : UInt8), (6 : UInt8), (6 : UInt8), (7 : UInt8), (1 : UInt8), (2 : UInt8), (2 : UInt8), (3 : UInt8), (2 : UInt8), (3 : UInt8), (3 : UInt8), (4 : UInt8), (2 : UInt8), (3 : UInt8), (3 : UInt8), (4 : UInt8), (3 : UInt8), (4 : UInt8), (4 : UInt8), (5 : UInt8), (2 : UInt8), (3 : UInt8), (3 : UInt8), (4 : UInt8), (3 : UInt8), (4 : UInt8), (4 : UInt8), (5 : UInt8), (3 : UInt8), (4 : UInt8), (4 : UInt8), (5 : UInt8), (4 : UInt8), (5 : UInt8), (5 : UInt8), (6 : UInt8), (2 : UInt8), (3 : UInt8), (3 : UInt8), (4 : UInt8), (3 : UInt8), (4 : UInt8), (4 : UInt8), (5 : UInt8), (3 : UInt8), (4 : UInt8), (4 : UInt8), (5 : UInt8), (4 : UInt8), (5 : UInt8), (5 : UInt8), (6 : UInt8), (3 : UInt8), (4 : UInt8), (4 : UInt8), (5 : UInt8), (4 : UInt8), (5 : UInt8), (5 : UInt8), (6 : UInt8), (4 : UInt8), (5 : UInt8), (5 : UInt8), (6 : UInt8), (5 : UInt8), (6 : UInt8), (6 : UInt8), (7 : UInt8), (2 : UInt8), (3 : UInt8), (3 : UInt8), (4 : UInt8), (3 : UInt8), (4 : UInt8), (4 : UInt8), (5 : UInt8), (3 : UInt8), (4 : UInt8), (4 : UInt8), (5 : UInt8), (4 : UInt8), (5 : UInt8), (5 : UInt8), (6 : UInt8), (3 : UInt8), (4 : UInt8), (4 : UInt8), (5 : UInt8), (4 : UInt8), (5 : UInt8), (5 : UInt8), (6 : UInt8), (4 : UInt8), (5 : UInt8), (5 : UInt8), (6 : UInt8), (5 : UInt8), (6 : UInt8), (6 : UInt8), (7 : UInt8), (3 : UInt8), (4 : UInt8), (4 : UInt8), (5 : UInt8), (4 : UInt8), (5 : UInt8), (5 : UInt8), (6 : UInt8), (4 : UInt8), (5 : UInt8), (5 : UInt8), (6 : UInt8), (5 : UInt8), (6 : UInt8), (6 : UInt8), (7 : UInt8), (4 : UInt8), (5 : UInt8), (5 : UInt8), (6 : UInt8), (5 : UInt8), (6 : UInt8), (6 : UInt8), (7 : UInt8), (5 : UInt8), (6 : UInt8), (6 : UInt8), (7 : UInt8), (6 : UInt8), (7 : UInt8), (7 : UInt8), (8 : UInt8)])))) then
          some (((Go.IntKind.wrap Go.IntKind.i64 (Go.IntKind.wrap Go.IntKind.u8 ((Go.IntKind.wrap Go.IntKind.u8 ((Go.IntKind.wrap Go.IntKind.u8 ((Go.Ab.byteAt (ByteArray.mk (Array.mk [(0 : UInt8), (1 : UInt8), (1 : UInt8), (2 : UInt8), (1 : UInt8), (2 : UInt8), (2 : UInt8), (3 : UInt8), (1 : UInt8), (2 : UInt8), (2 : UInt8), (3 : UInt8), (2 : UInt8), (3 : UInt8), (3 : UInt8), (4 : UInt8), (1 : UInt8), (2 : UInt8), (2 : UInt8), (3 : UInt8), (2 : UInt8), (3 : UInt8), (3 : UInt8), (4 : UInt8), (2 : UInt8), (3 : UInt8), (3 : UInt8), (4 : UInt8), (3 : UInt8), (4 : UInt8), (4 : UInt8), (5 : UInt8), (1 : UInt8), (2 : UInt8), (2 : UInt8), (3 : UInt8), (2 : UInt8), (3 : UInt8), (3 : UInt8), (4 : UInt8), (2 : UInt8), (3 : UInt8), (3 : UInt8), (4 : UInt8), (3 : UInt8), (4 : UInt8), (4 : UInt8), (5 : UInt8), (2 : UInt8), (3 : UInt8), (3 : UInt8), (4 : UInt8), (3 : UInt8), (4 : UInt8), (4 : UInt8), (5 : UInt8), (3 : UInt8), (4 : UInt8), (4 : UInt8), (5 : UInt8), (4 : UInt8), (5 : UInt8), (5 : UInt8), (6 : UInt8), (1 : UInt8), (2 : UInt8), (2 : UInt8), (3 : UInt8), (2 : UInt8), (3 : UInt8), (3 : UInt8), (4 : UInt8), (2 : UInt8), (3 : UInt8), (3 : UInt8), (4 : UInt8), (3 : UInt8), (4 : UInt8), (4 : UInt8), (5 : UInt8), (2 : UInt8), (3 : UInt8), (3 : UInt8), (4 : UInt8), (3 : UInt8), (4 : UInt8), (4 : UInt8), (5 : UInt8), (3 : UInt8), (4 : UInt8), (4 : UInt8), (5 : UInt8), (4 : UInt8), (5 : UInt8), (5 : UInt8), (6 : UInt8), (2 : UInt8), (3 : UInt8), (3 : UInt8), (4 : UInt8), (3 : UInt8), (4 : UInt8), (4 : UInt8), (5 : UInt8), (3 : UInt8), (4 : UInt8), (4 : UInt8), (5 : UInt8), (4 : UInt8), (5 : UInt8), (5 : UInt8), (6 : UInt8), (3 : UInt8), (4 : UInt8), (4 : UInt8), (5 : UInt8), (4 : UInt8), (5 : UInt8), (5 : UInt8), (6 : UInt8), (4 : UInt8), (5 : UInt8), (5 : UInt8), (6 : UInt8), (5 : UInt8), (6 : UInt8), (6 : UInt8), (7 : UInt8), (1 : UInt8), (2 : UInt8), (2 : UInt8), (3 : UInt8), (2 : UInt8), (3 : UInt8), (3 : UInt8), (4 : UInt8), (2 : UInt8), (3 : UInt8), (3 : UInt8), (4 : UInt8), (3 : UInt8), (4 : UInt8), (4 : UInt8), (5 : UInt8), (2 : UInt8), (3 : UInt8), (3 : UInt8), (4 : UInt8), (3 : UInt8), (4 : UInt8), (4 : UInt8), (5 : UInt8), (3 : UInt8), (4 : UInt8), (4 : UInt8), (5 : UInt8), (4 : UInt8), (5 : UInt8), (5 : UInt8), (6 : UInt8), (2 : UInt8), (3 : UInt8), (3 : UInt8), (4 : UInt8), (3 : UInt8), (4 : UInt8), (4 : UInt8), (5 : UInt8), (3 : UInt8), (4 : UInt8), (4 : UInt8), (5 : UInt8), (4 : UInt8), (5 : UInt8), (5 : UInt8), (6 : UInt8), (3 : UInt8), (4 : UInt8), (4 : UInt8), (5 : UInt8), (4 : UInt8), (5 : UInt8), (5 : UInt8), (6 : UInt8), (4 : UInt8), (5 : UInt8), (5 : UInt8), (6 : UInt8), (5 : UInt8), (6 : UInt8), (6 : UInt8), (7 : UInt8), (2 : UInt8), (3 : UInt8), (3 : UInt8), (4 : UInt8), (3 : UInt8), (4 : UInt8), (4 : UInt8), (5 : UInt8), (3 : UInt8), (4 : UInt8), (4 : UInt8), (5 : UInt8), (4 : UInt8), (5 : UInt8), (5 : UInt8), (6 : UInt8), (3 : UInt8), (4 : UInt8), (4 : UInt8), (5 : UInt8), (4 : UInt8), (5 : UInt8), (5 : UInt8), (6 : UInt8), (4 : UInt8), (5 : UInt8), (5 : UInt8), (6 : UInt8), (5 : UInt8), (6 : UInt8), (6 : UInt8), (7 : UInt8), (3 : UInt8), (4 : UInt8), (4 : UInt8), (5 : UInt8), (4 : UInt8), (5 : UInt8), (5 : UInt8), (6 : UInt8), (4 : UInt8), (5 : UInt8), (5 : UInt8), (6 : UInt8), (5 : UInt8), (6 : UInt8), (6 : UInt8), (7 : UInt8), (4 : UInt8), (5 : UInt8), (5 : UInt8), (6 : UInt8), (5 : UInt8), (6 : UInt8), (6 : UInt8), (7 : UInt8), (5 : UInt8), (6 : UInt8), (6 : UInt8), (7 : UInt8), (6 : UInt8), (7 : UInt8), (7 : UInt8), (8 : UInt8)])) (Int.toNat z0)) + (Go.Ab.byteAt (ByteArray.mk (Array.mk [(0 : UInt8), (1 : UInt8), (1 : UInt8), (2 : UInt8), (1 : UInt8), (2 : UInt8), (2 : UInt8), (3 : UInt8), (1 : UInt8), (2 : UInt8), (2 : UInt8), (3 : UInt8), (2 : UInt8), (3 : UInt8), (3 : UInt8), (4 : UInt8), (1 : UInt8), (2 : UInt8), (2 : UInt8), (3 : UInt8), (2 : UInt8), (3 : UInt8), (3 : UInt8), (4 : UInt8), (2 : UInt8), (3 : UInt8), (3 : UInt8), (4 : UInt8), (3 : UInt8), (4 : UInt8), (4 : UInt8), (5 : UInt8), (1 : UInt8), (2 : UInt8), (2 : UInt8), (3 : UInt8), (2 : UInt8), (3 : UInt8), (3 : UInt8), (4 : UInt8), (2 : UInt8), (3 : UInt8), (3 : UInt8), (4 : UInt8), (3 : UInt8), (4 : UInt8), (4 : UInt8), (5 : UInt8), (2 : UInt8), (3 : UInt8), (3 : UInt8), (4 : UInt8), (3 : UInt8), (4 : UInt8), (4 : UInt8), (5 : UInt8), (3 : UInt8), (4 : UInt8), (4 : UInt8), (5 : UInt8), (4 : UInt8), (5 : UInt8), (5 : UInt8), (6 : UInt8), (1 : UInt8), (2 : UInt8), (2 : UInt8), (3 : UInt8), (2 : UInt8), (3 : UInt8), (3 : UInt8), (4 : UInt8), (2 : UInt8), (3 : UInt8), (3 : UInt8), (4 : UInt8), (3 : UInt8), (4 : UInt8), (4 : UInt8), (5 : UInt8), (2 : UInt8), (3 : UInt8), (3 : UInt8), (4 : UInt8), (3 : UInt8), (4 : UInt8), (4 : UInt8), (5 : UInt8), (3 : UInt8), (4 : UInt8), (4 : UInt8), (5 : UInt8), (4 : UInt8), (5 : UInt8), (5 : UInt8), (6 : UInt8), (2 : UInt8), (3 : UInt8), (3 : UInt8), (4 : UInt8), (3 : UInt8), (4 : UInt8), (4 : UInt8), (5 : UInt8), (3 : UInt8), (4 : UInt8), (4 : UInt8), (5 : UInt8), (4 : UInt8), (5 : UInt8), (5 : UInt8), (6 : UInt8), (3 : UInt8), (4 : UInt8), (4 : UInt8), (5 : UInt8), (4 : UInt8), (5 : UInt8), (5 : UInt8), (6 : UInt8), (4 : UInt8), (5 : UInt8), (5 : UInt8), (6 : UInt8), (5 : UInt8), (6 : UInt8), (6 : UInt8), (7 : UInt8), (1 : UInt8), (2 : UInt8), (2 : UInt8), (3 : UInt8), (2 : UInt8), (3 : UInt8), (3 : UInt8), (4 : UInt8), (2 : UInt8), (3 : UInt8), (3 : UInt8), (4 : UInt8), (3 : UInt8), (4 : UInt8), (4 : UInt8), (5 : UInt8), (2 : UInt8), (3 : UInt8), (3 : UInt8), (4 : UInt8), (3 : UInt8), (4 : UInt8), (4 : UInt8), (5 : UInt8), (3 : UInt8), (4 : UInt8), (4 : UInt8), (5 : UInt8), (4 : UInt8), (5 : UInt8), (5 : UInt8), (6 : UInt8), (2 : UInt8), (3 : UInt8), (3 : UInt8), (4 : UInt8), (3 : UInt8), (4 : UInt8), (4 : UInt8), (5 : UInt8), (3 : UInt8), (4 : UInt8), (4 : UInt8), (5 : UInt8), (4 : UInt8), (5 : UInt8), (5 : UInt8), (6 : UInt8), (3 : UInt8), (4 : UInt8), (4 : UInt8), (5 : UInt8), (4 : UInt8), (5 : UInt8), (5 : UInt8), (6 : UInt8), (4 : UInt8), (5 : UInt8), (5 : UInt8), (6 : UInt8), (5 : UInt8), (6 : UInt8), (6 : UInt8), (7 : UInt8), (2 : UInt8), (3 : UInt8), (3 : UInt8), (4 : UInt8), (3 : UInt8), (4 : UInt8), (4 : UInt8), (5 : UInt8), (3 : UInt8), (4 : UInt8), (4 : UInt8), (5 : UInt8), (4 : UInt8), (5 : UInt8), (5 : UInt8), (6 : UInt8), (3 : UInt8), (4 : UInt8), (4 : UInt8), (5 : UInt8), (4 : UInt8), (5 : UInt8), (5 : UInt8), (6 : UInt8), (4 : UInt8), (5 : UInt8), (5 : UInt8), (6 : UInt8), (5 : UInt8), (6 : UInt8), (6 : UInt8), (7 : UInt8), (3 : UInt8), (4 : UInt8), (4 : UInt8), (5 : UInt8), (4 : UInt8), (5 : UInt8), (5 : UInt8), (6 : UInt8), (4 : UInt8), (5 : UInt8), (5 : UInt8), (6 : UInt8), (5 : UInt8), (6 : UInt8), (6 : UInt8), (7 : UInt8), (4 : UInt8), (5 : UInt8), (5 : UInt8), (6 : UInt8), (5 : UInt8), (6 : UInt8), (6 : UInt8), (7 : UInt8), (5 : UInt8), (6 : UInt8), (6 : UInt8), (7 : UInt8), (6 : UInt8), (7 : UInt8), (7 : UInt8), (8 : UInt8)])) (Int.toNat z2)))) + (Go.Ab.byteAt (ByteArray.mk (Array.mk [(0 : UInt8), (1 : UInt8), (1 : UInt8), (2 : UInt8), (1 : UInt8), (2 : UInt8), (2 : UInt8), (3 : UInt8), (1 : UInt8), (2 : UInt8), (2 : UInt8), (3 : UInt8), (2 : UInt8), (3 : UInt8), (3 : UInt8), (4 : UInt8), (1 : UInt8), (2 : UInt8), (2 : UInt8), (3 : UInt8), (2 : UInt8), (3 : UInt8), (3 : UInt8), (4 : UInt8), (2 : UInt8), (3 : UInt8), (3 : UInt8), (4 : UInt8), (3 : UInt8), (4 : UInt8), (4 : UInt8), (5 : UInt8), (1 : UInt8), (2 : UInt8), (2 : UInt8), (3 : UInt8), (2 : UInt8), (3 : UInt8), (3 : UInt8), (4 : UInt8), (2 : UInt8), (3 : UInt8), (3 : UInt8), (4 : UInt8), (3 : UInt8), (4 : UInt8), (4 : UInt8), (5 : UInt8), (2 : UInt8), (3 : UInt8), (3 : UInt8), (4 : UInt8), (3 : UInt8), (4 : UInt8), (4 : UInt8), (5 : UInt8), (3 : UInt8), (4 : UInt8), (4 : UInt8), (5 : UInt8), (4 : UInt8), (5 : UInt8), (5 : UInt8), (6 : UInt8), (1 : UInt8), (2 : UInt8), (2 : UInt8), (3 : UInt8), (2 : UInt8), (3 : UInt8), (3 : UInt8), (4 : UInt8), (2 : UInt8), (3 : UInt8), (3 : UInt8), (4 : UInt8), (3 : UInt8), (4 : UInt8), (4 : UInt8), (5 : UInt8), (2 : UInt8), (3 : UInt8), (3 : UInt8), (4 : UInt8), (3 : UInt8), (4 : UInt8), (4 : UInt8), (5 : UInt8), (3 : UInt8), (4 : UInt8), (4 : UInt8), (5 : UInt8), (4 : UInt8), (5 : UInt8), (5 : UInt8), (6 : UInt8), (2 : UInt8), (3 : UInt8), (3 : UInt8), (4 : UInt8), (3 : UInt8), (4 : UInt8), (4 : UInt8), (5 : UInt8), (3 : UInt8), (4 : UInt8), (4 : UInt8), (5 : UInt8), (4 : UInt8), (5 : UInt8), (5 : UInt8), (6 : UInt8), (3 : UInt8), (4 : UInt8), (4 : UInt8), (5 : UInt8), (4 : UInt8), (5 : UInt8), (5 : UInt8), (6 : UInt8), (4 : UInt8), (5 : UInt8), (5 : UInt8), (6 : UInt8), (5 : UInt8), (6 : UInt8), (6 : UInt8), (7 : UInt8), (1 : UInt8), (2 : UInt8), (2 : UInt8), (3 : UInt8), (2 : UInt8), (3 : UInt8), (3 : UInt8), (4 : UInt8), (2 : UInt8), (3 : UInt8), (3 : UInt8), (4 : UInt8), (3 : UInt8), (4 : UInt8), (4 : UInt8), (5 : UInt8), (2 : UInt8), (3 : UInt8), (3 : UInt8), (4 : UInt8), (3 : UInt8), (4 : UInt8), (4 : UInt8), (5 : UInt8), (3 : UInt8), (4 : UInt8), (4 : UInt8), (5 : UInt8), (4 : UInt8), (5 : UInt8), (5 : UInt8), (6 : UInt8), (2 : UInt8), (3 : UInt8), (3 : UInt8), (4 : UInt8), (3 : UInt8), (4 : UInt8), (4 : UInt8), (5 : UInt8), (3 : UInt8), (4 : UInt8), (4 : UInt8), (5 : UInt8), (4 : UInt8), (5 : UInt8), (5 : UInt8), (6 : UInt8), (3 : UInt8), (4 : UInt8), (4 : UInt8), (5 : UInt8), (4 : UInt8), (5 : UInt8), (5 : UInt8), (6 : UInt8), (4 : UInt8), (5 : UInt8), (5 : UInt8), (6 : UInt8), (5 : UInt8), (6 : UInt8), (6 : UInt8), (7 : UInt8), (2 : UInt8), (3 : UInt8), (3 : UInt8), (4 : UInt8), (3 : UInt8), (4 : UInt8), (4 : UInt8), (5 : UInt8), (3 : UInt8), (4 : UInt8), (4 : UInt8), (5 : UInt8), (4 : UInt8), (5 : UInt8), (5 : UInt8), (6 : UInt8), (3 : UInt8), (4 : UInt8), (4 : UInt8), (5 : UInt8), (4 : UInt8), (5 : UInt8), (5 : UInt8), (6 : UInt8), (4 : UInt8), (5 : UInt8), (5 : UInt8), (6 : UInt8), (5 : UInt8), (6 : UInt8), (6 : UInt8), (7 : UInt8), (3 : UInt8), (4 : UInt8), (4 : UInt8), (5 : UInt8), (4 : UInt8), (5 : UInt8), (5 : UInt8), (6 : UInt8), (4 : UInt8), (5 : UInt8), (5 : UInt8), (6 : UInt8), (5 : UInt8), (6 : UInt8), (6 : UInt8), (7 : UInt8), (4 : UInt8), (5 : UInt8), (5 : UInt8), (6 : UInt8), (5 : UInt8), (6 : UInt8), (6 : UInt8), (7 : UInt8), (5 : UInt8), (6 : UInt8), (6 : UInt8), (7 : UInt8), (6 : UInt8), (7 : UInt8), (7 : UInt8), (8 : UInt8)])) (Int.toNat z4)))) + (Go.Ab.byteAt (ByteArray.mk (Array.mk [(0 : UInt8), (1 : UInt8), (1 : UInt8), (2 : UInt8), (1 : UInt8), (2 : UInt8), (2 : UInt8), (3 : UInt8), (1 : UInt8), (2 : UInt8), (2 : UInt8), (3 : UInt8), (2 : UInt8), (3 : UInt8), (3 : UInt8), (4 : UInt8), (1 : UInt8), (2 : UInt8), (2 : UInt8), (3 : UInt8), (2 : UInt8), (3 : UInt8), (3 : UInt8), (4 : UInt8), (2 : UInt8), (3 : UInt8), (3 : UInt8), (4 : UInt8), (3 : UInt8), (4 : UInt8), (4 : UInt8), (5 : UInt8), (1 : UInt8), (2 : UInt8), (2 : UInt8), (3 : UInt8), (2 : UInt8), (3 : UInt8), (3 : UInt8), (4 : UInt8), (2 : UInt8), (3 : UInt8), (3 : UInt8), (4 : UInt8), (3 : UInt8), (4 : UInt8), (4 : UInt8), (5 : UInt8), (2 : UInt8), (3 : UInt8), (3 : UInt8), (4 : UInt8), (3 : UInt8), (4 : UInt8), (4 : UInt8), (5 : UInt8), (3 : UInt8), (4 : UInt8), (4 : UInt8), (5 : UInt8), (4 : UInt8), (5 : UInt8), (5 : UInt8), (6 : UInt8), (1 : UInt8), (2 : UInt8), (2 : UInt8), (3 : UInt8), (2 : UInt8), (3 : UInt8), (3 : UInt8), (4 : UInt8), (2 : UInt8), (3 : UInt8), (3 : UInt8), (4 : UInt8), (3 : UInt8), (4 : UInt8), (4 : UInt8), (5 : UInt8), (2 : UInt8), (3 : UInt8), (3 : UInt8), (4 : UInt8), (3 : UInt8), (4 : UInt8), (4 : UInt8), (5 : UInt8), (3 : UInt8), (4 : UInt8), (4 : UInt8), (5 : UInt8), (4 : UInt8), (5 : UInt8), (5 : UInt8), (6 : UInt8), (2 : UInt8), (3 : UInt8), (3 : UInt8), (4 : UInt8), (3 : UInt8), (4 : UInt8), (4 : UInt8), (5 : UInt8), (3 : UInt8), (4 : UInt8), (4 : UInt8), (5 : UInt8), (4 : UInt8), (5 : UInt8), (5 : UInt8), (6 : UInt8), (3 : UInt8), (4 : UInt8), (4 : UInt8), (5 : UInt8), (4 : UInt8), (5 : UInt8), (5 : UInt8), (6 : UInt8), (4 : UInt8), (5 : UInt8), (5 : UInt8), (6 : UInt8), (5 : UInt8), (6 : UInt8), (6 : UInt8), (7 : UInt8), (1 : UInt8), (2 : UInt8), (2 : UInt8), (3 : UInt8), (2 : UInt8), (3 : UInt8), (3 : UInt8), (4 : UInt8), (2 : UInt8), (3 : UInt8), (3 : UInt8), (4 : UInt8), (3 : UInt8), (4 : UInt8), (4 : UInt8), (5 : UInt8), (2 : UInt8), (3 : UInt8), (3 : UInt8), (4 : UInt8), (3 : UInt8), (4 : UInt8), (4 : UInt8), (5 : UInt8), (3 : UInt8), (4 : UInt8), (4 : UInt8), (5 : UInt8), (4 : UInt8), (5 : UInt8), (5 : UInt8), (6 : UInt8), (2 : UInt8), (3 : UInt8), (3 : UInt8), (4 : UInt8), (3 : UInt8), (4 : UInt8), (4 : UInt8), (5 : UInt8), (3 : UInt8), (4 : UInt8), (4 : UInt8), (5 : UInt8), (4 : UInt8), (5 : UInt8), (5 : UInt8), (6 : UInt8), (3 : UInt8), (4 : UInt8), (4 : UInt8), (5 : UInt8), (4 : UInt8), (5 : UInt8), (5 : UInt8), (6 : UInt8), (4 : UInt8), (5 : UInt8), (5 : UInt8), (6 : UInt8), (5 : UInt8), (6 : UInt8), (6 : UInt8), (7 : UInt8), (2 : UInt8), (3 : UInt8), (3 : UInt8), (4 : UInt8), (3 : UInt8), (4 : UInt8), (4 : UInt8), (5 : UInt8), (3 : UInt8), (4 : UInt8), (4 : UInt8), (5 : UInt8), (4 : UInt8), (5 : UInt8), (5 : UInt8), (6 : UInt8), (3 : UInt8), (4 : UInt8), (4 : UInt8), (5 : UInt8), (4 : UInt8), (5 : UInt8), (5 : UInt8), (6 : UInt8), (4 : UInt8), (5 : UInt8), (5 : UInt8), (6 : UInt8), (5 : UInt8), (6 : UInt8), (6 : UInt8), (7 : UInt8), (3 : UInt8), (4 : UInt8), (4 : UInt8), (5 : UInt8), (4 : UInt8), (5 : UInt8), (5 : UInt8), (6 : UInt8), (4 : UInt8), (5 : UInt8), (5 : UInt8), (6 : UInt8), (5 : UInt8), (6 : UInt8), (6 : UInt8), (7 : UInt8), (4 : UInt8), (5 : UInt8), (5 : UInt8), (6 : UInt8), (5 : UInt8), (6 : UInt8), (6 : UInt8), (7 : UInt8), (5 : UInt8), (6 : UInt8), (6 : UInt8), (7 : UInt8), (6 : UInt8), (7 : UInt8), (7 : UInt8), (8 : UInt8)])) (Int.toNat z5))))), ()), ())
        else
          none
      else
        none
    else
      none
  else
    none
/-! ### overlay/calls.Count -/
noncomputable def F_calls_Count (c_Up : Int) (c_Down : Int) : Option ((Int × Unit) × Unit) :=
  (F_bits_OnesCount32 c_Up).bind fun y1 =>
  (F_bits_OnesCount32 c_Down).bind fun y2 =>
  some (((Go.IntKind.wrap Go.IntKind.i64 (y1.1.1 + y2.1.1)), ()), ())
/-! ### overlay/cost.Count -/
noncomputable def F_cost_Count (floors : Int) (s_Car : Int) (s_Hall_Up : Int) (s_Hall_Down : Int) : Option ((Int × Unit) × Unit) :=
  (F_cost_isFloors floors).bind fun y1 =>
  bif (!y1.1.1) then
    some (((0 : Int), ()), ())
  else
    (F_cost_counted floors s_Car s_Hall_Up s_Hall_Down).bind fun y2 =>
    (F_bits_OnesCount32 y2.2.1.1).bind fun y3 =>
    (F_calls_Count y2.2.1.2.1 y2.2.1.2.2.1).bind fun y4 =>
    some (((Go.IntKind.wrap Go.IntKind.i64 (y3.1.1 + y4.1.1)), ()), ())
/-! ### overlay/cost.Estimate -/
noncomputable def F_cost_Estimate (b_Floors : Int) (b_Debounce : Int) (b_Room : Int) (b_Park : Int) (b_Empty : Nat) (b_Full : Nat) (b_Over : Nat) (b_Cars : List (Car)) (car : Int) (v_Ready : Bool) (v_Serving : Bool) (v_Legacy : Bool) (v_Lost : Bool) (v_Floor : Int) (v_Dir : Int) (v_Load : Int) (v_Shows_Up : Int) (v_Shows_Down : Int) (v_Stops_Car : Int) (v_Stops_Hall_Up : Int) (v_Stops_Hall_Down : Int) (floor : Int) (dir : Int) : Option ((Int × Unit) × Unit) :=
  (F_building_Valid b_Floors b_Debounce b_Room b_Park b_Empty b_Full b_Over b_Cars).bind fun y1 =>
  bif (y1.1.1 != (0 : Int)) then
    some (((1000000 : Int), ()), ())
  else
    bif (decide (car < (0 : Int))) then
      some (((1000000 : Int), ()), ())
    else
      bif (decide (((List.length b_Cars : Nat) : Int) ≤ car)) then
        some (((1000000 : Int), ()), ())
      else
        Option.bind (bif (v_Dir == (3 : Int)) then
              some ((car, floor, dir, (), (), (0 : Int), ()), ((b_Floors, b_Debounce, b_Room, b_Park, b_Empty, b_Full, b_Over, b_Cars, ()), (v_Ready, v_Serving, v_Legacy, v_Lost, v_Floor, v_Dir, v_Load, v_Shows_Up, v_Shows_Down, v_Stops_Car, v_Stops_Hall_Up, v_Stops_Hall_Down, ()), ()))
            else
              some ((car, floor, dir, (), (), v_Dir, ()), ((b_Floors, b_Debounce, b_Room, b_Park, b_Empty, b_Full, b_Over, b_Cars, ()), (v_Ready, v_Serving, v_Legacy, v_Lost, v_Floor, v_Dir, v_Load, v_Shows_Up, v_Shows_Down, v_Stops_Car, v_Stops_Hall_Up, v_Stops_Hall_Down, ()), ()))) fun y2 =>
        (F_cost_Path y2.2.1.1 y2.2.2.1.2.2.2.2.1 y2.1.2.2.2.2.2.1 y2.2.2.1.2.2.2.2.2.2.2.2.2.1 y2.2.2.1.2.2.2.2.2.2.2.2.2.2.1 y2.2.2.1.2.2.2.2.2.2.2.2.2.2.2.1 y2.1.2.1 y2.1.2.2.1).bind fun y3 =>
        bif (decide (y3.1.1 < (0 : Int))) then
          some (((1000000 : Int), ()), ())
        else
          bif (Go.Ab.inB y2.1.1 (List.length y2.2.1.2.2.2.2.2.2.2.1)) then
            let z0 : Car := (List.getD y2.2.1.2.2.2.2.2.2.2.1 (Int.toNat y2.1.1) (Car.mk (0 : Int) (0 : Int) (0 : Int) (0 : Int) (0 : Int) (0 : Int) (0 : Int) (0 : Int) (0 : Int)))
            (F_cost_Count y2.2.1.1 y2.2.2.1.2.2.2.2.2.2.2.2.2.1 y2.2.2.1.2.2.2.2.2.2.2.2.2.2.1 y2.2.2.1.2.2.2.2.2.2.2.2.2.2.2.1).bind fun y4 =>
            let z1 : Int := (Go.IntKind.wrap Go.IntKind.i64 ((Go.IntKind.wrap Go.IntKind.i64 (y3.1.1 * z0.Step)) + (Go.IntKind.wrap Go.IntKind.i64 (y4.1.1 * (Go.IntKind.wrap Go.IntKind.i64 ((Go.IntKind.wrap Go.IntKind.i64 ((2 : Int) * z0.Travel)) + z0.Dwell))))))
            some (((bif (decide ((1000000 : Int) < z1)) then (1000000 : Int) else z1), ()), ())
          else
            none
/-! ### overlay/assign.full -/
noncomputable def F_assign_full (v_Ready : Bool) (v_Serving : Bool) (v_Legacy : Bool) (v_Lost : Bool) (v_Floor : Int) (v_Dir : Int) (v_Load : Int) (v_Shows_Up : Int) (v_Shows_Down : Int) (v_Stops_Car : Int) (v_Stops_Hall_Up : Int) (v_Stops_Hall_Down : Int) : Option ((Bool × Unit) × Unit) :=
  Option.bind (bif (v_Load == (3 : Int)) then
        some ((true, ()), ())
      else
        some (((v_Load == (4 : Int)), ()), ())) fun y1 =>
  some ((y1.1.1, ()), ())
/-! ### overlay/assign.rank -/
noncomputable def F_assign_rank (b_Floors : Int) (b_Debounce : Int) (b_Room : Int) (b_Park : Int) (b_Empty : Nat) (b_Full : Nat) (b_Over : Nat) (b_Cars : List (Car)) (views : List (View)) (car : Int) (floor : Int) (dir : Int) : Option ((Unit × Unit) × ((Int × Int × Unit) × Unit)) :=
  bif (Go.Ab.inB car (List.length views)) then
    let z0 : View := (List.getD views (Int.toNat car) (View.mk false false false false (0 : Int) (0 : Int) (0 : Int) (0 : Int) (0 : Int) (0 : Int) (0 : Int) (0 : Int)))
    (F_cost_Estimate b_Floors b_Debounce b_Room b_Park b_Empty b_Full b_Over b_Cars car z0.Ready z0.Serving z0.Legacy z0.Lost z0.Floor z0.Dir z0.Load z0.Shows_Up z0.Shows_Down z0.Stops_Car z0.Stops_Hall_Up z0.Stops_Hall_Down floor dir).bind fun y1 =>
    bif (Go.Ab.inB car (List.length views)) then
      let z1 : View := (List.getD views (Int.toNat car) (View.mk false false false false (0 : Int) (0 : Int) (0 : Int) (0 : Int) (0 : Int) (0 : Int) (0 : Int) (0 : Int)))
      (F_assign_full z1.Ready z1.Serving z1.Legacy z1.Lost z1.Floor z1.Dir z1.Load z1.Shows_Up z1.Shows_Down z1.Stops_Car z1.Stops_Hall_Up z1.Stops_Hall_Down).bind fun y2 =>
      bif y2.1.1 then
        some (((), ()), (((1 : Int), y1.1.1, ()), ()))
      else
        some (((), ()), (((0 : Int), y1.1.1, ()), ()))
    else
      none
  else
    none
/-! ### overlay/assign.Better -/
noncomputable def F_assign_Better (a_f0 : Int) (a_f1 : Int) (b_f0 : Int) (b_f1 : Int) : Option ((Bool × Unit) × Unit) :=
  bif ((a_f0 == b_f0) && ((a_f1 == b_f1) && true)) then
    some ((false, ()), ())
  else
    Option.bind (bif (decide (a_f0 < b_f0)) then
          some ((true, ()), ())
        else
          bif (a_f0 == b_f0) then
            some (((decide (a_f1 < b_f1)), ()), ())
          else
            some ((false, ()), ())) fun y1 =>
    some ((y1.1.1, ()), ())
/-! ### overlay/assign.Choose -/
noncomputable def R_assign_Choose_0 (views : List (View)) (floor : Int) (dir : Int) (except : Int) (best : Int) (s28 : List (View)) (s29 : Int) (s30 : Int) (b_Floors : Int) (b_Debounce : Int) (b_Room : Int) (b_Park : Int) (b_Empty : Nat) (b_Full : Nat) (b_Over : Nat) (b_Cars : List (Car)) (least_f0 : Int) (least_f1 : Int) : Option (Sum ((List (View) × Int × Int × Int × Unit × Int × Unit × List (View) × Int × Int × Unit) × ((Int × Int × Int × Int × Nat × Nat × Nat × List (Car) × Unit) × (Int × Int × Unit) × Unit)) ((Int × Unit) × Unit)) :=
  bif (decide (s30 < s29)) then
    bif (Go.Ab.inB s30 (List.length s28)) then
      bif (!(List.getD s28 (Int.toNat s30) (View.mk false false false false (0 : Int) (0 : Int) (0 : Int) (0 : Int) (0 : Int) (0 : Int) (0 : Int) (0 : Int))).Ready) then
        some (Sum.inl ((views, floor, dir, except, (), best, (), s28, s29, (Go.IntKind.wrap Go.IntKind.i64 (s30 + (1 : Int))), ()), ((b_Floors, b_Debounce, b_Room, b_Park, b_Empty, b_Full, b_Over, b_Cars, ()), (least_f0, least_f1, ()), ())))
      else
        bif (s30 == except) then
          some (Sum.inl ((views, floor, dir, except, (), best, (), s28, s29, (Go.IntKind.wrap Go.IntKind.i64 (s30 + (1 : Int))), ()), ((b_Floors, b_Debounce, b_Room, b_Park, b_Empty, b_Full, b_Over, b_Cars, ()), (least_f0, least_f1, ()), ())))
        else
          (F_assign_rank b_Floors b_Debounce b_Room b_Park b_Empty b_Full b_Over b_Cars views s30 floor dir).bind fun y1 =>
          Option.bind (bif (best == (-1 : Int)) then
                some ((views, floor, dir, except, (), best, (), s30, (), s28, s29, s30, true, ()), ((b_Floors, b_Debounce, b_Room, b_Park, b_Empty, b_Full, b_Over, b_Cars, ()), (least_f0, least_f1, ()), (y1.2.1.1, y1.2.1.2.1, ()), ()))
              else
                (F_assign_Better y1.2.1.1 y1.2.1.2.1 least_f0 least_f1).bind fun y2 =>
                some ((views, floor, dir, except, (), best, (), s30, (), s28, s29, s30, y2.1.1, ()), ((b_Floors, b_Debounce, b_Room, b_Park, b_Empty, b_Full, b_Over, b_Cars, ()), (least_f0, least_f1, ()), (y1.2.1.1, y1.2.1.2.1, ()), ()))) fun y3 =>
          bif y3.1.2.2.2.2.2.2.2.2.2.2.2.2.1 then
            some (Sum.inl ((y3.1.1, y3.1.2.1, y3.1.2.2.1, y3.1.2.2.2.1, (), y3.1.2.2.2.2.2.2.2.1, (), y3.1.2.2.2.2.2.2.2.2.2.1, y3.1.2.2.2.2.2.2.2.2.2.2.1, (Go.IntKind.wrap Go.IntKind.i64 (y3.1.2.2.2.2.2.2.2.2.2.2.2.1 + (1 : Int))), ()), ((y3.2.1.1, y3.2.1.2.1, y3.2.1.2.2.1, y3.2.1.2.2.2.1, y3.2.1.2.2.2.2.1, y3.2.1.2.2.2.2.2.1, y3.2.1.2.2.2.2.2.2.1, y3.2.1.2.2.2.2.2.2.2.1, ()), (y3.2.2.2.1.1, y3.2.2.2.1.2.1, ()), ())))
          else
            some (Sum.inl ((y3.1.1, y3.1.2.1, y3.1.2.2.1, y3.1.2.2.2.1, (), y3.1.2.2.2.2.2.1, (), y3.1.2.2.2.2.2.2.2.2.2.1, y3.1.2.2.2.2.2.2.2.2.2.2.1, (Go.IntKind.wrap Go.IntKind.i64 (y3.1.2.2.2.2.2.2.2.2.2.2.2.1 + (1 : Int))), ()), ((y3.2.1.1, y3.2.1.2.1, y3.2.1.2.2.1, y3.2.1.2.2.2.1, y3.2.1.2.2.2.2.1, y3.2.1.2.2.2.2.2.1, y3.2.1.2.2.2.2.2.2.1, y3.2.1.2.2.2.2.2.2.2.1, ()), (y3.2.2.1.1, y3.2.2.1.2.1, ()), ())))
    else
      none
  else
    some (Sum.inr ((best, ()), ()))
noncomputable def L_assign_Choose_0 : ((List (View) × Int × Int × Int × Unit × Int × Unit × List (View) × Int × Int × Unit) × ((Int × Int × Int × Int × Nat × Nat × Nat × List (Car) × Unit) × (Int × Int × Unit) × Unit)) → Option ((Int × Unit) × Unit) := iter (fun x => R_assign_Choose_0 x.1.1 x.1.2.1 x.1.2.2.1 x.1.2.2.2.1 x.1.2.2.2.2.2.1 x.1.2.2.2.2.2.2.2.1 x.1.2.2.2.2.2.2.2.2.1 x.1.2.2.2.2.2.2.2.2.2.1 x.2.1.1 x.2.1.2.1 x.2.1.2.2.1 x.2.1.2.2.2.1 x.2.1.2.2.2.2.1 x.2.1.2.2.2.2.2.1 x.2.1.2.2.2.2.2.2.1 x.2.1.2.2.2.2.2.2.2.1 x.2.2.1.1 x.2.2.1.2.1) fuel
noncomputable def F_assign_Choose (b_Floors : Int) (b_Debounce : Int) (b_Room : Int) (b_Park : Int) (b_Empty : Nat) (b_Full : Nat) (b_Over : Nat) (b_Cars : List (Car)) (views : List (View)) (floor : Int) (dir : Int) (except : Int) : Option ((Int × Unit) × Unit) :=
  (F_building_Valid b_Floors b_Debounce b_Room b_Park b_Empty b_Full b_Over b_Cars).bind fun y1 =>
  bif (y1.1.1 != (0 : Int)) then
    some (((-1 : Int), ()), ())
  else
    bif (((List.length views : Nat) : Int) != ((List.length b_Cars : Nat) : Int)) then
      some (((-1 : Int), ()), ())
    else
      (L_assign_Choose_0 ((views, floor, dir, except, (), (-1 : Int), (), views, ((List.length views : Nat) : Int), (0 : Int), ()), ((b_Floors, b_Debounce, b_Room, b_Park, b_Empty, b_Full, b_Over, b_Cars, ()), ((0 : Int), (0 : Int), ()), ()))).bind fun y2 =>
      some ((y2.1.1, ()), ())
/-! ### (overlay/assign.planner).other -/
noncomputable def F_assign_planner_other (p_b_Floors : Int) (p_b_Debounce : Int) (p_b_Room : Int) (p_b_Park : Int) (p_b_Empty : Nat) (p_b_Full : Nat) (p_b_Over : Nat) (p_b_Cars : List (Car)) (p_views : List (View)) (e_Floor : Int) (e_Dir : Int) (e_Car : Int) (e_Moves : Int) (e_Moved : Bool) (expect : Int) : Option ((Int × Unit) × Unit) :=
  (F_assign_Choose p_b_Floors p_b_Debounce p_b_Room p_b_Park p_b_Empty p_b_Full p_b_Over p_b_Cars p_views e_Floor e_Dir e_Car).bind fun y1 =>
  bif (y1.1.1 == (-1 : Int)) then
    some ((y1.1.1, ()), ())
  else
    bif (Go.Ab.inB e_Car (List.length p_views)) then
      let z0 : View := (List.getD p_views (Int.toNat e_Car) (View.mk false false false false (0 : Int) (0 : Int) (0 : Int) (0 : Int) (0 : Int) (0 : Int) (0 : Int) (0 : Int)))
      Option.bind (bif z0.Legacy then
            bif (expect == (0 : Int)) then
              (F_assign_rank p_b_Floors p_b_Debounce p_b_Room p_b_Park p_b_Empty p_b_Full p_b_Over p_b_Cars p_views y1.1.1 e_Floor e_Dir).bind fun y2 =>
              (F_assign_rank p_b_Floors p_b_Debounce p_b_Room p_b_Park p_b_Empty p_b_Full p_b_Over p_b_Cars p_views e_Car e_Floor e_Dir).bind fun y3 =>
              (F_assign_Better y2.2.1.1 y2.2.1.2.1 y3.2.1.1 y3.2.1.2.1).bind fun y4 =>
              some (((), y1.1.1, (), y4.1.1, ()), ((p_b_Floors, p_b_Debounce, p_b_Room, p_b_Park, p_b_Empty, p_b_Full, p_b_Over, p_b_Cars, p_views, ()), (z0.Ready, z0.Serving, z0.Legacy, z0.Lost, z0.Floor, z0.Dir, z0.Load, z0.Shows_Up, z0.Shows_Down, z0.Stops_Car, z0.Stops_Hall_Up, z0.Stops_Hall_Down, ()), ()))
            else
              some (((), y1.1.1, (), false, ()), ((p_b_Floors, p_b_Debounce, p_b_Room, p_b_Park, p_b_Empty, p_b_Full, p_b_Over, p_b_Cars, p_views, ()), (z0.Ready, z0.Serving, z0.Legacy, z0.Lost, z0.Floor, z0.Dir, z0.Load, z0.Shows_Up, z0.Shows_Down, z0.Stops_Car, z0.Stops_Hall_Up, z0.Stops_Hall_Down, ()), ()))
          else
            some (((), y1.1.1, (), false, ()), ((p_b_Floors, p_b_Debounce, p_b_Room, p_b_Park, p_b_Empty, p_b_Full, p_b_Over, p_b_Cars, p_views, ()), (z0.Ready, z0.Serving, z0.Legacy, z0.Lost, z0.Floor, z0.Dir, z0.Load, z0.Shows_Up, z0.Shows_Down, z0.Stops_Car, z0.Stops_Hall_Up, z0.Stops_Hall_Down, ()), ()))) fun y5 =>
      Option.bind (bif y5.1.2.2.2.1 then
            some ((y5.1.2.1, true, ()), ())
          else
            bif (!y5.2.2.1.2.2.1) then
              (F_assign_full y5.2.2.1.1 y5.2.2.1.2.1 y5.2.2.1.2.2.1 y5.2.2.1.2.2.2.1 y5.2.2.1.2.2.2.2.1 y5.2.2.1.2.2.2.2.2.1 y5.2.2.1.2.2.2.2.2.2.1 y5.2.2.1.2.2.2.2.2.2.2.1 y5.2.2.1.2.2.2.2.2.2.2.2.1 y5.2.2.1.2.2.2.2.2.2.2.2.2.1 y5.2.2.1.2.2.2.2.2.2.2.2.2.2.1 y5.2.2.1.2.2.2.2.2.2.2.2.2.2.2.1).bind fun y6 =>
              bif y6.1.1 then
                bif (Go.Ab.inB y5.1.2.1 (List.length y5.2.1.2.2.2.2.2.2.2.2.1)) then
                  let z1 : View := (List.getD y5.2.1.2.2.2.2.2.2.2.2.1 (Int.toNat y5.1.2.1) (View.mk false false false false (0 : Int) (0 : Int) (0 : Int) (0 : Int) (0 : Int) (0 : Int) (0 : Int) (0 : Int)))
                  (F_assign_full z1.Ready z1.Serving z1.Legacy z1.Lost z1.Floor z1.Dir z1.Load z1.Shows_Up z1.Shows_Down z1.Stops_Car z1.Stops_Hall_Up z1.Stops_Hall_Down).bind fun y7 =>
                  some ((y5.1.2.1, (!y7.1.1), ()), ())
                else
                  none
              else
                some ((y5.1.2.1, false, ()), ())
            else
              some ((y5.1.2.1, false, ()), ())) fun y8 =>
      bif y8.1.2.1 then
        some ((y8.1.1, ()), ())
      else
        some (((-1 : Int), ()), ())
    else
      none
/-! ### (overlay/assign.planner).decide -/
noncomputable def F_assign_planner_decide (p_b_Floors : Int) (p_b_Debounce : Int) (p_b_Room : Int) (p_b_Park : Int) (p_b_Empty : Nat) (p_b_Full : Nat) (p_b_Over : Nat) (p_b_Cars : List (Car)) (p_views : List (View)) (e_Floor : Int) (e_Dir : Int) (e_Car : Int) (e_Moves : Int) (e_Moved : Bool) (expect : Int) : Option ((Unit × Unit) × ((Int × Int × Int × Int × Bool × Unit) × Unit)) :=
  let z0 : Int := ((List.length p_b_Cars : Nat) : Int)
  bif (e_Car == (-2 : Int)) then
    some (((), ()), ((e_Floor, e_Dir, e_Car, e_Moves, e_Moved, ()), ()))
  else
    bif (e_Car == (-1 : Int)) then
      (F_assign_Choose p_b_Floors p_b_Debounce p_b_Room p_b_Park p_b_Empty p_b_Full p_b_Over p_b_Cars p_views e_Floor e_Dir (-1 : Int)).bind fun y1 =>
      some (((), ()), ((e_Floor, e_Dir, y1.1.1, e_Moves, e_Moved, ()), ()))
    else
      Option.bind (bif (Go.Ab.inB e_Car (List.length p_views)) then
            bif (List.getD p_views (Int.toNat e_Car) (View.mk false false false false (0 : Int) (0 : Int) (0 : Int) (0 : Int) (0 : Int) (0 : Int) (0 : Int) (0 : Int))).Lost then
              some ((expect, (), (), (), z0, (decide (z0 < e_Moves)), ()), ((p_b_Floors, p_b_Debounce, p_b_Room, p_b_Park, p_b_Empty, p_b_Full, p_b_Over, p_b_Cars, p_views, ()), (e_Floor, e_Dir, e_Car, e_Moves, e_Moved, ()), ((0 : Int), (0 : Int), (0 : Int), (0 : Int), false, ()), ()))
            else
              some ((expect, (), (), (), z0, false, ()), ((p_b_Floors, p_b_Debounce, p_b_Room, p_b_Park, p_b_Empty, p_b_Full, p_b_Over, p_b_Cars, p_views, ()), (e_Floor, e_Dir, e_Car, e_Moves, e_Moved, ()), ((0 : Int), (0 : Int), (0 : Int), (0 : Int), false, ()), ()))
          else
            none) fun y2 =>
      bif y2.1.2.2.2.2.2.1 then
        some (((), ()), ((y2.2.2.1.1, y2.2.2.1.2.1, (-2 : Int), y2.2.2.1.2.2.2.1, y2.2.2.1.2.2.2.2.1, ()), ()))
      else
        bif (Go.Ab.inB y2.2.2.1.2.2.1 (List.length y2.2.1.2.2.2.2.2.2.2.2.1)) then
          bif (List.getD y2.2.1.2.2.2.2.2.2.2.2.1 (Int.toNat y2.2.2.1.2.2.1) (View.mk false false false false (0 : Int) (0 : Int) (0 : Int) (0 : Int) (0 : Int) (0 : Int) (0 : Int) (0 : Int))).Lost then
            (F_assign_Choose y2.2.1.1 y2.2.1.2.1 y2.2.1.2.2.1 y2.2.1.2.2.2.1 y2.2.1.2.2.2.2.1 y2.2.1.2.2.2.2.2.1 y2.2.1.2.2.2.2.2.2.1 y2.2.1.2.2.2.2.2.2.2.1 y2.2.1.2.2.2.2.2.2.2.2.1 y2.2.2.1.1 y2.2.2.1.2.1 y2.2.2.1.2.2.1).bind fun y3 =>
            some (((), ()), ((y2.2.2.1.1, y2.2.2.1.2.1, y3.1.1, (Go.IntKind.wrap Go.IntKind.i64 (y2.2.2.1.2.2.2.1 + (1 : Int))), y2.2.2.1.2.2.2.2.1, ()), ()))
          else
            Option.bind (bif (!y2.2.2.1.2.2.2.2.1) then
                  some ((y2.1.1, (), (), (), (decide (y2.2.2.1.2.2.2.1 ≤ y2.1.2.2.2.2.1)), ()), ((y2.2.1.1, y2.2.1.2.1, y2.2.1.2.2.1, y2.2.1.2.2.2.1, y2.2.1.2.2.2.2.1, y2.2.1.2.2.2.2.2.1, y2.2.1.2.2.2.2.2.2.1, y2.2.1.2.2.2.2.2.2.2.1, y2.2.1.2.2.2.2.2.2.2.2.1, ()), (y2.2.2.1.1, y2.2.2.1.2.1, y2.2.2.1.2.2.1, y2.2.2.1.2.2.2.1, y2.2.2.1.2.2.2.2.1, ()), (y2.2.2.2.1.1, y2.2.2.2.1.2.1, y2.2.2.2.1.2.2.1, y2.2.2.2.1.2.2.2.1, y2.2.2.2.1.2.2.2.2.1, ()), ()))
                else
                  some ((y2.1.1, (), (), (), false, ()), ((y2.2.1.1, y2.2.1.2.1, y2.2.1.2.2.1, y2.2.1.2.2.2.1, y2.2.1.2.2.2.2.1, y2.2.1.2.2.2.2.2.1, y2.2.1.2.2.2.2.2.2.1, y2.2.1.2.2.2.2.2.2.2.1, y2.2.1.2.2.2.2.2.2.2.2.1, ()), (y2.2.2.1.1, y2.2.2.1.2.1, y2.2.2.1.2.2.1, y2.2.2.1.2.2.2.1, y2.2.2.1.2.2.2.2.1, ()), (y2.2.2.2.1.1, y2.2.2.2.1.2.1, y2.2.2.2.1.2.2.1, y2.2.2.2.1.2.2.2.1, y2.2.2.2.1.2.2.2.2.1, ()), ()))) fun y4 =>
            bif y4.1.2.2.2.2.1 then
              (F_assign_planner_other y4.2.1.1 y4.2.1.2.1 y4.2.1.2.2.1 y4.2.1.2.2.2.1 y4.2.1.2.2.2.2.1 y4.2.1.2.2.2.2.2.1 y4.2.1.2.2.2.2.2.2.1 y4.2.1.2.2.2.2.2.2.2.1 y4.2.1.2.2.2.2.2.2.2.2.1 y4.2.2.1.1 y4.2.2.1.2.1 y4.2.2.1.2.2.1 y4.2.2.1.2.2.2.1 y4.2.2.1.2.2.2.2.1 y4.1.1).bind fun y5 =>
              bif (y5.1.1 != (-1 : Int)) then
                some (((), ()), ((y4.2.2.1.1, y4.2.2.1.2.1, y5.1.1, (Go.IntKind.wrap Go.IntKind.i64 (y4.2.2.1.2.2.2.1 + (1 : Int))), true, ()), ()))
              else
                some (((), ()), ((y4.2.2.1.1, y4.2.2.1.2.1, y4.2.2.1.2.2.1, y4.2.2.1.2.2.2.1, y4.2.2.1.2.2.2.2.1, ()), ()))
            else
              some (((), ()), ((y4.2.2.1.1, y4.2.2.1.2.1, y4.2.2.1.2.2.1, y4.2.2.1.2.2.2.1, y4.2.2.1.2.2.2.2.1, ()), ()))
        else
          none
/-! ### overlay/assign.records -/
noncomputable def F_assign_records (was_Floor : Int) (was_Dir : Int) (was_Car : Int) (was_Moves : Int) (was_Moved : Bool) (is_Floor : Int) (is_Dir : Int) (is_Car : Int) (is_Moves : Int) (is_Moved : Bool) : Option ((List (Record) × Unit) × Unit) :=
  Option.bind (Option.bind (bif (was_Moves != is_Moves) then
            some (((), (), ([] : List (Record)), true, ()), ((was_Floor, was_Dir, was_Car, was_Moves, was_Moved, ()), (is_Floor, is_Dir, is_Car, is_Moves, is_Moved, ()), ()))
          else
            some (((), (), ([] : List (Record)), (!(was_Moved == is_Moved)), ()), ((was_Floor, was_Dir, was_Car, was_Moves, was_Moved, ()), (is_Floor, is_Dir, is_Car, is_Moves, is_Moved, ()), ()))) fun y1 =>
      bif y1.1.2.2.2.1 then
        bif y1.2.2.1.2.2.2.2.1 then
          let z0 : List (Record) := [(Record.mk (7 : Int) y1.2.2.1.1 y1.2.2.1.2.1 (1 : Int) y1.2.2.1.2.2.2.1)]
          bif (Nat.ble ((List.length y1.1.2.2.1) + (List.length z0)) 2147483648) then
            some (((), (), (y1.1.2.2.1 ++ z0), ()), ((y1.2.1.1, y1.2.1.2.1, y1.2.1.2.2.1, y1.2.1.2.2.2.1, y1.2.1.2.2.2.2.1, ()), (y1.2.2.1.1, y1.2.2.1.2.1, y1.2.2.1.2.2.1, y1.2.2.1.2.2.2.1, y1.2.2.1.2.2.2.2.1, ()), ()))
          else
            none
        else
          let z1 : List (Record) := [(Record.mk (7 : Int) y1.2.2.1.1 y1.2.2.1.2.1 (0 : Int) y1.2.2.1.2.2.2.1)]
          bif (Nat.ble ((List.length y1.1.2.2.1) + (List.length z1)) 2147483648) then
            some (((), (), (y1.1.2.2.1 ++ z1), ()), ((y1.2.1.1, y1.2.1.2.1, y1.2.1.2.2.1, y1.2.1.2.2.2.1, y1.2.1.2.2.2.2.1, ()), (y1.2.2.1.1, y1.2.2.1.2.1, y1.2.2.1.2.2.1, y1.2.2.1.2.2.2.1, y1.2.2.1.2.2.2.2.1, ()), ()))
          else
            none
      else
        some (((), (), y1.1.2.2.1, ()), ((y1.2.1.1, y1.2.1.2.1, y1.2.1.2.2.1, y1.2.1.2.2.2.1, y1.2.1.2.2.2.2.1, ()), (y1.2.2.1.1, y1.2.2.1.2.1, y1.2.2.1.2.2.1, y1.2.2.1.2.2.2.1, y1.2.2.1.2.2.2.2.1, ()), ()))) fun y2 =>
  bif (y2.2.1.2.2.1 != y2.2.2.1.2.2.1) then
    let z2 : List (Record) := [(Record.mk (3 : Int) y2.2.2.1.1 y2.2.2.1.2.1 y2.2.2.1.2.2.1 (0 : Int))]
    bif (Nat.ble ((List.length y2.1.2.2.1) + (List.length z2)) 2147483648) then
      some (((y2.1.2.2.1 ++ z2), ()), ())
    else
      none
  else
    some ((y2.1.2.2.1, ()), ())
/-! ### overlay/assign.Plan -/
noncomputable def R_assign_Plan_0 (expect : List (Int)) (views : List (View)) (l : List (Record)) (next : List (Int)) (s48 : List (Entry)) (s49 : Int) (s50 : Int) (b_Floors : Int) (b_Debounce : Int) (b_Room : Int) (b_Park : Int) (b_Empty : Nat) (b_Full : Nat) (b_Over : Nat) (b_Cars : List (Car)) (p_b_Floors : Int) (p_b_Debounce : Int) (p_b_Room : Int) (p_b_Park : Int) (p_b_Empty : Nat) (p_b_Full : Nat) (p_b_Over : Nat) (p_b_Cars : List (Car)) (p_views : List (View)) : Option (Sum ((List (Int) × List (View) × Unit × Unit × List (Record) × List (Int) × List (Entry) × Int × Int × Unit) × ((Int × Int × Int × Int × Nat × Nat × Nat × List (Car) × Unit) × (Int × Int × Int × Int × Nat × Nat × Nat × List (Car) × List (View) × Unit) × Unit)) ((List (Record) × List (Int) × Unit) × Unit)) :=
  bif (decide (s50 < s49)) then
    bif (Go.Ab.inB s50 (List.length s48)) then
      let z0 : Entry := (List.getD s48 (Int.toNat s50) (Entry.mk (0 : Int) (0 : Int) (0 : Int) (0 : Int) false))
      bif (Go.Ab.inB s50 (List.length expect)) then
        (F_assign_planner_decide p_b_Floors p_b_Debounce p_b_Room p_b_Park p_b_Empty p_b_Full p_b_Over p_b_Cars p_views z0.Floor z0.Dir z0.Car z0.Moves z0.Moved (List.getD expect (Int.toNat s50) (0 : Int))).bind fun y1 =>
        (F_assign_records z0.Floor z0.Dir z0.Car z0.Moves z0.Moved y1.2.1.1 y1.2.1.2.1 y1.2.1.2.2.1 y1.2.1.2.2.2.1 y1.2.1.2.2.2.2.1).bind fun y2 =>
        bif (Nat.ble ((List.length l) + (List.length y2.1.1)) 2147483648) then
          let z1 : List (Record) := (l ++ y2.1.1)
          bif (Go.Ab.inB s50 (List.length expect)) then
            let z2 : Int := (Go.IntKind.wrap Go.IntKind.i64 ((List.getD expect (Int.toNat s50) (0 : Int)) - (1 : Int)))
            bif (Go.Ab.inB s50 (List.length next)) then
              let z3 : List (Int) := (List.set next (Int.toNat s50) (bif (decide (z2 < (0 : Int))) then (0 : Int) else z2))
              Option.bind (bif (y1.2.1.2.2.1 != z0.Car) then
                    some ((expect, views, (), (), z1, z3, s50, (), (), s48, s49, s50, (decide ((0 : Int) ≤ y1.2.1.2.2.1)), ()), ((b_Floors, b_Debounce, b_Room, b_Park, b_Empty, b_Full, b_Over, b_Cars, ()), (p_b_Floors, p_b_Debounce, p_b_Room, p_b_Park, p_b_Empty, p_b_Full, p_b_Over, p_b_Cars, p_views, ()), (z0.Floor, z0.Dir, z0.Car, z0.Moves, z0.Moved, ()), (y1.2.1.1, y1.2.1.2.1, y1.2.1.2.2.1, y1.2.1.2.2.2.1, y1.2.1.2.2.2.2.1, ()), ()))
                  else
                    some ((expect, views, (), (), z1, z3, s50, (), (), s48, s49, s50, false, ()), ((b_Floors, b_Debounce, b_Room, b_Park, b_Empty, b_Full, b_Over, b_Cars, ()), (p_b_Floors, p_b_Debounce, p_b_Room, p_b_Park, p_b_Empty, p_b_Full, p_b_Over, p_b_Cars, p_views, ()), (z0.Floor, z0.Dir, z0.Car, z0.Moves, z0.Moved, ()), (y1.2.1.1, y1.2.1.2.1, y1.2.1.2.2.1, y1.2.1.2.2.2.1, y1.2.1.2.2.2.2.1, ()), ()))) fun y3 =>
              bif y3.1.2.2.2.2.2.2.2.2.2.2.2.2.1 then
                bif (Go.Ab.inB y3.2.2.2.2.1.2.2.1 (List.length y3.1.2.1)) then
                  let z4 : View := (List.getD y3.1.2.1 (Int.toNat y3.2.2.2.2.1.2.2.1) (View.mk false false false false (0 : Int) (0 : Int) (0 : Int) (0 : Int) (0 : Int) (0 : Int) (0 : Int) (0 : Int)))
                  (F_cost_Estimate y3.2.1.1 y3.2.1.2.1 y3.2.1.2.2.1 y3.2.1.2.2.2.1 y3.2.1.2.2.2.2.1 y3.2.1.2.2.2.2.2.1 y3.2.1.2.2.2.2.2.2.1 y3.2.1.2.2.2.2.2.2.2.1 y3.2.2.2.2.1.2.2.1 z4.Ready z4.Serving z4.Legacy z4.Lost z4.Floor z4.Dir z4.Load z4.Shows_Up z4.Shows_Down z4.Stops_Car z4.Stops_Hall_Up z4.Stops_Hall_Down y3.2.2.2.1.1 y3.2.2.2.1.2.1).bind fun y4 =>
                  bif (Go.Ab.inB y3.2.2.2.2.1.2.2.1 (List.length y3.2.1.2.2.2.2.2.2.2.1)) then
                    let z5 : Int := (Go.IntKind.wrap Go.IntKind.i64 (y4.1.1 + (List.getD y3.2.1.2.2.2.2.2.2.2.1 (Int.toNat y3.2.2.2.2.1.2.2.1) (Car.mk (0 : Int) (0 : Int) (0 : Int) (0 : Int) (0 : Int) (0 : Int) (0 : Int) (0 : Int) (0 : Int))).Slack))
                    bif (Go.Ab.inB y3.1.2.2.2.2.2.2.1 (List.length y3.1.2.2.2.2.2.1)) then
                      some (Sum.inl ((y3.1.1, y3.1.2.1, (), (), y3.1.2.2.2.2.1, (List.set y3.1.2.2.2.2.2.1 (Int.toNat y3.1.2.2.2.2.2.2.1) (bif (decide ((1000000 : Int) < z5)) then (1000000 : Int) else z5)), y3.1.2.2.2.2.2.2.2.2.2.1, y3.1.2.2.2.2.2.2.2.2.2.2.1, (Go.IntKind.wrap Go.IntKind.i64 (y3.1.2.2.2.2.2.2.2.2.2.2.2.1 + (1 : Int))), ()), ((y3.2.1.1, y3.2.1.2.1, y3.2.1.2.2.1, y3.2.1.2.2.2.1, y3.2.1.2.2.2.2.1, y3.2.1.2.2.2.2.2.1, y3.2.1.2.2.2.2.2.2.1, y3.2.1.2.2.2.2.2.2.2.1, ()), (y3.2.2.1.1, y3.2.2.1.2.1, y3.2.2.1.2.2.1, y3.2.2.1.2.2.2.1, y3.2.2.1.2.2.2.2.1, y3.2.2.1.2.2.2.2.2.1, y3.2.2.1.2.2.2.2.2.2.1, y3.2.2.1.2.2.2.2.2.2.2.1, y3.2.2.1.2.2.2.2.2.2.2.2.1, ()), ())))
                    else
                      none
                  else
                    none
                else
                  none
              else
                some (Sum.inl ((y3.1.1, y3.1.2.1, (), (), y3.1.2.2.2.2.1, y3.1.2.2.2.2.2.1, y3.1.2.2.2.2.2.2.2.2.2.1, y3.1.2.2.2.2.2.2.2.2.2.2.1, (Go.IntKind.wrap Go.IntKind.i64 (y3.1.2.2.2.2.2.2.2.2.2.2.2.1 + (1 : Int))), ()), ((y3.2.1.1, y3.2.1.2.1, y3.2.1.2.2.1, y3.2.1.2.2.2.1, y3.2.1.2.2.2.2.1, y3.2.1.2.2.2.2.2.1, y3.2.1.2.2.2.2.2.2.1, y3.2.1.2.2.2.2.2.2.2.1, ()), (y3.2.2.1.1, y3.2.2.1.2.1, y3.2.2.1.2.2.1, y3.2.2.1.2.2.2.1, y3.2.2.1.2.2.2.2.1, y3.2.2.1.2.2.2.2.2.1, y3.2.2.1.2.2.2.2.2.2.1, y3.2.2.1.2.2.2.2.2.2.2.1, y3.2.2.1.2.2.2.2.2.2.2.2.1, ()), ())))
            else
              none
          else
            none
        else
          none
      else
        none
    else
      none
  else
    some (Sum.inr ((l, next, ()), ()))
noncomputable def L_assign_Plan_0 : ((List (Int) × List (View) × Unit × Unit × List (Record) × List (Int) × List (Entry) × Int × Int × Unit) × ((Int × Int × Int × Int × Nat × Nat × Nat × List (Car) × Unit) × (Int × Int × Int × Int × Nat × Nat × Nat × List (Car) × List (View) × Unit) × Unit)) → Option ((List (Record) × List (Int) × Unit) × Unit) := iter (fun x => R_assign_Plan_0 x.1.1 x.1.2.1 x.1.2.2.2.2.1 x.1.2.2.2.2.2.1 x.1.2.2.2.2.2.2.1 x.1.2.2.2.2.2.2.2.1 x.1.2.2.2.2.2.2.2.2.1 x.2.1.1 x.2.1.2.1 x.2.1.2.2.1 x.2.1.2.2.2.1 x.2.1.2.2.2.2.1 x.2.1.2.2.2.2.2.1 x.2.1.2.2.2.2.2.2.1 x.2.1.2.2.2.2.2.2.2.1 x.2.2.1.1 x.2.2.1.2.1 x.2.2.1.2.2.1 x.2.2.1.2.2.2.1 x.2.2.1.2.2.2.2.1 x.2.2.1.2.2.2.2.2.1 x.2.2.1.2.2.2.2.2.2.1 x.2.2.1.2.2.2.2.2.2.2.1 x.2.2.1.2.2.2.2.2.2.2.2.1) fuel
noncomputable def F_assign_Plan (b_Floors : Int) (b_Debounce : Int) (b_Room : Int) (b_Park : Int) (b_Empty : Nat) (b_Full : Nat) (b_Over : Nat) (b_Cars : List (Car)) (m_Phases : List (Int)) (m_Flags : List (Bool)) (m_Leaving : List (Bool)) (m_Entries : List (Entry)) (expect : List (Int)) (views : List (View)) : Option ((List (Record) × List (Int) × Int × Unit) × Unit) :=
  (F_log_IsImage b_Floors b_Debounce b_Room b_Park b_Empty b_Full b_Over b_Cars m_Phases m_Flags m_Leaving m_Entries).bind fun y1 =>
  bif (!y1.1.1) then
    some ((([] : List (Record)), ([] : List (Int)), (1 : Int), ()), ())
  else
    bif (((List.length expect : Nat) : Int) != ((List.length m_Entries : Nat) : Int)) then
      some ((([] : List (Record)), ([] : List (Int)), (1 : Int), ()), ())
    else
      bif (((List.length views : Nat) : Int) != ((List.length b_Cars : Nat) : Int)) then
        some ((([] : List (Record)), ([] : List (Int)), (1 : Int), ()), ())
      else
        (F_slices_ContainsFunc_sl_int_int_assign_Plan_1 expect).bind fun y2 =>
        bif y2.1.1 then
          some ((([] : List (Record)), ([] : List (Int)), (1 : Int), ()), ())
        else
          let z0 : Int := ((List.length expect : Nat) : Int)
          bif (((decide ((0 : Int) ≤ z0)) && (decide (z0 ≤ z0))) && (decide (z0 ≤ (2147483648 : Int)))) then
            (L_assign_Plan_0 ((expect, views, (), (), ([] : List (Record)), (List.replicate (Int.toNat z0) (0 : Int)), m_Entries, ((List.length m_Entries : Nat) : Int), (0 : Int), ()), ((b_Floors, b_Debounce, b_Room, b_Park, b_Empty, b_Full, b_Over, b_Cars, ()), (b_Floors, b_Debounce, b_Room, b_Park, b_Empty, b_Full, b_Over, b_Cars, views, ()), ()))).bind fun y3 =>
            some ((y3.1.1, y3.1.2.1, (0 : Int), ()), ())
          else
            none
/-! ### overlay/overlayref22.IsExpect -/
noncomputable def R_r22_IsExpect_0 (expect : List (Int)) (i : Int) (m_Phases : List (Int)) (m_Flags : List (Bool)) (m_Leaving : List (Bool)) (m_Entries : List (Entry)) : Option (Sum ((List (Int) × Unit × Int × Unit) × ((List (Int) × List (Bool) × List (Bool) × List (Entry) × Unit) × Unit)) (((List (Int) × Unit × Unit) × ((List (Int) × List (Bool) × List (Bool) × List (Entry) × Unit) × Unit)) ⊕ ((Bool × Unit) × Unit))) :=
  bif (decide (i < ((List.length expect : Nat) : Int))) then
    bif (Go.Ab.inB i (List.length expect)) then
      bif (decide ((List.getD expect (Int.toNat i) (0 : Int)) < (0 : Int))) then
        some (Sum.inr (Sum.inr ((false, ()), ())))
      else
        bif (Go.Ab.inB i (List.length expect)) then
          bif (decide ((1000000 : Int) < (List.getD expect (Int.toNat i) (0 : Int)))) then
            some (Sum.inr (Sum.inr ((false, ()), ())))
          else
            some (Sum.inl ((expect, (), (Go.IntKind.wrap Go.IntKind.i64 (i + (1 : Int))), ()), ((m_Phases, m_Flags, m_Leaving, m_Entries, ()), ())))
        else
          none
    else
      none
  else
    some (Sum.inr (Sum.inl ((expect, (), ()), ((m_Phases, m_Flags, m_Leaving, m_Entries, ()), ()))))
noncomputable def L_r22_IsExpect_0 : ((List (Int) × Unit × Int × Unit) × ((List (Int) × List (Bool) × List (Bool) × List (Entry) × Unit) × Unit)) → Option (((List (Int) × Unit × Unit) × ((List (Int) × List (Bool) × List (Bool) × List (Entry) × Unit) × Unit)) ⊕ ((Bool × Unit) × Unit)) := iter (fun x => R_r22_IsExpect_0 x.1.1 x.1.2.2.1 x.2.1.1 x.2.1.2.1 x.2.1.2.2.1 x.2.1.2.2.2.1) fuel
noncomputable def F_r22_IsExpect (m_Phases : List (Int)) (m_Flags : List (Bool)) (m_Leaving : List (Bool)) (m_Entries : List (Entry)) (expect : List (Int)) : Option ((Bool × Unit) × Unit) :=
  (L_r22_IsExpect_0 ((expect, (), (0 : Int), ()), ((m_Phases, m_Flags, m_Leaving, m_Entries, ()), ()))).bind fun y1 =>
  (match y1 with
  | .inl y2 =>
    some (((((List.length y2.1.1 : Nat) : Int) == ((List.length y2.2.1.2.2.2.1 : Nat) : Int)), ()), ())
  | .inr y2 =>
    some ((y2.1.1, ()), ()))
/-! ### overlay/overlayref22.full -/
noncomputable def F_r22_full (v_Ready : Bool) (v_Serving : Bool) (v_Legacy : Bool) (v_Lost : Bool) (v_Floor : Int) (v_Dir : Int) (v_Load : Int) (v_Shows_Up : Int) (v_Shows_Down : Int) (v_Stops_Car : Int) (v_Stops_Hall_Up : Int) (v_Stops_Hall_Down : Int) : Option ((Bool × Unit) × Unit) :=
  Option.bind (bif (v_Load == (3 : Int)) then
        some ((true, ()), ())
      else
        some (((v_Load == (4 : Int)), ()), ())) fun y1 =>
  some ((y1.1.1, ()), ())
/-! ### overlay/overlayref21.is -/
noncomputable def F_r21_is (floors : Int) (s_Car : Int) (s_Hall_Up : Int) (s_Hall_Down : Int) (f : Int) (kind : Int) : Option ((Bool × Unit) × Unit) :=
  bif (kind == (1 : Int)) then
    Option.bind (bif (decide (f < (Go.IntKind.wrap Go.IntKind.i64 (floors - (1 : Int))))) then
          let z0 : Int := (Go.IntKind.wrap Go.IntKind.u64 f)
          bif (decide ((0 : Int) ≤ z0)) then
            let z1 : Int := (Int.fdiv s_Hall_Up ((2 : Int) ^ (Min.min (Int.toNat z0) (Go.IntKind.bits Go.IntKind.u32))))
            some ((((Go.IntKind.wrap Go.IntKind.u32 (Go.Ab.stk z1 (1 : Int) (BitVec.toNat ((BitVec.ofInt (Go.IntKind.bits Go.IntKind.u32) z1) &&& (BitVec.ofInt (Go.IntKind.bits Go.IntKind.u32) (1 : Int)))))) == (1 : Int)), ()), ())
          else
            none
        else
          some ((false, ()), ())) fun y1 =>
    some ((y1.1.1, ()), ())
  else
    bif (kind == (2 : Int)) then
      Option.bind (bif (decide ((0 : Int) < f)) then
            let z2 : Int := (Go.IntKind.wrap Go.IntKind.u64 f)
            bif (decide ((0 : Int) ≤ z2)) then
              let z3 : Int := (Int.fdiv s_Hall_Down ((2 : Int) ^ (Min.min (Int.toNat z2) (Go.IntKind.bits Go.IntKind.u32))))
              some ((((Go.IntKind.wrap Go.IntKind.u32 (Go.Ab.stk z3 (1 : Int) (BitVec.toNat ((BitVec.ofInt (Go.IntKind.bits Go.IntKind.u32) z3) &&& (BitVec.ofInt (Go.IntKind.bits Go.IntKind.u32) (1 : Int)))))) == (1 : Int)), ()), ())
            else
              none
          else
            some ((false, ()), ())) fun y2 =>
      some ((y2.1.1, ()), ())
    else
      let z4 : Int := (Go.IntKind.wrap Go.IntKind.u64 f)
      bif (decide ((0 : Int) ≤ z4)) then
        let z5 : Int := (Int.fdiv s_Car ((2 : Int) ^ (Min.min (Int.toNat z4) (Go.IntKind.bits Go.IntKind.u32))))
        some ((((Go.IntKind.wrap Go.IntKind.u32 (Go.Ab.stk z5 (1 : Int) (BitVec.toNat ((BitVec.ofInt (Go.IntKind.bits Go.IntKind.u32) z5) &&& (BitVec.ofInt (Go.IntKind.bits Go.IntKind.u32) (1 : Int)))))) == (1 : Int)), ()), ())
      else
        none
/-! ### overlay/overlayref21.Path -/
noncomputable def R_r21_Path_0 (floors : Int) (from_1 : Int) (sweep : Int) (floor : Int) (dir : Int) (hi : Int) (lo : Int) (f : Int) (s_Car : Int) (s_Hall_Up : Int) (s_Hall_Down : Int) : Option (Sum ((Int × Int × Int × Int × Int × Unit × Int × Int × Int × Unit) × ((Int × Int × Int × Unit) × Unit)) ((Int × Int × Int × Int × Int × Int × Unit) × Unit)) :=
  bif (decide (f < floors)) then
    Option.bind ((F_r21_is floors s_Car s_Hall_Up s_Hall_Down f (0 : Int)).bind fun y1 =>
        bif y1.1.1 then
          some ((floors, from_1, sweep, floor, dir, (), hi, lo, f, true, ()), ((s_Car, s_Hall_Up, s_Hall_Down, ()), ()))
        else
          (F_r21_is floors s_Car s_Hall_Up s_Hall_Down f (1 : Int)).bind fun y2 =>
          bif y2.1.1 then
            some ((floors, from_1, sweep, floor, dir, (), hi, lo, f, true, ()), ((s_Car, s_Hall_Up, s_Hall_Down, ()), ()))
          else
            (F_r21_is floors s_Car s_Hall_Up s_Hall_Down f (2 : Int)).bind fun y3 =>
            some ((floors, from_1, sweep, floor, dir, (), hi, lo, f, y3.1.1, ()), ((s_Car, s_Hall_Up, s_Hall_Down, ()), ()))) fun y4 =>
    bif y4.1.2.2.2.2.2.2.2.2.2.1 then
      some (Sum.inl ((y4.1.1, y4.1.2.1, y4.1.2.2.1, y4.1.2.2.2.1, y4.1.2.2.2.2.1, (), (bif (decide (y4.1.2.2.2.2.2.2.1 < y4.1.2.2.2.2.2.2.2.2.1)) then y4.1.2.2.2.2.2.2.2.2.1 else y4.1.2.2.2.2.2.2.1), (bif (decide (y4.1.2.2.2.2.2.2.2.2.1 < y4.1.2.2.2.2.2.2.2.1)) then y4.1.2.2.2.2.2.2.2.2.1 else y4.1.2.2.2.2.2.2.2.1), (Go.IntKind.wrap Go.IntKind.i64 (y4.1.2.2.2.2.2.2.2.2.1 + (1 : Int))), ()), ((y4.2.1.1, y4.2.1.2.1, y4.2.1.2.2.1, ()), ())))
    else
      some (Sum.inl ((y4.1.1, y4.1.2.1, y4.1.2.2.1, y4.1.2.2.2.1, y4.1.2.2.2.2.1, (), y4.1.2.2.2.2.2.2.1, y4.1.2.2.2.2.2.2.2.1, (Go.IntKind.wrap Go.IntKind.i64 (y4.1.2.2.2.2.2.2.2.2.1 + (1 : Int))), ()), ((y4.2.1.1, y4.2.1.2.1, y4.2.1.2.2.1, ()), ())))
  else
    some (Sum.inr ((from_1, sweep, floor, dir, hi, lo, ()), ()))
noncomputable def L_r21_Path_0 : ((Int × Int × Int × Int × Int × Unit × Int × Int × Int × Unit) × ((Int × Int × Int × Unit) × Unit)) → Option ((Int × Int × Int × Int × Int × Int × Unit) × Unit) := iter (fun x => R_r21_Path_0 x.1.1 x.1.2.1 x.1.2.2.1 x.1.2.2.2.1 x.1.2.2.2.2.1 x.1.2.2.2.2.2.2.1 x.1.2.2.2.2.2.2.2.1 x.1.2.2.2.2.2.2.2.2.1 x.2.1.1 x.2.1.2.1 x.2.1.2.2.1) fuel
noncomputable def F_r21_Path (floors : Int) (from_1 : Int) (sweep : Int) (s_Car : Int) (s_Hall_Up : Int) (s_Hall_Down : Int) (floor : Int) (dir : Int) : Option ((Int × Unit) × Unit) :=
  bif (decide (floors < (2 : Int))) then
    some (((-1 : Int), ()), ())
  else
    bif (decide ((32 : Int) < floors)) then
      some (((-1 : Int), ()), ())
    else
      bif (decide (from_1 < (0 : Int))) then
        some (((-1 : Int), ()), ())
      else
        bif (decide (floors ≤ from_1)) then
          some (((-1 : Int), ()), ())
        else
          bif (decide (sweep < (0 : Int))) then
            some (((-1 : Int), ()), ())
          else
            bif (decide ((2 : Int) < sweep)) then
              some (((-1 : Int), ()), ())
            else
              Option.bind (bif (dir == (1 : Int)) then
                    bif (decide ((0 : Int) ≤ floor)) then
                      bif (decide (floor < (Go.IntKind.wrap Go.IntKind.i64 (floors - (1 : Int))))) then
                        some ((floors, from_1, sweep, floor, dir, (), false, ()), ((s_Car, s_Hall_Up, s_Hall_Down, ()), ()))
                      else
                        bif (dir == (2 : Int)) then
                          bif (decide ((0 : Int) < floor)) then
                            some ((floors, from_1, sweep, floor, dir, (), (!(decide (floor < floors))), ()), ((s_Car, s_Hall_Up, s_Hall_Down, ()), ()))
                          else
                            some ((floors, from_1, sweep, floor, dir, (), true, ()), ((s_Car, s_Hall_Up, s_Hall_Down, ()), ()))
                        else
                          some ((floors, from_1, sweep, floor, dir, (), true, ()), ((s_Car, s_Hall_Up, s_Hall_Down, ()), ()))
                    else
                      bif (dir == (2 : Int)) then
                        bif (decide ((0 : Int) < floor)) then
                          some ((floors, from_1, sweep, floor, dir, (), (!(decide (floor < floors))), ()), ((s_Car, s_Hall_Up, s_Hall_Down, ()), ()))
                        else
                          some ((floors, from_1, sweep, floor, dir, (), true, ()), ((s_Car, s_Hall_Up, s_Hall_Down, ()), ()))
                      else
                        some ((floors, from_1, sweep, floor, dir, (), true, ()), ((s_Car, s_Hall_Up, s_Hall_Down, ()), ()))
                  else
                    bif (dir == (2 : Int)) then
                      bif (decide ((0 : Int) < floor)) then
                        some ((floors, from_1, sweep, floor, dir, (), (!(decide (floor < floors))), ()), ((s_Car, s_Hall_Up, s_Hall_Down, ()), ()))
                      else
                        some ((floors, from_1, sweep, floor, dir, (), true, ()), ((s_Car, s_Hall_Up, s_Hall_Down, ()), ()))
                    else
                      some ((floors, from_1, sweep, floor, dir, (), true, ()), ((s_Car, s_Hall_Up, s_Hall_Down, ()), ()))) fun y1 =>
              bif y1.1.2.2.2.2.2.2.1 then
                some (((-1 : Int), ()), ())
              else
                (L_r21_Path_0 ((y1.1.1, y1.1.2.1, y1.1.2.2.1, y1.1.2.2.2.1, y1.1.2.2.2.2.1, (), (bif (decide (y1.1.2.1 < y1.1.2.2.2.1)) then y1.1.2.2.2.1 else y1.1.2.1), (bif (decide (y1.1.2.2.2.1 < y1.1.2.1)) then y1.1.2.2.2.1 else y1.1.2.1), (0 : Int), ()), ((y1.2.1.1, y1.2.1.2.1, y1.2.1.2.2.1, ()), ()))).bind fun y2 =>
                bif (y2.1.2.1 == (0 : Int)) then
                  let z0 : Int := (Go.IntKind.wrap Go.IntKind.i64 (y2.1.1 - y2.1.2.2.1))
                  let z1 : Int := (Go.IntKind.wrap Go.IntKind.i64 (y2.1.2.2.1 - y2.1.1))
                  some (((bif (decide (z0 < z1)) then z1 else z0), ()), ())
                else
                  Option.bind (bif (y2.1.2.1 == (1 : Int)) then
                        bif (y2.1.2.2.2.1 == (1 : Int)) then
                          some ((y2.1.1, y2.1.2.1, y2.1.2.2.1, y2.1.2.2.2.1, y2.1.2.2.2.2.1, y2.1.2.2.2.2.2.1, (decide (y2.1.1 ≤ y2.1.2.2.1)), ()), ())
                        else
                          some ((y2.1.1, y2.1.2.1, y2.1.2.2.1, y2.1.2.2.2.1, y2.1.2.2.2.2.1, y2.1.2.2.2.2.2.1, false, ()), ())
                      else
                        some ((y2.1.1, y2.1.2.1, y2.1.2.2.1, y2.1.2.2.2.1, y2.1.2.2.2.2.1, y2.1.2.2.2.2.2.1, false, ()), ())) fun y3 =>
                  bif y3.1.2.2.2.2.2.2.1 then
                    some (((Go.IntKind.wrap Go.IntKind.i64 (y3.1.2.2.1 - y3.1.1)), ()), ())
                  else
                    Option.bind (bif (y3.1.2.1 == (1 : Int)) then
                          some ((y3.1.1, y3.1.2.1, y3.1.2.2.1, y3.1.2.2.2.1, y3.1.2.2.2.2.1, y3.1.2.2.2.2.2.1, (y3.1.2.2.2.1 == (2 : Int)), ()), ())
                        else
                          some ((y3.1.1, y3.1.2.1, y3.1.2.2.1, y3.1.2.2.2.1, y3.1.2.2.2.2.1, y3.1.2.2.2.2.2.1, false, ()), ())) fun y4 =>
                    bif y4.1.2.2.2.2.2.2.1 then
                      some (((Go.IntKind.wrap Go.IntKind.i64 ((Go.IntKind.wrap Go.IntKind.i64 ((Go.IntKind.wrap Go.IntKind.i64 (y4.1.2.2.2.2.1 - y4.1.1)) + y4.1.2.2.2.2.1)) - y4.1.2.2.1)), ()), ())
                    else
                      bif (y4.1.2.1 == (1 : Int)) then
                        some (((Go.IntKind.wrap Go.IntKind.i64 ((Go.IntKind.wrap Go.IntKind.i64 ((Go.IntKind.wrap Go.IntKind.i64 ((Go.IntKind.wrap Go.IntKind.i64 ((Go.IntKind.wrap Go.IntKind.i64 (y4.1.2.2.2.2.1 - y4.1.1)) + y4.1.2.2.2.2.1)) - y4.1.2.2.2.2.2.1)) + y4.1.2.2.1)) - y4.1.2.2.2.2.2.1)), ()), ())
                      else
                        Option.bind (bif (y4.1.2.2.2.1 == (2 : Int)) then
                              some ((y4.1.1, y4.1.2.2.1, y4.1.2.2.2.1, y4.1.2.2.2.2.1, y4.1.2.2.2.2.2.1, (decide (y4.1.2.2.1 ≤ y4.1.1)), ()), ())
                            else
                              some ((y4.1.1, y4.1.2.2.1, y4.1.2.2.2.1, y4.1.2.2.2.2.1, y4.1.2.2.2.2.2.1, false, ()), ())) fun y5 =>
                        bif y5.1.2.2.2.2.2.1 then
                          some (((Go.IntKind.wrap Go.IntKind.i64 (y5.1.1 - y5.1.2.1)), ()), ())
                        else
                          bif (y5.1.2.2.1 == (1 : Int)) then
                            some (((Go.IntKind.wrap Go.IntKind.i64 ((Go.IntKind.wrap Go.IntKind.i64 ((Go.IntKind.wrap Go.IntKind.i64 (y5.1.1 - y5.1.2.2.2.2.1)) + y5.1.2.1)) - y5.1.2.2.2.2.1)), ()), ())
                          else
                            some (((Go.IntKind.wrap Go.IntKind.i64 ((Go.IntKind.wrap Go.IntKind.i64 ((Go.IntKind.wrap Go.IntKind.i64 ((Go.IntKind.wrap Go.IntKind.i64 ((Go.IntKind.wrap Go.IntKind.i64 (y5.1.1 - y5.1.2.2.2.2.1)) + y5.1.2.2.2.1)) - y5.1.2.2.2.2.1)) + y5.1.2.2.2.1)) - y5.1.2.1)), ()), ())
/-! ### overlay/overlayref21.Count -/
noncomputable def R_r21_Count_1 (floors : Int) (n : Int) (f : Int) (k : Int) (s_Car : Int) (s_Hall_Up : Int) (s_Hall_Down : Int) : Option (Sum ((Int × Unit × Int × Int × Int × Unit) × ((Int × Int × Int × Unit) × Unit)) ((Int × Unit × Int × Int × Unit) × ((Int × Int × Int × Unit) × Unit))) :=
  bif (decide (k < (3 : Int))) then
    (F_r21_is floors s_Car s_Hall_Up s_Hall_Down f k).bind fun y1 =>
    bif y1.1.1 then
      some (Sum.inl ((floors, (), (Go.IntKind.wrap Go.IntKind.i64 (n + (1 : Int))), f, (Go.IntKind.wrap Go.IntKind.i64 (k + (1 : Int))), ()), ((s_Car, s_Hall_Up, s_Hall_Down, ()), ())))
    else
      some (Sum.inl ((floors, (), n, f, (Go.IntKind.wrap Go.IntKind.i64 (k + (1 : Int))), ()), ((s_Car, s_Hall_Up, s_Hall_Down, ()), ())))
  else
    some (Sum.inr ((floors, (), n, f, ()), ((s_Car, s_Hall_Up, s_Hall_Down, ()), ())))
noncomputable def L_r21_Count_1 : ((Int × Unit × Int × Int × Int × Unit) × ((Int × Int × Int × Unit) × Unit)) → Option ((Int × Unit × Int × Int × Unit) × ((Int × Int × Int × Unit) × Unit)) := iter (fun x => R_r21_Count_1 x.1.1 x.1.2.2.1 x.1.2.2.2.1 x.1.2.2.2.2.1 x.2.1.1 x.2.1.2.1 x.2.1.2.2.1) fuel
noncomputable def R_r21_Count_0 (floors : Int) (n : Int) (f : Int) (s_Car : Int) (s_Hall_Up : Int) (s_Hall_Down : Int) : Option (Sum ((Int × Unit × Int × Int × Unit) × ((Int × Int × Int × Unit) × Unit)) ((Int × Unit) × Unit)) :=
  bif (decide (f < floors)) then
    (L_r21_Count_1 ((floors, (), n, f, (0 : Int), ()), ((s_Car, s_Hall_Up, s_Hall_Down, ()), ()))).bind fun y1 =>
    some (Sum.inl ((y1.1.1, (), y1.1.2.2.1, (Go.IntKind.wrap Go.IntKind.i64 (y1.1.2.2.2.1 + (1 : Int))), ()), ((y1.2.1.1, y1.2.1.2.1, y1.2.1.2.2.1, ()), ())))
  else
    some (Sum.inr ((n, ()), ()))
noncomputable def L_r21_Count_0 : ((Int × Unit × Int × Int × Unit) × ((Int × Int × Int × Unit) × Unit)) → Option ((Int × Unit) × Unit) := iter (fun x => R_r21_Count_0 x.1.1 x.1.2.2.1 x.1.2.2.2.1 x.2.1.1 x.2.1.2.1 x.2.1.2.2.1) fuel
noncomputable def F_r21_Count (floors : Int) (s_Car : Int) (s_Hall_Up : Int) (s_Hall_Down : Int) : Option ((Int × Unit) × Unit) :=
  bif (decide (floors < (2 : Int))) then
    some (((0 : Int), ()), ())
  else
    bif (decide ((32 : Int) < floors)) then
      some (((0 : Int), ()), ())
    else
      (L_r21_Count_0 ((floors, (), (0 : Int), (0 : Int), ()), ((s_Car, s_Hall_Up, s_Hall_Down, ()), ()))).bind fun y1 =>
      some ((y1.1.1, ()), ())
/-! ### overlay/overlayref21.Estimate -/
noncomputable def F_r21_Estimate (b_Floors : Int) (b_Debounce : Int) (b_Room : Int) (b_Park : Int) (b_Empty : Nat) (b_Full : Nat) (b_Over : Nat) (b_Cars : List (Car)) (car : Int) (v_Ready : Bool) (v_Serving : Bool) (v_Legacy : Bool) (v_Lost : Bool) (v_Floor : Int) (v_Dir : Int) (v_Load : Int) (v_Shows_Up : Int) (v_Shows_Down : Int) (v_Stops_Car : Int) (v_Stops_Hall_Up : Int) (v_Stops_Hall_Down : Int) (floor : Int) (dir : Int) : Option ((Int × Unit) × Unit) :=
  (F_r01_Valid b_Floors b_Debounce b_Room b_Park b_Empty b_Full b_Over b_Cars).bind fun y1 =>
  bif (y1.1.1 != (0 : Int)) then
    some (((1000000 : Int), ()), ())
  else
    bif (decide (car < (0 : Int))) then
      some (((1000000 : Int), ()), ())
    else
      bif (decide (((List.length b_Cars : Nat) : Int) ≤ car)) then
        some (((1000000 : Int), ()), ())
      else
        bif (decide (v_Floor < (0 : Int))) then
          some (((1000000 : Int), ()), ())
        else
          Option.bind (bif (v_Dir == (3 : Int)) then
                some ((car, floor, dir, (), (), (0 : Int), ()), ((b_Floors, b_Debounce, b_Room, b_Park, b_Empty, b_Full, b_Over, b_Cars, ()), (v_Ready, v_Serving, v_Legacy, v_Lost, v_Floor, v_Dir, v_Load, v_Shows_Up, v_Shows_Down, v_Stops_Car, v_Stops_Hall_Up, v_Stops_Hall_Down, ()), ()))
              else
                some ((car, floor, dir, (), (), v_Dir, ()), ((b_Floors, b_Debounce, b_Room, b_Park, b_Empty, b_Full, b_Over, b_Cars, ()), (v_Ready, v_Serving, v_Legacy, v_Lost, v_Floor, v_Dir, v_Load, v_Shows_Up, v_Shows_Down, v_Stops_Car, v_Stops_Hall_Up, v_Stops_Hall_Down, ()), ()))) fun y2 =>
          (F_r21_Path y2.2.1.1 y2.2.2.1.2.2.2.2.1 y2.1.2.2.2.2.2.1 y2.2.2.1.2.2.2.2.2.2.2.2.2.1 y2.2.2.1.2.2.2.2.2.2.2.2.2.2.1 y2.2.2.1.2.2.2.2.2.2.2.2.2.2.2.1 y2.1.2.1 y2.1.2.2.1).bind fun y3 =>
          bif (decide (y3.1.1 < (0 : Int))) then
            some (((1000000 : Int), ()), ())
          else
            bif (Go.Ab.inB y2.1.1 (List.length y2.2.1.2.2.2.2.2.2.2.1)) then
              let z0 : Car := (List.getD y2.2.1.2.2.2.2.2.2.2.1 (Int.toNat y2.1.1) (Car.mk (0 : Int) (0 : Int) (0 : Int) (0 : Int) (0 : Int) (0 : Int) (0 : Int) (0 : Int) (0 : Int)))
              (F_r21_Count y2.2.1.1 y2.2.2.1.2.2.2.2.2.2.2.2.2.1 y2.2.2.1.2.2.2.2.2.2.2.2.2.2.1 y2.2.2.1.2.2.2.2.2.2.2.2.2.2.2.1).bind fun y4 =>
              let z1 : Int := (Go.IntKind.wrap Go.IntKind.i64 ((Go.IntKind.wrap Go.IntKind.i64 (y3.1.1 * z0.Step)) + (Go.IntKind.wrap Go.IntKind.i64 (y4.1.1 * (Go.IntKind.wrap Go.IntKind.i64 ((Go.IntKind.wrap Go.IntKind.i64 ((2 : Int) * z0.Travel)) + z0.Dwell))))))
              some (((bif (decide ((1000000 : Int) < z1)) then (1000000 : Int) else z1), ()), ())
            else
              none
/-! ### overlay/overlayref22.rank -/
noncomputable def F_r22_rank (b_Floors : Int) (b_Debounce : Int) (b_Room : Int) (b_Park : Int) (b_Empty : Nat) (b_Full : Nat) (b_Over : Nat) (b_Cars : List (Car)) (views : List (View)) (car : Int) (floor : Int) (dir : Int) : Option ((Unit × Unit) × ((Int × Int × Unit) × Unit)) :=
  Option.bind (bif (Go.Ab.inB car (List.length views)) then
        let z0 : View := (List.getD views (Int.toNat car) (View.mk false false false false (0 : Int) (0 : Int) (0 : Int) (0 : Int) (0 : Int) (0 : Int) (0 : Int) (0 : Int)))
        (F_r22_full z0.Ready z0.Serving z0.Legacy z0.Lost z0.Floor z0.Dir z0.Load z0.Shows_Up z0.Shows_Down z0.Stops_Car z0.Stops_Hall_Up z0.Stops_Hall_Down).bind fun y1 =>
        bif y1.1.1 then
          some ((views, car, floor, dir, (), (), (1 : Int), ()), ((b_Floors, b_Debounce, b_Room, b_Park, b_Empty, b_Full, b_Over, b_Cars, ()), ((0 : Int), (0 : Int), ()), ()))
        else
          some ((views, car, floor, dir, (), (), (0 : Int), ()), ((b_Floors, b_Debounce, b_Room, b_Park, b_Empty, b_Full, b_Over, b_Cars, ()), ((0 : Int), (0 : Int), ()), ()))
      else
        none) fun y2 =>
  bif (Go.Ab.inB y2.1.2.1 (List.length y2.1.1)) then
    let z1 : View := (List.getD y2.1.1 (Int.toNat y2.1.2.1) (View.mk false false false false (0 : Int) (0 : Int) (0 : Int) (0 : Int) (0 : Int) (0 : Int) (0 : Int) (0 : Int)))
    (F_r21_Estimate y2.2.1.1 y2.2.1.2.1 y2.2.1.2.2.1 y2.2.1.2.2.2.1 y2.2.1.2.2.2.2.1 y2.2.1.2.2.2.2.2.1 y2.2.1.2.2.2.2.2.2.1 y2.2.1.2.2.2.2.2.2.2.1 y2.1.2.1 z1.Ready z1.Serving z1.Legacy z1.Lost z1.Floor z1.Dir z1.Load z1.Shows_Up z1.Shows_Down z1.Stops_Car z1.Stops_Hall_Up z1.Stops_Hall_Down y2.1.2.2.1 y2.1.2.2.2.1).bind fun y3 =>
    some (((), ()), ((y2.1.2.2.2.2.2.2.1, y3.1.1, ()), ()))
  else
    none
/-! ### overlay/overlayref22.Better -/
noncomputable def F_r22_Better (a_f0 : Int) (a_f1 : Int) (b_f0 : Int) (b_f1 : Int) : Option ((Bool × Unit) × Unit) :=
  Option.bind (bif (decide (a_f0 < b_f0)) then
        some ((true, ()), ())
      else
        bif (a_f0 == b_f0) then
          some (((decide (a_f1 < b_f1)), ()), ())
        else
          some ((false, ()), ())) fun y1 =>
  some ((y1.1.1, ()), ())
/-! ### overlay/overlayref22.Choose -/
noncomputable def R_r22_Choose_0 (views : List (View)) (floor : Int) (dir : Int) (except : Int) (best : Int) (i : Int) (b_Floors : Int) (b_Debounce : Int) (b_Room : Int) (b_Park : Int) (b_Empty : Nat) (b_Full : Nat) (b_Over : Nat) (b_Cars : List (Car)) : Option (Sum ((List (View) × Int × Int × Int × Unit × Int × Int × Unit) × ((Int × Int × Int × Int × Nat × Nat × Nat × List (Car) × Unit) × Unit)) ((Int × Unit) × Unit)) :=
  bif (decide (i < ((List.length views : Nat) : Int))) then
    bif (Go.Ab.inB i (List.length views)) then
      bif (!(List.getD views (Int.toNat i) (View.mk false false false false (0 : Int) (0 : Int) (0 : Int) (0 : Int) (0 : Int) (0 : Int) (0 : Int) (0 : Int))).Ready) then
        some (Sum.inl ((views, floor, dir, except, (), best, (Go.IntKind.wrap Go.IntKind.i64 (i + (1 : Int))), ()), ((b_Floors, b_Debounce, b_Room, b_Park, b_Empty, b_Full, b_Over, b_Cars, ()), ())))
      else
        bif (i == except) then
          some (Sum.inl ((views, floor, dir, except, (), best, (Go.IntKind.wrap Go.IntKind.i64 (i + (1 : Int))), ()), ((b_Floors, b_Debounce, b_Room, b_Park, b_Empty, b_Full, b_Over, b_Cars, ()), ())))
        else
          Option.bind (bif (decide (best < (0 : Int))) then
                some ((views, floor, dir, except, (), best, i, true, ()), ((b_Floors, b_Debounce, b_Room, b_Park, b_Empty, b_Full, b_Over, b_Cars, ()), ()))
              else
                (F_r22_rank b_Floors b_Debounce b_Room b_Park b_Empty b_Full b_Over b_Cars views i floor dir).bind fun y1 =>
                (F_r22_rank b_Floors b_Debounce b_Room b_Park b_Empty b_Full b_Over b_Cars views best floor dir).bind fun y2 =>
                (F_r22_Better y1.2.1.1 y1.2.1.2.1 y2.2.1.1 y2.2.1.2.1).bind fun y3 =>
                some ((views, floor, dir, except, (), best, i, y3.1.1, ()), ((b_Floors, b_Debounce, b_Room, b_Park, b_Empty, b_Full, b_Over, b_Cars, ()), ()))) fun y4 =>
          bif y4.1.2.2.2.2.2.2.2.1 then
            some (Sum.inl ((y4.1.1, y4.1.2.1, y4.1.2.2.1, y4.1.2.2.2.1, (), y4.1.2.2.2.2.2.2.1, (Go.IntKind.wrap Go.IntKind.i64 (y4.1.2.2.2.2.2.2.1 + (1 : Int))), ()), ((y4.2.1.1, y4.2.1.2.1, y4.2.1.2.2.1, y4.2.1.2.2.2.1, y4.2.1.2.2.2.2.1, y4.2.1.2.2.2.2.2.1, y4.2.1.2.2.2.2.2.2.1, y4.2.1.2.2.2.2.2.2.2.1, ()), ())))
          else
            some (Sum.inl ((y4.1.1, y4.1.2.1, y4.1.2.2.1, y4.1.2.2.2.1, (), y4.1.2.2.2.2.2.1, (Go.IntKind.wrap Go.IntKind.i64 (y4.1.2.2.2.2.2.2.1 + (1 : Int))), ()), ((y4.2.1.1, y4.2.1.2.1, y4.2.1.2.2.1, y4.2.1.2.2.2.1, y4.2.1.2.2.2.2.1, y4.2.1.2.2.2.2.2.1, y4.2.1.2.2.2.2.2.2.1, y4.2.1.2.2.2.2.2.2.2.1, ()), ())))
    else
      none
  else
    some (Sum.inr ((best, ()), ()))
noncomputable def L_r22_Choose_0 : ((List (View) × Int × Int × Int × Unit × Int × Int × Unit) × ((Int × Int × Int × Int × Nat × Nat × Nat × List (Car) × Unit) × Unit)) → Option ((Int × Unit) × Unit) := iter (fun x => R_r22_Choose_0 x.1.1 x.1.2.1 x.1.2.2.1 x.1.2.2.2.1 x.1.2.2.2.2.2.1 x.1.2.2.2.2.2.2.1 x.2.1.1 x.2.1.2.1 x.2.1.2.2.1 x.2.1.2.2.2.1 x.2.1.2.2.2.2.1 x.2.1.2.2.2.2.2.1 x.2.1.2.2.2.2.2.2.1 x.2.1.2.2.2.2.2.2.2.1) fuel
noncomputable def F_r22_Choose (b_Floors : Int) (b_Debounce : Int) (b_Room : Int) (b_Park : Int) (b_Empty : Nat) (b_Full : Nat) (b_Over : Nat) (b_Cars : List (Car)) (views : List (View)) (floor : Int) (dir : Int) (except : Int) : Option ((Int × Unit) × Unit) :=
  (F_r01_Valid b_Floors b_Debounce b_Room b_Park b_Empty b_Full b_Over b_Cars).bind fun y1 =>
  bif (y1.1.1 != (0 : Int)) then
    some (((-1 : Int), ()), ())
  else
    bif (((List.length views : Nat) : Int) != ((List.length b_Cars : Nat) : Int)) then
      some (((-1 : Int), ()), ())
    else
      (L_r22_Choose_0 ((views, floor, dir, except, (), (-1 : Int), (0 : Int), ()), ((b_Floors, b_Debounce, b_Room, b_Park, b_Empty, b_Full, b_Over, b_Cars, ()), ()))).bind fun y2 =>
      some ((y2.1.1, ()), ())
/-! ### overlay/overlayref22.changed -/
noncomputable def F_r22_changed (b_Floors : Int) (b_Debounce : Int) (b_Room : Int) (b_Park : Int) (b_Empty : Nat) (b_Full : Nat) (b_Over : Nat) (b_Cars : List (Car)) (e_Floor : Int) (e_Dir : Int) (e_Car : Int) (e_Moves : Int) (e_Moved : Bool) (expect : Int) (views : List (View)) : Option ((Unit × Unit) × ((Int × Int × Int × Int × Bool × Unit) × Unit)) :=
  let z0 : Int := (Go.IntKind.wrap Go.IntKind.i64 (((List.length b_Cars : Nat) : Int) + (1 : Int)))
  bif (e_Car == (-2 : Int)) then
    some (((), ()), ((e_Floor, e_Dir, e_Car, e_Moves, e_Moved, ()), ()))
  else
    bif (e_Car == (-1 : Int)) then
      (F_r22_Choose b_Floors b_Debounce b_Room b_Park b_Empty b_Full b_Over b_Cars views e_Floor e_Dir (-1 : Int)).bind fun y1 =>
      some (((), ()), ((e_Floor, e_Dir, y1.1.1, e_Moves, e_Moved, ()), ()))
    else
      Option.bind (bif (Go.Ab.inB e_Car (List.length views)) then
            bif (List.getD views (Int.toNat e_Car) (View.mk false false false false (0 : Int) (0 : Int) (0 : Int) (0 : Int) (0 : Int) (0 : Int) (0 : Int) (0 : Int))).Lost then
              some ((expect, views, (), (), (), z0, (decide (z0 ≤ e_Moves)), ()), ((b_Floors, b_Debounce, b_Room, b_Park, b_Empty, b_Full, b_Over, b_Cars, ()), (e_Floor, e_Dir, e_Car, e_Moves, e_Moved, ()), ((0 : Int), (0 : Int), (0 : Int), (0 : Int), false, ()), ()))
            else
              some ((expect, views, (), (), (), z0, false, ()), ((b_Floors, b_Debounce, b_Room, b_Park, b_Empty, b_Full, b_Over, b_Cars, ()), (e_Floor, e_Dir, e_Car, e_Moves, e_Moved, ()), ((0 : Int), (0 : Int), (0 : Int), (0 : Int), false, ()), ()))
          else
            none) fun y2 =>
      bif y2.1.2.2.2.2.2.2.1 then
        some (((), ()), ((y2.2.2.1.1, y2.2.2.1.2.1, (-2 : Int), y2.2.2.1.2.2.2.1, y2.2.2.1.2.2.2.2.1, ()), ()))
      else
        bif (Go.Ab.inB y2.2.2.1.2.2.1 (List.length y2.1.2.1)) then
          bif (List.getD y2.1.2.1 (Int.toNat y2.2.2.1.2.2.1) (View.mk false false false false (0 : Int) (0 : Int) (0 : Int) (0 : Int) (0 : Int) (0 : Int) (0 : Int) (0 : Int))).Lost then
            (F_r22_Choose y2.2.1.1 y2.2.1.2.1 y2.2.1.2.2.1 y2.2.1.2.2.2.1 y2.2.1.2.2.2.2.1 y2.2.1.2.2.2.2.2.1 y2.2.1.2.2.2.2.2.2.1 y2.2.1.2.2.2.2.2.2.2.1 y2.1.2.1 y2.2.2.1.1 y2.2.2.1.2.1 y2.2.2.1.2.2.1).bind fun y3 =>
            some (((), ()), ((y2.2.2.1.1, y2.2.2.1.2.1, y3.1.1, (Go.IntKind.wrap Go.IntKind.i64 (y2.2.2.1.2.2.2.1 + (1 : Int))), y2.2.2.1.2.2.2.2.1, ()), ()))
          else
            bif y2.2.2.1.2.2.2.2.1 then
              some (((), ()), ((y2.2.2.1.1, y2.2.2.1.2.1, y2.2.2.1.2.2.1, y2.2.2.1.2.2.2.1, y2.2.2.1.2.2.2.2.1, ()), ()))
            else
              bif (decide (y2.1.2.2.2.2.2.1 ≤ y2.2.2.1.2.2.2.1)) then
                some (((), ()), ((y2.2.2.1.1, y2.2.2.1.2.1, y2.2.2.1.2.2.1, y2.2.2.1.2.2.2.1, y2.2.2.1.2.2.2.2.1, ()), ()))
              else
                bif (Go.Ab.inB y2.2.2.1.2.2.1 (List.length y2.1.2.1)) then
                  let z1 : View := (List.getD y2.1.2.1 (Int.toNat y2.2.2.1.2.2.1) (View.mk false false false false (0 : Int) (0 : Int) (0 : Int) (0 : Int) (0 : Int) (0 : Int) (0 : Int) (0 : Int)))
                  (F_r22_Choose y2.2.1.1 y2.2.1.2.1 y2.2.1.2.2.1 y2.2.1.2.2.2.1 y2.2.1.2.2.2.2.1 y2.2.1.2.2.2.2.2.1 y2.2.1.2.2.2.2.2.2.1 y2.2.1.2.2.2.2.2.2.2.1 y2.1.2.1 y2.2.2.1.1 y2.2.2.1.2.1 y2.2.2.1.2.2.1).bind fun y4 =>
                  bif (decide (y4.1.1 < (0 : Int))) then
                    some (((), ()), ((y2.2.2.1.1, y2.2.2.1.2.1, y2.2.2.1.2.2.1, y2.2.2.1.2.2.2.1, y2.2.2.1.2.2.2.2.1, ()), ()))
                  else
                    Option.bind (bif z1.Legacy then
                          bif (y2.1.1 == (0 : Int)) then
                            (F_r22_rank y2.2.1.1 y2.2.1.2.1 y2.2.1.2.2.1 y2.2.1.2.2.2.1 y2.2.1.2.2.2.2.1 y2.2.1.2.2.2.2.2.1 y2.2.1.2.2.2.2.2.2.1 y2.2.1.2.2.2.2.2.2.2.1 y2.1.2.1 y4.1.1 y2.2.2.1.1 y2.2.2.1.2.1).bind fun y5 =>
                            (F_r22_rank y2.2.1.1 y2.2.1.2.1 y2.2.1.2.2.1 y2.2.1.2.2.2.1 y2.2.1.2.2.2.2.1 y2.2.1.2.2.2.2.2.1 y2.2.1.2.2.2.2.2.2.1 y2.2.1.2.2.2.2.2.2.2.1 y2.1.2.1 y2.2.2.1.2.2.1 y2.2.2.1.1 y2.2.2.1.2.1).bind fun y6 =>
                            (F_r22_Better y5.2.1.1 y5.2.1.2.1 y6.2.1.1 y6.2.1.2.1).bind fun y7 =>
                            some ((y2.1.2.1, (), (), (), y4.1.1, y7.1.1, ()), ((y2.2.2.1.1, y2.2.2.1.2.1, y2.2.2.1.2.2.1, y2.2.2.1.2.2.2.1, y2.2.2.1.2.2.2.2.1, ()), (y2.2.2.2.1.1, y2.2.2.2.1.2.1, y2.2.2.2.1.2.2.1, y2.2.2.2.1.2.2.2.1, y2.2.2.2.1.2.2.2.2.1, ()), (z1.Ready, z1.Serving, z1.Legacy, z1.Lost, z1.Floor, z1.Dir, z1.Load, z1.Shows_Up, z1.Shows_Down, z1.Stops_Car, z1.Stops_Hall_Up, z1.Stops_Hall_Down, ()), ()))
                          else
                            some ((y2.1.2.1, (), (), (), y4.1.1, false, ()), ((y2.2.2.1.1, y2.2.2.1.2.1, y2.2.2.1.2.2.1, y2.2.2.1.2.2.2.1, y2.2.2.1.2.2.2.2.1, ()), (y2.2.2.2.1.1, y2.2.2.2.1.2.1, y2.2.2.2.1.2.2.1, y2.2.2.2.1.2.2.2.1, y2.2.2.2.1.2.2.2.2.1, ()), (z1.Ready, z1.Serving, z1.Legacy, z1.Lost, z1.Floor, z1.Dir, z1.Load, z1.Shows_Up, z1.Shows_Down, z1.Stops_Car, z1.Stops_Hall_Up, z1.Stops_Hall_Down, ()), ()))
                        else
                          some ((y2.1.2.1, (), (), (), y4.1.1, false, ()), ((y2.2.2.1.1, y2.2.2.1.2.1, y2.2.2.1.2.2.1, y2.2.2.1.2.2.2.1, y2.2.2.1.2.2.2.2.1, ()), (y2.2.2.2.1.1, y2.2.2.2.1.2.1, y2.2.2.2.1.2.2.1, y2.2.2.2.1.2.2.2.1, y2.2.2.2.1.2.2.2.2.1, ()), (z1.Ready, z1.Serving, z1.Legacy, z1.Lost, z1.Floor, z1.Dir, z1.Load, z1.Shows_Up, z1.Shows_Down, z1.Stops_Car, z1.Stops_Hall_Up, z1.Stops_Hall_Down, ()), ()))) fun y8 =>
                    Option.bind (bif y8.1.2.2.2.2.2.1 then
                          some (((), (), y8.1.2.2.2.2.1, true, ()), ((y8.2.1.1, y8.2.1.2.1, y8.2.1.2.2.1, y8.2.1.2.2.2.1, y8.2.1.2.2.2.2.1, ()), (y8.2.2.1.1, y8.2.2.1.2.1, y8.2.2.1.2.2.1, y8.2.2.1.2.2.2.1, y8.2.2.1.2.2.2.2.1, ()), ()))
                        else
                          bif (!y8.2.2.2.1.2.2.1) then
                            (F_r22_full y8.2.2.2.1.1 y8.2.2.2.1.2.1 y8.2.2.2.1.2.2.1 y8.2.2.2.1.2.2.2.1 y8.2.2.2.1.2.2.2.2.1 y8.2.2.2.1.2.2.2.2.2.1 y8.2.2.2.1.2.2.2.2.2.2.1 y8.2.2.2.1.2.2.2.2.2.2.2.1 y8.2.2.2.1.2.2.2.2.2.2.2.2.1 y8.2.2.2.1.2.2.2.2.2.2.2.2.2.1 y8.2.2.2.1.2.2.2.2.2.2.2.2.2.2.1 y8.2.2.2.1.2.2.2.2.2.2.2.2.2.2.2.1).bind fun y9 =>
                            bif y9.1.1 then
                              bif (Go.Ab.inB y8.1.2.2.2.2.1 (List.length y8.1.1)) then
                                let z2 : View := (List.getD y8.1.1 (Int.toNat y8.1.2.2.2.2.1) (View.mk false false false false (0 : Int) (0 : Int) (0 : Int) (0 : Int) (0 : Int) (0 : Int) (0 : Int) (0 : Int)))
                                (F_r22_full z2.Ready z2.Serving z2.Legacy z2.Lost z2.Floor z2.Dir z2.Load z2.Shows_Up z2.Shows_Down z2.Stops_Car z2.Stops_Hall_Up z2.Stops_Hall_Down).bind fun y10 =>
                                some (((), (), y8.1.2.2.2.2.1, (!y10.1.1), ()), ((y8.2.1.1, y8.2.1.2.1, y8.2.1.2.2.1, y8.2.1.2.2.2.1, y8.2.1.2.2.2.2.1, ()), (y8.2.2.1.1, y8.2.2.1.2.1, y8.2.2.1.2.2.1, y8.2.2.1.2.2.2.1, y8.2.2.1.2.2.2.2.1, ()), ()))
                              else
                                none
                            else
                              some (((), (), y8.1.2.2.2.2.1, false, ()), ((y8.2.1.1, y8.2.1.2.1, y8.2.1.2.2.1, y8.2.1.2.2.2.1, y8.2.1.2.2.2.2.1, ()), (y8.2.2.1.1, y8.2.2.1.2.1, y8.2.2.1.2.2.1, y8.2.2.1.2.2.2.1, y8.2.2.1.2.2.2.2.1, ()), ()))
                          else
                            some (((), (), y8.1.2.2.2.2.1, false, ()), ((y8.2.1.1, y8.2.1.2.1, y8.2.1.2.2.1, y8.2.1.2.2.2.1, y8.2.1.2.2.2.2.1, ()), (y8.2.2.1.1, y8.2.2.1.2.1, y8.2.2.1.2.2.1, y8.2.2.1.2.2.2.1, y8.2.2.1.2.2.2.2.1, ()), ()))) fun y11 =>
                    bif y11.1.2.2.2.1 then
                      some (((), ()), ((y11.2.1.1, y11.2.1.2.1, y11.1.2.2.1, (Go.IntKind.wrap Go.IntKind.i64 (y11.2.1.2.2.2.1 + (1 : Int))), true, ()), ()))
                    else
                      some (((), ()), ((y11.2.1.1, y11.2.1.2.1, y11.2.1.2.2.1, y11.2.1.2.2.2.1, y11.2.1.2.2.2.2.1, ()), ()))
                else
                  none
        else
          none
end Go.Ovl
