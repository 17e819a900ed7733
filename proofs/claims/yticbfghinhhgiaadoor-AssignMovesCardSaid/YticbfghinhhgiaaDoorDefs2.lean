/- What each function of the program comes to: part 2. -/
import Derived.Test.YticbfghinhhgiaaDoorDefs1
namespace Go.Ovl
open Go Go.Ab
set_option maxRecDepth 100000
/-! ### overlay/overlayref21.is -/
noncomputable def F_r21_is (floors : Int) (s_Car : Int) (s_Hall_Up : Int) (s_Hall_Down : Int) (f : Int) (kind : Int) : Option ((Bool × Unit) × Unit) :=
  bif (kind == (1 : Int)) then
    Option.bind (bif (decide (f < (Go.IntKind.wrap Go.IntKind.i64 (floors - (1 : Int))))) then
          let z0 : Int := (Go.IntKind.wrap Go.IntKind.u64 f)
          bif (decide ((0 : Int) ≤ z0)) then
            let z1 : Int := (Int.fdiv s_Hall_Up ((2 : Int) ^ (Min.min (Int.toNat z0) (Go.IntKind.bits Go.IntKind.u32))))
            some ((((Go.IntKind.wrap Go.IntKind.u32 (Go.Ab.stk z1 (1 : Int) (BitVec.toNat ((BitVec.ofInt (Go.IntKind.bits Go.IntKind.u32) z1) &&& (BitVec.ofInt (Go.IntKind.bits Go.IntKind.u32) (1 : Int)))))) == (1 : Int)), ()), ())
          else
            none
        else
          some ((false, ()), ())) fun y1 =>
    some ((y1.1.1, ()), ())
  else
    bif (kind == (2 : Int)) then
      Option.bind (bif (decide ((0 : Int) < f)) then
            let z2 : Int := (Go.IntKind.wrap Go.IntKind.u64 f)
            bif (decide ((0 : Int) ≤ z2)) then
              let z3 : Int := (Int.fdiv s_Hall_Down ((2 : Int) ^ (Min.min (Int.toNat z2) (Go.IntKind.bits Go.IntKind.u32))))
              some ((((Go.IntKind.wrap Go.IntKind.u32 (Go.Ab.stk z3 (1 : Int) (BitVec.toNat ((BitVec.ofInt (Go.IntKind.bits Go.IntKind.u32) z3) &&& (BitVec.ofInt (Go.IntKind.bits Go.IntKind.u32) (1 : Int)))))) == (1 : Int)), ()), ())
            else
              none
          else
            some ((false, ()), ())) fun y2 =>
      some ((y2.1.1, ()), ())
    else
      let z4 : Int := (Go.IntKind.wrap Go.IntKind.u64 f)
      bif (decide ((0 : Int) ≤ z4)) then
        let z5 : Int := (Int.fdiv s_Car ((2 : Int) ^ (Min.min (Int.toNat z4) (Go.IntKind.bits Go.IntKind.u32))))
        some ((((Go.IntKind.wrap Go.IntKind.u32 (Go.Ab.stk z5 (1 : Int) (BitVec.toNat ((BitVec.ofInt (Go.IntKind.bits Go.IntKind.u32) z5) &&& (BitVec.ofInt (Go.IntKind.bits Go.IntKind.u32) (1 : Int)))))) == (1 : Int)), ()), ())
      else
        none
/-! ### overlay/overlayref21.Count -/
noncomputable def R_r21_Count_1 (floors : Int) (n : Int) (f : Int) (k : Int) (s_Car : Int) (s_Hall_Up : Int) (s_Hall_Down : Int) : Option (Sum ((Int × Unit × Int × Int × Int × Unit) × ((Int × Int × Int × Unit) × Unit)) ((Int × Unit × Int × Int × Unit) × ((Int × Int × Int × Unit) × Unit))) :=
  bif (decide (k < (3 : Int))) then
    (F_r21_is floors s_Car s_Hall_Up s_Hall_Down f k).bind fun y1 =>
    bif y1.1.1 then
      some (Sum.inl ((floors, (), (Go.IntKind.wrap Go.IntKind.i64 (n + (1 : Int))), f, (Go.IntKind.wrap Go.IntKind.i64 (k + (1 : Int))), ()), ((s_Car, s_Hall_Up, s_Hall_Down, ()), ())))
    else
      some (Sum.inl ((floors, (), n, f, (Go.IntKind.wrap Go.IntKind.i64 (k + (1 : Int))), ()), ((s_Car, s_Hall_Up, s_Hall_Down, ()), ())))
  else
    some (Sum.inr ((floors, (), n, f, ()), ((s_Car, s_Hall_Up, s_Hall_Down, ()), ())))
noncomputable def L_r21_Count_1 : ((Int × Unit × Int × Int × Int × Unit) × ((Int × Int × Int × Unit) × Unit)) → Option ((Int × Unit × Int × Int × Unit) × ((Int × Int × Int × Unit) × Unit)) := iter (fun x => R_r21_Count_1 x.1.1 x.1.2.2.1 x.1.2.2.2.1 x.1.2.2.2.2.1 x.2.1.1 x.2.1.2.1 x.2.1.2.2.1) fuel
noncomputable def R_r21_Count_0 (floors : Int) (n : Int) (f : Int) (s_Car : Int) (s_Hall_Up : Int) (s_Hall_Down : Int) : Option (Sum ((Int × Unit × Int × Int × Unit) × ((Int × Int × Int × Unit) × Unit)) ((Int × Unit) × Unit)) :=
  bif (decide (f < floors)) then
    (L_r21_Count_1 ((floors, (), n, f, (0 : Int), ()), ((s_Car, s_Hall_Up, s_Hall_Down, ()), ()))).bind fun y1 =>
    some (Sum.inl ((y1.1.1, (), y1.1.2.2.1, (Go.IntKind.wrap Go.IntKind.i64 (y1.1.2.2.2.1 + (1 : Int))), ()), ((y1.2.1.1, y1.2.1.2.1, y1.2.1.2.2.1, ()), ())))
  else
    some (Sum.inr ((n, ()), ()))
noncomputable def L_r21_Count_0 : ((Int × Unit × Int × Int × Unit) × ((Int × Int × Int × Unit) × Unit)) → Option ((Int × Unit) × Unit) := iter (fun x => R_r21_Count_0 x.1.1 x.1.2.2.1 x.1.2.2.2.1 x.2.1.1 x.2.1.2.1 x.2.1.2.2.1) fuel
noncomputable def F_r21_Count (floors : Int) (s_Car : Int) (s_Hall_Up : Int) (s_Hall_Down : Int) : Option ((Int × Unit) × Unit) :=
  bif (decide (floors < (2 : Int))) then
    some (((0 : Int), ()), ())
  else
    bif (decide ((32 : Int) < floors)) then
      some (((0 : Int), ()), ())
    else
      (L_r21_Count_0 ((floors, (), (0 : Int), (0 : Int), ()), ((s_Car, s_Hall_Up, s_Hall_Down, ()), ()))).bind fun y1 =>
      some ((y1.1.1, ()), ())
/-! ### overlay/overlayref21.Path -/
noncomputable def R_r21_Path_0 (floors : Int) (from_1 : Int) (sweep : Int) (floor : Int) (dir : Int) (hi : Int) (lo : Int) (f : Int) (s_Car : Int) (s_Hall_Up : Int) (s_Hall_Down : Int) : Option (Sum ((Int × Int × Int × Int × Int × Unit × Int × Int × Int × Unit) × ((Int × Int × Int × Unit) × Unit)) ((Int × Int × Int × Int × Int × Int × Unit) × Unit)) :=
  bif (decide (f < floors)) then
    Option.bind ((F_r21_is floors s_Car s_Hall_Up s_Hall_Down f (0 : Int)).bind fun y1 =>
        bif y1.1.1 then
          some ((floors, from_1, sweep, floor, dir, (), hi, lo, f, true, ()), ((s_Car, s_Hall_Up, s_Hall_Down, ()), ()))
        else
          (F_r21_is floors s_Car s_Hall_Up s_Hall_Down f (1 : Int)).bind fun y2 =>
          bif y2.1.1 then
            some ((floors, from_1, sweep, floor, dir, (), hi, lo, f, true, ()), ((s_Car, s_Hall_Up, s_Hall_Down, ()), ()))
          else
            (F_r21_is floors s_Car s_Hall_Up s_Hall_Down f (2 : Int)).bind fun y3 =>
            some ((floors, from_1, sweep, floor, dir, (), hi, lo, f, y3.1.1, ()), ((s_Car, s_Hall_Up, s_Hall_Down, ()), ()))) fun y4 =>
    bif y4.1.2.2.2.2.2.2.2.2.2.1 then
      some (Sum.inl ((y4.1.1, y4.1.2.1, y4.1.2.2.1, y4.1.2.2.2.1, y4.1.2.2.2.2.1, (), (bif (decide (y4.1.2.2.2.2.2.2.1 < y4.1.2.2.2.2.2.2.2.2.1)) then y4.1.2.2.2.2.2.2.2.2.1 else y4.1.2.2.2.2.2.2.1), (bif (decide (y4.1.2.2.2.2.2.2.2.2.1 < y4.1.2.2.2.2.2.2.2.1)) then y4.1.2.2.2.2.2.2.2.2.1 else y4.1.2.2.2.2.2.2.2.1), (Go.IntKind.wrap Go.IntKind.i64 (y4.1.2.2.2.2.2.2.2.2.1 + (1 : Int))), ()), ((y4.2.1.1, y4.2.1.2.1, y4.2.1.2.2.1, ()), ())))
    else
      some (Sum.inl ((y4.1.1, y4.1.2.1, y4.1.2.2.1, y4.1.2.2.2.1, y4.1.2.2.2.2.1, (), y4.1.2.2.2.2.2.2.1, y4.1.2.2.2.2.2.2.2.1, (Go.IntKind.wrap Go.IntKind.i64 (y4.1.2.2.2.2.2.2.2.2.1 + (1 : Int))), ()), ((y4.2.1.1, y4.2.1.2.1, y4.2.1.2.2.1, ()), ())))
  else
    some (Sum.inr ((from_1, sweep, floor, dir, hi, lo, ()), ()))
noncomputable def L_r21_Path_0 : ((Int × Int × Int × Int × Int × Unit × Int × Int × Int × Unit) × ((Int × Int × Int × Unit) × Unit)) → Option ((Int × Int × Int × Int × Int × Int × Unit) × Unit) := iter (fun x => R_r21_Path_0 x.1.1 x.1.2.1 x.1.2.2.1 x.1.2.2.2.1 x.1.2.2.2.2.1 x.1.2.2.2.2.2.2.1 x.1.2.2.2.2.2.2.2.1 x.1.2.2.2.2.2.2.2.2.1 x.2.1.1 x.2.1.2.1 x.2.1.2.2.1) fuel
noncomputable def F_r21_Path (floors : Int) (from_1 : Int) (sweep : Int) (s_Car : Int) (s_Hall_Up : Int) (s_Hall_Down : Int) (floor : Int) (dir : Int) : Option ((Int × Unit) × Unit) :=
  bif (decide (floors < (2 : Int))) then
    some (((-1 : Int), ()), ())
  else
    bif (decide ((32 : Int) < floors)) then
      some (((-1 : Int), ()), ())
    else
      bif (decide (from_1 < (0 : Int))) then
        some (((-1 : Int), ()), ())
      else
        bif (decide (floors ≤ from_1)) then
          some (((-1 : Int), ()), ())
        else
          bif (decide (sweep < (0 : Int))) then
            some (((-1 : Int), ()), ())
          else
            bif (decide ((2 : Int) < sweep)) then
              some (((-1 : Int), ()), ())
            else
              Option.bind (bif (dir == (1 : Int)) then
                    bif (decide ((0 : Int) ≤ floor)) then
                      bif (decide (floor < (Go.IntKind.wrap Go.IntKind.i64 (floors - (1 : Int))))) then
                        some ((floors, from_1, sweep, floor, dir, (), false, ()), ((s_Car, s_Hall_Up, s_Hall_Down, ()), ()))
                      else
                        bif (dir == (2 : Int)) then
                          bif (decide ((0 : Int) < floor)) then
                            some ((floors, from_1, sweep, floor, dir, (), (!(decide (floor < floors))), ()), ((s_Car, s_Hall_Up, s_Hall_Down, ()), ()))
                          else
                            some ((floors, from_1, sweep, floor, dir, (), true, ()), ((s_Car, s_Hall_Up, s_Hall_Down, ()), ()))
                        else
                          some ((floors, from_1, sweep, floor, dir, (), true, ()), ((s_Car, s_Hall_Up, s_Hall_Down, ()), ()))
                    else
                      bif (dir == (2 : Int)) then
                        bif (decide ((0 : Int) < floor)) then
                          some ((floors, from_1, sweep, floor, dir, (), (!(decide (floor < floors))), ()), ((s_Car, s_Hall_Up, s_Hall_Down, ()), ()))
                        else
                          some ((floors, from_1, sweep, floor, dir, (), true, ()), ((s_Car, s_Hall_Up, s_Hall_Down, ()), ()))
                      else
                        some ((floors, from_1, sweep, floor, dir, (), true, ()), ((s_Car, s_Hall_Up, s_Hall_Down, ()), ()))
                  else
                    bif (dir == (2 : Int)) then
                      bif (decide ((0 : Int) < floor)) then
                        some ((floors, from_1, sweep, floor, dir, (), (!(decide (floor < floors))), ()), ((s_Car, s_Hall_Up, s_Hall_Down, ()), ()))
                      else
                        some ((floors, from_1, sweep, floor, dir, (), true, ()), ((s_Car, s_Hall_Up, s_Hall_Down, ()), ()))
                    else
                      some ((floors, from_1, sweep, floor, dir, (), true, ()), ((s_Car, s_Hall_Up, s_Hall_Down, ()), ()))) fun y1 =>
              bif y1.1.2.2.2.2.2.2.1 then
                some (((-1 : Int), ()), ())
              else
                (L_r21_Path_0 ((y1.1.1, y1.1.2.1, y1.1.2.2.1, y1.1.2.2.2.1, y1.1.2.2.2.2.1, (), (bif (decide (y1.1.2.1 < y1.1.2.2.2.1)) then y1.1.2.2.2.1 else y1.1.2.1), (bif (decide (y1.1.2.2.2.1 < y1.1.2.1)) then y1.1.2.2.2.1 else y1.1.2.1), (0 : Int), ()), ((y1.2.1.1, y1.2.1.2.1, y1.2.1.2.2.1, ()), ()))).bind fun y2 =>
                bif (y2.1.2.1 == (0 : Int)) then
                  let z0 : Int := (Go.IntKind.wrap Go.IntKind.i64 (y2.1.1 - y2.1.2.2.1))
                  let z1 : Int := (Go.IntKind.wrap Go.IntKind.i64 (y2.1.2.2.1 - y2.1.1))
                  some (((bif (decide (z0 < z1)) then z1 else z0), ()), ())
                else
                  Option.bind (bif (y2.1.2.1 == (1 : Int)) then
                        bif (y2.1.2.2.2.1 == (1 : Int)) then
                          some ((y2.1.1, y2.1.2.1, y2.1.2.2.1, y2.1.2.2.2.1, y2.1.2.2.2.2.1, y2.1.2.2.2.2.2.1, (decide (y2.1.1 ≤ y2.1.2.2.1)), ()), ())
                        else
                          some ((y2.1.1, y2.1.2.1, y2.1.2.2.1, y2.1.2.2.2.1, y2.1.2.2.2.2.1, y2.1.2.2.2.2.2.1, false, ()), ())
                      else
                        some ((y2.1.1, y2.1.2.1, y2.1.2.2.1, y2.1.2.2.2.1, y2.1.2.2.2.2.1, y2.1.2.2.2.2.2.1, false, ()), ())) fun y3 =>
                  bif y3.1.2.2.2.2.2.2.1 then
                    some (((Go.IntKind.wrap Go.IntKind.i64 (y3.1.2.2.1 - y3.1.1)), ()), ())
                  else
                    Option.bind (bif (y3.1.2.1 == (1 : Int)) then
                          some ((y3.1.1, y3.1.2.1, y3.1.2.2.1, y3.1.2.2.2.1, y3.1.2.2.2.2.1, y3.1.2.2.2.2.2.1, (y3.1.2.2.2.1 == (2 : Int)), ()), ())
                        else
                          some ((y3.1.1, y3.1.2.1, y3.1.2.2.1, y3.1.2.2.2.1, y3.1.2.2.2.2.1, y3.1.2.2.2.2.2.1, false, ()), ())) fun y4 =>
                    bif y4.1.2.2.2.2.2.2.1 then
                      some (((Go.IntKind.wrap Go.IntKind.i64 ((Go.IntKind.wrap Go.IntKind.i64 ((Go.IntKind.wrap Go.IntKind.i64 (y4.1.2.2.2.2.1 - y4.1.1)) + y4.1.2.2.2.2.1)) - y4.1.2.2.1)), ()), ())
                    else
                      bif (y4.1.2.1 == (1 : Int)) then
                        some (((Go.IntKind.wrap Go.IntKind.i64 ((Go.IntKind.wrap Go.IntKind.i64 ((Go.IntKind.wrap Go.IntKind.i64 ((Go.IntKind.wrap Go.IntKind.i64 ((Go.IntKind.wrap Go.IntKind.i64 (y4.1.2.2.2.2.1 - y4.1.1)) + y4.1.2.2.2.2.1)) - y4.1.2.2.2.2.2.1)) + y4.1.2.2.1)) - y4.1.2.2.2.2.2.1)), ()), ())
                      else
                        Option.bind (bif (y4.1.2.2.2.1 == (2 : Int)) then
                              some ((y4.1.1, y4.1.2.2.1, y4.1.2.2.2.1, y4.1.2.2.2.2.1, y4.1.2.2.2.2.2.1, (decide (y4.1.2.2.1 ≤ y4.1.1)), ()), ())
                            else
                              some ((y4.1.1, y4.1.2.2.1, y4.1.2.2.2.1, y4.1.2.2.2.2.1, y4.1.2.2.2.2.2.1, false, ()), ())) fun y5 =>
                        bif y5.1.2.2.2.2.2.1 then
                          some (((Go.IntKind.wrap Go.IntKind.i64 (y5.1.1 - y5.1.2.1)), ()), ())
                        else
                          bif (y5.1.2.2.1 == (1 : Int)) then
                            some (((Go.IntKind.wrap Go.IntKind.i64 ((Go.IntKind.wrap Go.IntKind.i64 ((Go.IntKind.wrap Go.IntKind.i64 (y5.1.1 - y5.1.2.2.2.2.1)) + y5.1.2.1)) - y5.1.2.2.2.2.1)), ()), ())
                          else
                            some (((Go.IntKind.wrap Go.IntKind.i64 ((Go.IntKind.wrap Go.IntKind.i64 ((Go.IntKind.wrap Go.IntKind.i64 ((Go.IntKind.wrap Go.IntKind.i64 ((Go.IntKind.wrap Go.IntKind.i64 (y5.1.1 - y5.1.2.2.2.2.1)) + y5.1.2.2.2.1)) - y5.1.2.2.2.2.1)) + y5.1.2.2.2.1)) - y5.1.2.1)), ()), ())
/-! ### overlay/overlayref21.Estimate -/
noncomputable def F_r21_Estimate (b_Floors : Int) (b_Debounce : Int) (b_Room : Int) (b_Park : Int) (b_Empty : Nat) (b_Full : Nat) (b_Over : Nat) (b_Cars : List (Car)) (car : Int) (v_Ready : Bool) (v_Serving : Bool) (v_Legacy : Bool) (v_Lost : Bool) (v_Floor : Int) (v_Dir : Int) (v_Load : Int) (v_Shows_Up : Int) (v_Shows_Down : Int) (v_Stops_Car : Int) (v_Stops_Hall_Up : Int) (v_Stops_Hall_Down : Int) (floor : Int) (dir : Int) : Option ((Int × Unit) × Unit) :=
  (F_r01_Valid b_Floors b_Debounce b_Room b_Park b_Empty b_Full b_Over b_Cars).bind fun y1 =>
  bif (y1.1.1 != (0 : Int)) then
    some (((1000000 : Int), ()), ())
  else
    bif (decide (car < (0 : Int))) then
      some (((1000000 : Int), ()), ())
    else
      bif (decide (((List.length b_Cars : Nat) : Int) ≤ car)) then
        some (((1000000 : Int), ()), ())
      else
        bif (decide (v_Floor < (0 : Int))) then
          some (((1000000 : Int), ()), ())
        else
          Option.bind (bif (v_Dir == (3 : Int)) then
                some ((car, floor, dir, (), (), (0 : Int), ()), ((b_Floors, b_Debounce, b_Room, b_Park, b_Empty, b_Full, b_Over, b_Cars, ()), (v_Ready, v_Serving, v_Legacy, v_Lost, v_Floor, v_Dir, v_Load, v_Shows_Up, v_Shows_Down, v_Stops_Car, v_Stops_Hall_Up, v_Stops_Hall_Down, ()), ()))
              else
                some ((car, floor, dir, (), (), v_Dir, ()), ((b_Floors, b_Debounce, b_Room, b_Park, b_Empty, b_Full, b_Over, b_Cars, ()), (v_Ready, v_Serving, v_Legacy, v_Lost, v_Floor, v_Dir, v_Load, v_Shows_Up, v_Shows_Down, v_Stops_Car, v_Stops_Hall_Up, v_Stops_Hall_Down, ()), ()))) fun y2 =>
          (F_r21_Path y2.2.1.1 y2.2.2.1.2.2.2.2.1 y2.1.2.2.2.2.2.1 y2.2.2.1.2.2.2.2.2.2.2.2.2.1 y2.2.2.1.2.2.2.2.2.2.2.2.2.2.1 y2.2.2.1.2.2.2.2.2.2.2.2.2.2.2.1 y2.1.2.1 y2.1.2.2.1).bind fun y3 =>
          bif (decide (y3.1.1 < (0 : Int))) then
            some (((1000000 : Int), ()), ())
          else
            bif (Go.Ab.inB y2.1.1 (List.length y2.2.1.2.2.2.2.2.2.2.1)) then
              let z0 : Car := (List.getD y2.2.1.2.2.2.2.2.2.2.1 (Int.toNat y2.1.1) (Car.mk (0 : Int) (0 : Int) (0 : Int) (0 : Int) (0 : Int) (0 : Int) (0 : Int) (0 : Int) (0 : Int)))
              (F_r21_Count y2.2.1.1 y2.2.2.1.2.2.2.2.2.2.2.2.2.1 y2.2.2.1.2.2.2.2.2.2.2.2.2.2.1 y2.2.2.1.2.2.2.2.2.2.2.2.2.2.2.1).bind fun y4 =>
              let z1 : Int := (Go.IntKind.wrap Go.IntKind.i64 ((Go.IntKind.wrap Go.IntKind.i64 (y3.1.1 * z0.Step)) + (Go.IntKind.wrap Go.IntKind.i64 (y4.1.1 * (Go.IntKind.wrap Go.IntKind.i64 ((Go.IntKind.wrap Go.IntKind.i64 ((2 : Int) * z0.Travel)) + z0.Dwell))))))
              some (((bif (decide ((1000000 : Int) < z1)) then (1000000 : Int) else z1), ()), ())
            else
              none
/-! ### overlay/overlayref22.Better -/
noncomputable def F_r22_Better (a_f0 : Int) (a_f1 : Int) (b_f0 : Int) (b_f1 : Int) : Option ((Bool × Unit) × Unit) :=
  Option.bind (bif (decide (a_f0 < b_f0)) then
        some ((true, ()), ())
      else
        bif (a_f0 == b_f0) then
          some (((decide (a_f1 < b_f1)), ()), ())
        else
          some ((false, ()), ())) fun y1 =>
  some ((y1.1.1, ()), ())
/-! ### overlay/overlayref22.full -/
noncomputable def F_r22_full (v_Ready : Bool) (v_Serving : Bool) (v_Legacy : Bool) (v_Lost : Bool) (v_Floor : Int) (v_Dir : Int) (v_Load : Int) (v_Shows_Up : Int) (v_Shows_Down : Int) (v_Stops_Car : Int) (v_Stops_Hall_Up : Int) (v_Stops_Hall_Down : Int) : Option ((Bool × Unit) × Unit) :=
  Option.bind (bif (v_Load == (3 : Int)) then
        some ((true, ()), ())
      else
        some (((v_Load == (4 : Int)), ()), ())) fun y1 =>
  some ((y1.1.1, ()), ())
/-! ### overlay/overlayref22.rank -/
noncomputable def F_r22_rank (b_Floors : Int) (b_Debounce : Int) (b_Room : Int) (b_Park : Int) (b_Empty : Nat) (b_Full : Nat) (b_Over : Nat) (b_Cars : List (Car)) (views : List (View)) (car : Int) (floor : Int) (dir : Int) : Option ((Unit × Unit) × ((Int × Int × Unit) × Unit)) :=
  Option.bind (bif (Go.Ab.inB car (List.length views)) then
        let z0 : View := (List.getD views (Int.toNat car) (View.mk false false false false (0 : Int) (0 : Int) (0 : Int) (0 : Int) (0 : Int) (0 : Int) (0 : Int) (0 : Int)))
        (F_r22_full z0.Ready z0.Serving z0.Legacy z0.Lost z0.Floor z0.Dir z0.Load z0.Shows_Up z0.Shows_Down z0.Stops_Car z0.Stops_Hall_Up z0.Stops_Hall_Down).bind fun y1 =>
        bif y1.1.1 then
          some ((views, car, floor, dir, (), (), (1 : Int), ()), ((b_Floors, b_Debounce, b_Room, b_Park, b_Empty, b_Full, b_Over, b_Cars, ()), ((0 : Int), (0 : Int), ()), ()))
        else
          some ((views, car, floor, dir, (), (), (0 : Int), ()), ((b_Floors, b_Debounce, b_Room, b_Park, b_Empty, b_Full, b_Over, b_Cars, ()), ((0 : Int), (0 : Int), ()), ()))
      else
        none) fun y2 =>
  bif (Go.Ab.inB y2.1.2.1 (List.length y2.1.1)) then
    let z1 : View := (List.getD y2.1.1 (Int.toNat y2.1.2.1) (View.mk false false false false (0 : Int) (0 : Int) (0 : Int) (0 : Int) (0 : Int) (0 : Int) (0 : Int) (0 : Int)))
    (F_r21_Estimate y2.2.1.1 y2.2.1.2.1 y2.2.1.2.2.1 y2.2.1.2.2.2.1 y2.2.1.2.2.2.2.1 y2.2.1.2.2.2.2.2.1 y2.2.1.2.2.2.2.2.2.1 y2.2.1.2.2.2.2.2.2.2.1 y2.1.2.1 z1.Ready z1.Serving z1.Legacy z1.Lost z1.Floor z1.Dir z1.Load z1.Shows_Up z1.Shows_Down z1.Stops_Car z1.Stops_Hall_Up z1.Stops_Hall_Down y2.1.2.2.1 y2.1.2.2.2.1).bind fun y3 =>
    some (((), ()), ((y2.1.2.2.2.2.2.2.1, y3.1.1, ()), ()))
  else
    none
/-! ### overlay/overlayref22.Choose -/
noncomputable def R_r22_Choose_0 (views : List (View)) (floor : Int) (dir : Int) (except : Int) (best : Int) (i : Int) (b_Floors : Int) (b_Debounce : Int) (b_Room : Int) (b_Park : Int) (b_Empty : Nat) (b_Full : Nat) (b_Over : Nat) (b_Cars : List (Car)) : Option (Sum ((List (View) × Int × Int × Int × Unit × Int × Int × Unit) × ((Int × Int × Int × Int × Nat × Nat × Nat × List (Car) × Unit) × Unit)) ((Int × Unit) × Unit)) :=
  bif (decide (i < ((List.length views : Nat) : Int))) then
    bif (Go.Ab.inB i (List.length views)) then
      bif (!(List.getD views (Int.toNat i) (View.mk false false false false (0 : Int) (0 : Int) (0 : Int) (0 : Int) (0 : Int) (0 : Int) (0 : Int) (0 : Int))).Ready) then
        some (Sum.inl ((views, floor, dir, except, (), best, (Go.IntKind.wrap Go.IntKind.i64 (i + (1 : Int))), ()), ((b_Floors, b_Debounce, b_Room, b_Park, b_Empty, b_Full, b_Over, b_Cars, ()), ())))
      else
        bif (i == except) then
          some (Sum.inl ((views, floor, dir, except, (), best, (Go.IntKind.wrap Go.IntKind.i64 (i + (1 : Int))), ()), ((b_Floors, b_Debounce, b_Room, b_Park, b_Empty, b_Full, b_Over, b_Cars, ()), ())))
        else
          Option.bind (bif (decide (best < (0 : Int))) then
                some ((views, floor, dir, except, (), best, i, true, ()), ((b_Floors, b_Debounce, b_Room, b_Park, b_Empty, b_Full, b_Over, b_Cars, ()), ()))
              else
                (F_r22_rank b_Floors b_Debounce b_Room b_Park b_Empty b_Full b_Over b_Cars views i floor dir).bind fun y1 =>
                (F_r22_rank b_Floors b_Debounce b_Room b_Park b_Empty b_Full b_Over b_Cars views best floor dir).bind fun y2 =>
                (F_r22_Better y1.2.1.1 y1.2.1.2.1 y2.2.1.1 y2.2.1.2.1).bind fun y3 =>
                some ((views, floor, dir, except, (), best, i, y3.1.1, ()), ((b_Floors, b_Debounce, b_Room, b_Park, b_Empty, b_Full, b_Over, b_Cars, ()), ()))) fun y4 =>
          bif y4.1.2.2.2.2.2.2.2.1 then
            some (Sum.inl ((y4.1.1, y4.1.2.1, y4.1.2.2.1, y4.1.2.2.2.1, (), y4.1.2.2.2.2.2.2.1, (Go.IntKind.wrap Go.IntKind.i64 (y4.1.2.2.2.2.2.2.1 + (1 : Int))), ()), ((y4.2.1.1, y4.2.1.2.1, y4.2.1.2.2.1, y4.2.1.2.2.2.1, y4.2.1.2.2.2.2.1, y4.2.1.2.2.2.2.2.1, y4.2.1.2.2.2.2.2.2.1, y4.2.1.2.2.2.2.2.2.2.1, ()), ())))
          else
            some (Sum.inl ((y4.1.1, y4.1.2.1, y4.1.2.2.1, y4.1.2.2.2.1, (), y4.1.2.2.2.2.2.1, (Go.IntKind.wrap Go.IntKind.i64 (y4.1.2.2.2.2.2.2.1 + (1 : Int))), ()), ((y4.2.1.1, y4.2.1.2.1, y4.2.1.2.2.1, y4.2.1.2.2.2.1, y4.2.1.2.2.2.2.1, y4.2.1.2.2.2.2.2.1, y4.2.1.2.2.2.2.2.2.1, y4.2.1.2.2.2.2.2.2.2.1, ()), ())))
    else
      none
  else
    some (Sum.inr ((best, ()), ()))
noncomputable def L_r22_Choose_0 : ((List (View) × Int × Int × Int × Unit × Int × Int × Unit) × ((Int × Int × Int × Int × Nat × Nat × Nat × List (Car) × Unit) × Unit)) → Option ((Int × Unit) × Unit) := iter (fun x => R_r22_Choose_0 x.1.1 x.1.2.1 x.1.2.2.1 x.1.2.2.2.1 x.1.2.2.2.2.2.1 x.1.2.2.2.2.2.2.1 x.2.1.1 x.2.1.2.1 x.2.1.2.2.1 x.2.1.2.2.2.1 x.2.1.2.2.2.2.1 x.2.1.2.2.2.2.2.1 x.2.1.2.2.2.2.2.2.1 x.2.1.2.2.2.2.2.2.2.1) fuel
noncomputable def F_r22_Choose (b_Floors : Int) (b_Debounce : Int) (b_Room : Int) (b_Park : Int) (b_Empty : Nat) (b_Full : Nat) (b_Over : Nat) (b_Cars : List (Car)) (views : List (View)) (floor : Int) (dir : Int) (except : Int) : Option ((Int × Unit) × Unit) :=
  (F_r01_Valid b_Floors b_Debounce b_Room b_Park b_Empty b_Full b_Over b_Cars).bind fun y1 =>
  bif (y1.1.1 != (0 : Int)) then
    some (((-1 : Int), ()), ())
  else
    bif (((List.length views : Nat) : Int) != ((List.length b_Cars : Nat) : Int)) then
      some (((-1 : Int), ()), ())
    else
      (L_r22_Choose_0 ((views, floor, dir, except, (), (-1 : Int), (0 : Int), ()), ((b_Floors, b_Debounce, b_Room, b_Park, b_Empty, b_Full, b_Over, b_Cars, ()), ()))).bind fun y2 =>
      some ((y2.1.1, ()), ())
/-! ### overlay/overlayref22.IsExpect -/
noncomputable def R_r22_IsExpect_0 (expect : List (Int)) (i : Int) (m_Phases : List (Int)) (m_Flags : List (Bool)) (m_Leaving : List (Bool)) (m_Entries : List (Entry)) : Option (Sum ((List (Int) × Unit × Int × Unit) × ((List (Int) × List (Bool) × List (Bool) × List (Entry) × Unit) × Unit)) (((List (Int) × Unit × Unit) × ((List (Int) × List (Bool) × List (Bool) × List (Entry) × Unit) × Unit)) ⊕ ((Bool × Unit) × Unit))) :=
  bif (decide (i < ((List.length expect : Nat) : Int))) then
    bif (Go.Ab.inB i (List.length expect)) then
      bif (decide ((List.getD expect (Int.toNat i) (0 : Int)) < (0 : Int))) then
        some (Sum.inr (Sum.inr ((false, ()), ())))
      else
        bif (Go.Ab.inB i (List.length expect)) then
          bif (decide ((1000000 : Int) < (List.getD expect (Int.toNat i) (0 : Int)))) then
            some (Sum.inr (Sum.inr ((false, ()), ())))
          else
            some (Sum.inl ((expect, (), (Go.IntKind.wrap Go.IntKind.i64 (i + (1 : Int))), ()), ((m_Phases, m_Flags, m_Leaving, m_Entries, ()), ())))
        else
          none
    else
      none
  else
    some (Sum.inr (Sum.inl ((expect, (), ()), ((m_Phases, m_Flags, m_Leaving, m_Entries, ()), ()))))
noncomputable def L_r22_IsExpect_0 : ((List (Int) × Unit × Int × Unit) × ((List (Int) × List (Bool) × List (Bool) × List (Entry) × Unit) × Unit)) → Option (((List (Int) × Unit × Unit) × ((List (Int) × List (Bool) × List (Bool) × List (Entry) × Unit) × Unit)) ⊕ ((Bool × Unit) × Unit)) := iter (fun x => R_r22_IsExpect_0 x.1.1 x.1.2.2.1 x.2.1.1 x.2.1.2.1 x.2.1.2.2.1 x.2.1.2.2.2.1) fuel
noncomputable def F_r22_IsExpect (m_Phases : List (Int)) (m_Flags : List (Bool)) (m_Leaving : List (Bool)) (m_Entries : List (Entry)) (expect : List (Int)) : Option ((Bool × Unit) × Unit) :=
  (L_r22_IsExpect_0 ((expect, (), (0 : Int), ()), ((m_Phases, m_Flags, m_Leaving, m_Entries, ()), ()))).bind fun y1 =>
  (match y1 with
  | .inl y2 =>
    some (((((List.length y2.1.1 : Nat) : Int) == ((List.length y2.2.1.2.2.2.1 : Nat) : Int)), ()), ())
  | .inr y2 =>
    some ((y2.1.1, ()), ()))
/-! ### overlay/overlayref22.changed -/
noncomputable def F_r22_changed (b_Floors : Int) (b_Debounce : Int) (b_Room : Int) (b_Park : Int) (b_Empty : Nat) (b_Full : Nat) (b_Over : Nat) (b_Cars : List (Car)) (e_Floor : Int) (e_Dir : Int) (e_Car : Int) (e_Moves : Int) (e_Moved : Bool) (expect : Int) (views : List (View)) : Option ((Unit × Unit) × ((Int × Int × Int × Int × Bool × Unit) × Unit)) :=
  let z0 : Int := (Go.IntKind.wrap Go.IntKind.i64 (((List.length b_Cars : Nat) : Int) + (1 : Int)))
  bif (e_Car == (-2 : Int)) then
    some (((), ()), ((e_Floor, e_Dir, e_Car, e_Moves, e_Moved, ()), ()))
  else
    bif (e_Car == (-1 : Int)) then
      (F_r22_Choose b_Floors b_Debounce b_Room b_Park b_Empty b_Full b_Over b_Cars views e_Floor e_Dir (-1 : Int)).bind fun y1 =>
      some (((), ()), ((e_Floor, e_Dir, y1.1.1, e_Moves, e_Moved, ()), ()))
    else
      Option.bind (bif (Go.Ab.inB e_Car (List.length views)) then
            bif (List.getD views (Int.toNat e_Car) (View.mk false false false false (0 : Int) (0 : Int) (0 : Int) (0 : Int) (0 : Int) (0 : Int) (0 : Int) (0 : Int))).Lost then
              some ((expect, views, (), (), (), z0, (decide (z0 ≤ e_Moves)), ()), ((b_Floors, b_Debounce, b_Room, b_Park, b_Empty, b_Full, b_Over, b_Cars, ()), (e_Floor, e_Dir, e_Car, e_Moves, e_Moved, ()), ((0 : Int), (0 : Int), (0 : Int), (0 : Int), false, ()), ()))
            else
              some ((expect, views, (), (), (), z0, false, ()), ((b_Floors, b_Debounce, b_Room, b_Park, b_Empty, b_Full, b_Over, b_Cars, ()), (e_Floor, e_Dir, e_Car, e_Moves, e_Moved, ()), ((0 : Int), (0 : Int), (0 : Int), (0 : Int), false, ()), ()))
          else
            none) fun y2 =>
      bif y2.1.2.2.2.2.2.2.1 then
        some (((), ()), ((y2.2.2.1.1, y2.2.2.1.2.1, (-2 : Int), y2.2.2.1.2.2.2.1, y2.2.2.1.2.2.2.2.1, ()), ()))
      else
        bif (Go.Ab.inB y2.2.2.1.2.2.1 (List.length y2.1.2.1)) then
          bif (List.getD y2.1.2.1 (Int.toNat y2.2.2.1.2.2.1) (View.mk false false false false (0 : Int) (0 : Int) (0 : Int) (0 : Int) (0 : Int) (0 : Int) (0 : Int) (0 : Int))).Lost then
            (F_r22_Choose y2.2.1.1 y2.2.1.2.1 y2.2.1.2.2.1 y2.2.1.2.2.2.1 y2.2.1.2.2.2.2.1 y2.2.1.2.2.2.2.2.1 y2.2.1.2.2.2.2.2.2.1 y2.2.1.2.2.2.2.2.2.2.1 y2.1.2.1 y2.2.2.1.1 y2.2.2.1.2.1 y2.2.2.1.2.2.1).bind fun y3 =>
            some (((), ()), ((y2.2.2.1.1, y2.2.2.1.2.1, y3.1.1, (Go.IntKind.wrap Go.IntKind.i64 (y2.2.2.1.2.2.2.1 + (1 : Int))), y2.2.2.1.2.2.2.2.1, ()), ()))
          else
            bif y2.2.2.1.2.2.2.2.1 then
              some (((), ()), ((y2.2.2.1.1, y2.2.2.1.2.1, y2.2.2.1.2.2.1, y2.2.2.1.2.2.2.1, y2.2.2.1.2.2.2.2.1, ()), ()))
            else
              bif (decide (y2.1.2.2.2.2.2.1 ≤ y2.2.2.1.2.2.2.1)) then
                some (((), ()), ((y2.2.2.1.1, y2.2.2.1.2.1, y2.2.2.1.2.2.1, y2.2.2.1.2.2.2.1, y2.2.2.1.2.2.2.2.1, ()), ()))
              else
                bif (Go.Ab.inB y2.2.2.1.2.2.1 (List.length y2.1.2.1)) then
                  let z1 : View := (List.getD y2.1.2.1 (Int.toNat y2.2.2.1.2.2.1) (View.mk false false false false (0 : Int) (0 : Int) (0 : Int) (0 : Int) (0 : Int) (0 : Int) (0 : Int) (0 : Int)))
                  (F_r22_Choose y2.2.1.1 y2.2.1.2.1 y2.2.1.2.2.1 y2.2.1.2.2.2.1 y2.2.1.2.2.2.2.1 y2.2.1.2.2.2.2.2.1 y2.2.1.2.2.2.2.2.2.1 y2.2.1.2.2.2.2.2.2.2.1 y2.1.2.1 y2.2.2.1.1 y2.2.2.1.2.1 y2.2.2.1.2.2.1).bind fun y4 =>
                  bif (decide (y4.1.1 < (0 : Int))) then
                    some (((), ()), ((y2.2.2.1.1, y2.2.2.1.2.1, y2.2.2.1.2.2.1, y2.2.2.1.2.2.2.1, y2.2.2.1.2.2.2.2.1, ()), ()))
                  else
                    Option.bind (bif z1.Legacy then
                          bif (y2.1.1 == (0 : Int)) then
                            (F_r22_rank y2.2.1.1 y2.2.1.2.1 y2.2.1.2.2.1 y2.2.1.2.2.2.1 y2.2.1.2.2.2.2.1 y2.2.1.2.2.2.2.2.1 y2.2.1.2.2.2.2.2.2.1 y2.2.1.2.2.2.2.2.2.2.1 y2.1.2.1 y4.1.1 y2.2.2.1.1 y2.2.2.1.2.1).bind fun y5 =>
                            (F_r22_rank y2.2.1.1 y2.2.1.2.1 y2.2.1.2.2.1 y2.2.1.2.2.2.1 y2.2.1.2.2.2.2.1 y2.2.1.2.2.2.2.2.1 y2.2.1.2.2.2.2.2.2.1 y2.2.1.2.2.2.2.2.2.2.1 y2.1.2.1 y2.2.2.1.2.2.1 y2.2.2.1.1 y2.2.2.1.2.1).bind fun y6 =>
                            (F_r22_Better y5.2.1.1 y5.2.1.2.1 y6.2.1.1 y6.2.1.2.1).bind fun y7 =>
                            some ((y2.1.2.1, (), (), (), y4.1.1, y7.1.1, ()), ((y2.2.2.1.1, y2.2.2.1.2.1, y2.2.2.1.2.2.1, y2.2.2.1.2.2.2.1, y2.2.2.1.2.2.2.2.1, ()), (y2.2.2.2.1.1, y2.2.2.2.1.2.1, y2.2.2.2.1.2.2.1, y2.2.2.2.1.2.2.2.1, y2.2.2.2.1.2.2.2.2.1, ()), (z1.Ready, z1.Serving, z1.Legacy, z1.Lost, z1.Floor, z1.Dir, z1.Load, z1.Shows_Up, z1.Shows_Down, z1.Stops_Car, z1.Stops_Hall_Up, z1.Stops_Hall_Down, ()), ()))
                          else
                            some ((y2.1.2.1, (), (), (), y4.1.1, false, ()), ((y2.2.2.1.1, y2.2.2.1.2.1, y2.2.2.1.2.2.1, y2.2.2.1.2.2.2.1, y2.2.2.1.2.2.2.2.1, ()), (y2.2.2.2.1.1, y2.2.2.2.1.2.1, y2.2.2.2.1.2.2.1, y2.2.2.2.1.2.2.2.1, y2.2.2.2.1.2.2.2.2.1, ()), (z1.Ready, z1.Serving, z1.Legacy, z1.Lost, z1.Floor, z1.Dir, z1.Load, z1.Shows_Up, z1.Shows_Down, z1.Stops_Car, z1.Stops_Hall_Up, z1.Stops_Hall_Down, ()), ()))
                        else
                          some ((y2.1.2.1, (), (), (), y4.1.1, false, ()), ((y2.2.2.1.1, y2.2.2.1.2.1, y2.2.2.1.2.2.1, y2.2.2.1.2.2.2.1, y2.2.2.1.2.2.2.2.1, ()), (y2.2.2.2.1.1, y2.2.2.2.1.2.1, y2.2.2.2.1.2.2.1, y2.2.2.2.1.2.2.2.1, y2.2.2.2.1.2.2.2.2.1, ()), (z1.Ready, z1.Serving, z1.Legacy, z1.Lost, z1.Floor, z1.Dir, z1.Load, z1.Shows_Up, z1.Shows_Down, z1.Stops_Car, z1.Stops_Hall_Up, z1.Stops_Hall_Down, ()), ()))) fun y8 =>
                    Option.bind (bif y8.1.2.2.2.2.2.1 then
                          some (((), (), y8.1.2.2.2.2.1, true, ()), ((y8.2.1.1, y8.2.1.2.1, y8.2.1.2.2.1, y8.2.1.2.2.2.1, y8.2.1.2.2.2.2.1, ()), (y8.2.2.1.1, y8.2.2.1.2.1, y8.2.2.1.2.2.1, y8.2.2.1.2.2.2.1, y8.2.2.1.2.2.2.2.1, ()), ()))
                        else
                          bif (!y8.2.2.2.1.2.2.1) then
                            (F_r22_full y8.2.2.2.1.1 y8.2.2.2.1.2.1 y8.2.2.2.1.2.2.1 y8.2.2.2.1.2.2.2.1 y8.2.2.2.1.2.2.2.2.1 y8.2.2.2.1.2.2.2.2.2.1 y8.2.2.2.1.2.2.2.2.2.2.1 y8.2.2.2.1.2.2.2.2.2.2.2.1 y8.2.2.2.1.2.2.2.2.2.2.2.2.1 y8.2.2.2.1.2.2.2.2.2.2.2.2.2.1 y8.2.2.2.1.2.2.2.2.2.2.2.2.2.2.1 y8.2.2.2.1.2.2.2.2.2.2.2.2.2.2.2.1).bind fun y9 =>
                            bif y9.1.1 then
                              bif (Go.Ab.inB y8.1.2.2.2.2.1 (List.length y8.1.1)) then
                                let z2 : View := (List.getD y8.1.1 (Int.toNat y8.1.2.2.2.2.1) (View.mk false false false false (0 : Int) (0 : Int) (0 : Int) (0 : Int) (0 : Int) (0 : Int) (0 : Int) (0 : Int)))
                                (F_r22_full z2.Ready z2.Serving z2.Legacy z2.Lost z2.Floor z2.Dir z2.Load z2.Shows_Up z2.Shows_Down z2.Stops_Car z2.Stops_Hall_Up z2.Stops_Hall_Down).bind fun y10 =>
                                some (((), (), y8.1.2.2.2.2.1, (!y10.1.1), ()), ((y8.2.1.1, y8.2.1.2.1, y8.2.1.2.2.1, y8.2.1.2.2.2.1, y8.2.1.2.2.2.2.1, ()), (y8.2.2.1.1, y8.2.2.1.2.1, y8.2.2.1.2.2.1, y8.2.2.1.2.2.2.1, y8.2.2.1.2.2.2.2.1, ()), ()))
                              else
                                none
                            else
                              some (((), (), y8.1.2.2.2.2.1, false, ()), ((y8.2.1.1, y8.2.1.2.1, y8.2.1.2.2.1, y8.2.1.2.2.2.1, y8.2.1.2.2.2.2.1, ()), (y8.2.2.1.1, y8.2.2.1.2.1, y8.2.2.1.2.2.1, y8.2.2.1.2.2.2.1, y8.2.2.1.2.2.2.2.1, ()), ()))
                          else
                            some (((), (), y8.1.2.2.2.2.1, false, ()), ((y8.2.1.1, y8.2.1.2.1, y8.2.1.2.2.1, y8.2.1.2.2.2.1, y8.2.1.2.2.2.2.1, ()), (y8.2.2.1.1, y8.2.2.1.2.1, y8.2.2.1.2.2.1, y8.2.2.1.2.2.2.1, y8.2.2.1.2.2.2.2.1, ()), ()))) fun y11 =>
                    bif y11.1.2.2.2.1 then
                      some (((), ()), ((y11.2.1.1, y11.2.1.2.1, y11.1.2.2.1, (Go.IntKind.wrap Go.IntKind.i64 (y11.2.1.2.2.2.1 + (1 : Int))), true, ()), ()))
                    else
                      some (((), ()), ((y11.2.1.1, y11.2.1.2.1, y11.2.1.2.2.1, y11.2.1.2.2.2.1, y11.2.1.2.2.2.2.1, ()), ()))
                else
                  none
        else
          none
/-! ### overlay/overlayref22.Plan -/
noncomputable def R_r22_Plan_0 (expect : List (Int)) (views : List (View)) (out : List (Record)) (next : List (Int)) (i : Int) (b_Floors : Int) (b_Debounce : Int) (b_Room : Int) (b_Park : Int) (b_Empty : Nat) (b_Full : Nat) (b_Over : Nat) (b_Cars : List (Car)) (m_Phases : List (Int)) (m_Flags : List (Bool)) (m_Leaving : List (Bool)) (m_Entries : List (Entry)) : Option (Sum ((List (Int) × List (View) × Unit × Unit × List (Record) × List (Int) × Int × Unit) × ((Int × Int × Int × Int × Nat × Nat × Nat × List (Car) × Unit) × (List (Int) × List (Bool) × List (Bool) × List (Entry) × Unit) × Unit)) ((List (Record) × List (Int) × Unit) × Unit)) :=
  bif (decide (i < ((List.length m_Entries : Nat) : Int))) then
    bif (Go.Ab.inB i (List.length m_Entries)) then
      let z0 : Entry := (List.getD m_Entries (Int.toNat i) (Entry.mk (0 : Int) (0 : Int) (0 : Int) (0 : Int) false))
      bif (Go.Ab.inB i (List.length expect)) then
        (F_r22_changed b_Floors b_Debounce b_Room b_Park b_Empty b_Full b_Over b_Cars z0.Floor z0.Dir z0.Car z0.Moves z0.Moved (List.getD expect (Int.toNat i) (0 : Int)) views).bind fun y1 =>
        Option.bind (Option.bind (bif (y1.2.1.2.2.2.1 != z0.Moves) then
                  some ((expect, views, (), (), out, next, i, (), (), true, ()), ((b_Floors, b_Debounce, b_Room, b_Park, b_Empty, b_Full, b_Over, b_Cars, ()), (m_Phases, m_Flags, m_Leaving, m_Entries, ()), (z0.Floor, z0.Dir, z0.Car, z0.Moves, z0.Moved, ()), (y1.2.1.1, y1.2.1.2.1, y1.2.1.2.2.1, y1.2.1.2.2.2.1, y1.2.1.2.2.2.2.1, ()), ()))
                else
                  some ((expect, views, (), (), out, next, i, (), (), (!(y1.2.1.2.2.2.2.1 == z0.Moved)), ()), ((b_Floors, b_Debounce, b_Room, b_Park, b_Empty, b_Full, b_Over, b_Cars, ()), (m_Phases, m_Flags, m_Leaving, m_Entries, ()), (z0.Floor, z0.Dir, z0.Car, z0.Moves, z0.Moved, ()), (y1.2.1.1, y1.2.1.2.1, y1.2.1.2.2.1, y1.2.1.2.2.2.1, y1.2.1.2.2.2.2.1, ()), ()))) fun y2 =>
            bif y2.1.2.2.2.2.2.2.2.2.2.1 then
              bif y2.2.2.2.2.1.2.2.2.2.1 then
                let z1 : List (Record) := [(Record.mk (7 : Int) y2.2.2.2.1.1 y2.2.2.2.1.2.1 (1 : Int) y2.2.2.2.2.1.2.2.2.1)]
                bif (Nat.ble ((List.length y2.1.2.2.2.2.1) + (List.length z1)) 2147483648) then
                  some ((y2.1.1, y2.1.2.1, (), (), (y2.1.2.2.2.2.1 ++ z1), y2.1.2.2.2.2.2.1, y2.1.2.2.2.2.2.2.1, (), (), ()), ((y2.2.1.1, y2.2.1.2.1, y2.2.1.2.2.1, y2.2.1.2.2.2.1, y2.2.1.2.2.2.2.1, y2.2.1.2.2.2.2.2.1, y2.2.1.2.2.2.2.2.2.1, y2.2.1.2.2.2.2.2.2.2.1, ()), (y2.2.2.1.1, y2.2.2.1.2.1, y2.2.2.1.2.2.1, y2.2.2.1.2.2.2.1, ()), (y2.2.2.2.1.1, y2.2.2.2.1.2.1, y2.2.2.2.1.2.2.1, y2.2.2.2.1.2.2.2.1, y2.2.2.2.1.2.2.2.2.1, ()), (y2.2.2.2.2.1.1, y2.2.2.2.2.1.2.1, y2.2.2.2.2.1.2.2.1, y2.2.2.2.2.1.2.2.2.1, y2.2.2.2.2.1.2.2.2.2.1, ()), ()))
                else
                  none
              else
                let z2 : List (Record) := [(Record.mk (7 : Int) y2.2.2.2.1.1 y2.2.2.2.1.2.1 (0 : Int) y2.2.2.2.2.1.2.2.2.1)]
                bif (Nat.ble ((List.length y2.1.2.2.2.2.1) + (List.length z2)) 2147483648) then
                  some ((y2.1.1, y2.1.2.1, (), (), (y2.1.2.2.2.2.1 ++ z2), y2.1.2.2.2.2.2.1, y2.1.2.2.2.2.2.2.1, (), (), ()), ((y2.2.1.1, y2.2.1.2.1, y2.2.1.2.2.1, y2.2.1.2.2.2.1, y2.2.1.2.2.2.2.1, y2.2.1.2.2.2.2.2.1, y2.2.1.2.2.2.2.2.2.1, y2.2.1.2.2.2.2.2.2.2.1, ()), (y2.2.2.1.1, y2.2.2.1.2.1, y2.2.2.1.2.2.1, y2.2.2.1.2.2.2.1, ()), (y2.2.2.2.1.1, y2.2.2.2.1.2.1, y2.2.2.2.1.2.2.1, y2.2.2.2.1.2.2.2.1, y2.2.2.2.1.2.2.2.2.1, ()), (y2.2.2.2.2.1.1, y2.2.2.2.2.1.2.1, y2.2.2.2.2.1.2.2.1, y2.2.2.2.2.1.2.2.2.1, y2.2.2.2.2.1.2.2.2.2.1, ()), ()))
                else
                  none
            else
              some ((y2.1.1, y2.1.2.1, (), (), y2.1.2.2.2.2.1, y2.1.2.2.2.2.2.1, y2.1.2.2.2.2.2.2.1, (), (), ()), ((y2.2.1.1, y2.2.1.2.1, y2.2.1.2.2.1, y2.2.1.2.2.2.1, y2.2.1.2.2.2.2.1, y2.2.1.2.2.2.2.2.1, y2.2.1.2.2.2.2.2.2.1, y2.2.1.2.2.2.2.2.2.2.1, ()), (y2.2.2.1.1, y2.2.2.1.2.1, y2.2.2.1.2.2.1, y2.2.2.1.2.2.2.1, ()), (y2.2.2.2.1.1, y2.2.2.2.1.2.1, y2.2.2.2.1.2.2.1, y2.2.2.2.1.2.2.2.1, y2.2.2.2.1.2.2.2.2.1, ()), (y2.2.2.2.2.1.1, y2.2.2.2.2.1.2.1, y2.2.2.2.2.1.2.2.1, y2.2.2.2.2.1.2.2.2.1, y2.2.2.2.2.1.2.2.2.2.1, ()), ()))) fun y3 =>
        Option.bind (bif (y3.2.2.2.2.1.2.2.1 != y3.2.2.2.1.2.2.1) then
              let z3 : List (Record) := [(Record.mk (3 : Int) y3.2.2.2.1.1 y3.2.2.2.1.2.1 y3.2.2.2.2.1.2.2.1 (0 : Int))]
              bif (Nat.ble ((List.length y3.1.2.2.2.2.1) + (List.length z3)) 2147483648) then
                some ((y3.1.1, y3.1.2.1, (), (), (y3.1.2.2.2.2.1 ++ z3), y3.1.2.2.2.2.2.1, y3.1.2.2.2.2.2.2.1, (), (), ()), ((y3.2.1.1, y3.2.1.2.1, y3.2.1.2.2.1, y3.2.1.2.2.2.1, y3.2.1.2.2.2.2.1, y3.2.1.2.2.2.2.2.1, y3.2.1.2.2.2.2.2.2.1, y3.2.1.2.2.2.2.2.2.2.1, ()), (y3.2.2.1.1, y3.2.2.1.2.1, y3.2.2.1.2.2.1, y3.2.2.1.2.2.2.1, ()), (y3.2.2.2.1.1, y3.2.2.2.1.2.1, y3.2.2.2.1.2.2.1, y3.2.2.2.1.2.2.2.1, y3.2.2.2.1.2.2.2.2.1, ()), (y3.2.2.2.2.1.1, y3.2.2.2.2.1.2.1, y3.2.2.2.2.1.2.2.1, y3.2.2.2.2.1.2.2.2.1, y3.2.2.2.2.1.2.2.2.2.1, ()), ()))
              else
                none
            else
              some ((y3.1.1, y3.1.2.1, (), (), y3.1.2.2.2.2.1, y3.1.2.2.2.2.2.1, y3.1.2.2.2.2.2.2.1, (), (), ()), ((y3.2.1.1, y3.2.1.2.1, y3.2.1.2.2.1, y3.2.1.2.2.2.1, y3.2.1.2.2.2.2.1, y3.2.1.2.2.2.2.2.1, y3.2.1.2.2.2.2.2.2.1, y3.2.1.2.2.2.2.2.2.2.1, ()), (y3.2.2.1.1, y3.2.2.1.2.1, y3.2.2.1.2.2.1, y3.2.2.1.2.2.2.1, ()), (y3.2.2.2.1.1, y3.2.2.2.1.2.1, y3.2.2.2.1.2.2.1, y3.2.2.2.1.2.2.2.1, y3.2.2.2.1.2.2.2.2.1, ()), (y3.2.2.2.2.1.1, y3.2.2.2.2.1.2.1, y3.2.2.2.2.1.2.2.1, y3.2.2.2.2.1.2.2.2.1, y3.2.2.2.2.1.2.2.2.2.1, ()), ()))) fun y4 =>
        Option.bind (bif (y4.2.2.2.2.1.2.2.1 != y4.2.2.2.1.2.2.1) then
              some ((y4.1.1, y4.1.2.1, (), (), y4.1.2.2.2.2.1, y4.1.2.2.2.2.2.1, y4.1.2.2.2.2.2.2.1, (), (), (decide ((0 : Int) ≤ y4.2.2.2.2.1.2.2.1)), ()), ((y4.2.1.1, y4.2.1.2.1, y4.2.1.2.2.1, y4.2.1.2.2.2.1, y4.2.1.2.2.2.2.1, y4.2.1.2.2.2.2.2.1, y4.2.1.2.2.2.2.2.2.1, y4.2.1.2.2.2.2.2.2.2.1, ()), (y4.2.2.1.1, y4.2.2.1.2.1, y4.2.2.1.2.2.1, y4.2.2.1.2.2.2.1, ()), (y4.2.2.2.1.1, y4.2.2.2.1.2.1, y4.2.2.2.1.2.2.1, y4.2.2.2.1.2.2.2.1, y4.2.2.2.1.2.2.2.2.1, ()), (y4.2.2.2.2.1.1, y4.2.2.2.2.1.2.1, y4.2.2.2.2.1.2.2.1, y4.2.2.2.2.1.2.2.2.1, y4.2.2.2.2.1.2.2.2.2.1, ()), ()))
            else
              some ((y4.1.1, y4.1.2.1, (), (), y4.1.2.2.2.2.1, y4.1.2.2.2.2.2.1, y4.1.2.2.2.2.2.2.1, (), (), false, ()), ((y4.2.1.1, y4.2.1.2.1, y4.2.1.2.2.1, y4.2.1.2.2.2.1, y4.2.1.2.2.2.2.1, y4.2.1.2.2.2.2.2.1, y4.2.1.2.2.2.2.2.2.1, y4.2.1.2.2.2.2.2.2.2.1, ()), (y4.2.2.1.1, y4.2.2.1.2.1, y4.2.2.1.2.2.1, y4.2.2.1.2.2.2.1, ()), (y4.2.2.2.1.1, y4.2.2.2.1.2.1, y4.2.2.2.1.2.2.1, y4.2.2.2.1.2.2.2.1, y4.2.2.2.1.2.2.2.2.1, ()), (y4.2.2.2.2.1.1, y4.2.2.2.2.1.2.1, y4.2.2.2.2.1.2.2.1, y4.2.2.2.2.1.2.2.2.1, y4.2.2.2.2.1.2.2.2.2.1, ()), ()))) fun y5 =>
        bif y5.1.2.2.2.2.2.2.2.2.2.1 then
          bif (Go.Ab.inB y5.2.2.2.2.1.2.2.1 (List.length y5.1.2.1)) then
            let z4 : View := (List.getD y5.1.2.1 (Int.toNat y5.2.2.2.2.1.2.2.1) (View.mk false false false false (0 : Int) (0 : Int) (0 : Int) (0 : Int) (0 : Int) (0 : Int) (0 : Int) (0 : Int)))
            (F_r21_Estimate y5.2.1.1 y5.2.1.2.1 y5.2.1.2.2.1 y5.2.1.2.2.2.1 y5.2.1.2.2.2.2.1 y5.2.1.2.2.2.2.2.1 y5.2.1.2.2.2.2.2.2.1 y5.2.1.2.2.2.2.2.2.2.1 y5.2.2.2.2.1.2.2.1 z4.Ready z4.Serving z4.Legacy z4.Lost z4.Floor z4.Dir z4.Load z4.Shows_Up z4.Shows_Down z4.Stops_Car z4.Stops_Hall_Up z4.Stops_Hall_Down y5.2.2.2.1.1 y5.2.2.2.1.2.1).bind fun y6 =>
            bif (Go.Ab.inB y5.2.2.2.2.1.2.2.1 (List.length y5.2.1.2.2.2.2.2.2.2.1)) then
              let z5 : Int := (Go.IntKind.wrap Go.IntKind.i64 (y6.1.1 + (List.getD y5.2.1.2.2.2.2.2.2.2.1 (Int.toNat y5.2.2.2.2.1.2.2.1) (Car.mk (0 : Int) (0 : Int) (0 : Int) (0 : Int) (0 : Int) (0 : Int) (0 : Int) (0 : Int) (0 : Int))).Slack))
              let z6 : List (Int) := [(bif (decide ((1000000 : Int) < z5)) then (1000000 : Int) else z5)]
              bif (Nat.ble ((List.length y5.1.2.2.2.2.2.1) + (List.length z6)) 2147483648) then
                some (Sum.inl ((y5.1.1, y5.1.2.1, (), (), y5.1.2.2.2.2.1, (y5.1.2.2.2.2.2.1 ++ z6), (Go.IntKind.wrap Go.IntKind.i64 (y5.1.2.2.2.2.2.2.1 + (1 : Int))), ()), ((y5.2.1.1, y5.2.1.2.1, y5.2.1.2.2.1, y5.2.1.2.2.2.1, y5.2.1.2.2.2.2.1, y5.2.1.2.2.2.2.2.1, y5.2.1.2.2.2.2.2.2.1, y5.2.1.2.2.2.2.2.2.2.1, ()), (y5.2.2.1.1, y5.2.2.1.2.1, y5.2.2.1.2.2.1, y5.2.2.1.2.2.2.1, ()), ())))
              else
                none
            else
              none
          else
            none
        else
          bif (Go.Ab.inB y5.1.2.2.2.2.2.2.1 (List.length y5.1.1)) then
            let z7 : Int := (Go.IntKind.wrap Go.IntKind.i64 ((List.getD y5.1.1 (Int.toNat y5.1.2.2.2.2.2.2.1) (0 : Int)) - (1 : Int)))
            let z8 : List (Int) := [(bif (decide ((0 : Int) < z7)) then z7 else (0 : Int))]
            bif (Nat.ble ((List.length y5.1.2.2.2.2.2.1) + (List.length z8)) 2147483648) then
              some (Sum.inl ((y5.1.1, y5.1.2.1, (), (), y5.1.2.2.2.2.1, (y5.1.2.2.2.2.2.1 ++ z8), (Go.IntKind.wrap Go.IntKind.i64 (y5.1.2.2.2.2.2.2.1 + (1 : Int))), ()), ((y5.2.1.1, y5.2.1.2.1, y5.2.1.2.2.1, y5.2.1.2.2.2.1, y5.2.1.2.2.2.2.1, y5.2.1.2.2.2.2.2.1, y5.2.1.2.2.2.2.2.2.1, y5.2.1.2.2.2.2.2.2.2.1, ()), (y5.2.2.1.1, y5.2.2.1.2.1, y5.2.2.1.2.2.1, y5.2.2.1.2.2.2.1, ()), ())))
            else
              none
          else
            none
      else
        none
    else
      none
  else
    some (Sum.inr ((out, next, ()), ()))
noncomputable def L_r22_Plan_0 : ((List (Int) × List (View) × Unit × Unit × List (Record) × List (Int) × Int × Unit) × ((Int × Int × Int × Int × Nat × Nat × Nat × List (Car) × Unit) × (List (Int) × List (Bool) × List (Bool) × List (Entry) × Unit) × Unit)) → Option ((List (Record) × List (Int) × Unit) × Unit) := iter (fun x => R_r22_Plan_0 x.1.1 x.1.2.1 x.1.2.2.2.2.1 x.1.2.2.2.2.2.1 x.1.2.2.2.2.2.2.1 x.2.1.1 x.2.1.2.1 x.2.1.2.2.1 x.2.1.2.2.2.1 x.2.1.2.2.2.2.1 x.2.1.2.2.2.2.2.1 x.2.1.2.2.2.2.2.2.1 x.2.1.2.2.2.2.2.2.2.1 x.2.2.1.1 x.2.2.1.2.1 x.2.2.1.2.2.1 x.2.2.1.2.2.2.1) fuel
noncomputable def F_r22_Plan (b_Floors : Int) (b_Debounce : Int) (b_Room : Int) (b_Park : Int) (b_Empty : Nat) (b_Full : Nat) (b_Over : Nat) (b_Cars : List (Car)) (m_Phases : List (Int)) (m_Flags : List (Bool)) (m_Leaving : List (Bool)) (m_Entries : List (Entry)) (expect : List (Int)) (views : List (View)) : Option ((List (Record) × List (Int) × Int × Unit) × Unit) :=
  (F_r10_IsImage b_Floors b_Debounce b_Room b_Park b_Empty b_Full b_Over b_Cars m_Phases m_Flags m_Leaving m_Entries).bind fun y1 =>
  bif (!y1.1.1) then
    some ((([] : List (Record)), ([] : List (Int)), (1 : Int), ()), ())
  else
    (F_r22_IsExpect m_Phases m_Flags m_Leaving m_Entries expect).bind fun y2 =>
    bif (!y2.1.1) then
      some ((([] : List (Record)), ([] : List (Int)), (1 : Int), ()), ())
    else
      bif (((List.length views : Nat) : Int) != ((List.length b_Cars : Nat) : Int)) then
        some ((([] : List (Record)), ([] : List (Int)), (1 : Int), ()), ())
      else
        (L_r22_Plan_0 ((expect, views, (), (), ([] : List (Record)), ([] : List (Int)), (0 : Int), ()), ((b_Floors, b_Debounce, b_Room, b_Park, b_Empty, b_Full, b_Over, b_Cars, ()), (m_Phases, m_Flags, m_Leaving, m_Entries, ()), ()))).bind fun y3 =>
        some ((y3.1.1, y3.1.2.1, (0 : Int), ()), ())
/-! ### overlay/overlayref22.SameInts -/
noncomputable def R_r22_SameInts_0 (a : List (Int)) (b : List (Int)) (i : Int) : Option (Sum ((List (Int) × List (Int) × Int × Unit) × Unit) ((Unit × Unit) ⊕ ((Bool × Unit) × Unit))) :=
  bif (decide (i < ((List.length a : Nat) : Int))) then
    bif (Go.Ab.inB i (List.length a)) then
      bif (Go.Ab.inB i (List.length b)) then
        bif ((List.getD a (Int.toNat i) (0 : Int)) != (List.getD b (Int.toNat i) (0 : Int))) then
          some (Sum.inr (Sum.inr ((false, ()), ())))
        else
          some (Sum.inl ((a, b, (Go.IntKind.wrap Go.IntKind.i64 (i + (1 : Int))), ()), ()))
      else
        none
    else
      none
  else
    some (Sum.inr (Sum.inl ((), ())))
noncomputable def L_r22_SameInts_0 : ((List (Int) × List (Int) × Int × Unit) × Unit) → Option ((Unit × Unit) ⊕ ((Bool × Unit) × Unit)) := iter (fun x => R_r22_SameInts_0 x.1.1 x.1.2.1 x.1.2.2.1) fuel
noncomputable def F_r22_SameInts (a : List (Int)) (b : List (Int)) : Option ((Bool × Unit) × Unit) :=
  bif (((List.length a : Nat) : Int) != ((List.length b : Nat) : Int)) then
    some ((false, ()), ())
  else
    (L_r22_SameInts_0 ((a, b, (0 : Int), ()), ())).bind fun y1 =>
    (match y1 with
    | .inl y2 =>
      some ((true, ()), ())
    | .inr y2 =>
      some ((y2.1.1, ()), ()))
end Go.Ovl
