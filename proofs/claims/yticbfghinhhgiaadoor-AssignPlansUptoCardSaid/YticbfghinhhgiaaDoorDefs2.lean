/- What each function of the program comes to: part 2. -/
import Derived.Test.YticbfghinhhgiaaDoorDefs1
namespace Go.Ovl
open Go Go.Ab
set_option maxRecDepth 100000
/-! ### overlay/overlayref22.Plan -/
noncomputable def R_r22_Plan_0 (expect : List (Int)) (views : List (View)) (out : List (Record)) (next : List (Int)) (i : Int) (b_Floors : Int) (b_Debounce : Int) (b_Room : Int) (b_Park : Int) (b_Empty : Nat) (b_Full : Nat) (b_Over : Nat) (b_Cars : List (Car)) (m_Phases : List (Int)) (m_Flags : List (Bool)) (m_Leaving : List (Bool)) (m_Entries : List (Entry)) : Option (Sum ((List (Int) × List (View) × Unit × Unit × List (Record) × List (Int) × Int × Unit) × ((Int × Int × Int × Int × Nat × Nat × Nat × List (Car) × Unit) × (List (Int) × List (Bool) × List (Bool) × List (Entry) × Unit) × Unit)) ((List (Record) × List (Int) × Unit) × Unit)) :=
  bif (decide (i < ((List.length m_Entries : Nat) : Int))) then
    bif (Go.Ab.inB i (List.length m_Entries)) then
      let z0 : Entry := (List.getD m_Entries (Int.toNat i) (Entry.mk (0 : Int) (0 : Int) (0 : Int) (0 : Int) false))
      bif (Go.Ab.inB i (List.length expect)) then
        (F_r22_changed b_Floors b_Debounce b_Room b_Park b_Empty b_Full b_Over b_Cars z0.Floor z0.Dir z0.Car z0.Moves z0.Moved (List.getD expect (Int.toNat i) (0 : Int)) views).bind fun y1 =>
        Option.bind (Option.bind (bif (y1.2.1.2.2.2.1 != z0.Moves) then
                  some ((expect, views, (), (), out, next, i, (), (), true, ()), ((b_Floors, b_Debounce, b_Room, b_Park, b_Empty, b_Full, b_Over, b_Cars, ()), (m_Phases, m_Flags, m_Leaving, m_Entries, ()), (z0.Floor, z0.Dir, z0.Car, z0.Moves, z0.Moved, ()), (y1.2.1.1, y1.2.1.2.1, y1.2.1.2.2.1, y1.2.1.2.2.2.1, y1.2.1.2.2.2.2.1, ()), ()))
                else
                  some ((expect, views, (), (), out, next, i, (), (), (!(y1.2.1.2.2.2.2.1 == z0.Moved)), ()), ((b_Floors, b_Debounce, b_Room, b_Park, b_Empty, b_Full, b_Over, b_Cars, ()), (m_Phases, m_Flags, m_Leaving, m_Entries, ()), (z0.Floor, z0.Dir, z0.Car, z0.Moves, z0.Moved, ()), (y1.2.1.1, y1.2.1.2.1, y1.2.1.2.2.1, y1.2.1.2.2.2.1, y1.2.1.2.2.2.2.1, ()), ()))) fun y2 =>
            bif y2.1.2.2.2.2.2.2.2.2.2.1 then
              bif y2.2.2.2.2.1.2.2.2.2.1 then
                let z1 : List (Record) := [(Record.mk (7 : Int) y2.2.2.2.1.1 y2.2.2.2.1.2.1 (1 : Int) y2.2.2.2.2.1.2.2.2.1)]
                bif (Nat.ble ((List.length y2.1.2.2.2.2.1) + (List.length z1)) 2147483648) then
                  some ((y2.1.1, y2.1.2.1, (), (), (y2.1.2.2.2.2.1 ++ z1), y2.1.2.2.2.2.2.1, y2.1.2.2.2.2.2.2.1, (), (), ()), ((y2.2.1.1, y2.2.1.2.1, y2.2.1.2.2.1, y2.2.1.2.2.2.1, y2.2.1.2.2.2.2.1, y2.2.1.2.2.2.2.2.1, y2.2.1.2.2.2.2.2.2.1, y2.2.1.2.2.2.2.2.2.2.1, ()), (y2.2.2.1.1, y2.2.2.1.2.1, y2.2.2.1.2.2.1, y2.2.2.1.2.2.2.1, ()), (y2.2.2.2.1.1, y2.2.2.2.1.2.1, y2.2.2.2.1.2.2.1, y2.2.2.2.1.2.2.2.1, y2.2.2.2.1.2.2.2.2.1, ()), (y2.2.2.2.2.1.1, y2.2.2.2.2.1.2.1, y2.2.2.2.2.1.2.2.1, y2.2.2.2.2.1.2.2.2.1, y2.2.2.2.2.1.2.2.2.2.1, ()), ()))
                else
                  none
              else
                let z2 : List (Record) := [(Record.mk (7 : Int) y2.2.2.2.1.1 y2.2.2.2.1.2.1 (0 : Int) y2.2.2.2.2.1.2.2.2.1)]
                bif (Nat.ble ((List.length y2.1.2.2.2.2.1) + (List.length z2)) 2147483648) then
                  some ((y2.1.1, y2.1.2.1, (), (), (y2.1.2.2.2.2.1 ++ z2), y2.1.2.2.2.2.2.1, y2.1.2.2.2.2.2.2.1, (), (), ()), ((y2.2.1.1, y2.2.1.2.1, y2.2.1.2.2.1, y2.2.1.2.2.2.1, y2.2.1.2.2.2.2.1, y2.2.1.2.2.2.2.2.1, y2.2.1.2.2.2.2.2.2.1, y2.2.1.2.2.2.2.2.2.2.1, ()), (y2.2.2.1.1, y2.2.2.1.2.1, y2.2.2.1.2.2.1, y2.2.2.1.2.2.2.1, ()), (y2.2.2.2.1.1, y2.2.2.2.1.2.1, y2.2.2.2.1.2.2.1, y2.2.2.2.1.2.2.2.1, y2.2.2.2.1.2.2.2.2.1, ()), (y2.2.2.2.2.1.1, y2.2.2.2.2.1.2.1, y2.2.2.2.2.1.2.2.1, y2.2.2.2.2.1.2.2.2.1, y2.2.2.2.2.1.2.2.2.2.1, ()), ()))
                else
                  none
            else
              some ((y2.1.1, y2.1.2.1, (), (), y2.1.2.2.2.2.1, y2.1.2.2.2.2.2.1, y2.1.2.2.2.2.2.2.1, (), (), ()), ((y2.2.1.1, y2.2.1.2.1, y2.2.1.2.2.1, y2.2.1.2.2.2.1, y2.2.1.2.2.2.2.1, y2.2.1.2.2.2.2.2.1, y2.2.1.2.2.2.2.2.2.1, y2.2.1.2.2.2.2.2.2.2.1, ()), (y2.2.2.1.1, y2.2.2.1.2.1, y2.2.2.1.2.2.1, y2.2.2.1.2.2.2.1, ()), (y2.2.2.2.1.1, y2.2.2.2.1.2.1, y2.2.2.2.1.2.2.1, y2.2.2.2.1.2.2.2.1, y2.2.2.2.1.2.2.2.2.1, ()), (y2.2.2.2.2.1.1, y2.2.2.2.2.1.2.1, y2.2.2.2.2.1.2.2.1, y2.2.2.2.2.1.2.2.2.1, y2.2.2.2.2.1.2.2.2.2.1, ()), ()))) fun y3 =>
        Option.bind (bif (y3.2.2.2.2.1.2.2.1 != y3.2.2.2.1.2.2.1) then
              let z3 : List (Record) := [(Record.mk (3 : Int) y3.2.2.2.1.1 y3.2.2.2.1.2.1 y3.2.2.2.2.1.2.2.1 (0 : Int))]
              bif (Nat.ble ((List.length y3.1.2.2.2.2.1) + (List.length z3)) 2147483648) then
                some ((y3.1.1, y3.1.2.1, (), (), (y3.1.2.2.2.2.1 ++ z3), y3.1.2.2.2.2.2.1, y3.1.2.2.2.2.2.2.1, (), (), ()), ((y3.2.1.1, y3.2.1.2.1, y3.2.1.2.2.1, y3.2.1.2.2.2.1, y3.2.1.2.2.2.2.1, y3.2.1.2.2.2.2.2.1, y3.2.1.2.2.2.2.2.2.1, y3.2.1.2.2.2.2.2.2.2.1, ()), (y3.2.2.1.1, y3.2.2.1.2.1, y3.2.2.1.2.2.1, y3.2.2.1.2.2.2.1, ()), (y3.2.2.2.1.1, y3.2.2.2.1.2.1, y3.2.2.2.1.2.2.1, y3.2.2.2.1.2.2.2.1, y3.2.2.2.1.2.2.2.2.1, ()), (y3.2.2.2.2.1.1, y3.2.2.2.2.1.2.1, y3.2.2.2.2.1.2.2.1, y3.2.2.2.2.1.2.2.2.1, y3.2.2.2.2.1.2.2.2.2.1, ()), ()))
              else
                none
            else
              some ((y3.1.1, y3.1.2.1, (), (), y3.1.2.2.2.2.1, y3.1.2.2.2.2.2.1, y3.1.2.2.2.2.2.2.1, (), (), ()), ((y3.2.1.1, y3.2.1.2.1, y3.2.1.2.2.1, y3.2.1.2.2.2.1, y3.2.1.2.2.2.2.1, y3.2.1.2.2.2.2.2.1, y3.2.1.2.2.2.2.2.2.1, y3.2.1.2.2.2.2.2.2.2.1, ()), (y3.2.2.1.1, y3.2.2.1.2.1, y3.2.2.1.2.2.1, y3.2.2.1.2.2.2.1, ()), (y3.2.2.2.1.1, y3.2.2.2.1.2.1, y3.2.2.2.1.2.2.1, y3.2.2.2.1.2.2.2.1, y3.2.2.2.1.2.2.2.2.1, ()), (y3.2.2.2.2.1.1, y3.2.2.2.2.1.2.1, y3.2.2.2.2.1.2.2.1, y3.2.2.2.2.1.2.2.2.1, y3.2.2.2.2.1.2.2.2.2.1, ()), ()))) fun y4 =>
        Option.bind (bif (y4.2.2.2.2.1.2.2.1 != y4.2.2.2.1.2.2.1) then
              some ((y4.1.1, y4.1.2.1, (), (), y4.1.2.2.2.2.1, y4.1.2.2.2.2.2.1, y4.1.2.2.2.2.2.2.1, (), (), (decide ((0 : Int) ≤ y4.2.2.2.2.1.2.2.1)), ()), ((y4.2.1.1, y4.2.1.2.1, y4.2.1.2.2.1, y4.2.1.2.2.2.1, y4.2.1.2.2.2.2.1, y4.2.1.2.2.2.2.2.1, y4.2.1.2.2.2.2.2.2.1, y4.2.1.2.2.2.2.2.2.2.1, ()), (y4.2.2.1.1, y4.2.2.1.2.1, y4.2.2.1.2.2.1, y4.2.2.1.2.2.2.1, ()), (y4.2.2.2.1.1, y4.2.2.2.1.2.1, y4.2.2.2.1.2.2.1, y4.2.2.2.1.2.2.2.1, y4.2.2.2.1.2.2.2.2.1, ()), (y4.2.2.2.2.1.1, y4.2.2.2.2.1.2.1, y4.2.2.2.2.1.2.2.1, y4.2.2.2.2.1.2.2.2.1, y4.2.2.2.2.1.2.2.2.2.1, ()), ()))
            else
              some ((y4.1.1, y4.1.2.1, (), (), y4.1.2.2.2.2.1, y4.1.2.2.2.2.2.1, y4.1.2.2.2.2.2.2.1, (), (), false, ()), ((y4.2.1.1, y4.2.1.2.1, y4.2.1.2.2.1, y4.2.1.2.2.2.1, y4.2.1.2.2.2.2.1, y4.2.1.2.2.2.2.2.1, y4.2.1.2.2.2.2.2.2.1, y4.2.1.2.2.2.2.2.2.2.1, ()), (y4.2.2.1.1, y4.2.2.1.2.1, y4.2.2.1.2.2.1, y4.2.2.1.2.2.2.1, ()), (y4.2.2.2.1.1, y4.2.2.2.1.2.1, y4.2.2.2.1.2.2.1, y4.2.2.2.1.2.2.2.1, y4.2.2.2.1.2.2.2.2.1, ()), (y4.2.2.2.2.1.1, y4.2.2.2.2.1.2.1, y4.2.2.2.2.1.2.2.1, y4.2.2.2.2.1.2.2.2.1, y4.2.2.2.2.1.2.2.2.2.1, ()), ()))) fun y5 =>
        bif y5.1.2.2.2.2.2.2.2.2.2.1 then
          bif (Go.Ab.inB y5.2.2.2.2.1.2.2.1 (List.length y5.1.2.1)) then
            let z4 : View := (List.getD y5.1.2.1 (Int.toNat y5.2.2.2.2.1.2.2.1) (View.mk false false false false (0 : Int) (0 : Int) (0 : Int) (0 : Int) (0 : Int) (0 : Int) (0 : Int) (0 : Int)))
            (F_r21_Estimate y5.2.1.1 y5.2.1.2.1 y5.2.1.2.2.1 y5.2.1.2.2.2.1 y5.2.1.2.2.2.2.1 y5.2.1.2.2.2.2.2.1 y5.2.1.2.2.2.2.2.2.1 y5.2.1.2.2.2.2.2.2.2.1 y5.2.2.2.2.1.2.2.1 z4.Ready z4.Serving z4.Legacy z4.Lost z4.Floor z4.Dir z4.Load z4.Shows_Up z4.Shows_Down z4.Stops_Car z4.Stops_Hall_Up z4.Stops_Hall_Down y5.2.2.2.1.1 y5.2.2.2.1.2.1).bind fun y6 =>
            bif (Go.Ab.inB y5.2.2.2.2.1.2.2.1 (List.length y5.2.1.2.2.2.2.2.2.2.1)) then
              let z5 : Int := (Go.IntKind.wrap Go.IntKind.i64 (y6.1.1 + (List.getD y5.2.1.2.2.2.2.2.2.2.1 (Int.toNat y5.2.2.2.2.1.2.2.1) (Car.mk (0 : Int) (0 : Int) (0 : Int) (0 : Int) (0 : Int) (0 : Int) (0 : Int) (0 : Int) (0 : Int))).Slack))
              let z6 : List (Int) := [(bif (decide ((1000000 : Int) < z5)) then (1000000 : Int) else z5)]
              bif (Nat.ble ((List.length y5.1.2.2.2.2.2.1) + (List.length z6)) 2147483648) then
                some (Sum.inl ((y5.1.1, y5.1.2.1, (), (), y5.1.2.2.2.2.1, (y5.1.2.2.2.2.2.1 ++ z6), (Go.IntKind.wrap Go.IntKind.i64 (y5.1.2.2.2.2.2.2.1 + (1 : Int))), ()), ((y5.2.1.1, y5.2.1.2.1, y5.2.1.2.2.1, y5.2.1.2.2.2.1, y5.2.1.2.2.2.2.1, y5.2.1.2.2.2.2.2.1, y5.2.1.2.2.2.2.2.2.1, y5.2.1.2.2.2.2.2.2.2.1, ()), (y5.2.2.1.1, y5.2.2.1.2.1, y5.2.2.1.2.2.1, y5.2.2.1.2.2.2.1, ()), ())))
              else
                none
            else
              none
          else
            none
        else
          bif (Go.Ab.inB y5.1.2.2.2.2.2.2.1 (List.length y5.1.1)) then
            let z7 : Int := (Go.IntKind.wrap Go.IntKind.i64 ((List.getD y5.1.1 (Int.toNat y5.1.2.2.2.2.2.2.1) (0 : Int)) - (1 : Int)))
            let z8 : List (Int) := [(bif (decide ((0 : Int) < z7)) then z7 else (0 : Int))]
            bif (Nat.ble ((List.length y5.1.2.2.2.2.2.1) + (List.length z8)) 2147483648) then
              some (Sum.inl ((y5.1.1, y5.1.2.1, (), (), y5.1.2.2.2.2.1, (y5.1.2.2.2.2.2.1 ++ z8), (Go.IntKind.wrap Go.IntKind.i64 (y5.1.2.2.2.2.2.2.1 + (1 : Int))), ()), ((y5.2.1.1, y5.2.1.2.1, y5.2.1.2.2.1, y5.2.1.2.2.2.1, y5.2.1.2.2.2.2.1, y5.2.1.2.2.2.2.2.1, y5.2.1.2.2.2.2.2.2.1, y5.2.1.2.2.2.2.2.2.2.1, ()), (y5.2.2.1.1, y5.2.2.1.2.1, y5.2.2.1.2.2.1, y5.2.2.1.2.2.2.1, ()), ())))
            else
              none
          else
            none
      else
        none
    else
      none
  else
    some (Sum.inr ((out, next, ()), ()))
noncomputable def L_r22_Plan_0 : ((List (Int) × List (View) × Unit × Unit × List (Record) × List (Int) × Int × Unit) × ((Int × Int × Int × Int × Nat × Nat × Nat × List (Car) × Unit) × (List (Int) × List (Bool) × List (Bool) × List (Entry) × Unit) × Unit)) → Option ((List (Record) × List (Int) × Unit) × Unit) := iter (fun x => R_r22_Plan_0 x.1.1 x.1.2.1 x.1.2.2.2.2.1 x.1.2.2.2.2.2.1 x.1.2.2.2.2.2.2.1 x.2.1.1 x.2.1.2.1 x.2.1.2.2.1 x.2.1.2.2.2.1 x.2.1.2.2.2.2.1 x.2.1.2.2.2.2.2.1 x.2.1.2.2.2.2.2.2.1 x.2.1.2.2.2.2.2.2.2.1 x.2.2.1.1 x.2.2.1.2.1 x.2.2.1.2.2.1 x.2.2.1.2.2.2.1) fuel
noncomputable def F_r22_Plan (b_Floors : Int) (b_Debounce : Int) (b_Room : Int) (b_Park : Int) (b_Empty : Nat) (b_Full : Nat) (b_Over : Nat) (b_Cars : List (Car)) (m_Phases : List (Int)) (m_Flags : List (Bool)) (m_Leaving : List (Bool)) (m_Entries : List (Entry)) (expect : List (Int)) (views : List (View)) : Option ((List (Record) × List (Int) × Int × Unit) × Unit) :=
  (F_r10_IsImage b_Floors b_Debounce b_Room b_Park b_Empty b_Full b_Over b_Cars m_Phases m_Flags m_Leaving m_Entries).bind fun y1 =>
  bif (!y1.1.1) then
    some ((([] : List (Record)), ([] : List (Int)), (1 : Int), ()), ())
  else
    (F_r22_IsExpect m_Phases m_Flags m_Leaving m_Entries expect).bind fun y2 =>
    bif (!y2.1.1) then
      some ((([] : List (Record)), ([] : List (Int)), (1 : Int), ()), ())
    else
      bif (((List.length views : Nat) : Int) != ((List.length b_Cars : Nat) : Int)) then
        some ((([] : List (Record)), ([] : List (Int)), (1 : Int), ()), ())
      else
        (L_r22_Plan_0 ((expect, views, (), (), ([] : List (Record)), ([] : List (Int)), (0 : Int), ()), ((b_Floors, b_Debounce, b_Room, b_Park, b_Empty, b_Full, b_Over, b_Cars, ()), (m_Phases, m_Flags, m_Leaving, m_Entries, ()), ()))).bind fun y3 =>
        some ((y3.1.1, y3.1.2.1, (0 : Int), ()), ())
/-! ### overlay/overlayref09.Same -/
noncomputable def R_r09_Same_0 (a : List (Record)) (b : List (Record)) (i : Int) : Option (Sum ((List (Record) × List (Record) × Int × Unit) × Unit) ((Unit × Unit) ⊕ ((Bool × Unit) × Unit))) :=
  bif (decide (i < ((List.length a : Nat) : Int))) then
    bif (Go.Ab.inB i (List.length a)) then
      let z0 : Record := (List.getD a (Int.toNat i) (Record.mk (0 : Int) (0 : Int) (0 : Int) (0 : Int) (0 : Int)))
      bif (Go.Ab.inB i (List.length b)) then
        let z1 : Record := (List.getD b (Int.toNat i) (Record.mk (0 : Int) (0 : Int) (0 : Int) (0 : Int) (0 : Int)))
        bif (!((z0.Kind == z1.Kind) && ((z0.Floor == z1.Floor) && ((z0.Dir == z1.Dir) && ((z0.Car == z1.Car) && ((z0.Value == z1.Value) && true)))))) then
          some (Sum.inr (Sum.inr ((false, ()), ())))
        else
          some (Sum.inl ((a, b, (Go.IntKind.wrap Go.IntKind.i64 (i + (1 : Int))), ()), ()))
      else
        none
    else
      none
  else
    some (Sum.inr (Sum.inl ((), ())))
noncomputable def L_r09_Same_0 : ((List (Record) × List (Record) × Int × Unit) × Unit) → Option ((Unit × Unit) ⊕ ((Bool × Unit) × Unit)) := iter (fun x => R_r09_Same_0 x.1.1 x.1.2.1 x.1.2.2.1) fuel
noncomputable def F_r09_Same (a : List (Record)) (b : List (Record)) : Option ((Bool × Unit) × Unit) :=
  bif (((List.length a : Nat) : Int) != ((List.length b : Nat) : Int)) then
    some ((false, ()), ())
  else
    (L_r09_Same_0 ((a, b, (0 : Int), ()), ())).bind fun y1 =>
    (match y1 with
    | .inl y2 =>
      some ((true, ()), ())
    | .inr y2 =>
      some ((y2.1.1, ()), ()))
/-! ### overlay/overlayref22.SameInts -/
noncomputable def R_r22_SameInts_0 (a : List (Int)) (b : List (Int)) (i : Int) : Option (Sum ((List (Int) × List (Int) × Int × Unit) × Unit) ((Unit × Unit) ⊕ ((Bool × Unit) × Unit))) :=
  bif (decide (i < ((List.length a : Nat) : Int))) then
    bif (Go.Ab.inB i (List.length a)) then
      bif (Go.Ab.inB i (List.length b)) then
        bif ((List.getD a (Int.toNat i) (0 : Int)) != (List.getD b (Int.toNat i) (0 : Int))) then
          some (Sum.inr (Sum.inr ((false, ()), ())))
        else
          some (Sum.inl ((a, b, (Go.IntKind.wrap Go.IntKind.i64 (i + (1 : Int))), ()), ()))
      else
        none
    else
      none
  else
    some (Sum.inr (Sum.inl ((), ())))
noncomputable def L_r22_SameInts_0 : ((List (Int) × List (Int) × Int × Unit) × Unit) → Option ((Unit × Unit) ⊕ ((Bool × Unit) × Unit)) := iter (fun x => R_r22_SameInts_0 x.1.1 x.1.2.1 x.1.2.2.1) fuel
noncomputable def F_r22_SameInts (a : List (Int)) (b : List (Int)) : Option ((Bool × Unit) × Unit) :=
  bif (((List.length a : Nat) : Int) != ((List.length b : Nat) : Int)) then
    some ((false, ()), ())
  else
    (L_r22_SameInts_0 ((a, b, (0 : Int), ()), ())).bind fun y1 =>
    (match y1 with
    | .inl y2 =>
      some ((true, ()), ())
    | .inr y2 =>
      some ((y2.1.1, ()), ()))
/-! ### overlay/calls.One -/
noncomputable def F_calls_One (floor : Int) (dir : Int) : Option ((Unit × Unit) × ((Int × Int × Unit) × Unit)) :=
  Option.bind (bif (decide ((0 : Int) ≤ floor)) then
        some ((floor, dir, (), (decide (floor < (32 : Int))), ()), (((0 : Int), (0 : Int), ()), ()))
      else
        some ((floor, dir, (), false, ()), (((0 : Int), (0 : Int), ()), ()))) fun y1 =>
  bif y1.1.2.2.2.1 then
    bif (y1.1.2.1 == (1 : Int)) then
      bif (decide ((0 : Int) ≤ y1.1.1)) then
        some (((), ()), (((Go.IntKind.wrap Go.IntKind.u32 ((1 : Int) * ((2 : Int) ^ (Min.min (Int.toNat y1.1.1) (Go.IntKind.bits Go.IntKind.u32))))), (0 : Int), ()), ()))
      else
        none
    else
      bif (y1.1.2.1 == (2 : Int)) then
        bif (decide ((0 : Int) ≤ y1.1.1)) then
          some (((), ()), (((0 : Int), (Go.IntKind.wrap Go.IntKind.u32 ((1 : Int) * ((2 : Int) ^ (Min.min (Int.toNat y1.1.1) (Go.IntKind.bits Go.IntKind.u32))))), ()), ()))
        else
          none
      else
        some (((), ()), (((0 : Int), (0 : Int), ()), ()))
  else
    some (((), ()), (((0 : Int), (0 : Int), ()), ()))
/-! ### overlay/calls.Union -/
noncomputable def F_calls_Union (a_Up : Int) (a_Down : Int) (b_Up : Int) (b_Down : Int) : Option ((Unit × Unit) × ((Int × Int × Unit) × Unit)) :=
  some (((), ()), (((Go.IntKind.wrap Go.IntKind.u32 (Go.Ab.stk a_Up b_Up (BitVec.toNat ((BitVec.ofInt (Go.IntKind.bits Go.IntKind.u32) a_Up) ||| (BitVec.ofInt (Go.IntKind.bits Go.IntKind.u32) b_Up))))), (Go.IntKind.wrap Go.IntKind.u32 (Go.Ab.stk a_Down b_Down (BitVec.toNat ((BitVec.ofInt (Go.IntKind.bits Go.IntKind.u32) a_Down) ||| (BitVec.ofInt (Go.IntKind.bits Go.IntKind.u32) b_Down))))), ()), ()))
/-! ### overlay/assign.Stops -/
noncomputable def R_assign_Stops_0 (views : List (View)) (car : Int) (s37 : List (Entry)) (s38 : Int) (s39 : Int) (b8_Up : Int) (b8_Down : Int) (c_Up : Int) (c_Down : Int) : Option (Sum ((List (View) × Int × Unit × Unit × List (Entry) × Int × Int × Unit) × ((Int × Int × Unit) × (Int × Int × Unit) × Unit)) ((Unit × Unit × Unit) × ((Int × Int × Unit) × (Int × Int × Unit) × Unit))) :=
  bif (decide (s39 < s38)) then
    bif (Go.Ab.inB s39 (List.length s37)) then
      let z0 : Entry := (List.getD s37 (Int.toNat s39) (Entry.mk (0 : Int) (0 : Int) (0 : Int) (0 : Int) false))
      Option.bind (bif (z0.Car == car) then
            some ((views, car, (), (), (), s37, s38, s39, true, ()), ((b8_Up, b8_Down, ()), (c_Up, c_Down, ()), (z0.Floor, z0.Dir, z0.Car, z0.Moves, z0.Moved, ()), ()))
          else
            bif (z0.Car == (-2 : Int)) then
              bif (Go.Ab.inB car (List.length views)) then
                some ((views, car, (), (), (), s37, s38, s39, (List.getD views (Int.toNat car) (View.mk false false false false (0 : Int) (0 : Int) (0 : Int) (0 : Int) (0 : Int) (0 : Int) (0 : Int) (0 : Int))).Ready, ()), ((b8_Up, b8_Down, ()), (c_Up, c_Down, ()), (z0.Floor, z0.Dir, z0.Car, z0.Moves, z0.Moved, ()), ()))
              else
                none
            else
              some ((views, car, (), (), (), s37, s38, s39, false, ()), ((b8_Up, b8_Down, ()), (c_Up, c_Down, ()), (z0.Floor, z0.Dir, z0.Car, z0.Moves, z0.Moved, ()), ()))) fun y1 =>
      bif y1.1.2.2.2.2.2.2.2.2.1 then
        (F_calls_One y1.2.2.2.1.1 y1.2.2.2.1.2.1).bind fun y2 =>
        (F_calls_Union y1.2.2.1.1 y1.2.2.1.2.1 y2.2.1.1 y2.2.1.2.1).bind fun y3 =>
        some (Sum.inl ((y1.1.1, y1.1.2.1, (), (), y1.1.2.2.2.2.2.1, y1.1.2.2.2.2.2.2.1, (Go.IntKind.wrap Go.IntKind.i64 (y1.1.2.2.2.2.2.2.2.1 + (1 : Int))), ()), ((y1.2.1.1, y1.2.1.2.1, ()), (y3.2.1.1, y3.2.1.2.1, ()), ())))
      else
        some (Sum.inl ((y1.1.1, y1.1.2.1, (), (), y1.1.2.2.2.2.2.1, y1.1.2.2.2.2.2.2.1, (Go.IntKind.wrap Go.IntKind.i64 (y1.1.2.2.2.2.2.2.2.1 + (1 : Int))), ()), ((y1.2.1.1, y1.2.1.2.1, ()), (y1.2.2.1.1, y1.2.2.1.2.1, ()), ())))
    else
      none
  else
    some (Sum.inr (((), (), ()), ((b8_Up, b8_Down, ()), (c_Up, c_Down, ()), ())))
noncomputable def L_assign_Stops_0 : ((List (View) × Int × Unit × Unit × List (Entry) × Int × Int × Unit) × ((Int × Int × Unit) × (Int × Int × Unit) × Unit)) → Option ((Unit × Unit × Unit) × ((Int × Int × Unit) × (Int × Int × Unit) × Unit)) := iter (fun x => R_assign_Stops_0 x.1.1 x.1.2.1 x.1.2.2.2.2.1 x.1.2.2.2.2.2.1 x.1.2.2.2.2.2.2.1 x.2.1.1 x.2.1.2.1 x.2.2.1.1 x.2.2.1.2.1) fuel
noncomputable def F_assign_Stops (b_Floors : Int) (b_Debounce : Int) (b_Room : Int) (b_Park : Int) (b_Empty : Nat) (b_Full : Nat) (b_Over : Nat) (b_Cars : List (Car)) (m_Phases : List (Int)) (m_Flags : List (Bool)) (m_Leaving : List (Bool)) (m_Entries : List (Entry)) (views : List (View)) (car : Int) : Option ((Unit × Unit) × ((Int × Int × Unit) × Unit)) :=
  (F_log_IsImage b_Floors b_Debounce b_Room b_Park b_Empty b_Full b_Over b_Cars m_Phases m_Flags m_Leaving m_Entries).bind fun y1 =>
  bif (!y1.1.1) then
    some (((), ()), (((0 : Int), (0 : Int), ()), ()))
  else
    bif (((List.length views : Nat) : Int) != ((List.length b_Cars : Nat) : Int)) then
      some (((), ()), (((0 : Int), (0 : Int), ()), ()))
    else
      bif (decide (car < (0 : Int))) then
        some (((), ()), (((0 : Int), (0 : Int), ()), ()))
      else
        bif (decide (((List.length b_Cars : Nat) : Int) ≤ car)) then
          some (((), ()), (((0 : Int), (0 : Int), ()), ()))
        else
          (L_assign_Stops_0 ((views, car, (), (), m_Entries, ((List.length m_Entries : Nat) : Int), (0 : Int), ()), (((0 : Int), (0 : Int), ()), ((0 : Int), (0 : Int), ()), ()))).bind fun y2 =>
          some (((), ()), ((y2.2.2.1.1, y2.2.2.1.2.1, ()), ()))
/-! ### overlay/overlayref07.One -/
noncomputable def F_r07_One (floor : Int) (dir : Int) : Option ((Unit × Unit) × ((Int × Int × Unit) × Unit)) :=
  bif (decide (floor < (0 : Int))) then
    some (((), ()), (((0 : Int), (0 : Int), ()), ()))
  else
    bif (decide ((31 : Int) < floor)) then
      some (((), ()), (((0 : Int), (0 : Int), ()), ()))
    else
      bif (dir == (1 : Int)) then
        let z0 : Int := (Go.IntKind.wrap Go.IntKind.u64 floor)
        bif (decide ((0 : Int) ≤ z0)) then
          some (((), ()), (((Go.IntKind.wrap Go.IntKind.u32 ((1 : Int) * ((2 : Int) ^ (Min.min (Int.toNat z0) (Go.IntKind.bits Go.IntKind.u32))))), (0 : Int), ()), ()))
        else
          none
      else
        bif (dir == (2 : Int)) then
          let z1 : Int := (Go.IntKind.wrap Go.IntKind.u64 floor)
          bif (decide ((0 : Int) ≤ z1)) then
            some (((), ()), (((0 : Int), (Go.IntKind.wrap Go.IntKind.u32 ((1 : Int) * ((2 : Int) ^ (Min.min (Int.toNat z1) (Go.IntKind.bits Go.IntKind.u32))))), ()), ()))
          else
            none
        else
          some (((), ()), (((0 : Int), (0 : Int), ()), ()))
/-! ### overlay/overlayref07.Union -/
noncomputable def F_r07_Union (a_Up : Int) (a_Down : Int) (b_Up : Int) (b_Down : Int) : Option ((Unit × Unit) × ((Int × Int × Unit) × Unit)) :=
  some (((), ()), (((Go.IntKind.wrap Go.IntKind.u32 (Go.Ab.stk a_Up b_Up (BitVec.toNat ((BitVec.ofInt (Go.IntKind.bits Go.IntKind.u32) a_Up) ||| (BitVec.ofInt (Go.IntKind.bits Go.IntKind.u32) b_Up))))), (Go.IntKind.wrap Go.IntKind.u32 (Go.Ab.stk a_Down b_Down (BitVec.toNat ((BitVec.ofInt (Go.IntKind.bits Go.IntKind.u32) a_Down) ||| (BitVec.ofInt (Go.IntKind.bits Go.IntKind.u32) b_Down))))), ()), ()))
/-! ### overlay/overlayref22.Stops -/
noncomputable def R_r22_Stops_0 (views : List (View)) (car : Int) (i : Int) (m_Phases : List (Int)) (m_Flags : List (Bool)) (m_Leaving : List (Bool)) (m_Entries : List (Entry)) (b8_Up : Int) (b8_Down : Int) (out_Up : Int) (out_Down : Int) : Option (Sum ((List (View) × Int × Unit × Unit × Unit × Int × Unit) × ((List (Int) × List (Bool) × List (Bool) × List (Entry) × Unit) × (Int × Int × Unit) × (Int × Int × Unit) × Unit)) ((Unit × Unit × Unit) × ((Int × Int × Unit) × (Int × Int × Unit) × Unit))) :=
  bif (decide (i < ((List.length m_Entries : Nat) : Int))) then
    bif (Go.Ab.inB i (List.length m_Entries)) then
      let z0 : Entry := (List.getD m_Entries (Int.toNat i) (Entry.mk (0 : Int) (0 : Int) (0 : Int) (0 : Int) false))
      Option.bind (bif (z0.Car == car) then
            some ((views, car, (), (), (), i, (), true, ()), ((m_Phases, m_Flags, m_Leaving, m_Entries, ()), (b8_Up, b8_Down, ()), (out_Up, out_Down, ()), (z0.Floor, z0.Dir, z0.Car, z0.Moves, z0.Moved, ()), ()))
          else
            bif (z0.Car == (-2 : Int)) then
              bif (Go.Ab.inB car (List.length views)) then
                some ((views, car, (), (), (), i, (), (List.getD views (Int.toNat car) (View.mk false false false false (0 : Int) (0 : Int) (0 : Int) (0 : Int) (0 : Int) (0 : Int) (0 : Int) (0 : Int))).Ready, ()), ((m_Phases, m_Flags, m_Leaving, m_Entries, ()), (b8_Up, b8_Down, ()), (out_Up, out_Down, ()), (z0.Floor, z0.Dir, z0.Car, z0.Moves, z0.Moved, ()), ()))
              else
                none
            else
              some ((views, car, (), (), (), i, (), false, ()), ((m_Phases, m_Flags, m_Leaving, m_Entries, ()), (b8_Up, b8_Down, ()), (out_Up, out_Down, ()), (z0.Floor, z0.Dir, z0.Car, z0.Moves, z0.Moved, ()), ()))) fun y1 =>
      bif y1.1.2.2.2.2.2.2.2.1 then
        (F_r07_One y1.2.2.2.2.1.1 y1.2.2.2.2.1.2.1).bind fun y2 =>
        (F_r07_Union y1.2.2.2.1.1 y1.2.2.2.1.2.1 y2.2.1.1 y2.2.1.2.1).bind fun y3 =>
        some (Sum.inl ((y1.1.1, y1.1.2.1, (), (), (), (Go.IntKind.wrap Go.IntKind.i64 (y1.1.2.2.2.2.2.1 + (1 : Int))), ()), ((y1.2.1.1, y1.2.1.2.1, y1.2.1.2.2.1, y1.2.1.2.2.2.1, ()), (y1.2.2.1.1, y1.2.2.1.2.1, ()), (y3.2.1.1, y3.2.1.2.1, ()), ())))
      else
        some (Sum.inl ((y1.1.1, y1.1.2.1, (), (), (), (Go.IntKind.wrap Go.IntKind.i64 (y1.1.2.2.2.2.2.1 + (1 : Int))), ()), ((y1.2.1.1, y1.2.1.2.1, y1.2.1.2.2.1, y1.2.1.2.2.2.1, ()), (y1.2.2.1.1, y1.2.2.1.2.1, ()), (y1.2.2.2.1.1, y1.2.2.2.1.2.1, ()), ())))
    else
      none
  else
    some (Sum.inr (((), (), ()), ((b8_Up, b8_Down, ()), (out_Up, out_Down, ()), ())))
noncomputable def L_r22_Stops_0 : ((List (View) × Int × Unit × Unit × Unit × Int × Unit) × ((List (Int) × List (Bool) × List (Bool) × List (Entry) × Unit) × (Int × Int × Unit) × (Int × Int × Unit) × Unit)) → Option ((Unit × Unit × Unit) × ((Int × Int × Unit) × (Int × Int × Unit) × Unit)) := iter (fun x => R_r22_Stops_0 x.1.1 x.1.2.1 x.1.2.2.2.2.2.1 x.2.1.1 x.2.1.2.1 x.2.1.2.2.1 x.2.1.2.2.2.1 x.2.2.1.1 x.2.2.1.2.1 x.2.2.2.1.1 x.2.2.2.1.2.1) fuel
noncomputable def F_r22_Stops (b_Floors : Int) (b_Debounce : Int) (b_Room : Int) (b_Park : Int) (b_Empty : Nat) (b_Full : Nat) (b_Over : Nat) (b_Cars : List (Car)) (m_Phases : List (Int)) (m_Flags : List (Bool)) (m_Leaving : List (Bool)) (m_Entries : List (Entry)) (views : List (View)) (car : Int) : Option ((Unit × Unit) × ((Int × Int × Unit) × Unit)) :=
  (F_r10_IsImage b_Floors b_Debounce b_Room b_Park b_Empty b_Full b_Over b_Cars m_Phases m_Flags m_Leaving m_Entries).bind fun y1 =>
  bif (!y1.1.1) then
    some (((), ()), (((0 : Int), (0 : Int), ()), ()))
  else
    bif (((List.length views : Nat) : Int) != ((List.length b_Cars : Nat) : Int)) then
      some (((), ()), (((0 : Int), (0 : Int), ()), ()))
    else
      bif (decide (car < (0 : Int))) then
        some (((), ()), (((0 : Int), (0 : Int), ()), ()))
      else
        bif (decide (((List.length b_Cars : Nat) : Int) ≤ car)) then
          some (((), ()), (((0 : Int), (0 : Int), ()), ()))
        else
          (L_r22_Stops_0 ((views, car, (), (), (), (0 : Int), ()), ((m_Phases, m_Flags, m_Leaving, m_Entries, ()), ((0 : Int), (0 : Int), ()), ((0 : Int), (0 : Int), ()), ()))).bind fun y2 =>
          some (((), ()), ((y2.2.2.1.1, y2.2.2.1.2.1, ()), ()))
/-! ### overlay/overlaylaw22.sane -/
noncomputable def F_l22_sane  : Option ((Bool × Unit) × Unit) :=
  (F_l10_Building (9 : Int) (90 : Int)).bind fun y1 =>
  let z0 : List (View) := [(View.mk true false false false (0 : Int) (0 : Int) (0 : Int) (0 : Int) (0 : Int) (0 : Int) (0 : Int) (0 : Int)), (View.mk true false false false (1 : Int) (0 : Int) (0 : Int) (0 : Int) (0 : Int) (0 : Int) (0 : Int) (0 : Int))]
  (F_r10_Initial y1.2.1.1 y1.2.1.2.1 y1.2.1.2.2.1 y1.2.1.2.2.2.1 y1.2.1.2.2.2.2.1 y1.2.1.2.2.2.2.2.1 y1.2.1.2.2.2.2.2.2.1 y1.2.1.2.2.2.2.2.2.2.1).bind fun y2 =>
  (F_assign_Plan y1.2.1.1 y1.2.1.2.1 y1.2.1.2.2.1 y1.2.1.2.2.2.1 y1.2.1.2.2.2.2.1 y1.2.1.2.2.2.2.2.1 y1.2.1.2.2.2.2.2.2.1 y1.2.1.2.2.2.2.2.2.2.1 y2.2.1.1 y2.2.1.2.1 y2.2.1.2.2.1 [(Entry.mk (2 : Int) (1 : Int) (-1 : Int) (0 : Int) false)] [(0 : Int)] z0).bind fun y3 =>
  (F_assign_Choose y1.2.1.1 y1.2.1.2.1 y1.2.1.2.2.1 y1.2.1.2.2.2.1 y1.2.1.2.2.2.2.1 y1.2.1.2.2.2.2.2.1 y1.2.1.2.2.2.2.2.2.1 y1.2.1.2.2.2.2.2.2.2.1 z0 (2 : Int) (1 : Int) (-1 : Int)).bind fun y4 =>
  bif (Go.Ab.inB (1 : Int) (List.length z0)) then
    let z1 : Nat := (Int.toNat (1 : Int))
    let z2 : View := (List.getD z0 z1 (View.mk false false false false (0 : Int) (0 : Int) (0 : Int) (0 : Int) (0 : Int) (0 : Int) (0 : Int) (0 : Int)))
    Option.bind (bif (y3.1.2.2.1 == (0 : Int)) then
          bif (((List.length y3.1.1 : Nat) : Int) == (1 : Int)) then
            bif (Go.Ab.inB (0 : Int) (List.length y3.1.1)) then
              let z3 : Record := (List.getD y3.1.1 (Int.toNat (0 : Int)) (Record.mk (0 : Int) (0 : Int) (0 : Int) (0 : Int) (0 : Int)))
              bif ((z3.Kind == (3 : Int)) && ((z3.Floor == (2 : Int)) && ((z3.Dir == (1 : Int)) && ((z3.Car == (1 : Int)) && ((z3.Value == (0 : Int)) && true))))) then
                bif (((List.length y3.1.2.1 : Nat) : Int) == (1 : Int)) then
                  bif (Go.Ab.inB (0 : Int) (List.length y3.1.2.1)) then
                    bif ((List.getD y3.1.2.1 (Int.toNat (0 : Int)) (0 : Int)) == (9 : Int)) then
                      bif (y4.1.1 == (1 : Int)) then
                        (F_assign_Choose y1.2.1.1 y1.2.1.2.1 y1.2.1.2.2.1 y1.2.1.2.2.2.1 y1.2.1.2.2.2.2.1 y1.2.1.2.2.2.2.2.1 y1.2.1.2.2.2.2.2.2.1 y1.2.1.2.2.2.2.2.2.2.1 (List.set z0 z1 (View.mk z2.Ready z2.Serving z2.Legacy z2.Lost z2.Floor z2.Dir (3 : Int) z2.Shows_Up z2.Shows_Down z2.Stops_Car z2.Stops_Hall_Up z2.Stops_Hall_Down)) (2 : Int) (1 : Int) (-1 : Int)).bind fun y5 =>
                        bif (y5.1.1 == (0 : Int)) then
                          (F_assign_Better (0 : Int) (9 : Int) (1 : Int) (2 : Int)).bind fun y6 =>
                          some ((y6.1.1, ()), ())
                        else
                          some ((false, ()), ())
                      else
                        some ((false, ()), ())
                    else
                      some ((false, ()), ())
                  else
                    none
                else
                  some ((false, ()), ())
              else
                some ((false, ()), ())
            else
              none
          else
            some ((false, ()), ())
        else
          some ((false, ()), ())) fun y7 =>
    some ((y7.1.1, ()), ())
  else
    none
/-! ### overlay/overlaylaw22.AssignPlans -/
noncomputable def R_l22_AssignPlans_1 (k : List (Int)) (v : List (View)) (car : Int) (b_Floors : Int) (b_Debounce : Int) (b_Room : Int) (b_Park : Int) (b_Empty : Nat) (b_Full : Nat) (b_Over : Nat) (b_Cars : List (Car)) (m_Phases : List (Int)) (m_Flags : List (Bool)) (m_Leaving : List (Bool)) (m_Entries : List (Entry)) : Option (Sum ((List (Int) × Unit × Unit × List (View) × Int × Unit) × ((Int × Int × Int × Int × Nat × Nat × Nat × List (Car) × Unit) × (List (Int) × List (Bool) × List (Bool) × List (Entry) × Unit) × Unit)) (((List (Int) × Unit × Unit × List (View) × Unit) × ((Int × Int × Int × Int × Nat × Nat × Nat × List (Car) × Unit) × (List (Int) × List (Bool) × List (Bool) × List (Entry) × Unit) × Unit)) ⊕ ((Bool × Unit) × Unit))) :=
  bif (decide (car ≤ ((List.length b_Cars : Nat) : Int))) then
    Option.bind (some ((k, (), (), v, car, ()), ((b_Floors, b_Debounce, b_Room, b_Park, b_Empty, b_Full, b_Over, b_Cars, ()), (m_Phases, m_Flags, m_Leaving, m_Entries, ()), ()))) fun y1 =>
    (F_assign_Stops y1.2.1.1 y1.2.1.2.1 y1.2.1.2.2.1 y1.2.1.2.2.2.1 y1.2.1.2.2.2.2.1 y1.2.1.2.2.2.2.2.1 y1.2.1.2.2.2.2.2.2.1 y1.2.1.2.2.2.2.2.2.2.1 y1.2.2.1.1 y1.2.2.1.2.1 y1.2.2.1.2.2.1 y1.2.2.1.2.2.2.1 y1.1.2.2.2.1 y1.1.2.2.2.2.1).bind fun y2 =>
    (F_r22_Stops y1.2.1.1 y1.2.1.2.1 y1.2.1.2.2.1 y1.2.1.2.2.2.1 y1.2.1.2.2.2.2.1 y1.2.1.2.2.2.2.2.1 y1.2.1.2.2.2.2.2.2.1 y1.2.1.2.2.2.2.2.2.2.1 y1.2.2.1.1 y1.2.2.1.2.1 y1.2.2.1.2.2.1 y1.2.2.1.2.2.2.1 y1.1.2.2.2.1 y1.1.2.2.2.2.1).bind fun y3 =>
    bif (!((y2.2.1.1 == y3.2.1.1) && ((y2.2.1.2.1 == y3.2.1.2.1) && true))) then
      some (Sum.inr (Sum.inr ((false, ()), ())))
    else
      bif (decide ((1 : Int) ≤ (((List.length y1.1.2.2.2.1) : Nat) : Int))) then
        (F_assign_Stops y1.2.1.1 y1.2.1.2.1 y1.2.1.2.2.1 y1.2.1.2.2.2.1 y1.2.1.2.2.2.2.1 y1.2.1.2.2.2.2.2.1 y1.2.1.2.2.2.2.2.2.1 y1.2.1.2.2.2.2.2.2.2.1 y1.2.2.1.1 y1.2.2.1.2.1 y1.2.2.1.2.2.1 y1.2.2.1.2.2.2.1 (List.drop 1 (List.take (List.length y1.1.2.2.2.1) y1.1.2.2.2.1)) y1.1.2.2.2.2.1).bind fun y4 =>
        bif (!((y4.2.1.1 == (0 : Int)) && ((y4.2.1.2.1 == (0 : Int)) && true))) then
          some (Sum.inr (Sum.inr ((false, ()), ())))
        else
          some (Sum.inl ((y1.1.1, (), (), y1.1.2.2.2.1, (Go.IntKind.wrap Go.IntKind.i64 (y1.1.2.2.2.2.1 + (1 : Int))), ()), ((y1.2.1.1, y1.2.1.2.1, y1.2.1.2.2.1, y1.2.1.2.2.2.1, y1.2.1.2.2.2.2.1, y1.2.1.2.2.2.2.2.1, y1.2.1.2.2.2.2.2.2.1, y1.2.1.2.2.2.2.2.2.2.1, ()), (y1.2.2.1.1, y1.2.2.1.2.1, y1.2.2.1.2.2.1, y1.2.2.1.2.2.2.1, ()), ())))
      else
        none
  else
    some (Sum.inr (Sum.inl ((k, (), (), v, ()), ((b_Floors, b_Debounce, b_Room, b_Park, b_Empty, b_Full, b_Over, b_Cars, ()), (m_Phases, m_Flags, m_Leaving, m_Entries, ()), ()))))
noncomputable def L_l22_AssignPlans_1 : ((List (Int) × Unit × Unit × List (View) × Int × Unit) × ((Int × Int × Int × Int × Nat × Nat × Nat × List (Car) × Unit) × (List (Int) × List (Bool) × List (Bool) × List (Entry) × Unit) × Unit)) → Option (((List (Int) × Unit × Unit × List (View) × Unit) × ((Int × Int × Int × Int × Nat × Nat × Nat × List (Car) × Unit) × (List (Int) × List (Bool) × List (Bool) × List (Entry) × Unit) × Unit)) ⊕ ((Bool × Unit) × Unit)) := iter (fun x => R_l22_AssignPlans_1 x.1.1 x.1.2.2.2.1 x.1.2.2.2.2.1 x.2.1.1 x.2.1.2.1 x.2.1.2.2.1 x.2.1.2.2.2.1 x.2.1.2.2.2.2.1 x.2.1.2.2.2.2.2.1 x.2.1.2.2.2.2.2.2.1 x.2.1.2.2.2.2.2.2.2.1 x.2.2.1.1 x.2.2.1.2.1 x.2.2.1.2.2.1 x.2.2.1.2.2.2.1) fuel
noncomputable def R_l22_AssignPlans_0 (k : List (Int)) (v : List (View)) (s42 : List (List (Int))) (s43 : Int) (s44 : Int) (b_Floors : Int) (b_Debounce : Int) (b_Room : Int) (b_Park : Int) (b_Empty : Nat) (b_Full : Nat) (b_Over : Nat) (b_Cars : List (Car)) (m_Phases : List (Int)) (m_Flags : List (Bool)) (m_Leaving : List (Bool)) (m_Entries : List (Entry)) : Option (Sum ((List (Int) × Unit × Unit × List (View) × List (List (Int)) × Int × Int × Unit) × ((Int × Int × Int × Int × Nat × Nat × Nat × List (Car) × Unit) × (List (Int) × List (Bool) × List (Bool) × List (Entry) × Unit) × Unit)) (((List (Int) × Unit × Unit × List (View) × Unit) × ((Int × Int × Int × Int × Nat × Nat × Nat × List (Car) × Unit) × (List (Int) × List (Bool) × List (Bool) × List (Entry) × Unit) × Unit)) ⊕ ((Bool × Unit) × Unit))) :=
  bif (decide (s44 < s43)) then
    bif (Go.Ab.inB s44 (List.length s42)) then
      let z0 : List (Int) := (List.getD s42 (Int.toNat s44) [])
      (F_assign_Plan b_Floors b_Debounce b_Room b_Park b_Empty b_Full b_Over b_Cars m_Phases m_Flags m_Leaving m_Entries z0 v).bind fun y1 =>
      (F_r22_Plan b_Floors b_Debounce b_Room b_Park b_Empty b_Full b_Over b_Cars m_Phases m_Flags m_Leaving m_Entries z0 v).bind fun y2 =>
      bif (y1.1.2.2.1 != y2.1.2.2.1) then
        some (Sum.inr (Sum.inr ((false, ()), ())))
      else
        (F_r09_Same y1.1.1 y2.1.1).bind fun y3 =>
        bif (!y3.1.1) then
          some (Sum.inr (Sum.inr ((false, ()), ())))
        else
          (F_r22_SameInts y1.1.2.1 y2.1.2.1).bind fun y4 =>
          bif (!y4.1.1) then
            some (Sum.inr (Sum.inr ((false, ()), ())))
          else
            some (Sum.inl ((k, (), (), v, s42, s43, (Go.IntKind.wrap Go.IntKind.i64 (s44 + (1 : Int))), ()), ((b_Floors, b_Debounce, b_Room, b_Park, b_Empty, b_Full, b_Over, b_Cars, ()), (m_Phases, m_Flags, m_Leaving, m_Entries, ()), ())))
    else
      none
  else
    some (Sum.inr (Sum.inl ((k, (), (), v, ()), ((b_Floors, b_Debounce, b_Room, b_Park, b_Empty, b_Full, b_Over, b_Cars, ()), (m_Phases, m_Flags, m_Leaving, m_Entries, ()), ()))))
noncomputable def L_l22_AssignPlans_0 : ((List (Int) × Unit × Unit × List (View) × List (List (Int)) × Int × Int × Unit) × ((Int × Int × Int × Int × Nat × Nat × Nat × List (Car) × Unit) × (List (Int) × List (Bool) × List (Bool) × List (Entry) × Unit) × Unit)) → Option (((List (Int) × Unit × Unit × List (View) × Unit) × ((Int × Int × Int × Int × Nat × Nat × Nat × List (Car) × Unit) × (List (Int) × List (Bool) × List (Bool) × List (Entry) × Unit) × Unit)) ⊕ ((Bool × Unit) × Unit)) := iter (fun x => R_l22_AssignPlans_0 x.1.1 x.1.2.2.2.1 x.1.2.2.2.2.1 x.1.2.2.2.2.2.1 x.1.2.2.2.2.2.2.1 x.2.1.1 x.2.1.2.1 x.2.1.2.2.1 x.2.1.2.2.2.1 x.2.1.2.2.2.2.1 x.2.1.2.2.2.2.2.1 x.2.1.2.2.2.2.2.2.1 x.2.1.2.2.2.2.2.2.2.1 x.2.2.1.1 x.2.2.1.2.1 x.2.2.1.2.2.1 x.2.2.1.2.2.2.1) fuel
noncomputable def F_l22_AssignPlans (n : Int) (l : List (Int)) (k : List (Int)) : Option ((Bool × Unit) × Unit) :=
  (F_l10_Building n (200 : Int)).bind fun y1 =>
  (F_l10_Image y1.2.1.1 y1.2.1.2.1 y1.2.1.2.2.1 y1.2.1.2.2.2.1 y1.2.1.2.2.2.2.1 y1.2.1.2.2.2.2.2.1 y1.2.1.2.2.2.2.2.2.1 y1.2.1.2.2.2.2.2.2.2.1 l).bind fun y2 =>
  (F_l22_Views y1.2.1.1 y1.2.1.2.1 y1.2.1.2.2.1 y1.2.1.2.2.2.1 y1.2.1.2.2.2.2.1 y1.2.1.2.2.2.2.2.1 y1.2.1.2.2.2.2.2.2.1 y1.2.1.2.2.2.2.2.2.2.1 k).bind fun y3 =>
  (F_l22_expects y2.2.1.1 y2.2.1.2.1 y2.2.1.2.2.1 y2.2.1.2.2.2.1 k).bind fun y4 =>
  let z0 : List (Int) := [(7 : Int)]
  bif (Nat.ble ((List.length z0) + (List.length k)) 2147483648) then
    (F_l22_expects y2.2.1.1 y2.2.1.2.1 y2.2.1.2.2.1 y2.2.1.2.2.2.1 (z0 ++ k)).bind fun y5 =>
    let z1 : List (List (Int)) := [y4.1.1, [], [(-1 : Int)], y5.1.1]
    (L_l22_AssignPlans_0 ((k, (), (), y3.1.1, z1, ((List.length z1 : Nat) : Int), (0 : Int), ()), ((y1.2.1.1, y1.2.1.2.1, y1.2.1.2.2.1, y1.2.1.2.2.2.1, y1.2.1.2.2.2.2.1, y1.2.1.2.2.2.2.2.1, y1.2.1.2.2.2.2.2.2.1, y1.2.1.2.2.2.2.2.2.2.1, ()), (y2.2.1.1, y2.2.1.2.1, y2.2.1.2.2.1, y2.2.1.2.2.2.1, ()), ()))).bind fun y6 =>
    (match y6 with
    | .inl y7 =>
      (L_l22_AssignPlans_1 ((y7.1.1, (), (), y7.1.2.2.2.1, (-1 : Int), ()), ((y7.2.1.1, y7.2.1.2.1, y7.2.1.2.2.1, y7.2.1.2.2.2.1, y7.2.1.2.2.2.2.1, y7.2.1.2.2.2.2.2.1, y7.2.1.2.2.2.2.2.2.1, y7.2.1.2.2.2.2.2.2.2.1, ()), (y7.2.2.1.1, y7.2.2.1.2.1, y7.2.2.1.2.2.1, y7.2.2.1.2.2.2.1, ()), ()))).bind fun y8 =>
      (match y8 with
      | .inl y9 =>
        (F_assign_Plan y9.2.1.1 y9.2.1.2.1 y9.2.1.2.2.1 y9.2.1.2.2.2.1 y9.2.1.2.2.2.2.1 y9.2.1.2.2.2.2.2.1 y9.2.1.2.2.2.2.2.2.1 y9.2.1.2.2.2.2.2.2.2.1 [] [] [] [] [] y9.1.2.2.2.1).bind fun y10 =>
        (F_l22_expects y9.2.2.1.1 y9.2.2.1.2.1 y9.2.2.1.2.2.1 y9.2.2.1.2.2.2.1 y9.1.1).bind fun y11 =>
        bif (decide ((1 : Int) ≤ (((List.length y9.1.2.2.2.1) : Nat) : Int))) then
          (F_assign_Plan y9.2.1.1 y9.2.1.2.1 y9.2.1.2.2.1 y9.2.1.2.2.2.1 y9.2.1.2.2.2.2.1 y9.2.1.2.2.2.2.2.1 y9.2.1.2.2.2.2.2.2.1 y9.2.1.2.2.2.2.2.2.2.1 y9.2.2.1.1 y9.2.2.1.2.1 y9.2.2.1.2.2.1 y9.2.2.1.2.2.2.1 y11.1.1 (List.drop 1 (List.take (List.length y9.1.2.2.2.1) y9.1.2.2.2.1))).bind fun y12 =>
          Option.bind (bif (y10.1.2.2.1 == (1 : Int)) then
                bif (y12.1.2.2.1 == (1 : Int)) then
                  (F_l22_sane).bind fun y13 =>
                  some ((y13.1.1, ()), ())
                else
                  some ((false, ()), ())
              else
                some ((false, ()), ())) fun y14 =>
          some ((y14.1.1, ()), ())
        else
          none
      | .inr y9 =>
        some ((y9.1.1, ()), ()))
    | .inr y7 =>
      some ((y7.1.1, ()), ()))
  else
    none
/-! ### overlay/overlaylaw22.after -/
noncomputable def R_l22_after_0 (r : List (Record)) (i : Int) (b_Floors : Int) (b_Debounce : Int) (b_Room : Int) (b_Park : Int) (b_Empty : Nat) (b_Full : Nat) (b_Over : Nat) (b_Cars : List (Car)) (m_Phases : List (Int)) (m_Flags : List (Bool)) (m_Leaving : List (Bool)) (m_Entries : List (Entry)) (b6_Phases : List (Int)) (b6_Flags : List (Bool)) (b6_Leaving : List (Bool)) (b6_Entries : List (Entry)) : Option (Sum ((List (Record) × Unit × Unit × Unit × Int × Unit) × ((Int × Int × Int × Int × Nat × Nat × Nat × List (Car) × Unit) × (List (Int) × List (Bool) × List (Bool) × List (Entry) × Unit) × (List (Int) × List (Bool) × List (Bool) × List (Entry) × Unit) × Unit)) (((Unit × Unit × Unit) × ((List (Int) × List (Bool) × List (Bool) × List (Entry) × Unit) × (List (Int) × List (Bool) × List (Bool) × List (Entry) × Unit) × Unit)) ⊕ ((Unit × Bool × Unit) × ((List (Int) × List (Bool) × List (Bool) × List (Entry) × Unit) × Unit)))) :=
  bif (decide (i < ((List.length r : Nat) : Int))) then
    bif (Go.Ab.inB i (List.length r)) then
      let z0 : Record := (List.getD r (Int.toNat i) (Record.mk (0 : Int) (0 : Int) (0 : Int) (0 : Int) (0 : Int)))
      (F_r10_Apply b_Floors b_Debounce b_Room b_Park b_Empty b_Full b_Over b_Cars m_Phases m_Flags m_Leaving m_Entries z0.Kind z0.Floor z0.Dir z0.Car z0.Value).bind fun y1 =>
      bif (y1.1.2.1 != (0 : Int)) then
        some (Sum.inr (Sum.inr (((), false, ()), ((m_Phases, m_Flags, m_Leaving, m_Entries, ()), ()))))
      else
        some (Sum.inl ((r, (), (), (), (Go.IntKind.wrap Go.IntKind.i64 (i + (1 : Int))), ()), ((b_Floors, b_Debounce, b_Room, b_Park, b_Empty, b_Full, b_Over, b_Cars, ()), (y1.2.1.1, y1.2.1.2.1, y1.2.1.2.2.1, y1.2.1.2.2.2.1, ()), (b6_Phases, b6_Flags, b6_Leaving, b6_Entries, ()), ())))
    else
      none
  else
    some (Sum.inr (Sum.inl (((), (), ()), ((m_Phases, m_Flags, m_Leaving, m_Entries, ()), (b6_Phases, b6_Flags, b6_Leaving, b6_Entries, ()), ()))))
noncomputable def L_l22_after_0 : ((List (Record) × Unit × Unit × Unit × Int × Unit) × ((Int × Int × Int × Int × Nat × Nat × Nat × List (Car) × Unit) × (List (Int) × List (Bool) × List (Bool) × List (Entry) × Unit) × (List (Int) × List (Bool) × List (Bool) × List (Entry) × Unit) × Unit)) → Option (((Unit × Unit × Unit) × ((List (Int) × List (Bool) × List (Bool) × List (Entry) × Unit) × (List (Int) × List (Bool) × List (Bool) × List (Entry) × Unit) × Unit)) ⊕ ((Unit × Bool × Unit) × ((List (Int) × List (Bool) × List (Bool) × List (Entry) × Unit) × Unit))) := iter (fun x => R_l22_after_0 x.1.1 x.1.2.2.2.2.1 x.2.1.1 x.2.1.2.1 x.2.1.2.2.1 x.2.1.2.2.2.1 x.2.1.2.2.2.2.1 x.2.1.2.2.2.2.2.1 x.2.1.2.2.2.2.2.2.1 x.2.1.2.2.2.2.2.2.2.1 x.2.2.1.1 x.2.2.1.2.1 x.2.2.1.2.2.1 x.2.2.1.2.2.2.1 x.2.2.2.1.1 x.2.2.2.1.2.1 x.2.2.2.1.2.2.1 x.2.2.2.1.2.2.2.1) fuel
noncomputable def F_l22_after (b_Floors : Int) (b_Debounce : Int) (b_Room : Int) (b_Park : Int) (b_Empty : Nat) (b_Full : Nat) (b_Over : Nat) (b_Cars : List (Car)) (m_Phases : List (Int)) (m_Flags : List (Bool)) (m_Leaving : List (Bool)) (m_Entries : List (Entry)) (r : List (Record)) : Option ((Unit × Bool × Unit) × ((List (Int) × List (Bool) × List (Bool) × List (Entry) × Unit) × Unit)) :=
  (L_l22_after_0 ((r, (), (), (), (0 : Int), ()), ((b_Floors, b_Debounce, b_Room, b_Park, b_Empty, b_Full, b_Over, b_Cars, ()), (m_Phases, m_Flags, m_Leaving, m_Entries, ()), (([] : List (Int)), ([] : List (Bool)), ([] : List (Bool)), ([] : List (Entry)), ()), ()))).bind fun y1 =>
  (match y1 with
  | .inl y2 =>
    some (((), true, ()), ((y2.2.1.1, y2.2.1.2.1, y2.2.1.2.2.1, y2.2.1.2.2.2.1, ()), ()))
  | .inr y2 =>
    some (((), y2.1.2.1, ()), ((y2.2.1.1, y2.2.1.2.1, y2.2.1.2.2.1, y2.2.1.2.2.2.1, ()), ())))
/-! ### overlay/overlaylaw22.AssignLeaves -/
noncomputable def R_l22_AssignLeaves_1 (v : List (View)) (ready : Int) (i : Int) (m_Phases : List (Int)) (m_Flags : List (Bool)) (m_Leaving : List (Bool)) (m_Entries : List (Entry)) (x_Phases : List (Int)) (x_Flags : List (Bool)) (x_Leaving : List (Bool)) (x_Entries : List (Entry)) : Option (Sum ((Unit × List (View) × Unit × Int × Int × Unit) × ((List (Int) × List (Bool) × List (Bool) × List (Entry) × Unit) × (List (Int) × List (Bool) × List (Bool) × List (Entry) × Unit) × Unit)) ((Unit × Unit) ⊕ ((Bool × Unit) × Unit))) :=
  bif (decide (i < ((List.length x_Entries : Nat) : Int))) then
    bif (Go.Ab.inB i (List.length x_Entries)) then
      let z0 : Entry := (List.getD x_Entries (Int.toNat i) (Entry.mk (0 : Int) (0 : Int) (0 : Int) (0 : Int) false))
      bif (Go.Ab.inB i (List.length m_Entries)) then
        let z1 : Entry := (List.getD m_Entries (Int.toNat i) (Entry.mk (0 : Int) (0 : Int) (0 : Int) (0 : Int) false))
        Option.bind (bif (decide ((0 : Int) ≤ z0.Car)) then
              bif (Go.Ab.inB z0.Car (List.length v)) then
                bif (List.getD v (Int.toNat z0.Car) (View.mk false false false false (0 : Int) (0 : Int) (0 : Int) (0 : Int) (0 : Int) (0 : Int) (0 : Int) (0 : Int))).Lost then
                  some (((), v, (), ready, i, z0.Car, z1.Car, true, ()), ((m_Phases, m_Flags, m_Leaving, m_Entries, ()), (x_Phases, x_Flags, x_Leaving, x_Entries, ()), ()))
                else
                  bif (decide ((0 : Int) ≤ z0.Car)) then
                    bif (z0.Car != z1.Car) then
                      bif (Go.Ab.inB z0.Car (List.length v)) then
                        bif (!(List.getD v (Int.toNat z0.Car) (View.mk false false false false (0 : Int) (0 : Int) (0 : Int) (0 : Int) (0 : Int) (0 : Int) (0 : Int) (0 : Int))).Ready) then
                          some (((), v, (), ready, i, z0.Car, z1.Car, true, ()), ((m_Phases, m_Flags, m_Leaving, m_Entries, ()), (x_Phases, x_Flags, x_Leaving, x_Entries, ()), ()))
                        else
                          bif (z1.Car == (-2 : Int)) then
                            some (((), v, (), ready, i, z0.Car, z1.Car, (z0.Car != z1.Car), ()), ((m_Phases, m_Flags, m_Leaving, m_Entries, ()), (x_Phases, x_Flags, x_Leaving, x_Entries, ()), ()))
                          else
                            some (((), v, (), ready, i, z0.Car, z1.Car, false, ()), ((m_Phases, m_Flags, m_Leaving, m_Entries, ()), (x_Phases, x_Flags, x_Leaving, x_Entries, ()), ()))
                      else
                        none
                    else
                      bif (z1.Car == (-2 : Int)) then
                        some (((), v, (), ready, i, z0.Car, z1.Car, (z0.Car != z1.Car), ()), ((m_Phases, m_Flags, m_Leaving, m_Entries, ()), (x_Phases, x_Flags, x_Leaving, x_Entries, ()), ()))
                      else
                        some (((), v, (), ready, i, z0.Car, z1.Car, false, ()), ((m_Phases, m_Flags, m_Leaving, m_Entries, ()), (x_Phases, x_Flags, x_Leaving, x_Entries, ()), ()))
                  else
                    bif (z1.Car == (-2 : Int)) then
                      some (((), v, (), ready, i, z0.Car, z1.Car, (z0.Car != z1.Car), ()), ((m_Phases, m_Flags, m_Leaving, m_Entries, ()), (x_Phases, x_Flags, x_Leaving, x_Entries, ()), ()))
                    else
                      some (((), v, (), ready, i, z0.Car, z1.Car, false, ()), ((m_Phases, m_Flags, m_Leaving, m_Entries, ()), (x_Phases, x_Flags, x_Leaving, x_Entries, ()), ()))
              else
                none
            else
              bif (decide ((0 : Int) ≤ z0.Car)) then
                bif (z0.Car != z1.Car) then
                  bif (Go.Ab.inB z0.Car (List.length v)) then
                    bif (!(List.getD v (Int.toNat z0.Car) (View.mk false false false false (0 : Int) (0 : Int) (0 : Int) (0 : Int) (0 : Int) (0 : Int) (0 : Int) (0 : Int))).Ready) then
                      some (((), v, (), ready, i, z0.Car, z1.Car, true, ()), ((m_Phases, m_Flags, m_Leaving, m_Entries, ()), (x_Phases, x_Flags, x_Leaving, x_Entries, ()), ()))
                    else
                      bif (z1.Car == (-2 : Int)) then
                        some (((), v, (), ready, i, z0.Car, z1.Car, (z0.Car != z1.Car), ()), ((m_Phases, m_Flags, m_Leaving, m_Entries, ()), (x_Phases, x_Flags, x_Leaving, x_Entries, ()), ()))
                      else
                        some (((), v, (), ready, i, z0.Car, z1.Car, false, ()), ((m_Phases, m_Flags, m_Leaving, m_Entries, ()), (x_Phases, x_Flags, x_Leaving, x_Entries, ()), ()))
                  else
                    none
                else
                  bif (z1.Car == (-2 : Int)) then
                    some (((), v, (), ready, i, z0.Car, z1.Car, (z0.Car != z1.Car), ()), ((m_Phases, m_Flags, m_Leaving, m_Entries, ()), (x_Phases, x_Flags, x_Leaving, x_Entries, ()), ()))
                  else
                    some (((), v, (), ready, i, z0.Car, z1.Car, false, ()), ((m_Phases, m_Flags, m_Leaving, m_Entries, ()), (x_Phases, x_Flags, x_Leaving, x_Entries, ()), ()))
              else
                bif (z1.Car == (-2 : Int)) then
                  some (((), v, (), ready, i, z0.Car, z1.Car, (z0.Car != z1.Car), ()), ((m_Phases, m_Flags, m_Leaving, m_Entries, ()), (x_Phases, x_Flags, x_Leaving, x_Entries, ()), ()))
                else
                  some (((), v, (), ready, i, z0.Car, z1.Car, false, ()), ((m_Phases, m_Flags, m_Leaving, m_Entries, ()), (x_Phases, x_Flags, x_Leaving, x_Entries, ()), ()))) fun y1 =>
        bif y1.1.2.2.2.2.2.2.2.1 then
          some (Sum.inr (Sum.inr ((false, ()), ())))
        else
          Option.bind (bif (y1.1.2.2.2.2.2.1 == (-1 : Int)) then
                bif (y1.1.2.2.2.2.2.2.1 == (-1 : Int)) then
                  bif (decide ((0 : Int) < y1.1.2.2.2.1)) then
                    some (((), y1.1.2.1, (), y1.1.2.2.2.1, y1.1.2.2.2.2.1, true, ()), ((y1.2.1.1, y1.2.1.2.1, y1.2.1.2.2.1, y1.2.1.2.2.2.1, ()), (y1.2.2.1.1, y1.2.2.1.2.1, y1.2.2.1.2.2.1, y1.2.2.1.2.2.2.1, ()), ()))
                  else
                    bif (decide ((0 : Int) ≤ y1.1.2.2.2.2.2.2.1)) then
                      some (((), y1.1.2.1, (), y1.1.2.2.2.1, y1.1.2.2.2.2.1, (decide ((1 : Int) < y1.1.2.2.2.1)), ()), ((y1.2.1.1, y1.2.1.2.1, y1.2.1.2.2.1, y1.2.1.2.2.2.1, ()), (y1.2.2.1.1, y1.2.2.1.2.1, y1.2.2.1.2.2.1, y1.2.2.1.2.2.2.1, ()), ()))
                    else
                      some (((), y1.1.2.1, (), y1.1.2.2.2.1, y1.1.2.2.2.2.1, false, ()), ((y1.2.1.1, y1.2.1.2.1, y1.2.1.2.2.1, y1.2.1.2.2.2.1, ()), (y1.2.2.1.1, y1.2.2.1.2.1, y1.2.2.1.2.2.1, y1.2.2.1.2.2.2.1, ()), ()))
                else
                  bif (decide ((0 : Int) ≤ y1.1.2.2.2.2.2.2.1)) then
                    some (((), y1.1.2.1, (), y1.1.2.2.2.1, y1.1.2.2.2.2.1, (decide ((1 : Int) < y1.1.2.2.2.1)), ()), ((y1.2.1.1, y1.2.1.2.1, y1.2.1.2.2.1, y1.2.1.2.2.2.1, ()), (y1.2.2.1.1, y1.2.2.1.2.1, y1.2.2.1.2.2.1, y1.2.2.1.2.2.2.1, ()), ()))
                  else
                    some (((), y1.1.2.1, (), y1.1.2.2.2.1, y1.1.2.2.2.2.1, false, ()), ((y1.2.1.1, y1.2.1.2.1, y1.2.1.2.2.1, y1.2.1.2.2.2.1, ()), (y1.2.2.1.1, y1.2.2.1.2.1, y1.2.2.1.2.2.1, y1.2.2.1.2.2.2.1, ()), ()))
              else
                some (((), y1.1.2.1, (), y1.1.2.2.2.1, y1.1.2.2.2.2.1, false, ()), ((y1.2.1.1, y1.2.1.2.1, y1.2.1.2.2.1, y1.2.1.2.2.2.1, ()), (y1.2.2.1.1, y1.2.2.1.2.1, y1.2.2.1.2.2.1, y1.2.2.1.2.2.2.1, ()), ()))) fun y2 =>
          bif y2.1.2.2.2.2.2.1 then
            some (Sum.inr (Sum.inr ((false, ()), ())))
          else
            some (Sum.inl (((), y2.1.2.1, (), y2.1.2.2.2.1, (Go.IntKind.wrap Go.IntKind.i64 (y2.1.2.2.2.2.1 + (1 : Int))), ()), ((y2.2.1.1, y2.2.1.2.1, y2.2.1.2.2.1, y2.2.1.2.2.2.1, ()), (y2.2.2.1.1, y2.2.2.1.2.1, y2.2.2.1.2.2.1, y2.2.2.1.2.2.2.1, ()), ())))
      else
        none
    else
      none
  else
    some (Sum.inr (Sum.inl ((), ())))
noncomputable def L_l22_AssignLeaves_1 : ((Unit × List (View) × Unit × Int × Int × Unit) × ((List (Int) × List (Bool) × List (Bool) × List (Entry) × Unit) × (List (Int) × List (Bool) × List (Bool) × List (Entry) × Unit) × Unit)) → Option ((Unit × Unit) ⊕ ((Bool × Unit) × Unit)) := iter (fun x => R_l22_AssignLeaves_1 x.1.2.1 x.1.2.2.2.1 x.1.2.2.2.2.1 x.2.1.1 x.2.1.2.1 x.2.1.2.2.1 x.2.1.2.2.2.1 x.2.2.1.1 x.2.2.1.2.1 x.2.2.1.2.2.1 x.2.2.1.2.2.2.1) fuel
noncomputable def R_l22_AssignLeaves_0 (v : List (View)) (ready : Int) (i : Int) (m_Phases : List (Int)) (m_Flags : List (Bool)) (m_Leaving : List (Bool)) (m_Entries : List (Entry)) (x_Phases : List (Int)) (x_Flags : List (Bool)) (x_Leaving : List (Bool)) (x_Entries : List (Entry)) : Option (Sum ((Unit × List (View) × Unit × Int × Int × Unit) × ((List (Int) × List (Bool) × List (Bool) × List (Entry) × Unit) × (List (Int) × List (Bool) × List (Bool) × List (Entry) × Unit) × Unit)) ((Unit × List (View) × Unit × Int × Unit) × ((List (Int) × List (Bool) × List (Bool) × List (Entry) × Unit) × (List (Int) × List (Bool) × List (Bool) × List (Entry) × Unit) × Unit))) :=
  bif (decide (i < ((List.length v : Nat) : Int))) then
    bif (Go.Ab.inB i (List.length v)) then
      bif (List.getD v (Int.toNat i) (View.mk false false false false (0 : Int) (0 : Int) (0 : Int) (0 : Int) (0 : Int) (0 : Int) (0 : Int) (0 : Int))).Ready then
        some (Sum.inl (((), v, (), (Go.IntKind.wrap Go.IntKind.i64 (ready + (1 : Int))), (Go.IntKind.wrap Go.IntKind.i64 (i + (1 : Int))), ()), ((m_Phases, m_Flags, m_Leaving, m_Entries, ()), (x_Phases, x_Flags, x_Leaving, x_Entries, ()), ())))
      else
        some (Sum.inl (((), v, (), ready, (Go.IntKind.wrap Go.IntKind.i64 (i + (1 : Int))), ()), ((m_Phases, m_Flags, m_Leaving, m_Entries, ()), (x_Phases, x_Flags, x_Leaving, x_Entries, ()), ())))
    else
      none
  else
    some (Sum.inr (((), v, (), ready, ()), ((m_Phases, m_Flags, m_Leaving, m_Entries, ()), (x_Phases, x_Flags, x_Leaving, x_Entries, ()), ())))
noncomputable def L_l22_AssignLeaves_0 : ((Unit × List (View) × Unit × Int × Int × Unit) × ((List (Int) × List (Bool) × List (Bool) × List (Entry) × Unit) × (List (Int) × List (Bool) × List (Bool) × List (Entry) × Unit) × Unit)) → Option ((Unit × List (View) × Unit × Int × Unit) × ((List (Int) × List (Bool) × List (Bool) × List (Entry) × Unit) × (List (Int) × List (Bool) × List (Bool) × List (Entry) × Unit) × Unit)) := iter (fun x => R_l22_AssignLeaves_0 x.1.2.1 x.1.2.2.2.1 x.1.2.2.2.2.1 x.2.1.1 x.2.1.2.1 x.2.1.2.2.1 x.2.1.2.2.2.1 x.2.2.1.1 x.2.2.1.2.1 x.2.2.1.2.2.1 x.2.2.1.2.2.2.1) fuel
noncomputable def F_l22_AssignLeaves (n : Int) (l : List (Int)) (k : List (Int)) : Option ((Bool × Unit) × Unit) :=
  (F_l10_Building n (200 : Int)).bind fun y1 =>
  (F_l10_Image y1.2.1.1 y1.2.1.2.1 y1.2.1.2.2.1 y1.2.1.2.2.2.1 y1.2.1.2.2.2.2.1 y1.2.1.2.2.2.2.2.1 y1.2.1.2.2.2.2.2.2.1 y1.2.1.2.2.2.2.2.2.2.1 l).bind fun y2 =>
  (F_l22_Views y1.2.1.1 y1.2.1.2.1 y1.2.1.2.2.1 y1.2.1.2.2.2.1 y1.2.1.2.2.2.2.1 y1.2.1.2.2.2.2.2.1 y1.2.1.2.2.2.2.2.2.1 y1.2.1.2.2.2.2.2.2.2.1 k).bind fun y3 =>
  (F_l22_expects y2.2.1.1 y2.2.1.2.1 y2.2.1.2.2.1 y2.2.1.2.2.2.1 k).bind fun y4 =>
  (F_assign_Plan y1.2.1.1 y1.2.1.2.1 y1.2.1.2.2.1 y1.2.1.2.2.2.1 y1.2.1.2.2.2.2.1 y1.2.1.2.2.2.2.2.1 y1.2.1.2.2.2.2.2.2.1 y1.2.1.2.2.2.2.2.2.2.1 y2.2.1.1 y2.2.1.2.1 y2.2.1.2.2.1 y2.2.1.2.2.2.1 y4.1.1 y3.1.1).bind fun y5 =>
  Option.bind (some (((), (), y3.1.1, y5.1.1, y5.1.2.2.1, ()), ((y1.2.1.1, y1.2.1.2.1, y1.2.1.2.2.1, y1.2.1.2.2.2.1, y1.2.1.2.2.2.2.1, y1.2.1.2.2.2.2.2.1, y1.2.1.2.2.2.2.2.2.1, y1.2.1.2.2.2.2.2.2.2.1, ()), (y2.2.1.1, y2.2.1.2.1, y2.2.1.2.2.1, y2.2.1.2.2.2.1, ()), ()))) fun y6 =>
  (F_l22_after y6.2.1.1 y6.2.1.2.1 y6.2.1.2.2.1 y6.2.1.2.2.2.1 y6.2.1.2.2.2.2.1 y6.2.1.2.2.2.2.2.1 y6.2.1.2.2.2.2.2.2.1 y6.2.1.2.2.2.2.2.2.2.1 y6.2.2.1.1 y6.2.2.1.2.1 y6.2.2.1.2.2.1 y6.2.2.1.2.2.2.1 y6.1.2.2.2.1).bind fun y7 =>
  bif (y6.1.2.2.2.2.1 != (0 : Int)) then
    some ((false, ()), ())
  else
    bif (!y7.1.2.1) then
      some ((false, ()), ())
    else
      bif (((List.length y7.2.1.2.2.2.1 : Nat) : Int) != ((List.length y6.2.2.1.2.2.2.1 : Nat) : Int)) then
        some ((false, ()), ())
      else
        (L_l22_AssignLeaves_0 (((), y6.1.2.2.1, (), (0 : Int), (0 : Int), ()), ((y6.2.2.1.1, y6.2.2.1.2.1, y6.2.2.1.2.2.1, y6.2.2.1.2.2.2.1, ()), (y7.2.1.1, y7.2.1.2.1, y7.2.1.2.2.1, y7.2.1.2.2.2.1, ()), ()))).bind fun y8 =>
        (L_l22_AssignLeaves_1 (((), y8.1.2.1, (), y8.1.2.2.2.1, (0 : Int), ()), ((y8.2.1.1, y8.2.1.2.1, y8.2.1.2.2.1, y8.2.1.2.2.2.1, ()), (y8.2.2.1.1, y8.2.2.1.2.1, y8.2.2.1.2.2.1, y8.2.2.1.2.2.2.1, ()), ()))).bind fun y9 =>
        (match y9 with
        | .inl y10 =>
          (F_l22_sane).bind fun y11 =>
          some ((y11.1.1, ()), ())
        | .inr y10 =>
          some ((y10.1.1, ()), ()))
end Go.Ovl
