/- What each function of the program comes to: part 1. -/
import Derived.Test.YtfooilbkiclplaaTy
namespace Go.Ovl
open Go Go.Ab
set_option maxRecDepth 100000
/-! ### overlay/contact.Get -/
noncomputable def F_contact_Get (c_Floors : Int) (c_Up : Bool) (c_Down : Bool) (c_Open : Bool) (c_Closed : Bool) (i : Int) : Option ((Bool × Unit) × Unit) :=
  bif (i == (32 : Int)) then
    some ((c_Up, ()), ())
  else
    bif (i == (33 : Int)) then
      some ((c_Down, ()), ())
    else
      bif (i == (34 : Int)) then
        some ((c_Open, ()), ())
      else
        bif (i == (35 : Int)) then
          some ((c_Closed, ()), ())
        else
          Option.bind (bif (decide ((0 : Int) ≤ i)) then
                bif (decide (i < (32 : Int))) then
                  bif (decide ((0 : Int) ≤ i)) then
                    some ((((Go.IntKind.wrap Go.IntKind.u32 ((BitVec.toNat ((BitVec.ofInt (Go.IntKind.bits Go.IntKind.u32) (Int.fdiv c_Floors ((2 : Int) ^ (Min.min (Int.toNat i) (Go.IntKind.bits Go.IntKind.u32))))) &&& (BitVec.ofInt (Go.IntKind.bits Go.IntKind.u32) (1 : Int))) : Nat) : Int)) == (1 : Int)), ()), ())
                  else
                    none
                else
                  some ((false, ()), ())
              else
                some ((false, ()), ())) fun y1 =>
          some ((y1.1.1, ()), ())
/-! ### overlay/overlayref04.Get -/
noncomputable def F_r04_Get (c_Floors : Int) (c_Up : Bool) (c_Down : Bool) (c_Open : Bool) (c_Closed : Bool) (i : Int) : Option ((Bool × Unit) × Unit) :=
  bif (decide (i < (0 : Int))) then
    some ((false, ()), ())
  else
    bif (decide ((35 : Int) < i)) then
      some ((false, ()), ())
    else
      bif (decide (i < (32 : Int))) then
        let z0 : Int := (Go.IntKind.wrap Go.IntKind.u64 i)
        bif (decide ((0 : Int) ≤ z0)) then
          some ((((Go.IntKind.wrap Go.IntKind.u32 ((BitVec.toNat ((BitVec.ofInt (Go.IntKind.bits Go.IntKind.u32) (Int.fdiv c_Floors ((2 : Int) ^ (Min.min (Int.toNat z0) (Go.IntKind.bits Go.IntKind.u32))))) &&& (BitVec.ofInt (Go.IntKind.bits Go.IntKind.u32) (1 : Int))) : Nat) : Int)) == (1 : Int)), ()), ())
        else
          none
      else
        let z1 : List (Bool) := [c_Up, c_Down, c_Open, c_Closed]
        let z2 : Int := (Go.IntKind.wrap Go.IntKind.i64 (i - (32 : Int)))
        bif (Go.Ab.inB z2 (List.length z1)) then
          some (((List.getD z1 (Int.toNat z2) false), ()), ())
        else
          none
/-! ### overlay/contact.Set -/
noncomputable def F_contact_Set (c_Floors : Int) (c_Up : Bool) (c_Down : Bool) (c_Open : Bool) (c_Closed : Bool) (i : Int) (on_1 : Bool) : Option ((Unit × Unit) × ((Int × Bool × Bool × Bool × Bool × Unit) × Unit)) :=
  bif (i == (32 : Int)) then
    some (((), ()), ((c_Floors, on_1, c_Down, c_Open, c_Closed, ()), ()))
  else
    bif (i == (33 : Int)) then
      some (((), ()), ((c_Floors, c_Up, on_1, c_Open, c_Closed, ()), ()))
    else
      bif (i == (34 : Int)) then
        some (((), ()), ((c_Floors, c_Up, c_Down, on_1, c_Closed, ()), ()))
      else
        bif (i == (35 : Int)) then
          some (((), ()), ((c_Floors, c_Up, c_Down, c_Open, on_1, ()), ()))
        else
          Option.bind (bif (decide ((0 : Int) ≤ i)) then
                some ((i, on_1, (), (), (decide (i < (32 : Int))), ()), ((c_Floors, c_Up, c_Down, c_Open, c_Closed, ()), ((0 : Int), false, false, false, false, ()), ()))
              else
                some ((i, on_1, (), (), false, ()), ((c_Floors, c_Up, c_Down, c_Open, c_Closed, ()), ((0 : Int), false, false, false, false, ()), ()))) fun y1 =>
          bif y1.1.2.2.2.2.1 then
            bif (decide ((0 : Int) ≤ y1.1.1)) then
              let z0 : Int := (Go.IntKind.wrap Go.IntKind.u32 ((BitVec.toNat ((BitVec.ofInt (Go.IntKind.bits Go.IntKind.u32) y1.2.1.1) &&& (~~~ (BitVec.ofInt (Go.IntKind.bits Go.IntKind.u32) (Go.IntKind.wrap Go.IntKind.u32 ((1 : Int) * ((2 : Int) ^ (Min.min (Int.toNat y1.1.1) (Go.IntKind.bits Go.IntKind.u32)))))))) : Nat) : Int))
              bif y1.1.2.1 then
                bif (decide ((0 : Int) ≤ y1.1.1)) then
                  some (((), ()), (((Go.IntKind.wrap Go.IntKind.u32 ((BitVec.toNat ((BitVec.ofInt (Go.IntKind.bits Go.IntKind.u32) z0) ||| (BitVec.ofInt (Go.IntKind.bits Go.IntKind.u32) (Go.IntKind.wrap Go.IntKind.u32 ((1 : Int) * ((2 : Int) ^ (Min.min (Int.toNat y1.1.1) (Go.IntKind.bits Go.IntKind.u32))))))) : Nat) : Int)), y1.2.1.2.1, y1.2.1.2.2.1, y1.2.1.2.2.2.1, y1.2.1.2.2.2.2.1, ()), ()))
                else
                  none
              else
                some (((), ()), ((z0, y1.2.1.2.1, y1.2.1.2.2.1, y1.2.1.2.2.2.1, y1.2.1.2.2.2.2.1, ()), ()))
            else
              none
          else
            some (((), ()), ((y1.2.1.1, y1.2.1.2.1, y1.2.1.2.2.1, y1.2.1.2.2.2.1, y1.2.1.2.2.2.2.1, ()), ()))
/-! ### overlay/overlayref04.Set -/
noncomputable def F_r04_Set (c_Floors : Int) (c_Up : Bool) (c_Down : Bool) (c_Open : Bool) (c_Closed : Bool) (i : Int) (on_1 : Bool) : Option ((Unit × Unit) × ((Int × Bool × Bool × Bool × Bool × Unit) × Unit)) :=
  Option.bind (bif (decide ((0 : Int) ≤ i)) then
        bif (decide (i < (32 : Int))) then
          some ((i, on_1, (), (), on_1, ()), ((c_Floors, c_Up, c_Down, c_Open, c_Closed, ()), ((0 : Int), false, false, false, false, ()), ()))
        else
          some ((i, on_1, (), (), false, ()), ((c_Floors, c_Up, c_Down, c_Open, c_Closed, ()), ((0 : Int), false, false, false, false, ()), ()))
      else
        some ((i, on_1, (), (), false, ()), ((c_Floors, c_Up, c_Down, c_Open, c_Closed, ()), ((0 : Int), false, false, false, false, ()), ()))) fun y1 =>
  bif y1.1.2.2.2.2.1 then
    let z0 : Int := (Go.IntKind.wrap Go.IntKind.u64 y1.1.1)
    bif (decide ((0 : Int) ≤ z0)) then
      some (((), ()), (((Go.IntKind.wrap Go.IntKind.u32 ((BitVec.toNat ((BitVec.ofInt (Go.IntKind.bits Go.IntKind.u32) y1.2.1.1) ||| (BitVec.ofInt (Go.IntKind.bits Go.IntKind.u32) (Go.IntKind.wrap Go.IntKind.u32 ((1 : Int) * ((2 : Int) ^ (Min.min (Int.toNat z0) (Go.IntKind.bits Go.IntKind.u32))))))) : Nat) : Int)), y1.2.1.2.1, y1.2.1.2.2.1, y1.2.1.2.2.2.1, y1.2.1.2.2.2.2.1, ()), ()))
    else
      none
  else
    Option.bind (bif (decide ((0 : Int) ≤ y1.1.1)) then
          some ((y1.1.1, y1.1.2.1, (), (), (decide (y1.1.1 < (32 : Int))), ()), ((y1.2.1.1, y1.2.1.2.1, y1.2.1.2.2.1, y1.2.1.2.2.2.1, y1.2.1.2.2.2.2.1, ()), (y1.2.2.1.1, y1.2.2.1.2.1, y1.2.2.1.2.2.1, y1.2.2.1.2.2.2.1, y1.2.2.1.2.2.2.2.1, ()), ()))
        else
          some ((y1.1.1, y1.1.2.1, (), (), false, ()), ((y1.2.1.1, y1.2.1.2.1, y1.2.1.2.2.1, y1.2.1.2.2.2.1, y1.2.1.2.2.2.2.1, ()), (y1.2.2.1.1, y1.2.2.1.2.1, y1.2.2.1.2.2.1, y1.2.2.1.2.2.2.1, y1.2.2.1.2.2.2.2.1, ()), ()))) fun y2 =>
    bif y2.1.2.2.2.2.1 then
      let z1 : Int := (Go.IntKind.wrap Go.IntKind.u64 y2.1.1)
      bif (decide ((0 : Int) ≤ z1)) then
        some (((), ()), (((Go.IntKind.wrap Go.IntKind.u32 ((BitVec.toNat ((BitVec.ofInt (Go.IntKind.bits Go.IntKind.u32) y2.2.1.1) &&& (~~~ (BitVec.ofInt (Go.IntKind.bits Go.IntKind.u32) (Go.IntKind.wrap Go.IntKind.u32 ((1 : Int) * ((2 : Int) ^ (Min.min (Int.toNat z1) (Go.IntKind.bits Go.IntKind.u32)))))))) : Nat) : Int)), y2.2.1.2.1, y2.2.1.2.2.1, y2.2.1.2.2.2.1, y2.2.1.2.2.2.2.1, ()), ()))
      else
        none
    else
      bif (y2.1.1 == (32 : Int)) then
        some (((), ()), ((y2.2.1.1, y2.1.2.1, y2.2.1.2.2.1, y2.2.1.2.2.2.1, y2.2.1.2.2.2.2.1, ()), ()))
      else
        bif (y2.1.1 == (33 : Int)) then
          some (((), ()), ((y2.2.1.1, y2.2.1.2.1, y2.1.2.1, y2.2.1.2.2.2.1, y2.2.1.2.2.2.2.1, ()), ()))
        else
          bif (y2.1.1 == (34 : Int)) then
            some (((), ()), ((y2.2.1.1, y2.2.1.2.1, y2.2.1.2.2.1, y2.1.2.1, y2.2.1.2.2.2.2.1, ()), ()))
          else
            bif (y2.1.1 == (35 : Int)) then
              some (((), ()), ((y2.2.1.1, y2.2.1.2.1, y2.2.1.2.2.1, y2.2.1.2.2.2.1, y2.1.2.1, ()), ()))
            else
              some (((), ()), ((y2.2.1.1, y2.2.1.2.1, y2.2.1.2.2.1, y2.2.1.2.2.2.1, y2.2.1.2.2.2.2.1, ()), ()))
/-! ### overlay/contact.IsState -/
noncomputable def R_contact_IsState_0 (n : Int) (s14_0 : Int) (s14_1 : Int) (s14_2 : Int) (s14_3 : Int) (s14_4 : Int) (s14_5 : Int) (s14_6 : Int) (s14_7 : Int) (s14_8 : Int) (s14_9 : Int) (s14_10 : Int) (s14_11 : Int) (s14_12 : Int) (s14_13 : Int) (s14_14 : Int) (s14_15 : Int) (s14_16 : Int) (s14_17 : Int) (s14_18 : Int) (s14_19 : Int) (s14_20 : Int) (s14_21 : Int) (s14_22 : Int) (s14_23 : Int) (s14_24 : Int) (s14_25 : Int) (s14_26 : Int) (s14_27 : Int) (s14_28 : Int) (s14_29 : Int) (s14_30 : Int) (s14_31 : Int) (s14_32 : Int) (s14_33 : Int) (s14_34 : Int) (s14_35 : Int) (s15 : Int) : Option (Sum ((Int × (Int × Int × Int × Int × Int × Int × Int × Int × Int × Int × Int × Int × Int × Int × Int × Int × Int × Int × Int × Int × Int × Int × Int × Int × Int × Int × Int × Int × Int × Int × Int × Int × Int × Int × Int × Int × Unit) × Int × Unit) × Unit) ((Unit × Unit) ⊕ ((Bool × Unit) × Unit))) :=
  bif (decide (s15 < (36 : Int))) then
    bif (Go.Ab.inB s15 36) then
      let z0 : Int := (List.getD [s14_0, s14_1, s14_2, s14_3, s14_4, s14_5, s14_6, s14_7, s14_8, s14_9, s14_10, s14_11, s14_12, s14_13, s14_14, s14_15, s14_16, s14_17, s14_18, s14_19, s14_20, s14_21, s14_22, s14_23, s14_24, s14_25, s14_26, s14_27, s14_28, s14_29, s14_30, s14_31, s14_32, s14_33, s14_34, s14_35] (Int.toNat s15) (0 : Int))
      bif (decide (z0 < (0 : Int))) then
        some (Sum.inr (Sum.inr ((false, ()), ())))
      else
        bif (decide (n ≤ z0)) then
          some (Sum.inr (Sum.inr ((false, ()), ())))
        else
          some (Sum.inl ((n, (s14_0, s14_1, s14_2, s14_3, s14_4, s14_5, s14_6, s14_7, s14_8, s14_9, s14_10, s14_11, s14_12, s14_13, s14_14, s14_15, s14_16, s14_17, s14_18, s14_19, s14_20, s14_21, s14_22, s14_23, s14_24, s14_25, s14_26, s14_27, s14_28, s14_29, s14_30, s14_31, s14_32, s14_33, s14_34, s14_35, ()), (Go.IntKind.wrap Go.IntKind.i64 (s15 + (1 : Int))), ()), ()))
    else
      none
  else
    some (Sum.inr (Sum.inl ((), ())))
noncomputable def L_contact_IsState_0 : ((Int × (Int × Int × Int × Int × Int × Int × Int × Int × Int × Int × Int × Int × Int × Int × Int × Int × Int × Int × Int × Int × Int × Int × Int × Int × Int × Int × Int × Int × Int × Int × Int × Int × Int × Int × Int × Int × Unit) × Int × Unit) × Unit) → Option ((Unit × Unit) ⊕ ((Bool × Unit) × Unit)) := iter (fun x => R_contact_IsState_0 x.1.1 x.1.2.1.1 x.1.2.1.2.1 x.1.2.1.2.2.1 x.1.2.1.2.2.2.1 x.1.2.1.2.2.2.2.1 x.1.2.1.2.2.2.2.2.1 x.1.2.1.2.2.2.2.2.2.1 x.1.2.1.2.2.2.2.2.2.2.1 x.1.2.1.2.2.2.2.2.2.2.2.1 x.1.2.1.2.2.2.2.2.2.2.2.2.1 x.1.2.1.2.2.2.2.2.2.2.2.2.2.1 x.1.2.1.2.2.2.2.2.2.2.2.2.2.2.1 x.1.2.1.2.2.2.2.2.2.2.2.2.2.2.2.1 x.1.2.1.2.2.2.2.2.2.2.2.2.2.2.2.2.1 x.1.2.1.2.2.2.2.2.2.2.2.2.2.2.2.2.2.1 x.1.2.1.2.2.2.2.2.2.2.2.2.2.2.2.2.2.2.1 x.1.2.1.2.2.2.2.2.2.2.2.2.2.2.2.2.2.2.2.1 x.1.2.1.2.2.2.2.2.2.2.2.2.2.2.2.2.2.2.2.2.1 x.1.2.1.2.2.2.2.2.2.2.2.2.2.2.2.2.2.2.2.2.2.1 x.1.2.1.2.2.2.2.2.2.2.2.2.2.2.2.2.2.2.2.2.2.2.1 x.1.2.1.2.2.2.2.2.2.2.2.2.2.2.2.2.2.2.2.2.2.2.2.1 x.1.2.1.2.2.2.2.2.2.2.2.2.2.2.2.2.2.2.2.2.2.2.2.2.1 x.1.2.1.2.2.2.2.2.2.2.2.2.2.2.2.2.2.2.2.2.2.2.2.2.2.1 x.1.2.1.2.2.2.2.2.2.2.2.2.2.2.2.2.2.2.2.2.2.2.2.2.2.2.1 x.1.2.1.2.2.2.2.2.2.2.2.2.2.2.2.2.2.2.2.2.2.2.2.2.2.2.2.1 x.1.2.1.2.2.2.2.2.2.2.2.2.2.2.2.2.2.2.2.2.2.2.2.2.2.2.2.2.1 x.1.2.1.2.2.2.2.2.2.2.2.2.2.2.2.2.2.2.2.2.2.2.2.2.2.2.2.2.2.1 x.1.2.1.2.2.2.2.2.2.2.2.2.2.2.2.2.2.2.2.2.2.2.2.2.2.2.2.2.2.2.1 x.1.2.1.2.2.2.2.2.2.2.2.2.2.2.2.2.2.2.2.2.2.2.2.2.2.2.2.2.2.2.2.1 x.1.2.1.2.2.2.2.2.2.2.2.2.2.2.2.2.2.2.2.2.2.2.2.2.2.2.2.2.2.2.2.2.1 x.1.2.1.2.2.2.2.2.2.2.2.2.2.2.2.2.2.2.2.2.2.2.2.2.2.2.2.2.2.2.2.2.2.1 x.1.2.1.2.2.2.2.2.2.2.2.2.2.2.2.2.2.2.2.2.2.2.2.2.2.2.2.2.2.2.2.2.2.2.1 x.1.2.1.2.2.2.2.2.2.2.2.2.2.2.2.2.2.2.2.2.2.2.2.2.2.2.2.2.2.2.2.2.2.2.2.1 x.1.2.1.2.2.2.2.2.2.2.2.2.2.2.2.2.2.2.2.2.2.2.2.2.2.2.2.2.2.2.2.2.2.2.2.2.1 x.1.2.1.2.2.2.2.2.2.2.2.2.2.2.2.2.2.2.2.2.2.2.2.2.2.2.2.2.2.2.2.2.2.2.2.2.2.1 x.1.2.1.2.2.2.2.2.2.2.2.2.2.2.2.2.2.2.2.2.2.2.2.2.2.2.2.2.2.2.2.2.2.2.2.2.2.2.1 x.1.2.2.1) fuel
noncomputable def F_contact_IsState (n : Int) (s_Contacts_Floors : Int) (s_Contacts_Up : Bool) (s_Contacts_Down : Bool) (s_Contacts_Open : Bool) (s_Contacts_Closed : Bool) (s_Count_0 : Int) (s_Count_1 : Int) (s_Count_2 : Int) (s_Count_3 : Int) (s_Count_4 : Int) (s_Count_5 : Int) (s_Count_6 : Int) (s_Count_7 : Int) (s_Count_8 : Int) (s_Count_9 : Int) (s_Count_10 : Int) (s_Count_11 : Int) (s_Count_12 : Int) (s_Count_13 : Int) (s_Count_14 : Int) (s_Count_15 : Int) (s_Count_16 : Int) (s_Count_17 : Int) (s_Count_18 : Int) (s_Count_19 : Int) (s_Count_20 : Int) (s_Count_21 : Int) (s_Count_22 : Int) (s_Count_23 : Int) (s_Count_24 : Int) (s_Count_25 : Int) (s_Count_26 : Int) (s_Count_27 : Int) (s_Count_28 : Int) (s_Count_29 : Int) (s_Count_30 : Int) (s_Count_31 : Int) (s_Count_32 : Int) (s_Count_33 : Int) (s_Count_34 : Int) (s_Count_35 : Int) : Option ((Bool × Unit) × Unit) :=
  bif (decide (n < (1 : Int))) then
    some ((false, ()), ())
  else
    bif (decide ((16 : Int) < n)) then
      some ((false, ()), ())
    else
      (L_contact_IsState_0 ((n, (s_Count_0, s_Count_1, s_Count_2, s_Count_3, s_Count_4, s_Count_5, s_Count_6, s_Count_7, s_Count_8, s_Count_9, s_Count_10, s_Count_11, s_Count_12, s_Count_13, s_Count_14, s_Count_15, s_Count_16, s_Count_17, s_Count_18, s_Count_19, s_Count_20, s_Count_21, s_Count_22, s_Count_23, s_Count_24, s_Count_25, s_Count_26, s_Count_27, s_Count_28, s_Count_29, s_Count_30, s_Count_31, s_Count_32, s_Count_33, s_Count_34, s_Count_35, ()), (0 : Int), ()), ())).bind fun y1 =>
      (match y1 with
      | .inl y2 =>
        some ((true, ()), ())
      | .inr y2 =>
        some ((y2.1.1, ()), ()))
/-! ### overlay/contact.step -/
noncomputable def R_contact_step_0 (n : Int) (s9 : Int) (s_Contacts_Floors : Int) (s_Contacts_Up : Bool) (s_Contacts_Down : Bool) (s_Contacts_Open : Bool) (s_Contacts_Closed : Bool) (s_Count_0 : Int) (s_Count_1 : Int) (s_Count_2 : Int) (s_Count_3 : Int) (s_Count_4 : Int) (s_Count_5 : Int) (s_Count_6 : Int) (s_Count_7 : Int) (s_Count_8 : Int) (s_Count_9 : Int) (s_Count_10 : Int) (s_Count_11 : Int) (s_Count_12 : Int) (s_Count_13 : Int) (s_Count_14 : Int) (s_Count_15 : Int) (s_Count_16 : Int) (s_Count_17 : Int) (s_Count_18 : Int) (s_Count_19 : Int) (s_Count_20 : Int) (s_Count_21 : Int) (s_Count_22 : Int) (s_Count_23 : Int) (s_Count_24 : Int) (s_Count_25 : Int) (s_Count_26 : Int) (s_Count_27 : Int) (s_Count_28 : Int) (s_Count_29 : Int) (s_Count_30 : Int) (s_Count_31 : Int) (s_Count_32 : Int) (s_Count_33 : Int) (s_Count_34 : Int) (s_Count_35 : Int) (read_Floors : Int) (read_Up : Bool) (read_Down : Bool) (read_Open : Bool) (read_Closed : Bool) (b6_Contacts_Floors : Int) (b6_Contacts_Up : Bool) (b6_Contacts_Down : Bool) (b6_Contacts_Open : Bool) (b6_Contacts_Closed : Bool) (b6_Count_0 : Int) (b6_Count_1 : Int) (b6_Count_2 : Int) (b6_Count_3 : Int) (b6_Count_4 : Int) (b6_Count_5 : Int) (b6_Count_6 : Int) (b6_Count_7 : Int) (b6_Count_8 : Int) (b6_Count_9 : Int) (b6_Count_10 : Int) (b6_Count_11 : Int) (b6_Count_12 : Int) (b6_Count_13 : Int) (b6_Count_14 : Int) (b6_Count_15 : Int) (b6_Count_16 : Int) (b6_Count_17 : Int) (b6_Count_18 : Int) (b6_Count_19 : Int) (b6_Count_20 : Int) (b6_Count_21 : Int) (b6_Count_22 : Int) (b6_Count_23 : Int) (b6_Count_24 : Int) (b6_Count_25 : Int) (b6_Count_26 : Int) (b6_Count_27 : Int) (b6_Count_28 : Int) (b6_Count_29 : Int) (b6_Count_30 : Int) (b6_Count_31 : Int) (b6_Count_32 : Int) (b6_Count_33 : Int) (b6_Count_34 : Int) (b6_Count_35 : Int) : Option (Sum ((Int × Unit × Unit × Unit × Int × Unit) × ((Int × Bool × Bool × Bool × Bool × Int × Int × Int × Int × Int × Int × Int × Int × Int × Int × Int × Int × Int × Int × Int × Int × Int × Int × Int × Int × Int × Int × Int × Int × Int × Int × Int × Int × Int × Int × Int × Int × Int × Int × Int × Int × Unit) × (Int × Bool × Bool × Bool × Bool × Unit) × (Int × Bool × Bool × Bool × Bool × Int × Int × Int × Int × Int × Int × Int × Int × Int × Int × Int × Int × Int × Int × Int × Int × Int × Int × Int × Int × Int × Int × Int × Int × Int × Int × Int × Int × Int × Int × Int × Int × Int × Int × Int × Int × Unit) × Unit)) ((Unit × Unit × Unit) × ((Int × Bool × Bool × Bool × Bool × Int × Int × Int × Int × Int × Int × Int × Int × Int × Int × Int × Int × Int × Int × Int × Int × Int × Int × Int × Int × Int × Int × Int × Int × Int × Int × Int × Int × Int × Int × Int × Int × Int × Int × Int × Int × Unit) × (Int × Bool × Bool × Bool × Bool × Int × Int × Int × Int × Int × Int × Int × Int × Int × Int × Int × Int × Int × Int × Int × Int × Int × Int × Int × Int × Int × Int × Int × Int × Int × Int × Int × Int × Int × Int × Int × Int × Int × Int × Int × Int × Unit) × Unit))) :=
  bif (decide (s9 < (36 : Int))) then
    (F_contact_Get read_Floors read_Up read_Down read_Open read_Closed s9).bind fun y1 =>
    (F_contact_Get s_Contacts_Floors s_Contacts_Up s_Contacts_Down s_Contacts_Open s_Contacts_Closed s9).bind fun y2 =>
    bif (y1.1.1 == y2.1.1) then
      bif (Go.Ab.inB s9 36) then
        let z0 : Nat := (Int.toNat s9)
        some (Sum.inl ((n, (), (), (), (Go.IntKind.wrap Go.IntKind.i64 (s9 + (1 : Int))), ()), ((s_Contacts_Floors, s_Contacts_Up, s_Contacts_Down, s_Contacts_Open, s_Contacts_Closed, (bif (Nat.beq z0 0) then (0 : Int) else s_Count_0), (bif (Nat.beq z0 1) then (0 : Int) else s_Count_1), (bif (Nat.beq z0 2) then (0 : Int) else s_Count_2), (bif (Nat.beq z0 3) then (0 : Int) else s_Count_3), (bif (Nat.beq z0 4) then (0 : Int) else s_Count_4), (bif (Nat.beq z0 5) then (0 : Int) else s_Count_5), (bif (Nat.beq z0 6) then (0 : Int) else s_Count_6), (bif (Nat.beq z0 7) then (0 : Int) else s_Count_7), (bif (Nat.beq z0 8) then (0 : Int) else s_Count_8), (bif (Nat.beq z0 9) then (0 : Int) else s_Count_9), (bif (Nat.beq z0 10) then (0 : Int) else s_Count_10), (bif (Nat.beq z0 11) then (0 : Int) else s_Count_11), (bif (Nat.beq z0 12) then (0 : Int) else s_Count_12), (bif (Nat.beq z0 13) then (0 : Int) else s_Count_13), (bif (Nat.beq z0 14) then (0 : Int) else s_Count_14), (bif (Nat.beq z0 15) then (0 : Int) else s_Count_15), (bif (Nat.beq z0 16) then (0 : Int) else s_Count_16), (bif (Nat.beq z0 17) then (0 : Int) else s_Count_17), (bif (Nat.beq z0 18) then (0 : Int) else s_Count_18), (bif (Nat.beq z0 19) then (0 : Int) else s_Count_19), (bif (Nat.beq z0 20) then (0 : Int) else s_Count_20), (bif (Nat.beq z0 21) then (0 : Int) else s_Count_21), (bif (Nat.beq z0 22) then (0 : Int) else s_Count_22), (bif (Nat.beq z0 23) then (0 : Int) else s_Count_23), (bif (Nat.beq z0 24) then (0 : Int) else s_Count_24), (bif (Nat.beq z0 25) then (0 : Int) else s_Count_25), (bif (Nat.beq z0 26) then (0 : Int) else s_Count_26), (bif (Nat.beq z0 27) then (0 : Int) else s_Count_27), (bif (Nat.beq z0 28) then (0 : Int) else s_Count_28), (bif (Nat.beq z0 29) then (0 : Int) else s_Count_29), (bif (Nat.beq z0 30) then (0 : Int) else s_Count_30), (bif (Nat.beq z0 31) then (0 : Int) else s_Count_31), (bif (Nat.beq z0 32) then (0 : Int) else s_Count_32), (bif (Nat.beq z0 33) then (0 : Int) else s_Count_33), (bif (Nat.beq z0 34) then (0 : Int) else s_Count_34), (bif (Nat.beq z0 35) then (0 : Int) else s_Count_35), ()), (read_Floors, read_Up, read_Down, read_Open, read_Closed, ()), (b6_Contacts_Floors, b6_Contacts_Up, b6_Contacts_Down, b6_Contacts_Open, b6_Contacts_Closed, b6_Count_0, b6_Count_1, b6_Count_2, b6_Count_3, b6_Count_4, b6_Count_5, b6_Count_6, b6_Count_7, b6_Count_8, b6_Count_9, b6_Count_10, b6_Count_11, b6_Count_12, b6_Count_13, b6_Count_14, b6_Count_15, b6_Count_16, b6_Count_17, b6_Count_18, b6_Count_19, b6_Count_20, b6_Count_21, b6_Count_22, b6_Count_23, b6_Count_24, b6_Count_25, b6_Count_26, b6_Count_27, b6_Count_28, b6_Count_29, b6_Count_30, b6_Count_31, b6_Count_32, b6_Count_33, b6_Count_34, b6_Count_35, ()), ())))
      else
        none
    else
      bif (Go.Ab.inB s9 36) then
        let z1 : Int := (Go.IntKind.wrap Go.IntKind.i64 ((List.getD [s_Count_0, s_Count_1, s_Count_2, s_Count_3, s_Count_4, s_Count_5, s_Count_6, s_Count_7, s_Count_8, s_Count_9, s_Count_10, s_Count_11, s_Count_12, s_Count_13, s_Count_14, s_Count_15, s_Count_16, s_Count_17, s_Count_18, s_Count_19, s_Count_20, s_Count_21, s_Count_22, s_Count_23, s_Count_24, s_Count_25, s_Count_26, s_Count_27, s_Count_28, s_Count_29, s_Count_30, s_Count_31, s_Count_32, s_Count_33, s_Count_34, s_Count_35] (Int.toNat s9) (0 : Int)) + (1 : Int)))
        bif (Go.Ab.inB s9 36) then
          let z2 : Nat := (Int.toNat s9)
          let z3 : Int := (bif (Nat.beq z2 0) then z1 else s_Count_0)
          let z4 : Int := (bif (Nat.beq z2 1) then z1 else s_Count_1)
          let z5 : Int := (bif (Nat.beq z2 2) then z1 else s_Count_2)
          let z6 : Int := (bif (Nat.beq z2 3) then z1 else s_Count_3)
          let z7 : Int := (bif (Nat.beq z2 4) then z1 else s_Count_4)
          let z8 : Int := (bif (Nat.beq z2 5) then z1 else s_Count_5)
          let z9 : Int := (bif (Nat.beq z2 6) then z1 else s_Count_6)
          let z10 : Int := (bif (Nat.beq z2 7) then z1 else s_Count_7)
          let z11 : Int := (bif (Nat.beq z2 8) then z1 else s_Count_8)
          let z12 : Int := (bif (Nat.beq z2 9) then z1 else s_Count_9)
          let z13 : Int := (bif (Nat.beq z2 10) then z1 else s_Count_10)
          let z14 : Int := (bif (Nat.beq z2 11) then z1 else s_Count_11)
          let z15 : Int := (bif (Nat.beq z2 12) then z1 else s_Count_12)
          let z16 : Int := (bif (Nat.beq z2 13) then z1 else s_Count_13)
          let z17 : Int := (bif (Nat.beq z2 14) then z1 else s_Count_14)
          let z18 : Int := (bif (Nat.beq z2 15) then z1 else s_Count_15)
          let z19 : Int := (bif (Nat.beq z2 16) then z1 else s_Count_16)
          let z20 : Int := (bif (Nat.beq z2 17) then z1 else s_Count_17)
          let z21 : Int := (bif (Nat.beq z2 18) then z1 else s_Count_18)
          let z22 : Int := (bif (Nat.beq z2 19) then z1 else s_Count_19)
          let z23 : Int := (bif (Nat.beq z2 20) then z1 else s_Count_20)
          let z24 : Int := (bif (Nat.beq z2 21) then z1 else s_Count_21)
          let z25 : Int := (bif (Nat.beq z2 22) then z1 else s_Count_22)
          let z26 : Int := (bif (Nat.beq z2 23) then z1 else s_Count_23)
          let z27 : Int := (bif (Nat.beq z2 24) then z1 else s_Count_24)
          let z28 : Int := (bif (Nat.beq z2 25) then z1 else s_Count_25)
          let z29 : Int := (bif (Nat.beq z2 26) then z1 else s_Count_26)
          let z30 : Int := (bif (Nat.beq z2 27) then z1 else s_Count_27)
          let z31 : Int := (bif (Nat.beq z2 28) then z1 else s_Count_28)
          let z32 : Int := (bif (Nat.beq z2 29) then z1 else s_Count_29)
          let z33 : Int := (bif (Nat.beq z2 30) then z1 else s_Count_30)
          let z34 : Int := (bif (Nat.beq z2 31) then z1 else s_Count_31)
          let z35 : Int := (bif (Nat.beq z2 32) then z1 else s_Count_32)
          let z36 : Int := (bif (Nat.beq z2 33) then z1 else s_Count_33)
          let z37 : Int := (bif (Nat.beq z2 34) then z1 else s_Count_34)
          let z38 : Int := (bif (Nat.beq z2 35) then z1 else s_Count_35)
          bif (Go.Ab.inB s9 36) then
            bif ((List.getD [z3, z4, z5, z6, z7, z8, z9, z10, z11, z12, z13, z14, z15, z16, z17, z18, z19, z20, z21, z22, z23, z24, z25, z26, z27, z28, z29, z30, z31, z32, z33, z34, z35, z36, z37, z38] (Int.toNat s9) (0 : Int)) == n) then
              bif (Go.Ab.inB s9 36) then
                let z39 : Nat := (Int.toNat s9)
                (F_contact_Set s_Contacts_Floors s_Contacts_Up s_Contacts_Down s_Contacts_Open s_Contacts_Closed s9 y1.1.1).bind fun y3 =>
                some (Sum.inl ((n, (), (), (), (Go.IntKind.wrap Go.IntKind.i64 (s9 + (1 : Int))), ()), ((y3.2.1.1, y3.2.1.2.1, y3.2.1.2.2.1, y3.2.1.2.2.2.1, y3.2.1.2.2.2.2.1, (bif (Nat.beq z39 0) then (0 : Int) else z3), (bif (Nat.beq z39 1) then (0 : Int) else z4), (bif (Nat.beq z39 2) then (0 : Int) else z5), (bif (Nat.beq z39 3) then (0 : Int) else z6), (bif (Nat.beq z39 4) then (0 : Int) else z7), (bif (Nat.beq z39 5) then (0 : Int) else z8), (bif (Nat.beq z39 6) then (0 : Int) else z9), (bif (Nat.beq z39 7) then (0 : Int) else z10), (bif (Nat.beq z39 8) then (0 : Int) else z11), (bif (Nat.beq z39 9) then (0 : Int) else z12), (bif (Nat.beq z39 10) then (0 : Int) else z13), (bif (Nat.beq z39 11) then (0 : Int) else z14), (bif (Nat.beq z39 12) then (0 : Int) else z15), (bif (Nat.beq z39 13) then (0 : Int) else z16), (bif (Nat.beq z39 14) then (0 : Int) else z17), (bif (Nat.beq z39 15) then (0 : Int) else z18), (bif (Nat.beq z39 16) then (0 : Int) else z19), (bif (Nat.beq z39 17) then (0 : Int) else z20), (bif (Nat.beq z39 18) then (0 : Int) else z21), (bif (Nat.beq z39 19) then (0 : Int) else z22), (bif (Nat.beq z39 20) then (0 : Int) else z23), (bif (Nat.beq z39 21) then (0 : Int) else z24), (bif (Nat.beq z39 22) then (0 : Int) else z25), (bif (Nat.beq z39 23) then (0 : Int) else z26), (bif (Nat.beq z39 24) then (0 : Int) else z27), (bif (Nat.beq z39 25) then (0 : Int) else z28), (bif (Nat.beq z39 26) then (0 : Int) else z29), (bif (Nat.beq z39 27) then (0 : Int) else z30), (bif (Nat.beq z39 28) then (0 : Int) else z31), (bif (Nat.beq z39 29) then (0 : Int) else z32), (bif (Nat.beq z39 30) then (0 : Int) else z33), (bif (Nat.beq z39 31) then (0 : Int) else z34), (bif (Nat.beq z39 32) then (0 : Int) else z35), (bif (Nat.beq z39 33) then (0 : Int) else z36), (bif (Nat.beq z39 34) then (0 : Int) else z37), (bif (Nat.beq z39 35) then (0 : Int) else z38), ()), (read_Floors, read_Up, read_Down, read_Open, read_Closed, ()), (b6_Contacts_Floors, b6_Contacts_Up, b6_Contacts_Down, b6_Contacts_Open, b6_Contacts_Closed, b6_Count_0, b6_Count_1, b6_Count_2, b6_Count_3, b6_Count_4, b6_Count_5, b6_Count_6, b6_Count_7, b6_Count_8, b6_Count_9, b6_Count_10, b6_Count_11, b6_Count_12, b6_Count_13, b6_Count_14, b6_Count_15, b6_Count_16, b6_Count_17, b6_Count_18, b6_Count_19, b6_Count_20, b6_Count_21, b6_Count_22, b6_Count_23, b6_Count_24, b6_Count_25, b6_Count_26, b6_Count_27, b6_Count_28, b6_Count_29, b6_Count_30, b6_Count_31, b6_Count_32, b6_Count_33, b6_Count_34, b6_Count_35, ()), ())))
              else
                none
            else
              some (Sum.inl ((n, (), (), (), (Go.IntKind.wrap Go.IntKind.i64 (s9 + (1 : Int))), ()), ((s_Contacts_Floors, s_Contacts_Up, s_Contacts_Down, s_Contacts_Open, s_Contacts_Closed, z3, z4, z5, z6, z7, z8, z9, z10, z11, z12, z13, z14, z15, z16, z17, z18, z19, z20, z21, z22, z23, z24, z25, z26, z27, z28, z29, z30, z31, z32, z33, z34, z35, z36, z37, z38, ()), (read_Floors, read_Up, read_Down, read_Open, read_Closed, ()), (b6_Contacts_Floors, b6_Contacts_Up, b6_Contacts_Down, b6_Contacts_Open, b6_Contacts_Closed, b6_Count_0, b6_Count_1, b6_Count_2, b6_Count_3, b6_Count_4, b6_Count_5, b6_Count_6, b6_Count_7, b6_Count_8, b6_Count_9, b6_Count_10, b6_Count_11, b6_Count_12, b6_Count_13, b6_Count_14, b6_Count_15, b6_Count_16, b6_Count_17, b6_Count_18, b6_Count_19, b6_Count_20, b6_Count_21, b6_Count_22, b6_Count_23, b6_Count_24, b6_Count_25, b6_Count_26, b6_Count_27, b6_Count_28, b6_Count_29, b6_Count_30, b6_Count_31, b6_Count_32, b6_Count_33, b6_Count_34, b6_Count_35, ()), ())))
          else
            none
        else
          none
      else
        none
  else
    some (Sum.inr (((), (), ()), ((s_Contacts_Floors, s_Contacts_Up, s_Contacts_Down, s_Contacts_Open, s_Contacts_Closed, s_Count_0, s_Count_1, s_Count_2, s_Count_3, s_Count_4, s_Count_5, s_Count_6, s_Count_7, s_Count_8, s_Count_9, s_Count_10, s_Count_11, s_Count_12, s_Count_13, s_Count_14, s_Count_15, s_Count_16, s_Count_17, s_Count_18, s_Count_19, s_Count_20, s_Count_21, s_Count_22, s_Count_23, s_Count_24, s_Count_25, s_Count_26, s_Count_27, s_Count_28, s_Count_29, s_Count_30, s_Count_31, s_Count_32, s_Count_33, s_Count_34, s_Count_35, ()), (b6_Contacts_Floors, b6_Contacts_Up, b6_Contacts_Down, b6_Contacts_Open, b6_Contacts_Closed, b6_Count_0, b6_Count_1, b6_Count_2, b6_Count_3, b6_Count_4, b6_Count_5, b6_Count_6, b6_Count_7, b6_Count_8, b6_Count_9, b6_Count_10, b6_Count_11, b6_Count_12, b6_Count_13, b6_Count_14, b6_Count_15, b6_Count_16, b6_Count_17, b6_Count_18, b6_Count_19, b6_Count_20, b6_Count_21, b6_Count_22, b6_Count_23, b6_Count_24, b6_Count_25, b6_Count_26, b6_Count_27, b6_Count_28, b6_Count_29, b6_Count_30, b6_Count_31, b6_Count_32, b6_Count_33, b6_Count_34, b6_Count_35, ()), ())))
noncomputable def L_contact_step_0 : ((Int × Unit × Unit × Unit × Int × Unit) × ((Int × Bool × Bool × Bool × Bool × Int × Int × Int × Int × Int × Int × Int × Int × Int × Int × Int × Int × Int × Int × Int × Int × Int × Int × Int × Int × Int × Int × Int × Int × Int × Int × Int × Int × Int × Int × Int × Int × Int × Int × Int × Int × Unit) × (Int × Bool × Bool × Bool × Bool × Unit) × (Int × Bool × Bool × Bool × Bool × Int × Int × Int × Int × Int × Int × Int × Int × Int × Int × Int × Int × Int × Int × Int × Int × Int × Int × Int × Int × Int × Int × Int × Int × Int × Int × Int × Int × Int × Int × Int × Int × Int × Int × Int × Int × Unit) × Unit)) → Option ((Unit × Unit × Unit) × ((Int × Bool × Bool × Bool × Bool × Int × Int × Int × Int × Int × Int × Int × Int × Int × Int × Int × Int × Int × Int × Int × Int × Int × Int × Int × Int × Int × Int × Int × Int × Int × Int × Int × Int × Int × Int × Int × Int × Int × Int × Int × Int × Unit) × (Int × Bool × Bool × Bool × Bool × Int × Int × Int × Int × Int × Int × Int × Int × Int × Int × Int × Int × Int × Int × Int × Int × Int × Int × Int × Int × Int × Int × Int × Int × Int × Int × Int × Int × Int × Int × Int × Int × Int × Int × Int × Int × Unit) × Unit)) := iter (fun x => R_contact_step_0 x.1.1 x.1.2.2.2.2.1 x.2.1.1 x.2.1.2.1 x.2.1.2.2.1 x.2.1.2.2.2.1 x.2.1.2.2.2.2.1 x.2.1.2.2.2.2.2.1 x.2.1.2.2.2.2.2.2.1 x.2.1.2.2.2.2.2.2.2.1 x.2.1.2.2.2.2.2.2.2.2.1 x.2.1.2.2.2.2.2.2.2.2.2.1 x.2.1.2.2.2.2.2.2.2.2.2.2.1 x.2.1.2.2.2.2.2.2.2.2.2.2.2.1 x.2.1.2.2.2.2.2.2.2.2.2.2.2.2.1 x.2.1.2.2.2.2.2.2.2.2.2.2.2.2.2.1 x.2.1.2.2.2.2.2.2.2.2.2.2.2.2.2.2.1 x.2.1.2.2.2.2.2.2.2.2.2.2.2.2.2.2.2.1 x.2.1.2.2.2.2.2.2.2.2.2.2.2.2.2.2.2.2.1 x.2.1.2.2.2.2.2.2.2.2.2.2.2.2.2.2.2.2.2.1 x.2.1.2.2.2.2.2.2.2.2.2.2.2.2.2.2.2.2.2.2.1 x.2.1.2.2.2.2.2.2.2.2.2.2.2.2.2.2.2.2.2.2.2.1 x.2.1.2.2.2.2.2.2.2.2.2.2.2.2.2.2.2.2.2.2.2.2.1 x.2.1.2.2.2.2.2.2.2.2.2.2.2.2.2.2.2.2.2.2.2.2.2.1 x.2.1.2.2.2.2.2.2.2.2.2.2.2.2.2.2.2.2.2.2.2.2.2.2.1 x.2.1.2.2.2.2.2.2.2.2.2.2.2.2.2.2.2.2.2.2.2.2.2.2.2.1 x.2.1.2.2.2.2.2.2.2.2.2.2.2.2.2.2.2.2.2.2.2.2.2.2.2.2.1 x.2.1.2.2.2.2.2.2.2.2.2.2.2.2.2.2.2.2.2.2.2.2.2.2.2.2.2.1 x.2.1.2.2.2.2.2.2.2.2.2.2.2.2.2.2.2.2.2.2.2.2.2.2.2.2.2.2.1 x.2.1.2.2.2.2.2.2.2.2.2.2.2.2.2.2.2.2.2.2.2.2.2.2.2.2.2.2.2.1 x.2.1.2.2.2.2.2.2.2.2.2.2.2.2.2.2.2.2.2.2.2.2.2.2.2.2.2.2.2.2.1 x.2.1.2.2.2.2.2.2.2.2.2.2.2.2.2.2.2.2.2.2.2.2.2.2.2.2.2.2.2.2.2.1 x.2.1.2.2.2.2.2.2.2.2.2.2.2.2.2.2.2.2.2.2.2.2.2.2.2.2.2.2.2.2.2.2.1 x.2.1.2.2.2.2.2.2.2.2.2.2.2.2.2.2.2.2.2.2.2.2.2.2.2.2.2.2.2.2.2.2.2.1 x.2.1.2.2.2.2.2.2.2.2.2.2.2.2.2.2.2.2.2.2.2.2.2.2.2.2.2.2.2.2.2.2.2.2.1 x.2.1.2.2.2.2.2.2.2.2.2.2.2.2.2.2.2.2.2.2.2.2.2.2.2.2.2.2.2.2.2.2.2.2.2.1 x.2.1.2.2.2.2.2.2.2.2.2.2.2.2.2.2.2.2.2.2.2.2.2.2.2.2.2.2.2.2.2.2.2.2.2.2.1 x.2.1.2.2.2.2.2.2.2.2.2.2.2.2.2.2.2.2.2.2.2.2.2.2.2.2.2.2.2.2.2.2.2.2.2.2.2.1 x.2.1.2.2.2.2.2.2.2.2.2.2.2.2.2.2.2.2.2.2.2.2.2.2.2.2.2.2.2.2.2.2.2.2.2.2.2.2.1 x.2.1.2.2.2.2.2.2.2.2.2.2.2.2.2.2.2.2.2.2.2.2.2.2.2.2.2.2.2.2.2.2.2.2.2.2.2.2.2.1 x.2.1.2.2.2.2.2.2.2.2.2.2.2.2.2.2.2.2.2.2.2.2.2.2.2.2.2.2.2.2.2.2.2.2.2.2.2.2.2.2.1 x.2.1.2.2.2.2.2.2.2.2.2.2.2.2.2.2.2.2.2.2.2.2.2.2.2.2.2.2.2.2.2.2.2.2.2.2.2.2.2.2.2.1 x.2.1.2.2.2.2.2.2.2.2.2.2.2.2.2.2.2.2.2.2.2.2.2.2.2.2.2.2.2.2.2.2.2.2.2.2.2.2.2.2.2.2.1 x.2.2.1.1 x.2.2.1.2.1 x.2.2.1.2.2.1 x.2.2.1.2.2.2.1 x.2.2.1.2.2.2.2.1 x.2.2.2.1.1 x.2.2.2.1.2.1 x.2.2.2.1.2.2.1 x.2.2.2.1.2.2.2.1 x.2.2.2.1.2.2.2.2.1 x.2.2.2.1.2.2.2.2.2.1 x.2.2.2.1.2.2.2.2.2.2.1 x.2.2.2.1.2.2.2.2.2.2.2.1 x.2.2.2.1.2.2.2.2.2.2.2.2.1 x.2.2.2.1.2.2.2.2.2.2.2.2.2.1 x.2.2.2.1.2.2.2.2.2.2.2.2.2.2.1 x.2.2.2.1.2.2.2.2.2.2.2.2.2.2.2.1 x.2.2.2.1.2.2.2.2.2.2.2.2.2.2.2.2.1 x.2.2.2.1.2.2.2.2.2.2.2.2.2.2.2.2.2.1 x.2.2.2.1.2.2.2.2.2.2.2.2.2.2.2.2.2.2.1 x.2.2.2.1.2.2.2.2.2.2.2.2.2.2.2.2.2.2.2.1 x.2.2.2.1.2.2.2.2.2.2.2.2.2.2.2.2.2.2.2.2.1 x.2.2.2.1.2.2.2.2.2.2.2.2.2.2.2.2.2.2.2.2.2.1 x.2.2.2.1.2.2.2.2.2.2.2.2.2.2.2.2.2.2.2.2.2.2.1 x.2.2.2.1.2.2.2.2.2.2.2.2.2.2.2.2.2.2.2.2.2.2.2.1 x.2.2.2.1.2.2.2.2.2.2.2.2.2.2.2.2.2.2.2.2.2.2.2.2.1 x.2.2.2.1.2.2.2.2.2.2.2.2.2.2.2.2.2.2.2.2.2.2.2.2.2.1 x.2.2.2.1.2.2.2.2.2.2.2.2.2.2.2.2.2.2.2.2.2.2.2.2.2.2.1 x.2.2.2.1.2.2.2.2.2.2.2.2.2.2.2.2.2.2.2.2.2.2.2.2.2.2.2.1 x.2.2.2.1.2.2.2.2.2.2.2.2.2.2.2.2.2.2.2.2.2.2.2.2.2.2.2.2.1 x.2.2.2.1.2.2.2.2.2.2.2.2.2.2.2.2.2.2.2.2.2.2.2.2.2.2.2.2.2.1 x.2.2.2.1.2.2.2.2.2.2.2.2.2.2.2.2.2.2.2.2.2.2.2.2.2.2.2.2.2.2.1 x.2.2.2.1.2.2.2.2.2.2.2.2.2.2.2.2.2.2.2.2.2.2.2.2.2.2.2.2.2.2.2.1 x.2.2.2.1.2.2.2.2.2.2.2.2.2.2.2.2.2.2.2.2.2.2.2.2.2.2.2.2.2.2.2.2.1 x.2.2.2.1.2.2.2.2.2.2.2.2.2.2.2.2.2.2.2.2.2.2.2.2.2.2.2.2.2.2.2.2.2.1 x.2.2.2.1.2.2.2.2.2.2.2.2.2.2.2.2.2.2.2.2.2.2.2.2.2.2.2.2.2.2.2.2.2.2.1 x.2.2.2.1.2.2.2.2.2.2.2.2.2.2.2.2.2.2.2.2.2.2.2.2.2.2.2.2.2.2.2.2.2.2.2.1 x.2.2.2.1.2.2.2.2.2.2.2.2.2.2.2.2.2.2.2.2.2.2.2.2.2.2.2.2.2.2.2.2.2.2.2.2.1 x.2.2.2.1.2.2.2.2.2.2.2.2.2.2.2.2.2.2.2.2.2.2.2.2.2.2.2.2.2.2.2.2.2.2.2.2.2.1 x.2.2.2.1.2.2.2.2.2.2.2.2.2.2.2.2.2.2.2.2.2.2.2.2.2.2.2.2.2.2.2.2.2.2.2.2.2.2.1 x.2.2.2.1.2.2.2.2.2.2.2.2.2.2.2.2.2.2.2.2.2.2.2.2.2.2.2.2.2.2.2.2.2.2.2.2.2.2.2.1 x.2.2.2.1.2.2.2.2.2.2.2.2.2.2.2.2.2.2.2.2.2.2.2.2.2.2.2.2.2.2.2.2.2.2.2.2.2.2.2.2.1 x.2.2.2.1.2.2.2.2.2.2.2.2.2.2.2.2.2.2.2.2.2.2.2.2.2.2.2.2.2.2.2.2.2.2.2.2.2.2.2.2.2.1 x.2.2.2.1.2.2.2.2.2.2.2.2.2.2.2.2.2.2.2.2.2.2.2.2.2.2.2.2.2.2.2.2.2.2.2.2.2.2.2.2.2.2.1 x.2.2.2.1.2.2.2.2.2.2.2.2.2.2.2.2.2.2.2.2.2.2.2.2.2.2.2.2.2.2.2.2.2.2.2.2.2.2.2.2.2.2.2.1 x.2.2.2.1.2.2.2.2.2.2.2.2.2.2.2.2.2.2.2.2.2.2.2.2.2.2.2.2.2.2.2.2.2.2.2.2.2.2.2.2.2.2.2.2.1) fuel
noncomputable def F_contact_step (n : Int) (s_Contacts_Floors : Int) (s_Contacts_Up : Bool) (s_Contacts_Down : Bool) (s_Contacts_Open : Bool) (s_Contacts_Closed : Bool) (s_Count_0 : Int) (s_Count_1 : Int) (s_Count_2 : Int) (s_Count_3 : Int) (s_Count_4 : Int) (s_Count_5 : Int) (s_Count_6 : Int) (s_Count_7 : Int) (s_Count_8 : Int) (s_Count_9 : Int) (s_Count_10 : Int) (s_Count_11 : Int) (s_Count_12 : Int) (s_Count_13 : Int) (s_Count_14 : Int) (s_Count_15 : Int) (s_Count_16 : Int) (s_Count_17 : Int) (s_Count_18 : Int) (s_Count_19 : Int) (s_Count_20 : Int) (s_Count_21 : Int) (s_Count_22 : Int) (s_Count_23 : Int) (s_Count_24 : Int) (s_Count_25 : Int) (s_Count_26 : Int) (s_Count_27 : Int) (s_Count_28 : Int) (s_Count_29 : Int) (s_Count_30 : Int) (s_Count_31 : Int) (s_Count_32 : Int) (s_Count_33 : Int) (s_Count_34 : Int) (s_Count_35 : Int) (read_Floors : Int) (read_Up : Bool) (read_Down : Bool) (read_Open : Bool) (read_Closed : Bool) : Option ((Unit × Unit) × ((Int × Bool × Bool × Bool × Bool × Int × Int × Int × Int × Int × Int × Int × Int × Int × Int × Int × Int × Int × Int × Int × Int × Int × Int × Int × Int × Int × Int × Int × Int × Int × Int × Int × Int × Int × Int × Int × Int × Int × Int × Int × Int × Unit) × Unit)) :=
  (L_contact_step_0 ((n, (), (), (), (0 : Int), ()), ((s_Contacts_Floors, s_Contacts_Up, s_Contacts_Down, s_Contacts_Open, s_Contacts_Closed, s_Count_0, s_Count_1, s_Count_2, s_Count_3, s_Count_4, s_Count_5, s_Count_6, s_Count_7, s_Count_8, s_Count_9, s_Count_10, s_Count_11, s_Count_12, s_Count_13, s_Count_14, s_Count_15, s_Count_16, s_Count_17, s_Count_18, s_Count_19, s_Count_20, s_Count_21, s_Count_22, s_Count_23, s_Count_24, s_Count_25, s_Count_26, s_Count_27, s_Count_28, s_Count_29, s_Count_30, s_Count_31, s_Count_32, s_Count_33, s_Count_34, s_Count_35, ()), (read_Floors, read_Up, read_Down, read_Open, read_Closed, ()), ((0 : Int), false, false, false, false, (0 : Int), (0 : Int), (0 : Int), (0 : Int), (0 : Int), (0 : Int), (0 : Int), (0 : Int), (0 : Int), (0 : Int), (0 : Int), (0 : Int), (0 : Int), (0 : Int), (0 : Int), (0 : Int), (0 : Int), (0 : Int), (0 : Int), (0 : Int), (0 : Int), (0 : Int), (0 : Int), (0 : Int), (0 : Int), (0 : Int), (0 : Int), (0 : Int), (0 : Int), (0 : Int), (0 : Int), (0 : Int), (0 : Int), (0 : Int), (0 : Int), (0 : Int), ()), ()))).bind fun y1 =>
  some (((), ()), ((y1.2.1.1, y1.2.1.2.1, y1.2.1.2.2.1, y1.2.1.2.2.2.1, y1.2.1.2.2.2.2.1, y1.2.1.2.2.2.2.2.1, y1.2.1.2.2.2.2.2.2.1, y1.2.1.2.2.2.2.2.2.2.1, y1.2.1.2.2.2.2.2.2.2.2.1, y1.2.1.2.2.2.2.2.2.2.2.2.1, y1.2.1.2.2.2.2.2.2.2.2.2.2.1, y1.2.1.2.2.2.2.2.2.2.2.2.2.2.1, y1.2.1.2.2.2.2.2.2.2.2.2.2.2.2.1, y1.2.1.2.2.2.2.2.2.2.2.2.2.2.2.2.1, y1.2.1.2.2.2.2.2.2.2.2.2.2.2.2.2.2.1, y1.2.1.2.2.2.2.2.2.2.2.2.2.2.2.2.2.2.1, y1.2.1.2.2.2.2.2.2.2.2.2.2.2.2.2.2.2.2.1, y1.2.1.2.2.2.2.2.2.2.2.2.2.2.2.2.2.2.2.2.1, y1.2.1.2.2.2.2.2.2.2.2.2.2.2.2.2.2.2.2.2.2.1, y1.2.1.2.2.2.2.2.2.2.2.2.2.2.2.2.2.2.2.2.2.2.1, y1.2.1.2.2.2.2.2.2.2.2.2.2.2.2.2.2.2.2.2.2.2.2.1, y1.2.1.2.2.2.2.2.2.2.2.2.2.2.2.2.2.2.2.2.2.2.2.2.1, y1.2.1.2.2.2.2.2.2.2.2.2.2.2.2.2.2.2.2.2.2.2.2.2.2.1, y1.2.1.2.2.2.2.2.2.2.2.2.2.2.2.2.2.2.2.2.2.2.2.2.2.2.1, y1.2.1.2.2.2.2.2.2.2.2.2.2.2.2.2.2.2.2.2.2.2.2.2.2.2.2.1, y1.2.1.2.2.2.2.2.2.2.2.2.2.2.2.2.2.2.2.2.2.2.2.2.2.2.2.2.1, y1.2.1.2.2.2.2.2.2.2.2.2.2.2.2.2.2.2.2.2.2.2.2.2.2.2.2.2.2.1, y1.2.1.2.2.2.2.2.2.2.2.2.2.2.2.2.2.2.2.2.2.2.2.2.2.2.2.2.2.2.1, y1.2.1.2.2.2.2.2.2.2.2.2.2.2.2.2.2.2.2.2.2.2.2.2.2.2.2.2.2.2.2.1, y1.2.1.2.2.2.2.2.2.2.2.2.2.2.2.2.2.2.2.2.2.2.2.2.2.2.2.2.2.2.2.2.1, y1.2.1.2.2.2.2.2.2.2.2.2.2.2.2.2.2.2.2.2.2.2.2.2.2.2.2.2.2.2.2.2.2.1, y1.2.1.2.2.2.2.2.2.2.2.2.2.2.2.2.2.2.2.2.2.2.2.2.2.2.2.2.2.2.2.2.2.2.1, y1.2.1.2.2.2.2.2.2.2.2.2.2.2.2.2.2.2.2.2.2.2.2.2.2.2.2.2.2.2.2.2.2.2.2.1, y1.2.1.2.2.2.2.2.2.2.2.2.2.2.2.2.2.2.2.2.2.2.2.2.2.2.2.2.2.2.2.2.2.2.2.2.1, y1.2.1.2.2.2.2.2.2.2.2.2.2.2.2.2.2.2.2.2.2.2.2.2.2.2.2.2.2.2.2.2.2.2.2.2.2.1, y1.2.1.2.2.2.2.2.2.2.2.2.2.2.2.2.2.2.2.2.2.2.2.2.2.2.2.2.2.2.2.2.2.2.2.2.2.2.1, y1.2.1.2.2.2.2.2.2.2.2.2.2.2.2.2.2.2.2.2.2.2.2.2.2.2.2.2.2.2.2.2.2.2.2.2.2.2.2.1, y1.2.1.2.2.2.2.2.2.2.2.2.2.2.2.2.2.2.2.2.2.2.2.2.2.2.2.2.2.2.2.2.2.2.2.2.2.2.2.2.1, y1.2.1.2.2.2.2.2.2.2.2.2.2.2.2.2.2.2.2.2.2.2.2.2.2.2.2.2.2.2.2.2.2.2.2.2.2.2.2.2.2.1, y1.2.1.2.2.2.2.2.2.2.2.2.2.2.2.2.2.2.2.2.2.2.2.2.2.2.2.2.2.2.2.2.2.2.2.2.2.2.2.2.2.2.1, y1.2.1.2.2.2.2.2.2.2.2.2.2.2.2.2.2.2.2.2.2.2.2.2.2.2.2.2.2.2.2.2.2.2.2.2.2.2.2.2.2.2.2.1, ()), ()))
/-! ### overlay/contact.Run -/
noncomputable def R_contact_Run_0 (n : Int) (out : List (Contacts)) (s26 : List (Contacts)) (s27 : Int) (s28 : Int) (s_Contacts_Floors : Int) (s_Contacts_Up : Bool) (s_Contacts_Down : Bool) (s_Contacts_Open : Bool) (s_Contacts_Closed : Bool) (s_Count_0 : Int) (s_Count_1 : Int) (s_Count_2 : Int) (s_Count_3 : Int) (s_Count_4 : Int) (s_Count_5 : Int) (s_Count_6 : Int) (s_Count_7 : Int) (s_Count_8 : Int) (s_Count_9 : Int) (s_Count_10 : Int) (s_Count_11 : Int) (s_Count_12 : Int) (s_Count_13 : Int) (s_Count_14 : Int) (s_Count_15 : Int) (s_Count_16 : Int) (s_Count_17 : Int) (s_Count_18 : Int) (s_Count_19 : Int) (s_Count_20 : Int) (s_Count_21 : Int) (s_Count_22 : Int) (s_Count_23 : Int) (s_Count_24 : Int) (s_Count_25 : Int) (s_Count_26 : Int) (s_Count_27 : Int) (s_Count_28 : Int) (s_Count_29 : Int) (s_Count_30 : Int) (s_Count_31 : Int) (s_Count_32 : Int) (s_Count_33 : Int) (s_Count_34 : Int) (s_Count_35 : Int) (b6_Contacts_Floors : Int) (b6_Contacts_Up : Bool) (b6_Contacts_Down : Bool) (b6_Contacts_Open : Bool) (b6_Contacts_Closed : Bool) (b6_Count_0 : Int) (b6_Count_1 : Int) (b6_Count_2 : Int) (b6_Count_3 : Int) (b6_Count_4 : Int) (b6_Count_5 : Int) (b6_Count_6 : Int) (b6_Count_7 : Int) (b6_Count_8 : Int) (b6_Count_9 : Int) (b6_Count_10 : Int) (b6_Count_11 : Int) (b6_Count_12 : Int) (b6_Count_13 : Int) (b6_Count_14 : Int) (b6_Count_15 : Int) (b6_Count_16 : Int) (b6_Count_17 : Int) (b6_Count_18 : Int) (b6_Count_19 : Int) (b6_Count_20 : Int) (b6_Count_21 : Int) (b6_Count_22 : Int) (b6_Count_23 : Int) (b6_Count_24 : Int) (b6_Count_25 : Int) (b6_Count_26 : Int) (b6_Count_27 : Int) (b6_Count_28 : Int) (b6_Count_29 : Int) (b6_Count_30 : Int) (b6_Count_31 : Int) (b6_Count_32 : Int) (b6_Count_33 : Int) (b6_Count_34 : Int) (b6_Count_35 : Int) : Option (Sum ((Int × Unit × Unit × List (Contacts) × List (Contacts) × Int × Int × Unit) × ((Int × Bool × Bool × Bool × Bool × Int × Int × Int × Int × Int × Int × Int × Int × Int × Int × Int × Int × Int × Int × Int × Int × Int × Int × Int × Int × Int × Int × Int × Int × Int × Int × Int × Int × Int × Int × Int × Int × Int × Int × Int × Int × Unit) × (Int × Bool × Bool × Bool × Bool × Int × Int × Int × Int × Int × Int × Int × Int × Int × Int × Int × Int × Int × Int × Int × Int × Int × Int × Int × Int × Int × Int × Int × Int × Int × Int × Int × Int × Int × Int × Int × Int × Int × Int × Int × Int × Unit) × Unit)) ((Unit × Unit × List (Contacts) × Unit) × ((Int × Bool × Bool × Bool × Bool × Int × Int × Int × Int × Int × Int × Int × Int × Int × Int × Int × Int × Int × Int × Int × Int × Int × Int × Int × Int × Int × Int × Int × Int × Int × Int × Int × Int × Int × Int × Int × Int × Int × Int × Int × Int × Unit) × (Int × Bool × Bool × Bool × Bool × Int × Int × Int × Int × Int × Int × Int × Int × Int × Int × Int × Int × Int × Int × Int × Int × Int × Int × Int × Int × Int × Int × Int × Int × Int × Int × Int × Int × Int × Int × Int × Int × Int × Int × Int × Int × Unit) × Unit))) :=
  bif (decide (s28 < s27)) then
    bif (Go.Ab.inB s28 (List.length s26)) then
      let z0 : Contacts := (List.getD s26 (Int.toNat s28) (Contacts.mk (0 : Int) false false false false))
      (F_contact_step n s_Contacts_Floors s_Contacts_Up s_Contacts_Down s_Contacts_Open s_Contacts_Closed s_Count_0 s_Count_1 s_Count_2 s_Count_3 s_Count_4 s_Count_5 s_Count_6 s_Count_7 s_Count_8 s_Count_9 s_Count_10 s_Count_11 s_Count_12 s_Count_13 s_Count_14 s_Count_15 s_Count_16 s_Count_17 s_Count_18 s_Count_19 s_Count_20 s_Count_21 s_Count_22 s_Count_23 s_Count_24 s_Count_25 s_Count_26 s_Count_27 s_Count_28 s_Count_29 s_Count_30 s_Count_31 s_Count_32 s_Count_33 s_Count_34 s_Count_35 z0.Floors z0.Up z0.Down z0.Open z0.Closed).bind fun y1 =>
      let z1 : List (Contacts) := [(Contacts.mk y1.2.1.1 y1.2.1.2.1 y1.2.1.2.2.1 y1.2.1.2.2.2.1 y1.2.1.2.2.2.2.1)]
      bif (Nat.ble ((List.length out) + (List.length z1)) 2147483648) then
        some (Sum.inl ((n, (), (), (out ++ z1), s26, s27, (Go.IntKind.wrap Go.IntKind.i64 (s28 + (1 : Int))), ()), ((y1.2.1.1, y1.2.1.2.1, y1.2.1.2.2.1, y1.2.1.2.2.2.1, y1.2.1.2.2.2.2.1, y1.2.1.2.2.2.2.2.1, y1.2.1.2.2.2.2.2.2.1, y1.2.1.2.2.2.2.2.2.2.1, y1.2.1.2.2.2.2.2.2.2.2.1, y1.2.1.2.2.2.2.2.2.2.2.2.1, y1.2.1.2.2.2.2.2.2.2.2.2.2.1, y1.2.1.2.2.2.2.2.2.2.2.2.2.2.1, y1.2.1.2.2.2.2.2.2.2.2.2.2.2.2.1, y1.2.1.2.2.2.2.2.2.2.2.2.2.2.2.2.1, y1.2.1.2.2.2.2.2.2.2.2.2.2.2.2.2.2.1, y1.2.1.2.2.2.2.2.2.2.2.2.2.2.2.2.2.2.1, y1.2.1.2.2.2.2.2.2.2.2.2.2.2.2.2.2.2.2.1, y1.2.1.2.2.2.2.2.2.2.2.2.2.2.2.2.2.2.2.2.1, y1.2.1.2.2.2.2.2.2.2.2.2.2.2.2.2.2.2.2.2.2.1, y1.2.1.2.2.2.2.2.2.2.2.2.2.2.2.2.2.2.2.2.2.2.1, y1.2.1.2.2.2.2.2.2.2.2.2.2.2.2.2.2.2.2.2.2.2.2.1, y1.2.1.2.2.2.2.2.2.2.2.2.2.2.2.2.2.2.2.2.2.2.2.2.1, y1.2.1.2.2.2.2.2.2.2.2.2.2.2.2.2.2.2.2.2.2.2.2.2.2.1, y1.2.1.2.2.2.2.2.2.2.2.2.2.2.2.2.2.2.2.2.2.2.2.2.2.2.1, y1.2.1.2.2.2.2.2.2.2.2.2.2.2.2.2.2.2.2.2.2.2.2.2.2.2.2.1, y1.2.1.2.2.2.2.2.2.2.2.2.2.2.2.2.2.2.2.2.2.2.2.2.2.2.2.2.1, y1.2.1.2.2.2.2.2.2.2.2.2.2.2.2.2.2.2.2.2.2.2.2.2.2.2.2.2.2.1, y1.2.1.2.2.2.2.2.2.2.2.2.2.2.2.2.2.2.2.2.2.2.2.2.2.2.2.2.2.2.1, y1.2.1.2.2.2.2.2.2.2.2.2.2.2.2.2.2.2.2.2.2.2.2.2.2.2.2.2.2.2.2.1, y1.2.1.2.2.2.2.2.2.2.2.2.2.2.2.2.2.2.2.2.2.2.2.2.2.2.2.2.2.2.2.2.1, y1.2.1.2.2.2.2.2.2.2.2.2.2.2.2.2.2.2.2.2.2.2.2.2.2.2.2.2.2.2.2.2.2.1, y1.2.1.2.2.2.2.2.2.2.2.2.2.2.2.2.2.2.2.2.2.2.2.2.2.2.2.2.2.2.2.2.2.2.1, y1.2.1.2.2.2.2.2.2.2.2.2.2.2.2.2.2.2.2.2.2.2.2.2.2.2.2.2.2.2.2.2.2.2.2.1, y1.2.1.2.2.2.2.2.2.2.2.2.2.2.2.2.2.2.2.2.2.2.2.2.2.2.2.2.2.2.2.2.2.2.2.2.1, y1.2.1.2.2.2.2.2.2.2.2.2.2.2.2.2.2.2.2.2.2.2.2.2.2.2.2.2.2.2.2.2.2.2.2.2.2.1, y1.2.1.2.2.2.2.2.2.2.2.2.2.2.2.2.2.2.2.2.2.2.2.2.2.2.2.2.2.2.2.2.2.2.2.2.2.2.1, y1.2.1.2.2.2.2.2.2.2.2.2.2.2.2.2.2.2.2.2.2.2.2.2.2.2.2.2.2.2.2.2.2.2.2.2.2.2.2.1, y1.2.1.2.2.2.2.2.2.2.2.2.2.2.2.2.2.2.2.2.2.2.2.2.2.2.2.2.2.2.2.2.2.2.2.2.2.2.2.2.1, y1.2.1.2.2.2.2.2.2.2.2.2.2.2.2.2.2.2.2.2.2.2.2.2.2.2.2.2.2.2.2.2.2.2.2.2.2.2.2.2.2.1, y1.2.1.2.2.2.2.2.2.2.2.2.2.2.2.2.2.2.2.2.2.2.2.2.2.2.2.2.2.2.2.2.2.2.2.2.2.2.2.2.2.2.1, y1.2.1.2.2.2.2.2.2.2.2.2.2.2.2.2.2.2.2.2.2.2.2.2.2.2.2.2.2.2.2.2.2.2.2.2.2.2.2.2.2.2.2.1, ()), (b6_Contacts_Floors, b6_Contacts_Up, b6_Contacts_Down, b6_Contacts_Open, b6_Contacts_Closed, b6_Count_0, b6_Count_1, b6_Count_2, b6_Count_3, b6_Count_4, b6_Count_5, b6_Count_6, b6_Count_7, b6_Count_8, b6_Count_9, b6_Count_10, b6_Count_11, b6_Count_12, b6_Count_13, b6_Count_14, b6_Count_15, b6_Count_16, b6_Count_17, b6_Count_18, b6_Count_19, b6_Count_20, b6_Count_21, b6_Count_22, b6_Count_23, b6_Count_24, b6_Count_25, b6_Count_26, b6_Count_27, b6_Count_28, b6_Count_29, b6_Count_30, b6_Count_31, b6_Count_32, b6_Count_33, b6_Count_34, b6_Count_35, ()), ())))
      else
        none
    else
      none
  else
    some (Sum.inr (((), (), out, ()), ((s_Contacts_Floors, s_Contacts_Up, s_Contacts_Down, s_Contacts_Open, s_Contacts_Closed, s_Count_0, s_Count_1, s_Count_2, s_Count_3, s_Count_4, s_Count_5, s_Count_6, s_Count_7, s_Count_8, s_Count_9, s_Count_10, s_Count_11, s_Count_12, s_Count_13, s_Count_14, s_Count_15, s_Count_16, s_Count_17, s_Count_18, s_Count_19, s_Count_20, s_Count_21, s_Count_22, s_Count_23, s_Count_24, s_Count_25, s_Count_26, s_Count_27, s_Count_28, s_Count_29, s_Count_30, s_Count_31, s_Count_32, s_Count_33, s_Count_34, s_Count_35, ()), (b6_Contacts_Floors, b6_Contacts_Up, b6_Contacts_Down, b6_Contacts_Open, b6_Contacts_Closed, b6_Count_0, b6_Count_1, b6_Count_2, b6_Count_3, b6_Count_4, b6_Count_5, b6_Count_6, b6_Count_7, b6_Count_8, b6_Count_9, b6_Count_10, b6_Count_11, b6_Count_12, b6_Count_13, b6_Count_14, b6_Count_15, b6_Count_16, b6_Count_17, b6_Count_18, b6_Count_19, b6_Count_20, b6_Count_21, b6_Count_22, b6_Count_23, b6_Count_24, b6_Count_25, b6_Count_26, b6_Count_27, b6_Count_28, b6_Count_29, b6_Count_30, b6_Count_31, b6_Count_32, b6_Count_33, b6_Count_34, b6_Count_35, ()), ())))
noncomputable def L_contact_Run_0 : ((Int × Unit × Unit × List (Contacts) × List (Contacts) × Int × Int × Unit) × ((Int × Bool × Bool × Bool × Bool × Int × Int × Int × Int × Int × Int × Int × Int × Int × Int × Int × Int × Int × Int × Int × Int × Int × Int × Int × Int × Int × Int × Int × Int × Int × Int × Int × Int × Int × Int × Int × Int × Int × Int × Int × Int × Unit) × (Int × Bool × Bool × Bool × Bool × Int × Int × Int × Int × Int × Int × Int × Int × Int × Int × Int × Int × Int × Int × Int × Int × Int × Int × Int × Int × Int × Int × Int × Int × Int × Int × Int × Int × Int × Int × Int × Int × Int × Int × Int × Int × Unit) × Unit)) → Option ((Unit × Unit × List (Contacts) × Unit) × ((Int × Bool × Bool × Bool × Bool × Int × Int × Int × Int × Int × Int × Int × Int × Int × Int × Int × Int × Int × Int × Int × Int × Int × Int × Int × Int × Int × Int × Int × Int × Int × Int × Int × Int × Int × Int × Int × Int × Int × Int × Int × Int × Unit) × (Int × Bool × Bool × Bool × Bool × Int × Int × Int × Int × Int × Int × Int × Int × Int × Int × Int × Int × Int × Int × Int × Int × Int × Int × Int × Int × Int × Int × Int × Int × Int × Int × Int × Int × Int × Int × Int × Int × Int × Int × Int × Int × Unit) × Unit)) := iter (fun x => R_contact_Run_0 x.1.1 x.1.2.2.2.1 x.1.2.2.2.2.1 x.1.2.2.2.2.2.1 x.1.2.2.2.2.2.2.1 x.2.1.1 x.2.1.2.1 x.2.1.2.2.1 x.2.1.2.2.2.1 x.2.1.2.2.2.2.1 x.2.1.2.2.2.2.2.1 x.2.1.2.2.2.2.2.2.1 x.2.1.2.2.2.2.2.2.2.1 x.2.1.2.2.2.2.2.2.2.2.1 x.2.1.2.2.2.2.2.2.2.2.2.1 x.2.1.2.2.2.2.2.2.2.2.2.2.1 x.2.1.2.2.2.2.2.2.2.2.2.2.2.1 x.2.1.2.2.2.2.2.2.2.2.2.2.2.2.1 x.2.1.2.2.2.2.2.2.2.2.2.2.2.2.2.1 x.2.1.2.2.2.2.2.2.2.2.2.2.2.2.2.2.1 x.2.1.2.2.2.2.2.2.2.2.2.2.2.2.2.2.2.1 x.2.1.2.2.2.2.2.2.2.2.2.2.2.2.2.2.2.2.1 x.2.1.2.2.2.2.2.2.2.2.2.2.2.2.2.2.2.2.2.1 x.2.1.2.2.2.2.2.2.2.2.2.2.2.2.2.2.2.2.2.2.1 x.2.1.2.2.2.2.2.2.2.2.2.2.2.2.2.2.2.2.2.2.2.1 x.2.1.2.2.2.2.2.2.2.2.2.2.2.2.2.2.2.2.2.2.2.2.1 x.2.1.2.2.2.2.2.2.2.2.2.2.2.2.2.2.2.2.2.2.2.2.2.1 x.2.1.2.2.2.2.2.2.2.2.2.2.2.2.2.2.2.2.2.2.2.2.2.2.1 x.2.1.2.2.2.2.2.2.2.2.2.2.2.2.2.2.2.2.2.2.2.2.2.2.2.1 x.2.1.2.2.2.2.2.2.2.2.2.2.2.2.2.2.2.2.2.2.2.2.2.2.2.2.1 x.2.1.2.2.2.2.2.2.2.2.2.2.2.2.2.2.2.2.2.2.2.2.2.2.2.2.2.1 x.2.1.2.2.2.2.2.2.2.2.2.2.2.2.2.2.2.2.2.2.2.2.2.2.2.2.2.2.1 x.2.1.2.2.2.2.2.2.2.2.2.2.2.2.2.2.2.2.2.2.2.2.2.2.2.2.2.2.2.1 x.2.1.2.2.2.2.2.2.2.2.2.2.2.2.2.2.2.2.2.2.2.2.2.2.2.2.2.2.2.2.1 x.2.1.2.2.2.2.2.2.2.2.2.2.2.2.2.2.2.2.2.2.2.2.2.2.2.2.2.2.2.2.2.1 x.2.1.2.2.2.2.2.2.2.2.2.2.2.2.2.2.2.2.2.2.2.2.2.2.2.2.2.2.2.2.2.2.1 x.2.1.2.2.2.2.2.2.2.2.2.2.2.2.2.2.2.2.2.2.2.2.2.2.2.2.2.2.2.2.2.2.2.1 x.2.1.2.2.2.2.2.2.2.2.2.2.2.2.2.2.2.2.2.2.2.2.2.2.2.2.2.2.2.2.2.2.2.2.1 x.2.1.2.2.2.2.2.2.2.2.2.2.2.2.2.2.2.2.2.2.2.2.2.2.2.2.2.2.2.2.2.2.2.2.2.1 x.2.1.2.2.2.2.2.2.2.2.2.2.2.2.2.2.2.2.2.2.2.2.2.2.2.2.2.2.2.2.2.2.2.2.2.2.1 x.2.1.2.2.2.2.2.2.2.2.2.2.2.2.2.2.2.2.2.2.2.2.2.2.2.2.2.2.2.2.2.2.2.2.2.2.2.1 x.2.1.2.2.2.2.2.2.2.2.2.2.2.2.2.2.2.2.2.2.2.2.2.2.2.2.2.2.2.2.2.2.2.2.2.2.2.2.1 x.2.1.2.2.2.2.2.2.2.2.2.2.2.2.2.2.2.2.2.2.2.2.2.2.2.2.2.2.2.2.2.2.2.2.2.2.2.2.2.1 x.2.1.2.2.2.2.2.2.2.2.2.2.2.2.2.2.2.2.2.2.2.2.2.2.2.2.2.2.2.2.2.2.2.2.2.2.2.2.2.2.1 x.2.1.2.2.2.2.2.2.2.2.2.2.2.2.2.2.2.2.2.2.2.2.2.2.2.2.2.2.2.2.2.2.2.2.2.2.2.2.2.2.2.1 x.2.1.2.2.2.2.2.2.2.2.2.2.2.2.2.2.2.2.2.2.2.2.2.2.2.2.2.2.2.2.2.2.2.2.2.2.2.2.2.2.2.2.1 x.2.2.1.1 x.2.2.1.2.1 x.2.2.1.2.2.1 x.2.2.1.2.2.2.1 x.2.2.1.2.2.2.2.1 x.2.2.1.2.2.2.2.2.1 x.2.2.1.2.2.2.2.2.2.1 x.2.2.1.2.2.2.2.2.2.2.1 x.2.2.1.2.2.2.2.2.2.2.2.1 x.2.2.1.2.2.2.2.2.2.2.2.2.1 x.2.2.1.2.2.2.2.2.2.2.2.2.2.1 x.2.2.1.2.2.2.2.2.2.2.2.2.2.2.1 x.2.2.1.2.2.2.2.2.2.2.2.2.2.2.2.1 x.2.2.1.2.2.2.2.2.2.2.2.2.2.2.2.2.1 x.2.2.1.2.2.2.2.2.2.2.2.2.2.2.2.2.2.1 x.2.2.1.2.2.2.2.2.2.2.2.2.2.2.2.2.2.2.1 x.2.2.1.2.2.2.2.2.2.2.2.2.2.2.2.2.2.2.2.1 x.2.2.1.2.2.2.2.2.2.2.2.2.2.2.2.2.2.2.2.2.1 x.2.2.1.2.2.2.2.2.2.2.2.2.2.2.2.2.2.2.2.2.2.1 x.2.2.1.2.2.2.2.2.2.2.2.2.2.2.2.2.2.2.2.2.2.2.1 x.2.2.1.2.2.2.2.2.2.2.2.2.2.2.2.2.2.2.2.2.2.2.2.1 x.2.2.1.2.2.2.2.2.2.2.2.2.2.2.2.2.2.2.2.2.2.2.2.2.1 x.2.2.1.2.2.2.2.2.2.2.2.2.2.2.2.2.2.2.2.2.2.2.2.2.2.1 x.2.2.1.2.2.2.2.2.2.2.2.2.2.2.2.2.2.2.2.2.2.2.2.2.2.2.1 x.2.2.1.2.2.2.2.2.2.2.2.2.2.2.2.2.2.2.2.2.2.2.2.2.2.2.2.1 x.2.2.1.2.2.2.2.2.2.2.2.2.2.2.2.2.2.2.2.2.2.2.2.2.2.2.2.2.1 x.2.2.1.2.2.2.2.2.2.2.2.2.2.2.2.2.2.2.2.2.2.2.2.2.2.2.2.2.2.1 x.2.2.1.2.2.2.2.2.2.2.2.2.2.2.2.2.2.2.2.2.2.2.2.2.2.2.2.2.2.2.1 x.2.2.1.2.2.2.2.2.2.2.2.2.2.2.2.2.2.2.2.2.2.2.2.2.2.2.2.2.2.2.2.1 x.2.2.1.2.2.2.2.2.2.2.2.2.2.2.2.2.2.2.2.2.2.2.2.2.2.2.2.2.2.2.2.2.1 x.2.2.1.2.2.2.2.2.2.2.2.2.2.2.2.2.2.2.2.2.2.2.2.2.2.2.2.2.2.2.2.2.2.1 x.2.2.1.2.2.2.2.2.2.2.2.2.2.2.2.2.2.2.2.2.2.2.2.2.2.2.2.2.2.2.2.2.2.2.1 x.2.2.1.2.2.2.2.2.2.2.2.2.2.2.2.2.2.2.2.2.2.2.2.2.2.2.2.2.2.2.2.2.2.2.2.1 x.2.2.1.2.2.2.2.2.2.2.2.2.2.2.2.2.2.2.2.2.2.2.2.2.2.2.2.2.2.2.2.2.2.2.2.2.1 x.2.2.1.2.2.2.2.2.2.2.2.2.2.2.2.2.2.2.2.2.2.2.2.2.2.2.2.2.2.2.2.2.2.2.2.2.2.1 x.2.2.1.2.2.2.2.2.2.2.2.2.2.2.2.2.2.2.2.2.2.2.2.2.2.2.2.2.2.2.2.2.2.2.2.2.2.2.1 x.2.2.1.2.2.2.2.2.2.2.2.2.2.2.2.2.2.2.2.2.2.2.2.2.2.2.2.2.2.2.2.2.2.2.2.2.2.2.2.1 x.2.2.1.2.2.2.2.2.2.2.2.2.2.2.2.2.2.2.2.2.2.2.2.2.2.2.2.2.2.2.2.2.2.2.2.2.2.2.2.2.1 x.2.2.1.2.2.2.2.2.2.2.2.2.2.2.2.2.2.2.2.2.2.2.2.2.2.2.2.2.2.2.2.2.2.2.2.2.2.2.2.2.2.1 x.2.2.1.2.2.2.2.2.2.2.2.2.2.2.2.2.2.2.2.2.2.2.2.2.2.2.2.2.2.2.2.2.2.2.2.2.2.2.2.2.2.2.1 x.2.2.1.2.2.2.2.2.2.2.2.2.2.2.2.2.2.2.2.2.2.2.2.2.2.2.2.2.2.2.2.2.2.2.2.2.2.2.2.2.2.2.2.1) fuel
noncomputable def F_contact_Run (n : Int) (s_Contacts_Floors : Int) (s_Contacts_Up : Bool) (s_Contacts_Down : Bool) (s_Contacts_Open : Bool) (s_Contacts_Closed : Bool) (s_Count_0 : Int) (s_Count_1 : Int) (s_Count_2 : Int) (s_Count_3 : Int) (s_Count_4 : Int) (s_Count_5 : Int) (s_Count_6 : Int) (s_Count_7 : Int) (s_Count_8 : Int) (s_Count_9 : Int) (s_Count_10 : Int) (s_Count_11 : Int) (s_Count_12 : Int) (s_Count_13 : Int) (s_Count_14 : Int) (s_Count_15 : Int) (s_Count_16 : Int) (s_Count_17 : Int) (s_Count_18 : Int) (s_Count_19 : Int) (s_Count_20 : Int) (s_Count_21 : Int) (s_Count_22 : Int) (s_Count_23 : Int) (s_Count_24 : Int) (s_Count_25 : Int) (s_Count_26 : Int) (s_Count_27 : Int) (s_Count_28 : Int) (s_Count_29 : Int) (s_Count_30 : Int) (s_Count_31 : Int) (s_Count_32 : Int) (s_Count_33 : Int) (s_Count_34 : Int) (s_Count_35 : Int) (l : List (Contacts)) : Option ((Unit × List (Contacts) × Int × Unit) × ((Int × Bool × Bool × Bool × Bool × Int × Int × Int × Int × Int × Int × Int × Int × Int × Int × Int × Int × Int × Int × Int × Int × Int × Int × Int × Int × Int × Int × Int × Int × Int × Int × Int × Int × Int × Int × Int × Int × Int × Int × Int × Int × Unit) × Unit)) :=
  (F_contact_IsState n s_Contacts_Floors s_Contacts_Up s_Contacts_Down s_Contacts_Open s_Contacts_Closed s_Count_0 s_Count_1 s_Count_2 s_Count_3 s_Count_4 s_Count_5 s_Count_6 s_Count_7 s_Count_8 s_Count_9 s_Count_10 s_Count_11 s_Count_12 s_Count_13 s_Count_14 s_Count_15 s_Count_16 s_Count_17 s_Count_18 s_Count_19 s_Count_20 s_Count_21 s_Count_22 s_Count_23 s_Count_24 s_Count_25 s_Count_26 s_Count_27 s_Count_28 s_Count_29 s_Count_30 s_Count_31 s_Count_32 s_Count_33 s_Count_34 s_Count_35).bind fun y1 =>
  bif (!y1.1.1) then
    some (((), ([] : List (Contacts)), (1 : Int), ()), (((0 : Int), false, false, false, false, (0 : Int), (0 : Int), (0 : Int), (0 : Int), (0 : Int), (0 : Int), (0 : Int), (0 : Int), (0 : Int), (0 : Int), (0 : Int), (0 : Int), (0 : Int), (0 : Int), (0 : Int), (0 : Int), (0 : Int), (0 : Int), (0 : Int), (0 : Int), (0 : Int), (0 : Int), (0 : Int), (0 : Int), (0 : Int), (0 : Int), (0 : Int), (0 : Int), (0 : Int), (0 : Int), (0 : Int), (0 : Int), (0 : Int), (0 : Int), (0 : Int), (0 : Int), ()), ()))
  else
    bif (decide ((5000 : Int) < ((List.length l : Nat) : Int))) then
      some (((), ([] : List (Contacts)), (3 : Int), ()), (((0 : Int), false, false, false, false, (0 : Int), (0 : Int), (0 : Int), (0 : Int), (0 : Int), (0 : Int), (0 : Int), (0 : Int), (0 : Int), (0 : Int), (0 : Int), (0 : Int), (0 : Int), (0 : Int), (0 : Int), (0 : Int), (0 : Int), (0 : Int), (0 : Int), (0 : Int), (0 : Int), (0 : Int), (0 : Int), (0 : Int), (0 : Int), (0 : Int), (0 : Int), (0 : Int), (0 : Int), (0 : Int), (0 : Int), (0 : Int), (0 : Int), (0 : Int), (0 : Int), (0 : Int), ()), ()))
    else
      let z0 : Int := ((List.length l : Nat) : Int)
      bif ((decide ((0 : Int) ≤ z0)) && (decide (z0 ≤ (2147483648 : Int)))) then
        (L_contact_Run_0 ((n, (), (), (List.replicate (Int.toNat (0 : Int)) (Contacts.mk (0 : Int) false false false false)), l, ((List.length l : Nat) : Int), (0 : Int), ()), ((s_Contacts_Floors, s_Contacts_Up, s_Contacts_Down, s_Contacts_Open, s_Contacts_Closed, s_Count_0, s_Count_1, s_Count_2, s_Count_3, s_Count_4, s_Count_5, s_Count_6, s_Count_7, s_Count_8, s_Count_9, s_Count_10, s_Count_11, s_Count_12, s_Count_13, s_Count_14, s_Count_15, s_Count_16, s_Count_17, s_Count_18, s_Count_19, s_Count_20, s_Count_21, s_Count_22, s_Count_23, s_Count_24, s_Count_25, s_Count_26, s_Count_27, s_Count_28, s_Count_29, s_Count_30, s_Count_31, s_Count_32, s_Count_33, s_Count_34, s_Count_35, ()), ((0 : Int), false, false, false, false, (0 : Int), (0 : Int), (0 : Int), (0 : Int), (0 : Int), (0 : Int), (0 : Int), (0 : Int), (0 : Int), (0 : Int), (0 : Int), (0 : Int), (0 : Int), (0 : Int), (0 : Int), (0 : Int), (0 : Int), (0 : Int), (0 : Int), (0 : Int), (0 : Int), (0 : Int), (0 : Int), (0 : Int), (0 : Int), (0 : Int), (0 : Int), (0 : Int), (0 : Int), (0 : Int), (0 : Int), (0 : Int), (0 : Int), (0 : Int), (0 : Int), (0 : Int), ()), ()))).bind fun y2 =>
        some (((), y2.1.2.2.1, (0 : Int), ()), ((y2.2.1.1, y2.2.1.2.1, y2.2.1.2.2.1, y2.2.1.2.2.2.1, y2.2.1.2.2.2.2.1, y2.2.1.2.2.2.2.2.1, y2.2.1.2.2.2.2.2.2.1, y2.2.1.2.2.2.2.2.2.2.1, y2.2.1.2.2.2.2.2.2.2.2.1, y2.2.1.2.2.2.2.2.2.2.2.2.1, y2.2.1.2.2.2.2.2.2.2.2.2.2.1, y2.2.1.2.2.2.2.2.2.2.2.2.2.2.1, y2.2.1.2.2.2.2.2.2.2.2.2.2.2.2.1, y2.2.1.2.2.2.2.2.2.2.2.2.2.2.2.2.1, y2.2.1.2.2.2.2.2.2.2.2.2.2.2.2.2.2.1, y2.2.1.2.2.2.2.2.2.2.2.2.2.2.2.2.2.2.1, y2.2.1.2.2.2.2.2.2.2.2.2.2.2.2.2.2.2.2.1, y2.2.1.2.2.2.2.2.2.2.2.2.2.2.2.2.2.2.2.2.1, y2.2.1.2.2.2.2.2.2.2.2.2.2.2.2.2.2.2.2.2.2.1, y2.2.1.2.2.2.2.2.2.2.2.2.2.2.2.2.2.2.2.2.2.2.1, y2.2.1.2.2.2.2.2.2.2.2.2.2.2.2.2.2.2.2.2.2.2.2.1, y2.2.1.2.2.2.2.2.2.2.2.2.2.2.2.2.2.2.2.2.2.2.2.2.1, y2.2.1.2.2.2.2.2.2.2.2.2.2.2.2.2.2.2.2.2.2.2.2.2.2.1, y2.2.1.2.2.2.2.2.2.2.2.2.2.2.2.2.2.2.2.2.2.2.2.2.2.2.1, y2.2.1.2.2.2.2.2.2.2.2.2.2.2.2.2.2.2.2.2.2.2.2.2.2.2.2.1, y2.2.1.2.2.2.2.2.2.2.2.2.2.2.2.2.2.2.2.2.2.2.2.2.2.2.2.2.1, y2.2.1.2.2.2.2.2.2.2.2.2.2.2.2.2.2.2.2.2.2.2.2.2.2.2.2.2.2.1, y2.2.1.2.2.2.2.2.2.2.2.2.2.2.2.2.2.2.2.2.2.2.2.2.2.2.2.2.2.2.1, y2.2.1.2.2.2.2.2.2.2.2.2.2.2.2.2.2.2.2.2.2.2.2.2.2.2.2.2.2.2.2.1, y2.2.1.2.2.2.2.2.2.2.2.2.2.2.2.2.2.2.2.2.2.2.2.2.2.2.2.2.2.2.2.2.1, y2.2.1.2.2.2.2.2.2.2.2.2.2.2.2.2.2.2.2.2.2.2.2.2.2.2.2.2.2.2.2.2.2.1, y2.2.1.2.2.2.2.2.2.2.2.2.2.2.2.2.2.2.2.2.2.2.2.2.2.2.2.2.2.2.2.2.2.2.1, y2.2.1.2.2.2.2.2.2.2.2.2.2.2.2.2.2.2.2.2.2.2.2.2.2.2.2.2.2.2.2.2.2.2.2.1, y2.2.1.2.2.2.2.2.2.2.2.2.2.2.2.2.2.2.2.2.2.2.2.2.2.2.2.2.2.2.2.2.2.2.2.2.1, y2.2.1.2.2.2.2.2.2.2.2.2.2.2.2.2.2.2.2.2.2.2.2.2.2.2.2.2.2.2.2.2.2.2.2.2.2.1, y2.2.1.2.2.2.2.2.2.2.2.2.2.2.2.2.2.2.2.2.2.2.2.2.2.2.2.2.2.2.2.2.2.2.2.2.2.2.1, y2.2.1.2.2.2.2.2.2.2.2.2.2.2.2.2.2.2.2.2.2.2.2.2.2.2.2.2.2.2.2.2.2.2.2.2.2.2.2.1, y2.2.1.2.2.2.2.2.2.2.2.2.2.2.2.2.2.2.2.2.2.2.2.2.2.2.2.2.2.2.2.2.2.2.2.2.2.2.2.2.1, y2.2.1.2.2.2.2.2.2.2.2.2.2.2.2.2.2.2.2.2.2.2.2.2.2.2.2.2.2.2.2.2.2.2.2.2.2.2.2.2.2.1, y2.2.1.2.2.2.2.2.2.2.2.2.2.2.2.2.2.2.2.2.2.2.2.2.2.2.2.2.2.2.2.2.2.2.2.2.2.2.2.2.2.2.1, y2.2.1.2.2.2.2.2.2.2.2.2.2.2.2.2.2.2.2.2.2.2.2.2.2.2.2.2.2.2.2.2.2.2.2.2.2.2.2.2.2.2.2.1, ()), ()))
      else
        none
/-! ### overlay/overlaylaw04.sane -/
noncomputable def F_l04_sane  : Option ((Bool × Unit) × Unit) :=
  (F_contact_Run (2 : Int) (0 : Int) false false false false (0 : Int) (0 : Int) (0 : Int) (0 : Int) (0 : Int) (0 : Int) (0 : Int) (0 : Int) (0 : Int) (0 : Int) (0 : Int) (0 : Int) (0 : Int) (0 : Int) (0 : Int) (0 : Int) (0 : Int) (0 : Int) (0 : Int) (0 : Int) (0 : Int) (0 : Int) (0 : Int) (0 : Int) (0 : Int) (0 : Int) (0 : Int) (0 : Int) (0 : Int) (0 : Int) (0 : Int) (0 : Int) (0 : Int) (0 : Int) (0 : Int) (0 : Int) [(Contacts.mk (0 : Int) false false true false), (Contacts.mk (0 : Int) false false false false), (Contacts.mk (0 : Int) false false true false), (Contacts.mk (0 : Int) false false true false)]).bind fun y1 =>
  Option.bind (bif (y1.1.2.2.1 == (0 : Int)) then
        bif (((List.length y1.1.2.1 : Nat) : Int) == (4 : Int)) then
          bif (Go.Ab.inB (2 : Int) (List.length y1.1.2.1)) then
            bif (!(List.getD y1.1.2.1 (Int.toNat (2 : Int)) (Contacts.mk (0 : Int) false false false false)).Open) then
              bif (Go.Ab.inB (3 : Int) (List.length y1.1.2.1)) then
                bif (List.getD y1.1.2.1 (Int.toNat (3 : Int)) (Contacts.mk (0 : Int) false false false false)).Open then
                  (F_contact_Get (0 : Int) false false true false (34 : Int)).bind fun y2 =>
                  bif y2.1.1 then
                    (F_contact_IsState (0 : Int) (0 : Int) false false false false (0 : Int) (0 : Int) (0 : Int) (0 : Int) (0 : Int) (0 : Int) (0 : Int) (0 : Int) (0 : Int) (0 : Int) (0 : Int) (0 : Int) (0 : Int) (0 : Int) (0 : Int) (0 : Int) (0 : Int) (0 : Int) (0 : Int) (0 : Int) (0 : Int) (0 : Int) (0 : Int) (0 : Int) (0 : Int) (0 : Int) (0 : Int) (0 : Int) (0 : Int) (0 : Int) (0 : Int) (0 : Int) (0 : Int) (0 : Int) (0 : Int) (0 : Int)).bind fun y3 =>
                    some (((!y3.1.1), ()), ())
                  else
                    some ((false, ()), ())
                else
                  some ((false, ()), ())
              else
                none
            else
              some ((false, ()), ())
          else
            none
        else
          some ((false, ()), ())
      else
        some ((false, ()), ())) fun y4 =>
  some ((y4.1.1, ()), ())
/-! ### overlay/overlaylaw04.ContactParts -/
noncomputable def R_l04_ContactParts_0 (i : Int) (on_1 : Bool) (k : Int) (c_Floors : Int) (c_Up : Bool) (c_Down : Bool) (c_Open : Bool) (c_Closed : Bool) : Option (Sum ((Int × Bool × Unit × Int × Unit) × ((Int × Bool × Bool × Bool × Bool × Unit) × Unit)) (((Int × Bool × Unit × Unit) × ((Int × Bool × Bool × Bool × Bool × Unit) × Unit)) ⊕ ((Bool × Unit) × Unit))) :=
  bif (decide (k < (38 : Int))) then
    (F_contact_Get c_Floors c_Up c_Down c_Open c_Closed k).bind fun y1 =>
    (F_r04_Get c_Floors c_Up c_Down c_Open c_Closed k).bind fun y2 =>
    bif (!(y1.1.1 == y2.1.1)) then
      some (Sum.inr (Sum.inr ((false, ()), ())))
    else
      (F_contact_Set c_Floors c_Up c_Down c_Open c_Closed k on_1).bind fun y3 =>
      (F_r04_Set c_Floors c_Up c_Down c_Open c_Closed k on_1).bind fun y4 =>
      bif (!((y3.2.1.1 == y4.2.1.1) && ((y3.2.1.2.1 == y4.2.1.2.1) && ((y3.2.1.2.2.1 == y4.2.1.2.2.1) && ((y3.2.1.2.2.2.1 == y4.2.1.2.2.2.1) && ((y3.2.1.2.2.2.2.1 == y4.2.1.2.2.2.2.1) && true)))))) then
        some (Sum.inr (Sum.inr ((false, ()), ())))
      else
        Option.bind (bif (decide ((0 : Int) ≤ k)) then
              bif (decide (k < (36 : Int))) then
                (F_contact_Set c_Floors c_Up c_Down c_Open c_Closed k on_1).bind fun y5 =>
                (F_contact_Get y5.2.1.1 y5.2.1.2.1 y5.2.1.2.2.1 y5.2.1.2.2.2.1 y5.2.1.2.2.2.2.1 k).bind fun y6 =>
                some ((i, on_1, (), k, (!(y6.1.1 == on_1)), ()), ((c_Floors, c_Up, c_Down, c_Open, c_Closed, ()), ()))
              else
                some ((i, on_1, (), k, false, ()), ((c_Floors, c_Up, c_Down, c_Open, c_Closed, ()), ()))
            else
              some ((i, on_1, (), k, false, ()), ((c_Floors, c_Up, c_Down, c_Open, c_Closed, ()), ()))) fun y7 =>
        bif y7.1.2.2.2.2.1 then
          some (Sum.inr (Sum.inr ((false, ()), ())))
        else
          some (Sum.inl ((y7.1.1, y7.1.2.1, (), (Go.IntKind.wrap Go.IntKind.i64 (y7.1.2.2.2.1 + (1 : Int))), ()), ((y7.2.1.1, y7.2.1.2.1, y7.2.1.2.2.1, y7.2.1.2.2.2.1, y7.2.1.2.2.2.2.1, ()), ())))
  else
    some (Sum.inr (Sum.inl ((i, on_1, (), ()), ((c_Floors, c_Up, c_Down, c_Open, c_Closed, ()), ()))))
noncomputable def L_l04_ContactParts_0 : ((Int × Bool × Unit × Int × Unit) × ((Int × Bool × Bool × Bool × Bool × Unit) × Unit)) → Option (((Int × Bool × Unit × Unit) × ((Int × Bool × Bool × Bool × Bool × Unit) × Unit)) ⊕ ((Bool × Unit) × Unit)) := iter (fun x => R_l04_ContactParts_0 x.1.1 x.1.2.1 x.1.2.2.2.1 x.2.1.1 x.2.1.2.1 x.2.1.2.2.1 x.2.1.2.2.2.1 x.2.1.2.2.2.2.1) fuel
noncomputable def F_l04_ContactParts (c_Floors : Int) (c_Up : Bool) (c_Down : Bool) (c_Open : Bool) (c_Closed : Bool) (i : Int) (on_1 : Bool) : Option ((Bool × Unit) × Unit) :=
  (L_l04_ContactParts_0 ((i, on_1, (), (-1 : Int), ()), ((c_Floors, c_Up, c_Down, c_Open, c_Closed, ()), ()))).bind fun y1 =>
  (match y1 with
  | .inl y2 =>
    Option.bind ((F_contact_Get y2.2.1.1 y2.2.1.2.1 y2.2.1.2.2.1 y2.2.1.2.2.2.1 y2.2.1.2.2.2.2.1 y2.1.1).bind fun y3 =>
        (F_r04_Get y2.2.1.1 y2.2.1.2.1 y2.2.1.2.2.1 y2.2.1.2.2.2.1 y2.2.1.2.2.2.2.1 y2.1.1).bind fun y4 =>
        bif (y3.1.1 == y4.1.1) then
          (F_contact_Set y2.2.1.1 y2.2.1.2.1 y2.2.1.2.2.1 y2.2.1.2.2.2.1 y2.2.1.2.2.2.2.1 y2.1.1 y2.1.2.1).bind fun y5 =>
          (F_r04_Set y2.2.1.1 y2.2.1.2.1 y2.2.1.2.2.1 y2.2.1.2.2.2.1 y2.2.1.2.2.2.2.1 y2.1.1 y2.1.2.1).bind fun y6 =>
          bif ((y5.2.1.1 == y6.2.1.1) && ((y5.2.1.2.1 == y6.2.1.2.1) && ((y5.2.1.2.2.1 == y6.2.1.2.2.1) && ((y5.2.1.2.2.2.1 == y6.2.1.2.2.2.1) && ((y5.2.1.2.2.2.2.1 == y6.2.1.2.2.2.2.1) && true))))) then
            (F_l04_sane).bind fun y7 =>
            some ((y7.1.1, ()), ())
          else
            some ((false, ()), ())
        else
          some ((false, ()), ())) fun y8 =>
    some ((y8.1.1, ()), ())
  | .inr y2 =>
    some ((y2.1.1, ()), ()))
end Go.Ovl
