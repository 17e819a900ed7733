/- What each function of the program comes to: part 1. -/
import Derived.Test.YtfooilbkiclplaaTy
namespace Go.Ovl
open Go Go.Ab
set_option maxRecDepth 100000
/-! ### overlay/overlaylaw08.short -/
noncomputable def F_l08_short (s_Halves_0 : ByteArray) (s_Halves_1 : ByteArray) (s_Select : Int) : Option ((Bool × Unit) × Unit) :=
  Option.bind (bif (decide (((ByteArray.size s_Halves_0 : Nat) : Int) ≤ (2000 : Int))) then
        some (((decide (((ByteArray.size s_Halves_1 : Nat) : Int) ≤ (2000 : Int))), ()), ())
      else
        some ((false, ()), ())) fun y1 =>
  some ((y1.1.1, ()), ())
/-! ### overlay/store.IsStore -/
noncomputable def F_store_IsStore (room : Int) (s_Halves_0 : ByteArray) (s_Halves_1 : ByteArray) (s_Select : Int) : Option ((Bool × Unit) × Unit) :=
  Option.bind (bif (decide ((1 : Int) ≤ room)) then
        bif (decide (room ≤ (65536 : Int))) then
          bif (decide (((ByteArray.size s_Halves_0 : Nat) : Int) ≤ room)) then
            bif (decide (((ByteArray.size s_Halves_1 : Nat) : Int) ≤ room)) then
              bif (s_Select == (0 : Int)) then
                some ((true, ()), ())
              else
                some (((s_Select == (1 : Int)), ()), ())
            else
              some ((false, ()), ())
          else
            some ((false, ()), ())
        else
          some ((false, ()), ())
      else
        some ((false, ()), ())) fun y1 =>
  some ((y1.1.1, ()), ())
/-! ### overlay/store.check -/
noncomputable def F_store_check (room : Int) (s_Halves_0 : ByteArray) (s_Halves_1 : ByteArray) (s_Select : Int) (half : Int) (budget : Int) : Option ((Int × Unit) × Unit) :=
  (F_store_IsStore room s_Halves_0 s_Halves_1 s_Select).bind fun y1 =>
  bif (!y1.1.1) then
    some (((1 : Int), ()), ())
  else
    Option.bind (bif (half != (0 : Int)) then
          some ((budget, (half != (1 : Int)), ()), ())
        else
          some ((budget, false, ()), ())) fun y2 =>
    bif y2.1.2.1 then
      some (((2 : Int), ()), ())
    else
      bif (decide (y2.1.1 < (0 : Int))) then
        some (((2 : Int), ()), ())
      else
        some (((0 : Int), ()), ())
/-! ### overlay/store.Write -/
noncomputable def F_store_Write (room : Int) (s_Halves_0 : ByteArray) (s_Halves_1 : ByteArray) (s_Select : Int) (half : Int) (data : ByteArray) (budget : Int) : Option ((Unit × Int × Int × Unit) × ((ByteArray × ByteArray × Int × Unit) × Unit)) :=
  (F_store_check room s_Halves_0 s_Halves_1 s_Select half budget).bind fun y1 =>
  bif (y1.1.1 != (0 : Int)) then
    some (((), (0 : Int), y1.1.1, ()), (((ByteArray.mk (Array.mk [])), (ByteArray.mk (Array.mk [])), (0 : Int), ()), ()))
  else
    bif (Go.Ab.inB half 2) then
      bif (decide ((Go.IntKind.wrap Go.IntKind.i64 (room - ((ByteArray.size (List.getD [s_Halves_0, s_Halves_1] (Int.toNat half) (ByteArray.mk (Array.mk []))) : Nat) : Int))) < ((ByteArray.size data : Nat) : Int))) then
        some (((), (0 : Int), (7 : Int), ()), (((ByteArray.mk (Array.mk [])), (ByteArray.mk (Array.mk [])), (0 : Int), ()), ()))
      else
        bif (decide (budget < ((ByteArray.size data : Nat) : Int))) then
          bif (Go.Ab.inB half 2) then
            let z0 : ByteArray := (List.getD [s_Halves_0, s_Halves_1] (Int.toNat half) (ByteArray.mk (Array.mk [])))
            bif ((decide ((0 : Int) ≤ budget)) && (decide (budget ≤ (((ByteArray.size data) : Nat) : Int)))) then
              let z1 : ByteArray := (ByteArray.extract data 0 (Int.toNat budget))
              bif (Nat.ble ((ByteArray.size z0) + (ByteArray.size z1)) 4611686018427387904) then
                let z2 : ByteArray := (z0 ++ z1)
                bif (Go.Ab.inB half 2) then
                  let z3 : Nat := (Int.toNat half)
                  some (((), (0 : Int), (8 : Int), ()), (((bif (Nat.beq z3 0) then z2 else s_Halves_0), (bif (Nat.beq z3 1) then z2 else s_Halves_1), s_Select, ()), ()))
                else
                  none
              else
                none
            else
              none
          else
            none
        else
          bif (Go.Ab.inB half 2) then
            let z4 : ByteArray := (List.getD [s_Halves_0, s_Halves_1] (Int.toNat half) (ByteArray.mk (Array.mk [])))
            bif (Nat.ble ((ByteArray.size z4) + (ByteArray.size data)) 4611686018427387904) then
              let z5 : ByteArray := (z4 ++ data)
              bif (Go.Ab.inB half 2) then
                let z6 : Nat := (Int.toNat half)
                some (((), (Go.IntKind.wrap Go.IntKind.i64 (budget - ((ByteArray.size data : Nat) : Int))), (0 : Int), ()), (((bif (Nat.beq z6 0) then z5 else s_Halves_0), (bif (Nat.beq z6 1) then z5 else s_Halves_1), s_Select, ()), ()))
              else
                none
            else
              none
          else
            none
    else
      none
/-! ### overlay/store.Current -/
noncomputable def F_store_Current (s_Halves_0 : ByteArray) (s_Halves_1 : ByteArray) (s_Select : Int) : Option ((ByteArray × Unit) × Unit) :=
  bif (s_Select == (1 : Int)) then
    some ((s_Halves_1, ()), ())
  else
    some ((s_Halves_0, ()), ())
/-! ### overlay/overlaylaw08.sane -/
noncomputable def F_l08_sane  : Option ((Bool × Unit) × Unit) :=
  (F_store_Write (5 : Int) (ByteArray.mk (Array.mk [])) (ByteArray.mk (Array.mk [])) (0 : Int) (1 : Int) (ByteArray.mk (Array.mk [(97 : UInt8), (98 : UInt8), (99 : UInt8)])) (2 : Int)).bind fun y1 =>
  (F_store_Write (5 : Int) y1.2.1.1 y1.2.1.2.1 y1.2.1.2.2.1 (1 : Int) (ByteArray.mk (Array.mk [(97 : UInt8), (98 : UInt8), (99 : UInt8), (100 : UInt8)])) (9 : Int)).bind fun y2 =>
  Option.bind (bif (y1.1.2.2.1 == (8 : Int)) then
        bif (y1.1.2.1 == (0 : Int)) then
          bif (Go.Ab.eqB y1.2.1.2.1 (ByteArray.mk (Array.mk [(97 : UInt8), (98 : UInt8)]))) then
            bif (y2.1.2.2.1 == (7 : Int)) then
              (F_store_Current y1.2.1.1 y1.2.1.2.1 y1.2.1.2.2.1).bind fun y3 =>
              some (((Go.Ab.eqB y3.1.1 (ByteArray.mk (Array.mk []))), ()), ())
            else
              some ((false, ()), ())
          else
            some ((false, ()), ())
        else
          some ((false, ()), ())
      else
        some ((false, ()), ())) fun y4 =>
  some ((y4.1.1, ()), ())
/-! ### overlay/store.Erase$1 -/
noncomputable def F_store_Erase_1 (s_Halves_0 : ByteArray) (s_Halves_1 : ByteArray) (s_Select : Int) (b1 : Int) : Option (Unit × ((ByteArray × ByteArray × Int × Unit) × (Int × Unit) × Unit)) :=
  bif (Go.Ab.inB b1 2) then
    let z0 : Nat := (Int.toNat b1)
    some ((), (((bif (Nat.beq z0 0) then (ByteArray.mk (Array.mk [])) else s_Halves_0), (bif (Nat.beq z0 1) then (ByteArray.mk (Array.mk [])) else s_Halves_1), s_Select, ()), (b1, ()), ()))
  else
    none
/-! ### overlay/store.unit -/
noncomputable def F_store_unit_store_Erase_1 (room : Int) (s_Halves_0 : ByteArray) (s_Halves_1 : ByteArray) (s_Select : Int) (half : Int) (budget : Int) (b0 : Int) : Option ((Unit × Int × Int × Unit) × ((ByteArray × ByteArray × Int × Unit) × (Int × Unit) × Unit)) :=
  (F_store_check room s_Halves_0 s_Halves_1 s_Select half budget).bind fun y1 =>
  bif (y1.1.1 != (0 : Int)) then
    some (((), (0 : Int), y1.1.1, ()), (((ByteArray.mk (Array.mk [])), (ByteArray.mk (Array.mk [])), (0 : Int), ()), (b0, ()), ()))
  else
    bif (budget == (0 : Int)) then
      some (((), (0 : Int), (8 : Int), ()), ((s_Halves_0, s_Halves_1, s_Select, ()), (b0, ()), ()))
    else
      (F_store_Erase_1 s_Halves_0 s_Halves_1 s_Select b0).bind fun y2 =>
      some (((), (Go.IntKind.wrap Go.IntKind.i64 (budget - (1 : Int))), (0 : Int), ()), ((y2.2.1.1, y2.2.1.2.1, y2.2.1.2.2.1, ()), (y2.2.2.1.1, ()), ()))
/-! ### overlay/store.Erase -/
noncomputable def F_store_Erase (room : Int) (s_Halves_0 : ByteArray) (s_Halves_1 : ByteArray) (s_Select : Int) (half : Int) (budget : Int) : Option ((Unit × Int × Int × Unit) × ((ByteArray × ByteArray × Int × Unit) × Unit)) :=
  (F_store_unit_store_Erase_1 room s_Halves_0 s_Halves_1 s_Select half budget half).bind fun y1 =>
  some (((), y1.1.2.1, y1.1.2.2.1, ()), ((y1.2.1.1, y1.2.1.2.1, y1.2.1.2.2.1, ()), ()))
/-! ### overlay/store.Choose$1 -/
noncomputable def F_store_Choose_1 (s_Halves_0 : ByteArray) (s_Halves_1 : ByteArray) (s_Select : Int) (b1 : Int) : Option (Unit × ((ByteArray × ByteArray × Int × Unit) × (Int × Unit) × Unit)) :=
  some ((), ((s_Halves_0, s_Halves_1, b1, ()), (b1, ()), ()))
/-! ### overlay/store.unit -/
noncomputable def F_store_unit_store_Choose_1 (room : Int) (s_Halves_0 : ByteArray) (s_Halves_1 : ByteArray) (s_Select : Int) (half : Int) (budget : Int) (b0 : Int) : Option ((Unit × Int × Int × Unit) × ((ByteArray × ByteArray × Int × Unit) × (Int × Unit) × Unit)) :=
  (F_store_check room s_Halves_0 s_Halves_1 s_Select half budget).bind fun y1 =>
  bif (y1.1.1 != (0 : Int)) then
    some (((), (0 : Int), y1.1.1, ()), (((ByteArray.mk (Array.mk [])), (ByteArray.mk (Array.mk [])), (0 : Int), ()), (b0, ()), ()))
  else
    bif (budget == (0 : Int)) then
      some (((), (0 : Int), (8 : Int), ()), ((s_Halves_0, s_Halves_1, s_Select, ()), (b0, ()), ()))
    else
      (F_store_Choose_1 s_Halves_0 s_Halves_1 s_Select b0).bind fun y2 =>
      some (((), (Go.IntKind.wrap Go.IntKind.i64 (budget - (1 : Int))), (0 : Int), ()), ((y2.2.1.1, y2.2.1.2.1, y2.2.1.2.2.1, ()), (y2.2.2.1.1, ()), ()))
/-! ### overlay/store.Choose -/
noncomputable def F_store_Choose (room : Int) (s_Halves_0 : ByteArray) (s_Halves_1 : ByteArray) (s_Select : Int) (half : Int) (budget : Int) : Option ((Unit × Int × Int × Unit) × ((ByteArray × ByteArray × Int × Unit) × Unit)) :=
  (F_store_unit_store_Choose_1 room s_Halves_0 s_Halves_1 s_Select half budget half).bind fun y1 =>
  some (((), y1.1.2.1, y1.1.2.2.1, ()), ((y1.2.1.1, y1.2.1.2.1, y1.2.1.2.2.1, ()), ()))
/-! ### overlay/overlaylaw08.StoreKeeps -/
noncomputable def F_l08_StoreKeeps (s_Halves_0 : ByteArray) (s_Halves_1 : ByteArray) (s_Select : Int) (data : ByteArray) (x_f0 : Int) (x_f1 : Int) (x_f2 : Int) : Option ((Bool × Unit) × Unit) :=
  (F_l08_short s_Halves_0 s_Halves_1 s_Select).bind fun y1 =>
  bif (!y1.1.1) then
    (F_l08_sane).bind fun y2 =>
    some ((y2.1.1, ()), ())
  else
    bif (decide ((500 : Int) < ((ByteArray.size data : Nat) : Int))) then
      (F_l08_sane).bind fun y3 =>
      some ((y3.1.1, ()), ())
    else
      let z0 : Int := (Go.IntKind.wrap Go.IntKind.i64 (Int.tmod x_f0 (2 : Int)))
      let z1 : Int := (Go.IntKind.wrap Go.IntKind.i64 (Int.tmod x_f1 (2 : Int)))
      let z2 : Int := (Go.IntKind.wrap Go.IntKind.i64 x_f2)
      (F_store_Write (9000 : Int) s_Halves_0 s_Halves_1 z0 z1 data z2).bind fun y4 =>
      (F_store_Erase (9000 : Int) s_Halves_0 s_Halves_1 z0 z1 z2).bind fun y5 =>
      (F_store_Choose (9000 : Int) s_Halves_0 s_Halves_1 z0 z1 z2).bind fun y6 =>
      Option.bind (bif (y4.1.2.2.1 != (0 : Int)) then
            bif (y4.1.2.2.1 != (8 : Int)) then
              some (((), z1, (), (), y5.1.2.2.1, (), true, ()), ((s_Halves_0, s_Halves_1, z0, ()), (y4.2.1.1, y4.2.1.2.1, y4.2.1.2.2.1, ()), (y5.2.1.1, y5.2.1.2.1, y5.2.1.2.2.1, ()), (y6.2.1.1, y6.2.1.2.1, y6.2.1.2.2.1, ()), ()))
            else
              bif (y5.1.2.2.1 != y6.1.2.2.1) then
                some (((), z1, (), (), y5.1.2.2.1, (), true, ()), ((s_Halves_0, s_Halves_1, z0, ()), (y4.2.1.1, y4.2.1.2.1, y4.2.1.2.2.1, ()), (y5.2.1.1, y5.2.1.2.1, y5.2.1.2.2.1, ()), (y6.2.1.1, y6.2.1.2.1, y6.2.1.2.2.1, ()), ()))
              else
                some (((), z1, (), (), y5.1.2.2.1, (), (!((y5.1.2.2.1 == (0 : Int)) == (decide ((0 : Int) < z2)))), ()), ((s_Halves_0, s_Halves_1, z0, ()), (y4.2.1.1, y4.2.1.2.1, y4.2.1.2.2.1, ()), (y5.2.1.1, y5.2.1.2.1, y5.2.1.2.2.1, ()), (y6.2.1.1, y6.2.1.2.1, y6.2.1.2.2.1, ()), ()))
          else
            bif (y5.1.2.2.1 != y6.1.2.2.1) then
              some (((), z1, (), (), y5.1.2.2.1, (), true, ()), ((s_Halves_0, s_Halves_1, z0, ()), (y4.2.1.1, y4.2.1.2.1, y4.2.1.2.2.1, ()), (y5.2.1.1, y5.2.1.2.1, y5.2.1.2.2.1, ()), (y6.2.1.1, y6.2.1.2.1, y6.2.1.2.2.1, ()), ()))
            else
              some (((), z1, (), (), y5.1.2.2.1, (), (!((y5.1.2.2.1 == (0 : Int)) == (decide ((0 : Int) < z2)))), ()), ((s_Halves_0, s_Halves_1, z0, ()), (y4.2.1.1, y4.2.1.2.1, y4.2.1.2.2.1, ()), (y5.2.1.1, y5.2.1.2.1, y5.2.1.2.2.1, ()), (y6.2.1.1, y6.2.1.2.1, y6.2.1.2.2.1, ()), ()))) fun y7 =>
      bif y7.1.2.2.2.2.2.2.1 then
        some ((false, ()), ())
      else
        let z3 : Int := (Go.IntKind.wrap Go.IntKind.i64 ((1 : Int) - y7.1.2.1))
        bif (Go.Ab.inB z3 2) then
          let z4 : Int := (Go.IntKind.wrap Go.IntKind.i64 ((1 : Int) - y7.1.2.1))
          bif (Go.Ab.inB z4 2) then
            bif (!(Go.Ab.eqB (List.getD [y7.2.2.1.1, y7.2.2.1.2.1] (Int.toNat z3) (ByteArray.mk (Array.mk []))) (List.getD [y7.2.1.1, y7.2.1.2.1] (Int.toNat z4) (ByteArray.mk (Array.mk []))))) then
              some ((false, ()), ())
            else
              let z5 : Int := (Go.IntKind.wrap Go.IntKind.i64 ((1 : Int) - y7.1.2.1))
              bif (Go.Ab.inB z5 2) then
                let z6 : Int := (Go.IntKind.wrap Go.IntKind.i64 ((1 : Int) - y7.1.2.1))
                bif (Go.Ab.inB z6 2) then
                  bif (!(Go.Ab.eqB (List.getD [y7.2.2.2.1.1, y7.2.2.2.1.2.1] (Int.toNat z5) (ByteArray.mk (Array.mk []))) (List.getD [y7.2.1.1, y7.2.1.2.1] (Int.toNat z6) (ByteArray.mk (Array.mk []))))) then
                    some ((false, ()), ())
                  else
                    bif (y7.2.2.1.2.2.1 != y7.2.1.2.2.1) then
                      some ((false, ()), ())
                    else
                      bif (y7.2.2.2.1.2.2.1 != y7.2.1.2.2.1) then
                        some ((false, ()), ())
                      else
                        bif (!((Go.Ab.eqB y7.2.2.2.2.1.1 y7.2.1.1) && ((Go.Ab.eqB y7.2.2.2.2.1.2.1 y7.2.1.2.1) && true))) then
                          some ((false, ()), ())
                        else
                          Option.bind (bif (y7.1.2.2.2.2.1 != (0 : Int)) then
                                some ((true, ()), ())
                              else
                                bif (Go.Ab.inB y7.1.2.1 2) then
                                  bif (Go.Ab.eqB (List.getD [y7.2.2.2.1.1, y7.2.2.2.1.2.1] (Int.toNat y7.1.2.1) (ByteArray.mk (Array.mk []))) (ByteArray.mk (Array.mk []))) then
                                    (F_store_Current y7.2.2.2.2.1.1 y7.2.2.2.2.1.2.1 y7.2.2.2.2.1.2.2.1).bind fun y8 =>
                                    bif (Go.Ab.inB y7.1.2.1 2) then
                                      bif (Go.Ab.eqB y8.1.1 (List.getD [y7.2.1.1, y7.2.1.2.1] (Int.toNat y7.1.2.1) (ByteArray.mk (Array.mk [])))) then
                                        (F_l08_sane).bind fun y9 =>
                                        some ((y9.1.1, ()), ())
                                      else
                                        some ((false, ()), ())
                                    else
                                      none
                                  else
                                    some ((false, ()), ())
                                else
                                  none) fun y10 =>
                          some ((y10.1.1, ()), ())
                else
                  none
              else
                none
          else
            none
        else
          none
/-! ### overlay/overlayref08.IsStore -/
noncomputable def F_r08_IsStore (room : Int) (s_Halves_0 : ByteArray) (s_Halves_1 : ByteArray) (s_Select : Int) : Option ((Bool × Unit) × Unit) :=
  Option.bind (bif (decide ((1 : Int) ≤ room)) then
        bif (decide (room ≤ (65536 : Int))) then
          bif (decide (((ByteArray.size s_Halves_0 : Nat) : Int) ≤ room)) then
            bif (decide (((ByteArray.size s_Halves_1 : Nat) : Int) ≤ room)) then
              bif (s_Select == (0 : Int)) then
                some ((true, ()), ())
              else
                some (((s_Select == (1 : Int)), ()), ())
            else
              some ((false, ()), ())
          else
            some ((false, ()), ())
        else
          some ((false, ()), ())
      else
        some ((false, ()), ())) fun y1 =>
  some ((y1.1.1, ()), ())
/-! ### overlay/overlayref08.check -/
noncomputable def F_r08_check (room : Int) (s_Halves_0 : ByteArray) (s_Halves_1 : ByteArray) (s_Select : Int) (half : Int) (budget : Int) : Option ((Int × Unit) × Unit) :=
  (F_r08_IsStore room s_Halves_0 s_Halves_1 s_Select).bind fun y1 =>
  bif (!y1.1.1) then
    some (((1 : Int), ()), ())
  else
    Option.bind (bif (half != (0 : Int)) then
          bif (half != (1 : Int)) then
            some ((true, ()), ())
          else
            some (((decide (budget < (0 : Int))), ()), ())
        else
          some (((decide (budget < (0 : Int))), ()), ())) fun y2 =>
    bif y2.1.1 then
      some (((2 : Int), ()), ())
    else
      some (((0 : Int), ()), ())
/-! ### overlay/overlayref08.Choose -/
noncomputable def F_r08_Choose (room : Int) (s_Halves_0 : ByteArray) (s_Halves_1 : ByteArray) (s_Select : Int) (half : Int) (budget : Int) : Option ((Unit × Int × Int × Unit) × ((ByteArray × ByteArray × Int × Unit) × Unit)) :=
  (F_r08_check room s_Halves_0 s_Halves_1 s_Select half budget).bind fun y1 =>
  bif (y1.1.1 != (0 : Int)) then
    some (((), (0 : Int), y1.1.1, ()), (((ByteArray.mk (Array.mk [])), (ByteArray.mk (Array.mk [])), (0 : Int), ()), ()))
  else
    bif (budget == (0 : Int)) then
      some (((), (0 : Int), (8 : Int), ()), ((s_Halves_0, s_Halves_1, s_Select, ()), ()))
    else
      some (((), (Go.IntKind.wrap Go.IntKind.i64 (budget - (1 : Int))), (0 : Int), ()), ((s_Halves_0, s_Halves_1, half, ()), ()))
/-! ### overlay/overlayref08.Current -/
noncomputable def F_r08_Current (s_Halves_0 : ByteArray) (s_Halves_1 : ByteArray) (s_Select : Int) : Option ((ByteArray × Unit) × Unit) :=
  bif (s_Select == (1 : Int)) then
    some ((s_Halves_1, ()), ())
  else
    some ((s_Halves_0, ()), ())
/-! ### overlay/overlayref08.Erase -/
noncomputable def F_r08_Erase (room : Int) (s_Halves_0 : ByteArray) (s_Halves_1 : ByteArray) (s_Select : Int) (half : Int) (budget : Int) : Option ((Unit × Int × Int × Unit) × ((ByteArray × ByteArray × Int × Unit) × Unit)) :=
  (F_r08_check room s_Halves_0 s_Halves_1 s_Select half budget).bind fun y1 =>
  bif (y1.1.1 != (0 : Int)) then
    some (((), (0 : Int), y1.1.1, ()), (((ByteArray.mk (Array.mk [])), (ByteArray.mk (Array.mk [])), (0 : Int), ()), ()))
  else
    bif (budget == (0 : Int)) then
      some (((), (0 : Int), (8 : Int), ()), ((s_Halves_0, s_Halves_1, s_Select, ()), ()))
    else
      bif (Go.Ab.inB half 2) then
        let z0 : Nat := (Int.toNat half)
        some (((), (Go.IntKind.wrap Go.IntKind.i64 (budget - (1 : Int))), (0 : Int), ()), (((bif (Nat.beq z0 0) then (ByteArray.mk (Array.mk [])) else s_Halves_0), (bif (Nat.beq z0 1) then (ByteArray.mk (Array.mk [])) else s_Halves_1), s_Select, ()), ()))
      else
        none
/-! ### overlay/overlayref08.Write -/
noncomputable def R_r08_Write_0 (half : Int) (data : ByteArray) (budget : Int) (i : Int) (s_Halves_0 : ByteArray) (s_Halves_1 : ByteArray) (s_Select : Int) (b10_Halves_0 : ByteArray) (b10_Halves_1 : ByteArray) (b10_Select : Int) : Option (Sum ((Int × ByteArray × Int × Unit × Unit × Int × Unit) × ((ByteArray × ByteArray × Int × Unit) × (ByteArray × ByteArray × Int × Unit) × Unit)) (((Int × Unit × Unit × Unit) × ((ByteArray × ByteArray × Int × Unit) × (ByteArray × ByteArray × Int × Unit) × Unit)) ⊕ ((Unit × Int × Int × Unit) × ((ByteArray × ByteArray × Int × Unit) × Unit)))) :=
  bif (decide (i < ((ByteArray.size data : Nat) : Int))) then
    bif (budget == (0 : Int)) then
      some (Sum.inr (Sum.inr (((), (0 : Int), (8 : Int), ()), ((s_Halves_0, s_Halves_1, s_Select, ()), ()))))
    else
      bif (Go.Ab.inB half 2) then
        let z0 : ByteArray := (List.getD [s_Halves_0, s_Halves_1] (Int.toNat half) (ByteArray.mk (Array.mk [])))
        let z1 : Int := (Go.IntKind.wrap Go.IntKind.i64 (i + (1 : Int)))
        bif ((decide ((0 : Int) ≤ z1)) && (decide (z1 ≤ (((ByteArray.size data) : Nat) : Int)))) then
          bif ((decide ((0 : Int) ≤ i)) && (decide (i ≤ (((Int.toNat z1) : Nat) : Int)))) then
            let z2 : ByteArray := (ByteArray.extract data (Int.toNat i) (Int.toNat z1))
            bif (Nat.ble ((ByteArray.size z0) + (ByteArray.size z2)) 4611686018427387904) then
              let z3 : ByteArray := (z0 ++ z2)
              bif (Go.Ab.inB half 2) then
                let z4 : Nat := (Int.toNat half)
                some (Sum.inl ((half, data, (Go.IntKind.wrap Go.IntKind.i64 (budget - (1 : Int))), (), (), (Go.IntKind.wrap Go.IntKind.i64 (i + (1 : Int))), ()), (((bif (Nat.beq z4 0) then z3 else s_Halves_0), (bif (Nat.beq z4 1) then z3 else s_Halves_1), s_Select, ()), (b10_Halves_0, b10_Halves_1, b10_Select, ()), ())))
              else
                none
            else
              none
          else
            none
        else
          none
      else
        none
  else
    some (Sum.inr (Sum.inl ((budget, (), (), ()), ((s_Halves_0, s_Halves_1, s_Select, ()), (b10_Halves_0, b10_Halves_1, b10_Select, ()), ()))))
noncomputable def L_r08_Write_0 : ((Int × ByteArray × Int × Unit × Unit × Int × Unit) × ((ByteArray × ByteArray × Int × Unit) × (ByteArray × ByteArray × Int × Unit) × Unit)) → Option (((Int × Unit × Unit × Unit) × ((ByteArray × ByteArray × Int × Unit) × (ByteArray × ByteArray × Int × Unit) × Unit)) ⊕ ((Unit × Int × Int × Unit) × ((ByteArray × ByteArray × Int × Unit) × Unit))) := iter (fun x => R_r08_Write_0 x.1.1 x.1.2.1 x.1.2.2.1 x.1.2.2.2.2.2.1 x.2.1.1 x.2.1.2.1 x.2.1.2.2.1 x.2.2.1.1 x.2.2.1.2.1 x.2.2.1.2.2.1) fuel
noncomputable def F_r08_Write (room : Int) (s_Halves_0 : ByteArray) (s_Halves_1 : ByteArray) (s_Select : Int) (half : Int) (data : ByteArray) (budget : Int) : Option ((Unit × Int × Int × Unit) × ((ByteArray × ByteArray × Int × Unit) × Unit)) :=
  (F_r08_check room s_Halves_0 s_Halves_1 s_Select half budget).bind fun y1 =>
  bif (y1.1.1 != (0 : Int)) then
    some (((), (0 : Int), y1.1.1, ()), (((ByteArray.mk (Array.mk [])), (ByteArray.mk (Array.mk [])), (0 : Int), ()), ()))
  else
    bif (Go.Ab.inB half 2) then
      bif (decide (room < (Go.IntKind.wrap Go.IntKind.i64 (((ByteArray.size (List.getD [s_Halves_0, s_Halves_1] (Int.toNat half) (ByteArray.mk (Array.mk []))) : Nat) : Int) + ((ByteArray.size data : Nat) : Int))))) then
        some (((), (0 : Int), (7 : Int), ()), (((ByteArray.mk (Array.mk [])), (ByteArray.mk (Array.mk [])), (0 : Int), ()), ()))
      else
        (L_r08_Write_0 ((half, data, budget, (), (), (0 : Int), ()), ((s_Halves_0, s_Halves_1, s_Select, ()), ((ByteArray.mk (Array.mk [])), (ByteArray.mk (Array.mk [])), (0 : Int), ()), ()))).bind fun y2 =>
        (match y2 with
        | .inl y3 =>
          some (((), y3.1.1, (0 : Int), ()), ((y3.2.1.1, y3.2.1.2.1, y3.2.1.2.2.1, ()), ()))
        | .inr y3 =>
          some (((), y3.1.2.1, y3.1.2.2.1, ()), ((y3.2.1.1, y3.2.1.2.1, y3.2.1.2.2.1, ()), ())))
    else
      none
end Go.Ovl
