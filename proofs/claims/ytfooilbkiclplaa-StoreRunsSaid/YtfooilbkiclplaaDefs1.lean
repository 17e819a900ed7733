/- What each function of the program comes to: part 1. -/
import Derived.Test.YtfooilbkiclplaaTy
namespace Go.Ovl
open Go Go.Ab
set_option maxRecDepth 100000
/-! ### overlay/store.IsStore -/
noncomputable def F_store_IsStore (room : Int) (s_Halves_0 : ByteArray) (s_Halves_1 : ByteArray) (s_Select : Int) : Option ((Bool × Unit) × Unit) :=
  Option.bind (bif (decide ((1 : Int) ≤ room)) then
        bif (decide (room ≤ (65536 : Int))) then
          bif (decide (((ByteArray.size s_Halves_0 : Nat) : Int) ≤ room)) then
            bif (decide (((ByteArray.size s_Halves_1 : Nat) : Int) ≤ room)) then
              bif (s_Select == (0 : Int)) then
                some ((true, ()), ())
              else
                some (((s_Select == (1 : Int)), ()), ())
            else
              some ((false, ()), ())
          else
            some ((false, ()), ())
        else
          some ((false, ()), ())
      else
        some ((false, ()), ())) fun y1 =>
  some ((y1.1.1, ()), ())
/-! ### overlay/store.check -/
noncomputable def F_store_check (room : Int) (s_Halves_0 : ByteArray) (s_Halves_1 : ByteArray) (s_Select : Int) (half : Int) (budget : Int) : Option ((Int × Unit) × Unit) :=
  (F_store_IsStore room s_Halves_0 s_Halves_1 s_Select).bind fun y1 =>
  bif (!y1.1.1) then
    some (((1 : Int), ()), ())
  else
    Option.bind (bif (half != (0 : Int)) then
          some ((budget, (half != (1 : Int)), ()), ())
        else
          some ((budget, false, ()), ())) fun y2 =>
    bif y2.1.2.1 then
      some (((2 : Int), ()), ())
    else
      bif (decide (y2.1.1 < (0 : Int))) then
        some (((2 : Int), ()), ())
      else
        some (((0 : Int), ()), ())
/-! ### overlay/store.Erase$1 -/
noncomputable def F_store_Erase_1 (s_Halves_0 : ByteArray) (s_Halves_1 : ByteArray) (s_Select : Int) (b1 : Int) : Option (Unit × ((ByteArray × ByteArray × Int × Unit) × (Int × Unit) × Unit)) :=
  bif (Go.Ab.inB b1 2) then
    let z0 : Nat := (Int.toNat b1)
    some ((), (((bif (Nat.beq z0 0) then (ByteArray.mk (Array.mk [])) else s_Halves_0), (bif (Nat.beq z0 1) then (ByteArray.mk (Array.mk [])) else s_Halves_1), s_Select, ()), (b1, ()), ()))
  else
    none
/-! ### overlay/store.unit -/
noncomputable def F_store_unit_store_Erase_1 (room : Int) (s_Halves_0 : ByteArray) (s_Halves_1 : ByteArray) (s_Select : Int) (half : Int) (budget : Int) (b0 : Int) : Option ((Unit × Int × Int × Unit) × ((ByteArray × ByteArray × Int × Unit) × (Int × Unit) × Unit)) :=
  (F_store_check room s_Halves_0 s_Halves_1 s_Select half budget).bind fun y1 =>
  bif (y1.1.1 != (0 : Int)) then
    some (((), (0 : Int), y1.1.1, ()), (((ByteArray.mk (Array.mk [])), (ByteArray.mk (Array.mk [])), (0 : Int), ()), (b0, ()), ()))
  else
    bif (budget == (0 : Int)) then
      some (((), (0 : Int), (8 : Int), ()), ((s_Halves_0, s_Halves_1, s_Select, ()), (b0, ()), ()))
    else
      (F_store_Erase_1 s_Halves_0 s_Halves_1 s_Select b0).bind fun y2 =>
      some (((), (Go.IntKind.wrap Go.IntKind.i64 (budget - (1 : Int))), (0 : Int), ()), ((y2.2.1.1, y2.2.1.2.1, y2.2.1.2.2.1, ()), (y2.2.2.1.1, ()), ()))
/-! ### overlay/store.Erase -/
noncomputable def F_store_Erase (room : Int) (s_Halves_0 : ByteArray) (s_Halves_1 : ByteArray) (s_Select : Int) (half : Int) (budget : Int) : Option ((Unit × Int × Int × Unit) × ((ByteArray × ByteArray × Int × Unit) × Unit)) :=
  (F_store_unit_store_Erase_1 room s_Halves_0 s_Halves_1 s_Select half budget half).bind fun y1 =>
  some (((), y1.1.2.1, y1.1.2.2.1, ()), ((y1.2.1.1, y1.2.1.2.1, y1.2.1.2.2.1, ()), ()))
/-! ### overlay/store.Choose$1 -/
noncomputable def F_store_Choose_1 (s_Halves_0 : ByteArray) (s_Halves_1 : ByteArray) (s_Select : Int) (b1 : Int) : Option (Unit × ((ByteArray × ByteArray × Int × Unit) × (Int × Unit) × Unit)) :=
  some ((), ((s_Halves_0, s_Halves_1, b1, ()), (b1, ()), ()))
/-! ### overlay/store.unit -/
noncomputable def F_store_unit_store_Choose_1 (room : Int) (s_Halves_0 : ByteArray) (s_Halves_1 : ByteArray) (s_Select : Int) (half : Int) (budget : Int) (b0 : Int) : Option ((Unit × Int × Int × Unit) × ((ByteArray × ByteArray × Int × Unit) × (Int × Unit) × Unit)) :=
  (F_store_check room s_Halves_0 s_Halves_1 s_Select half budget).bind fun y1 =>
  bif (y1.1.1 != (0 : Int)) then
    some (((), (0 : Int), y1.1.1, ()), (((ByteArray.mk (Array.mk [])), (ByteArray.mk (Array.mk [])), (0 : Int), ()), (b0, ()), ()))
  else
    bif (budget == (0 : Int)) then
      some (((), (0 : Int), (8 : Int), ()), ((s_Halves_0, s_Halves_1, s_Select, ()), (b0, ()), ()))
    else
      (F_store_Choose_1 s_Halves_0 s_Halves_1 s_Select b0).bind fun y2 =>
      some (((), (Go.IntKind.wrap Go.IntKind.i64 (budget - (1 : Int))), (0 : Int), ()), ((y2.2.1.1, y2.2.1.2.1, y2.2.1.2.2.1, ()), (y2.2.2.1.1, ()), ()))
/-! ### overlay/store.Choose -/
noncomputable def F_store_Choose (room : Int) (s_Halves_0 : ByteArray) (s_Halves_1 : ByteArray) (s_Select : Int) (half : Int) (budget : Int) : Option ((Unit × Int × Int × Unit) × ((ByteArray × ByteArray × Int × Unit) × Unit)) :=
  (F_store_unit_store_Choose_1 room s_Halves_0 s_Halves_1 s_Select half budget half).bind fun y1 =>
  some (((), y1.1.2.1, y1.1.2.2.1, ()), ((y1.2.1.1, y1.2.1.2.1, y1.2.1.2.2.1, ()), ()))
/-! ### overlay/store.Write -/
noncomputable def F_store_Write (room : Int) (s_Halves_0 : ByteArray) (s_Halves_1 : ByteArray) (s_Select : Int) (half : Int) (data : ByteArray) (budget : Int) : Option ((Unit × Int × Int × Unit) × ((ByteArray × ByteArray × Int × Unit) × Unit)) :=
  (F_store_check room s_Halves_0 s_Halves_1 s_Select half budget).bind fun y1 =>
  bif (y1.1.1 != (0 : Int)) then
    some (((), (0 : Int), y1.1.1, ()), (((ByteArray.mk (Array.mk [])), (ByteArray.mk (Array.mk [])), (0 : Int), ()), ()))
  else
    bif (Go.Ab.inB half 2) then
      bif (decide ((Go.IntKind.wrap Go.IntKind.i64 (room - ((ByteArray.size (List.getD [s_Halves_0, s_Halves_1] (Int.toNat half) (ByteArray.mk (Array.mk []))) : Nat) : Int))) < ((ByteArray.size data : Nat) : Int))) then
        some (((), (0 : Int), (7 : Int), ()), (((ByteArray.mk (Array.mk [])), (ByteArray.mk (Array.mk [])), (0 : Int), ()), ()))
      else
        bif (decide (budget < ((ByteArray.size data : Nat) : Int))) then
          bif (Go.Ab.inB half 2) then
            let z0 : ByteArray := (List.getD [s_Halves_0, s_Halves_1] (Int.toNat half) (ByteArray.mk (Array.mk [])))
            bif ((decide ((0 : Int) ≤ budget)) && (decide (budget ≤ (((ByteArray.size data) : Nat) : Int)))) then
              let z1 : ByteArray := (ByteArray.extract data 0 (Int.toNat budget))
              bif (Nat.ble ((ByteArray.size z0) + (ByteArray.size z1)) 4611686018427387904) then
                let z2 : ByteArray := (z0 ++ z1)
                bif (Go.Ab.inB half 2) then
                  let z3 : Nat := (Int.toNat half)
                  some (((), (0 : Int), (8 : Int), ()), (((bif (Nat.beq z3 0) then z2 else s_Halves_0), (bif (Nat.beq z3 1) then z2 else s_Halves_1), s_Select, ()), ()))
                else
                  none
              else
                none
            else
              none
          else
            none
        else
          bif (Go.Ab.inB half 2) then
            let z4 : ByteArray := (List.getD [s_Halves_0, s_Halves_1] (Int.toNat half) (ByteArray.mk (Array.mk [])))
            bif (Nat.ble ((ByteArray.size z4) + (ByteArray.size data)) 4611686018427387904) then
              let z5 : ByteArray := (z4 ++ data)
              bif (Go.Ab.inB half 2) then
                let z6 : Nat := (Int.toNat half)
                some (((), (Go.IntKind.wrap Go.IntKind.i64 (budget - ((ByteArray.size data : Nat) : Int))), (0 : Int), ()), (((bif (Nat.beq z6 0) then z5 else s_Halves_0), (bif (Nat.beq z6 1) then z5 else s_Halves_1), s_Select, ()), ()))
              else
                none
            else
              none
          else
            none
    else
      none
/-! ### overlay/store.Current -/
noncomputable def F_store_Current (s_Halves_0 : ByteArray) (s_Halves_1 : ByteArray) (s_Select : Int) : Option ((ByteArray × Unit) × Unit) :=
  bif (s_Select == (1 : Int)) then
    some ((s_Halves_1, ()), ())
  else
    some ((s_Halves_0, ()), ())
/-! ### overlay/overlaylaw08.sane -/
noncomputable def F_l08_sane  : Option ((Bool × Unit) × Unit) :=
  (F_store_Write (5 : Int) (ByteArray.mk (Array.mk [])) (ByteArray.mk (Array.mk [])) (0 : Int) (1 : Int) (ByteArray.mk (Array.mk [(97 : UInt8), (98 : UInt8), (99 : UInt8)])) (2 : Int)).bind fun y1 =>
  (F_store_Write (5 : Int) y1.2.1.1 y1.2.1.2.1 y1.2.1.2.2.1 (1 : Int) (ByteArray.mk (Array.mk [(97 : UInt8), (98 : UInt8), (99 : UInt8), (100 : UInt8)])) (9 : Int)).bind fun y2 =>
  Option.bind (bif (y1.1.2.2.1 == (8 : Int)) then
        bif (y1.1.2.1 == (0 : Int)) then
          bif (Go.Ab.eqB y1.2.1.2.1 (ByteArray.mk (Array.mk [(97 : UInt8), (98 : UInt8)]))) then
            bif (y2.1.2.2.1 == (7 : Int)) then
              (F_store_Current y1.2.1.1 y1.2.1.2.1 y1.2.1.2.2.1).bind fun y3 =>
              some (((Go.Ab.eqB y3.1.1 (ByteArray.mk (Array.mk []))), ()), ())
            else
              some ((false, ()), ())
          else
            some ((false, ()), ())
        else
          some ((false, ()), ())
      else
        some ((false, ()), ())) fun y4 =>
  some ((y4.1.1, ()), ())
/-! ### overlay/overlaylaw08.StoreRuns -/
noncomputable def R_l08_StoreRuns_1 (l : List (ByteArray)) (x_1 : List (Int)) (left : Int) (units : Int) (i : Int) (half : Int) (d : ByteArray) (e : Int) (k : Int) (s_Halves_0 : ByteArray) (s_Halves_1 : ByteArray) (s_Select : Int) (t_Halves_0 : ByteArray) (t_Halves_1 : ByteArray) (t_Select : Int) : Option (Sum ((List (ByteArray) × List (Int) × Unit × Unit × Int × Int × Int × Int × ByteArray × Int × Int × Unit) × ((ByteArray × ByteArray × Int × Unit) × (ByteArray × ByteArray × Int × Unit) × Unit)) ((List (ByteArray) × List (Int) × Unit × Unit × Int × Int × Int × Int × Unit) × ((ByteArray × ByteArray × Int × Unit) × (ByteArray × ByteArray × Int × Unit) × Unit))) :=
  bif (decide (k < ((ByteArray.size d : Nat) : Int))) then
    bif (decide ((0 : Int) < units)) then
      bif (Go.Ab.inB half 2) then
        let z0 : ByteArray := (List.getD [t_Halves_0, t_Halves_1] (Int.toNat half) (ByteArray.mk (Array.mk [])))
        let z1 : Int := (Go.IntKind.wrap Go.IntKind.i64 (k + (1 : Int)))
        bif ((decide ((0 : Int) ≤ z1)) && (decide (z1 ≤ (((ByteArray.size d) : Nat) : Int)))) then
          bif ((decide ((0 : Int) ≤ k)) && (decide (k ≤ (((Int.toNat z1) : Nat) : Int)))) then
            let z2 : ByteArray := (ByteArray.extract d (Int.toNat k) (Int.toNat z1))
            bif (Nat.ble ((ByteArray.size z0) + (ByteArray.size z2)) 4611686018427387904) then
              let z3 : ByteArray := (z0 ++ z2)
              bif (Go.Ab.inB half 2) then
                let z4 : Nat := (Int.toNat half)
                some (Sum.inl ((l, x_1, (), (), left, (Go.IntKind.wrap Go.IntKind.i64 (units - (1 : Int))), i, half, d, e, (Go.IntKind.wrap Go.IntKind.i64 (k + (1 : Int))), ()), ((s_Halves_0, s_Halves_1, s_Select, ()), ((bif (Nat.beq z4 0) then z3 else t_Halves_0), (bif (Nat.beq z4 1) then z3 else t_Halves_1), t_Select, ()), ())))
              else
                none
            else
              none
          else
            none
        else
          none
      else
        none
    else
      some (Sum.inl ((l, x_1, (), (), left, (Go.IntKind.wrap Go.IntKind.i64 (units - (1 : Int))), i, half, d, e, (Go.IntKind.wrap Go.IntKind.i64 (k + (1 : Int))), ()), ((s_Halves_0, s_Halves_1, s_Select, ()), (t_Halves_0, t_Halves_1, t_Select, ()), ())))
  else
    some (Sum.inr ((l, x_1, (), (), left, units, i, e, ()), ((s_Halves_0, s_Halves_1, s_Select, ()), (t_Halves_0, t_Halves_1, t_Select, ()), ())))
noncomputable def L_l08_StoreRuns_1 : ((List (ByteArray) × List (Int) × Unit × Unit × Int × Int × Int × Int × ByteArray × Int × Int × Unit) × ((ByteArray × ByteArray × Int × Unit) × (ByteArray × ByteArray × Int × Unit) × Unit)) → Option ((List (ByteArray) × List (Int) × Unit × Unit × Int × Int × Int × Int × Unit) × ((ByteArray × ByteArray × Int × Unit) × (ByteArray × ByteArray × Int × Unit) × Unit)) := iter (fun x => R_l08_StoreRuns_1 x.1.1 x.1.2.1 x.1.2.2.2.2.1 x.1.2.2.2.2.2.1 x.1.2.2.2.2.2.2.1 x.1.2.2.2.2.2.2.2.1 x.1.2.2.2.2.2.2.2.2.1 x.1.2.2.2.2.2.2.2.2.2.1 x.1.2.2.2.2.2.2.2.2.2.2.1 x.2.1.1 x.2.1.2.1 x.2.1.2.2.1 x.2.2.1.1 x.2.2.1.2.1 x.2.2.1.2.2.1) fuel
noncomputable def R_l08_StoreRuns_0 (l : List (ByteArray)) (x_1 : List (Int)) (left : Int) (units : Int) (i : Int) (s_Halves_0 : ByteArray) (s_Halves_1 : ByteArray) (s_Select : Int) (t_Halves_0 : ByteArray) (t_Halves_1 : ByteArray) (t_Select : Int) : Option (Sum ((List (ByteArray) × List (Int) × Unit × Unit × Int × Int × Int × Unit) × ((ByteArray × ByteArray × Int × Unit) × (ByteArray × ByteArray × Int × Unit) × Unit)) ((Unit × Unit) ⊕ ((Bool × Unit) × Unit))) :=
  bif (decide (i < ((List.length l : Nat) : Int))) then
    bif (decide (i < ((List.length x_1 : Nat) : Int))) then
      bif (decide (i < (20 : Int))) then
        bif (Go.Ab.inB i (List.length x_1)) then
          let z0 : Int := (Go.IntKind.wrap Go.IntKind.i64 (Int.tmod (List.getD x_1 (Int.toNat i) (0 : Int)) (2 : Int)))
          bif (Go.Ab.inB i (List.length l)) then
            let z1 : ByteArray := (List.getD l (Int.toNat i) (ByteArray.mk (Array.mk [])))
            bif (Go.Ab.inB i (List.length l)) then
              let z2 : Int := ((ByteArray.size (List.getD l (Int.toNat i) (ByteArray.mk (Array.mk []))) : Nat) : Int)
              let z3 : Int := (bif (decide ((30 : Int) < z2)) then (30 : Int) else z2)
              bif ((decide ((0 : Int) ≤ z3)) && (decide (z3 ≤ (((ByteArray.size z1) : Nat) : Int)))) then
                let z4 : ByteArray := (ByteArray.extract z1 0 (Int.toNat z3))
                Option.bind (bif (Go.Ab.inB i (List.length x_1)) then
                      let z5 : Int := (Int.tmod (Go.IntKind.wrap Go.IntKind.u8 (Int.tdiv (List.getD x_1 (Int.toNat i) (0 : Int)) (2 : Int))) (4 : Int))
                      bif (z5 == (0 : Int)) then
                        (F_store_Erase (700 : Int) s_Halves_0 s_Halves_1 s_Select z0 left).bind fun y1 =>
                        bif (decide ((0 : Int) < units)) then
                          bif (Go.Ab.inB z0 2) then
                            let z6 : Nat := (Int.toNat z0)
                            some ((l, x_1, (), (), y1.1.2.1, (Go.IntKind.wrap Go.IntKind.i64 (units - (1 : Int))), i, y1.1.2.2.1, ()), ((y1.2.1.1, y1.2.1.2.1, y1.2.1.2.2.1, ()), ((bif (Nat.beq z6 0) then (ByteArray.mk (Array.mk [])) else t_Halves_0), (bif (Nat.beq z6 1) then (ByteArray.mk (Array.mk [])) else t_Halves_1), t_Select, ()), ()))
                          else
                            none
                        else
                          some ((l, x_1, (), (), y1.1.2.1, (Go.IntKind.wrap Go.IntKind.i64 (units - (1 : Int))), i, y1.1.2.2.1, ()), ((y1.2.1.1, y1.2.1.2.1, y1.2.1.2.2.1, ()), (t_Halves_0, t_Halves_1, t_Select, ()), ()))
                      else
                        bif (z5 == (1 : Int)) then
                          (F_store_Choose (700 : Int) s_Halves_0 s_Halves_1 s_Select z0 left).bind fun y2 =>
                          bif (decide ((0 : Int) < units)) then
                            some ((l, x_1, (), (), y2.1.2.1, (Go.IntKind.wrap Go.IntKind.i64 (units - (1 : Int))), i, y2.1.2.2.1, ()), ((y2.2.1.1, y2.2.1.2.1, y2.2.1.2.2.1, ()), (t_Halves_0, t_Halves_1, z0, ()), ()))
                          else
                            some ((l, x_1, (), (), y2.1.2.1, (Go.IntKind.wrap Go.IntKind.i64 (units - (1 : Int))), i, y2.1.2.2.1, ()), ((y2.2.1.1, y2.2.1.2.1, y2.2.1.2.2.1, ()), (t_Halves_0, t_Halves_1, t_Select, ()), ()))
                        else
                          (F_store_Write (700 : Int) s_Halves_0 s_Halves_1 s_Select z0 z4 left).bind fun y3 =>
                          (L_l08_StoreRuns_1 ((l, x_1, (), (), y3.1.2.1, units, i, z0, z4, y3.1.2.2.1, (0 : Int), ()), ((y3.2.1.1, y3.2.1.2.1, y3.2.1.2.2.1, ()), (t_Halves_0, t_Halves_1, t_Select, ()), ()))).bind fun y4 =>
                          some ((y4.1.1, y4.1.2.1, (), (), y4.1.2.2.2.2.1, y4.1.2.2.2.2.2.1, y4.1.2.2.2.2.2.2.1, y4.1.2.2.2.2.2.2.2.1, ()), ((y4.2.1.1, y4.2.1.2.1, y4.2.1.2.2.1, ()), (y4.2.2.1.1, y4.2.2.1.2.1, y4.2.2.1.2.2.1, ()), ()))
                    else
                      none) fun y5 =>
                bif (!((Go.Ab.eqB y5.2.1.1 y5.2.2.1.1) && ((Go.Ab.eqB y5.2.1.2.1 y5.2.2.1.2.1) && ((y5.2.1.2.2.1 == y5.2.2.1.2.2.1) && true)))) then
                  some (Sum.inr (Sum.inr ((false, ()), ())))
                else
                  bif (!((y5.1.2.2.2.2.2.2.2.1 == (0 : Int)) == (decide ((0 : Int) ≤ y5.1.2.2.2.2.2.1)))) then
                    some (Sum.inr (Sum.inr ((false, ()), ())))
                  else
                    bif (y5.1.2.2.2.2.1 != (bif (decide ((0 : Int) < y5.1.2.2.2.2.2.1)) then y5.1.2.2.2.2.2.1 else (0 : Int))) then
                      some (Sum.inr (Sum.inr ((false, ()), ())))
                    else
                      bif (y5.1.2.2.2.2.2.2.2.1 != (0 : Int)) then
                        Option.bind (bif (y5.1.2.2.2.2.2.2.2.1 == (8 : Int)) then
                              (F_l08_sane).bind fun y6 =>
                              some ((y6.1.1, ()), ())
                            else
                              some ((false, ()), ())) fun y7 =>
                        some (Sum.inr (Sum.inr ((y7.1.1, ()), ())))
                      else
                        some (Sum.inl ((y5.1.1, y5.1.2.1, (), (), y5.1.2.2.2.2.1, y5.1.2.2.2.2.2.1, (Go.IntKind.wrap Go.IntKind.i64 (y5.1.2.2.2.2.2.2.1 + (1 : Int))), ()), ((y5.2.1.1, y5.2.1.2.1, y5.2.1.2.2.1, ()), (y5.2.2.1.1, y5.2.2.1.2.1, y5.2.2.1.2.2.1, ()), ())))
              else
                none
            else
              none
          else
            none
        else
          none
      else
        some (Sum.inr (Sum.inl ((), ())))
    else
      some (Sum.inr (Sum.inl ((), ())))
  else
    some (Sum.inr (Sum.inl ((), ())))
noncomputable def L_l08_StoreRuns_0 : ((List (ByteArray) × List (Int) × Unit × Unit × Int × Int × Int × Unit) × ((ByteArray × ByteArray × Int × Unit) × (ByteArray × ByteArray × Int × Unit) × Unit)) → Option ((Unit × Unit) ⊕ ((Bool × Unit) × Unit)) := iter (fun x => R_l08_StoreRuns_0 x.1.1 x.1.2.1 x.1.2.2.2.2.1 x.1.2.2.2.2.2.1 x.1.2.2.2.2.2.2.1 x.2.1.1 x.2.1.2.1 x.2.1.2.2.1 x.2.2.1.1 x.2.2.1.2.1 x.2.2.1.2.2.1) fuel
noncomputable def F_l08_StoreRuns (l : List (ByteArray)) (x_1 : List (Int)) (budget : Int) : Option ((Bool × Unit) × Unit) :=
  (L_l08_StoreRuns_0 ((l, x_1, (), (), (Go.IntKind.wrap Go.IntKind.i64 budget), (Go.IntKind.wrap Go.IntKind.i64 budget), (0 : Int), ()), (((ByteArray.mk (Array.mk [])), (ByteArray.mk (Array.mk [])), (0 : Int), ()), ((ByteArray.mk (Array.mk [])), (ByteArray.mk (Array.mk [])), (0 : Int), ()), ()))).bind fun y1 =>
  (match y1 with
  | .inl y2 =>
    (F_l08_sane).bind fun y3 =>
    some ((y3.1.1, ()), ())
  | .inr y2 =>
    some ((y2.1.1, ()), ()))
/-! ### overlay/overlayref08.IsStore -/
noncomputable def F_r08_IsStore (room : Int) (s_Halves_0 : ByteArray) (s_Halves_1 : ByteArray) (s_Select : Int) : Option ((Bool × Unit) × Unit) :=
  Option.bind (bif (decide ((1 : Int) ≤ room)) then
        bif (decide (room ≤ (65536 : Int))) then
          bif (decide (((ByteArray.size s_Halves_0 : Nat) : Int) ≤ room)) then
            bif (decide (((ByteArray.size s_Halves_1 : Nat) : Int) ≤ room)) then
              bif (s_Select == (0 : Int)) then
                some ((true, ()), ())
              else
                some (((s_Select == (1 : Int)), ()), ())
            else
              some ((false, ()), ())
          else
            some ((false, ()), ())
        else
          some ((false, ()), ())
      else
        some ((false, ()), ())) fun y1 =>
  some ((y1.1.1, ()), ())
/-! ### overlay/overlayref08.check -/
noncomputable def F_r08_check (room : Int) (s_Halves_0 : ByteArray) (s_Halves_1 : ByteArray) (s_Select : Int) (half : Int) (budget : Int) : Option ((Int × Unit) × Unit) :=
  (F_r08_IsStore room s_Halves_0 s_Halves_1 s_Select).bind fun y1 =>
  bif (!y1.1.1) then
    some (((1 : Int), ()), ())
  else
    Option.bind (bif (half != (0 : Int)) then
          bif (half != (1 : Int)) then
            some ((true, ()), ())
          else
            some (((decide (budget < (0 : Int))), ()), ())
        else
          some (((decide (budget < (0 : Int))), ()), ())) fun y2 =>
    bif y2.1.1 then
      some (((2 : Int), ()), ())
    else
      some (((0 : Int), ()), ())
/-! ### overlay/overlayref08.Choose -/
noncomputable def F_r08_Choose (room : Int) (s_Halves_0 : ByteArray) (s_Halves_1 : ByteArray) (s_Select : Int) (half : Int) (budget : Int) : Option ((Unit × Int × Int × Unit) × ((ByteArray × ByteArray × Int × Unit) × Unit)) :=
  (F_r08_check room s_Halves_0 s_Halves_1 s_Select half budget).bind fun y1 =>
  bif (y1.1.1 != (0 : Int)) then
    some (((), (0 : Int), y1.1.1, ()), (((ByteArray.mk (Array.mk [])), (ByteArray.mk (Array.mk [])), (0 : Int), ()), ()))
  else
    bif (budget == (0 : Int)) then
      some (((), (0 : Int), (8 : Int), ()), ((s_Halves_0, s_Halves_1, s_Select, ()), ()))
    else
      some (((), (Go.IntKind.wrap Go.IntKind.i64 (budget - (1 : Int))), (0 : Int), ()), ((s_Halves_0, s_Halves_1, half, ()), ()))
/-! ### overlay/overlayref08.Current -/
noncomputable def F_r08_Current (s_Halves_0 : ByteArray) (s_Halves_1 : ByteArray) (s_Select : Int) : Option ((ByteArray × Unit) × Unit) :=
  bif (s_Select == (1 : Int)) then
    some ((s_Halves_1, ()), ())
  else
    some ((s_Halves_0, ()), ())
/-! ### overlay/overlayref08.Erase -/
noncomputable def F_r08_Erase (room : Int) (s_Halves_0 : ByteArray) (s_Halves_1 : ByteArray) (s_Select : Int) (half : Int) (budget : Int) : Option ((Unit × Int × Int × Unit) × ((ByteArray × ByteArray × Int × Unit) × Unit)) :=
  (F_r08_check room s_Halves_0 s_Halves_1 s_Select half budget).bind fun y1 =>
  bif (y1.1.1 != (0 : Int)) then
    some (((), (0 : Int), y1.1.1, ()), (((ByteArray.mk (Array.mk [])), (ByteArray.mk (Array.mk [])), (0 : Int), ()), ()))
  else
    bif (budget == (0 : Int)) then
      some (((), (0 : Int), (8 : Int), ()), ((s_Halves_0, s_Halves_1, s_Select, ()), ()))
    else
      bif (Go.Ab.inB half 2) then
        let z0 : Nat := (Int.toNat half)
        some (((), (Go.IntKind.wrap Go.IntKind.i64 (budget - (1 : Int))), (0 : Int), ()), (((bif (Nat.beq z0 0) then (ByteArray.mk (Array.mk [])) else s_Halves_0), (bif (Nat.beq z0 1) then (ByteArray.mk (Array.mk [])) else s_Halves_1), s_Select, ()), ()))
      else
        none
/-! ### overlay/overlayref08.Write -/
noncomputable def R_r08_Write_0 (half : Int) (data : ByteArray) (budget : Int) (i : Int) (s_Halves_0 : ByteArray) (s_Halves_1 : ByteArray) (s_Select : Int) (b10_Halves_0 : ByteArray) (b10_Halves_1 : ByteArray) (b10_Select : Int) : Option (Sum ((Int × ByteArray × Int × Unit × Unit × Int × Unit) × ((ByteArray × ByteArray × Int × Unit) × (ByteArray × ByteArray × Int × Unit) × Unit)) (((Int × Unit × Unit × Unit) × ((ByteArray × ByteArray × Int × Unit) × (ByteArray × ByteArray × Int × Unit) × Unit)) ⊕ ((Unit × Int × Int × Unit) × ((ByteArray × ByteArray × Int × Unit) × Unit)))) :=
  bif (decide (i < ((ByteArray.size data : Nat) : Int))) then
    bif (budget == (0 : Int)) then
      some (Sum.inr (Sum.inr (((), (0 : Int), (8 : Int), ()), ((s_Halves_0, s_Halves_1, s_Select, ()), ()))))
    else
      bif (Go.Ab.inB half 2) then
        let z0 : ByteArray := (List.getD [s_Halves_0, s_Halves_1] (Int.toNat half) (ByteArray.mk (Array.mk [])))
        let z1 : Int := (Go.IntKind.wrap Go.IntKind.i64 (i + (1 : Int)))
        bif ((decide ((0 : Int) ≤ z1)) && (decide (z1 ≤ (((ByteArray.size data) : Nat) : Int)))) then
          bif ((decide ((0 : Int) ≤ i)) && (decide (i ≤ (((Int.toNat z1) : Nat) : Int)))) then
            let z2 : ByteArray := (ByteArray.extract data (Int.toNat i) (Int.toNat z1))
            bif (Nat.ble ((ByteArray.size z0) + (ByteArray.size z2)) 4611686018427387904) then
              let z3 : ByteArray := (z0 ++ z2)
              bif (Go.Ab.inB half 2) then
                let z4 : Nat := (Int.toNat half)
                some (Sum.inl ((half, data, (Go.IntKind.wrap Go.IntKind.i64 (budget - (1 : Int))), (), (), (Go.IntKind.wrap Go.IntKind.i64 (i + (1 : Int))), ()), (((bif (Nat.beq z4 0) then z3 else s_Halves_0), (bif (Nat.beq z4 1) then z3 else s_Halves_1), s_Select, ()), (b10_Halves_0, b10_Halves_1, b10_Select, ()), ())))
              else
                none
            else
              none
          else
            none
        else
          none
      else
        none
  else
    some (Sum.inr (Sum.inl ((budget, (), (), ()), ((s_Halves_0, s_Halves_1, s_Select, ()), (b10_Halves_0, b10_Halves_1, b10_Select, ()), ()))))
noncomputable def L_r08_Write_0 : ((Int × ByteArray × Int × Unit × Unit × Int × Unit) × ((ByteArray × ByteArray × Int × Unit) × (ByteArray × ByteArray × Int × Unit) × Unit)) → Option (((Int × Unit × Unit × Unit) × ((ByteArray × ByteArray × Int × Unit) × (ByteArray × ByteArray × Int × Unit) × Unit)) ⊕ ((Unit × Int × Int × Unit) × ((ByteArray × ByteArray × Int × Unit) × Unit))) := iter (fun x => R_r08_Write_0 x.1.1 x.1.2.1 x.1.2.2.1 x.1.2.2.2.2.2.1 x.2.1.1 x.2.1.2.1 x.2.1.2.2.1 x.2.2.1.1 x.2.2.1.2.1 x.2.2.1.2.2.1) fuel
noncomputable def F_r08_Write (room : Int) (s_Halves_0 : ByteArray) (s_Halves_1 : ByteArray) (s_Select : Int) (half : Int) (data : ByteArray) (budget : Int) : Option ((Unit × Int × Int × Unit) × ((ByteArray × ByteArray × Int × Unit) × Unit)) :=
  (F_r08_check room s_Halves_0 s_Halves_1 s_Select half budget).bind fun y1 =>
  bif (y1.1.1 != (0 : Int)) then
    some (((), (0 : Int), y1.1.1, ()), (((ByteArray.mk (Array.mk [])), (ByteArray.mk (Array.mk [])), (0 : Int), ()), ()))
  else
    bif (Go.Ab.inB half 2) then
      bif (decide (room < (Go.IntKind.wrap Go.IntKind.i64 (((ByteArray.size (List.getD [s_Halves_0, s_Halves_1] (Int.toNat half) (ByteArray.mk (Array.mk []))) : Nat) : Int) + ((ByteArray.size data : Nat) : Int))))) then
        some (((), (0 : Int), (7 : Int), ()), (((ByteArray.mk (Array.mk [])), (ByteArray.mk (Array.mk [])), (0 : Int), ()), ()))
      else
        (L_r08_Write_0 ((half, data, budget, (), (), (0 : Int), ()), ((s_Halves_0, s_Halves_1, s_Select, ()), ((ByteArray.mk (Array.mk [])), (ByteArray.mk (Array.mk [])), (0 : Int), ()), ()))).bind fun y2 =>
        (match y2 with
        | .inl y3 =>
          some (((), y3.1.1, (0 : Int), ()), ((y3.2.1.1, y3.2.1.2.1, y3.2.1.2.2.1, ()), ()))
        | .inr y3 =>
          some (((), y3.1.2.1, y3.1.2.2.1, ()), ((y3.2.1.1, y3.2.1.2.1, y3.2.1.2.2.1, ()), ())))
    else
      none
end Go.Ovl
