/- What each function comes to. -/
import Derived.Test.YtfooilbkiclplaaAb26
import Derived.Test.YtfooilbkiclplaaSig
namespace Go.Proofs.Yt
open Go Go.Ab
set_option maxRecDepth 100000
noncomputable def l0 : List (Nat × FnE G) := []
noncomputable def noLp : Nat → St G → M (Ex × St G) := fun _ _ => M.fail
noncomputable def bodyOf (f : Func) : Code := f.body.getD .skip

/-! ### overlay/contact.Get -/
noncomputable def sh25 : List PSh := [.agg [.int .u32, .bool, .bool, .bool, .bool], .one (.int .i64)]
noncomputable def E25 : List (Ex × Ab.Spec) := [(.ret, ⟨[(4, .one (.bool))], [], []⟩)]
noncomputable def F25 (x0_Floors : Int) (x0_Up : Bool) (x0_Down : Bool) (x0_Open : Bool) (x0_Closed : Bool) (x1 : Int) : Option ((Bool × Unit) × Unit) :=
  bif (x1 == (32 : Int)) then
    some ((x0_Up, ()), ())
  else
    bif (x1 == (33 : Int)) then
      some ((x0_Down, ()), ())
    else
      bif (x1 == (34 : Int)) then
        some ((x0_Open, ()), ())
      else
        bif (x1 == (35 : Int)) then
          some ((x0_Closed, ()), ())
        else
          bif (decide (((0 : Int) ≤ x1))) then
            bif (decide ((x1 < (32 : Int)))) then
              bif (decide (((0 : Int) ≤ x1))) then
                some ((((Go.IntKind.wrap Go.IntKind.u32 (((BitVec.toNat ((BitVec.ofInt (Go.IntKind.bits Go.IntKind.u32) (Int.fdiv x0_Floors ((2 : Int) ^ (Min.min (Int.toNat x1) (Go.IntKind.bits Go.IntKind.u32))))) &&& (BitVec.ofInt (Go.IntKind.bits Go.IntKind.u32) (1 : Int)))) : Nat) : Int)) == (1 : Int)), ()), ())
              else
                none
            else
              some ((false, ()), ())
          else
            some ((false, ()), ())
theorem eq25 (x : ArgT G sh25) : endC (cfV (tblOf l0)) noLp (fun _ => []) (fun _ => none) 36 (bodyOf Try.f25) sh25 E25 x = F25 x.1.1 x.1.2.1 x.1.2.2.1 x.1.2.2.2.1 x.1.2.2.2.2.1 x.2.1 := by kernel_rfl
noncomputable def e25 : FnE G := ⟨sh25, E25, fun x => F25 x.1.1 x.1.2.1 x.1.2.2.1 x.1.2.2.2.1 x.1.2.2.2.2.1 x.2.1, Try.f25.results.toList⟩
noncomputable def l25 : List (Nat × FnE G) := (25, e25) :: l0
theorem tb25 : TblOK Try.prog G (tblOf l25) := tbl_cons sigOK eqOK tbl_nil (by kernel_rfl) Try.func25 (by kernel_rfl) (by kernel_rfl) rfl (Nat.le_of_ble_eq_true (by kernel_rfl)) (by kernel_rfl) (fun k c' h => absurd h (by rw [show loops (bodyOf Try.f25) = [] from by kernel_rfl]; simp)) fun x _ h => (eq25 x).trans h

/-! ### overlay/overlayref04.Get -/
noncomputable def sh26 : List PSh := [.agg [.int .u32, .bool, .bool, .bool, .bool], .one (.int .i64)]
noncomputable def E26 : List (Ex × Ab.Spec) := [(.ret, ⟨[(4, .one (.bool))], [], []⟩)]
noncomputable def F26 (x0_Floors : Int) (x0_Up : Bool) (x0_Down : Bool) (x0_Open : Bool) (x0_Closed : Bool) (x1 : Int) : Option ((Bool × Unit) × Unit) :=
  bif (decide ((x1 < (0 : Int)))) then
    some ((false, ()), ())
  else
    bif (decide (((35 : Int) < x1))) then
      some ((false, ()), ())
    else
      bif (decide ((x1 < (32 : Int)))) then
        bif (decide (((0 : Int) ≤ (Go.IntKind.wrap Go.IntKind.u64 x1)))) then
          some ((((Go.IntKind.wrap Go.IntKind.u32 (((BitVec.toNat ((BitVec.ofInt (Go.IntKind.bits Go.IntKind.u32) (Int.fdiv x0_Floors ((2 : Int) ^ (Min.min (Int.toNat (Go.IntKind.wrap Go.IntKind.u64 x1)) (Go.IntKind.bits Go.IntKind.u32))))) &&& (BitVec.ofInt (Go.IntKind.bits Go.IntKind.u32) (1 : Int)))) : Nat) : Int)) == (1 : Int)), ()), ())
        else
          none
      else
        let z0 : Int := (Go.IntKind.wrap Go.IntKind.i64 (x1 - (32 : Int)))
        bif (Go.Ab.inB z0 (List.length [x0_Up, x0_Down, x0_Open, x0_Closed])) then
          some (((List.getD [x0_Up, x0_Down, x0_Open, x0_Closed] (Int.toNat z0) false), ()), ())
        else
          none
theorem eq26 (x : ArgT G sh26) : endC (cfV (tblOf l25)) noLp (fun _ => []) (fun _ => none) 35 (bodyOf Try.f26) sh26 E26 x = F26 x.1.1 x.1.2.1 x.1.2.2.1 x.1.2.2.2.1 x.1.2.2.2.2.1 x.2.1 := by kernel_rfl
noncomputable def e26 : FnE G := ⟨sh26, E26, fun x => F26 x.1.1 x.1.2.1 x.1.2.2.1 x.1.2.2.2.1 x.1.2.2.2.2.1 x.2.1, Try.f26.results.toList⟩
noncomputable def l26 : List (Nat × FnE G) := (26, e26) :: l25
theorem tb26 : TblOK Try.prog G (tblOf l26) := tbl_cons sigOK eqOK tb25 (by kernel_rfl) Try.func26 (by kernel_rfl) (by kernel_rfl) rfl (Nat.le_of_ble_eq_true (by kernel_rfl)) (by kernel_rfl) (fun k c' h => absurd h (by rw [show loops (bodyOf Try.f26) = [] from by kernel_rfl]; simp)) fun x _ h => (eq26 x).trans h

/-! ### overlay/contact.Set -/
noncomputable def sh27 : List PSh := [.agg [.int .u32, .bool, .bool, .bool, .bool], .one (.int .i64), .one (.bool)]
noncomputable def E27 : List (Ex × Ab.Spec) := [(.ret, ⟨[(6, .one (.ptr 96 0))], [(96, [.int .u32, .bool, .bool, .bool, .bool])], []⟩)]
noncomputable def F27 (x0_Floors : Int) (x0_Up : Bool) (x0_Down : Bool) (x0_Open : Bool) (x0_Closed : Bool) (x1 : Int) (x2 : Bool) : Option ((Unit × Unit) × ((Int × Bool × Bool × Bool × Bool × Unit) × Unit)) :=
  bif (x1 == (32 : Int)) then
    some (((), ()), ((x0_Floors, (x2, (x0_Down, (x0_Open, (x0_Closed, ()))))), ()))
  else
    bif (x1 == (33 : Int)) then
      some (((), ()), ((x0_Floors, (x0_Up, (x2, (x0_Open, (x0_Closed, ()))))), ()))
    else
      bif (x1 == (34 : Int)) then
        some (((), ()), ((x0_Floors, (x0_Up, (x0_Down, (x2, (x0_Closed, ()))))), ()))
      else
        bif (x1 == (35 : Int)) then
          some (((), ()), ((x0_Floors, (x0_Up, (x0_Down, (x0_Open, (x2, ()))))), ()))
        else
          bif (decide (((0 : Int) ≤ x1))) then
            bif (decide ((x1 < (32 : Int)))) then
              bif (decide (((0 : Int) ≤ x1))) then
                bif x2 then
                  bif (decide (((0 : Int) ≤ x1))) then
                    let z0 : Int := (Go.IntKind.wrap Go.IntKind.u32 ((1 : Int) * ((2 : Int) ^ (Min.min (Int.toNat x1) (Go.IntKind.bits Go.IntKind.u32)))))
                    let z1 : Int := (Go.IntKind.wrap Go.IntKind.u32 (((BitVec.toNat ((BitVec.ofInt (Go.IntKind.bits Go.IntKind.u32) x0_Floors) &&& (Complement.complement (BitVec.ofInt (Go.IntKind.bits Go.IntKind.u32) z0)))) : Nat) : Int))
                    some (((), ()), (((Go.IntKind.wrap Go.IntKind.u32 (((BitVec.toNat ((BitVec.ofInt (Go.IntKind.bits Go.IntKind.u32) z1) ||| (BitVec.ofInt (Go.IntKind.bits Go.IntKind.u32) z0))) : Nat) : Int)), (x0_Up, (x0_Down, (x0_Open, (x0_Closed, ()))))), ()))
                  else
                    none
                else
                  let z2 : Int := (Go.IntKind.wrap Go.IntKind.u32 ((1 : Int) * ((2 : Int) ^ (Min.min (Int.toNat x1) (Go.IntKind.bits Go.IntKind.u32)))))
                  let z3 : Int := (Go.IntKind.wrap Go.IntKind.u32 (((BitVec.toNat ((BitVec.ofInt (Go.IntKind.bits Go.IntKind.u32) x0_Floors) &&& (Complement.complement (BitVec.ofInt (Go.IntKind.bits Go.IntKind.u32) z2)))) : Nat) : Int))
                  some (((), ()), ((z3, (x0_Up, (x0_Down, (x0_Open, (x0_Closed, ()))))), ()))
              else
                none
            else
              some (((), ()), ((x0_Floors, (x0_Up, (x0_Down, (x0_Open, (x0_Closed, ()))))), ()))
          else
            some (((), ()), ((x0_Floors, (x0_Up, (x0_Down, (x0_Open, (x0_Closed, ()))))), ()))
theorem eq27 (x : ArgT G sh27) : endC (cfV (tblOf l26)) noLp (fun _ => []) (fun _ => none) 44 (bodyOf Try.f27) sh27 E27 x = F27 x.1.1 x.1.2.1 x.1.2.2.1 x.1.2.2.2.1 x.1.2.2.2.2.1 x.2.1 x.2.2.1 := by kernel_rfl
noncomputable def e27 : FnE G := ⟨sh27, E27, fun x => F27 x.1.1 x.1.2.1 x.1.2.2.1 x.1.2.2.2.1 x.1.2.2.2.2.1 x.2.1 x.2.2.1, Try.f27.results.toList⟩
noncomputable def l27 : List (Nat × FnE G) := (27, e27) :: l26
theorem tb27 : TblOK Try.prog G (tblOf l27) := tbl_cons sigOK eqOK tb26 (by kernel_rfl) Try.func27 (by kernel_rfl) (by kernel_rfl) rfl (Nat.le_of_ble_eq_true (by kernel_rfl)) (by kernel_rfl) (fun k c' h => absurd h (by rw [show loops (bodyOf Try.f27) = [] from by kernel_rfl]; simp)) fun x _ h => (eq27 x).trans h

/-! ### overlay/overlayref04.Set -/
noncomputable def sh28 : List PSh := [.agg [.int .u32, .bool, .bool, .bool, .bool], .one (.int .i64), .one (.bool)]
noncomputable def E28 : List (Ex × Ab.Spec) := [(.ret, ⟨[(6, .one (.ptr 96 0))], [(96, [.int .u32, .bool, .bool, .bool, .bool])], []⟩)]
noncomputable def F28 (x0_Floors : Int) (x0_Up : Bool) (x0_Down : Bool) (x0_Open : Bool) (x0_Closed : Bool) (x1 : Int) (x2 : Bool) : Option ((Unit × Unit) × ((Int × Bool × Bool × Bool × Bool × Unit) × Unit)) :=
  bif (decide (((0 : Int) ≤ x1))) then
    bif (decide ((x1 < (32 : Int)))) then
      bif x2 then
        bif (decide (((0 : Int) ≤ (Go.IntKind.wrap Go.IntKind.u64 x1)))) then
          let z0 : Int := (Go.IntKind.wrap Go.IntKind.u32 ((1 : Int) * ((2 : Int) ^ (Min.min (Int.toNat (Go.IntKind.wrap Go.IntKind.u64 x1)) (Go.IntKind.bits Go.IntKind.u32)))))
          some (((), ()), (((Go.IntKind.wrap Go.IntKind.u32 (((BitVec.toNat ((BitVec.ofInt (Go.IntKind.bits Go.IntKind.u32) x0_Floors) ||| (BitVec.ofInt (Go.IntKind.bits Go.IntKind.u32) z0))) : Nat) : Int)), (x0_Up, (x0_Down, (x0_Open, (x0_Closed, ()))))), ()))
        else
          none
      else
        bif (decide (((0 : Int) ≤ x1))) then
          bif (decide ((x1 < (32 : Int)))) then
            bif (decide (((0 : Int) ≤ (Go.IntKind.wrap Go.IntKind.u64 x1)))) then
              let z1 : Int := (Go.IntKind.wrap Go.IntKind.u32 ((1 : Int) * ((2 : Int) ^ (Min.min (Int.toNat (Go.IntKind.wrap Go.IntKind.u64 x1)) (Go.IntKind.bits Go.IntKind.u32)))))
              let z2 : Int := (Go.IntKind.wrap Go.IntKind.u32 (((BitVec.toNat ((BitVec.ofInt (Go.IntKind.bits Go.IntKind.u32) x0_Floors) &&& (Complement.complement (BitVec.ofInt (Go.IntKind.bits Go.IntKind.u32) z1)))) : Nat) : Int))
              some (((), ()), ((z2, (x0_Up, (x0_Down, (x0_Open, (x0_Closed, ()))))), ()))
            else
              none
          else
            bif (x1 == (32 : Int)) then
              some (((), ()), ((x0_Floors, (x2, (x0_Down, (x0_Open, (x0_Closed, ()))))), ()))
            else
              bif (x1 == (33 : Int)) then
                some (((), ()), ((x0_Floors, (x0_Up, (x2, (x0_Open, (x0_Closed, ()))))), ()))
              else
                bif (x1 == (34 : Int)) then
                  some (((), ()), ((x0_Floors, (x0_Up, (x0_Down, (x2, (x0_Closed, ()))))), ()))
                else
                  bif (x1 == (35 : Int)) then
                    some (((), ()), ((x0_Floors, (x0_Up, (x0_Down, (x0_Open, (x2, ()))))), ()))
                  else
                    some (((), ()), ((x0_Floors, (x0_Up, (x0_Down, (x0_Open, (x0_Closed, ()))))), ()))
        else
          bif (x1 == (32 : Int)) then
            some (((), ()), ((x0_Floors, (x2, (x0_Down, (x0_Open, (x0_Closed, ()))))), ()))
          else
            bif (x1 == (33 : Int)) then
              some (((), ()), ((x0_Floors, (x0_Up, (x2, (x0_Open, (x0_Closed, ()))))), ()))
            else
              bif (x1 == (34 : Int)) then
                some (((), ()), ((x0_Floors, (x0_Up, (x0_Down, (x2, (x0_Closed, ()))))), ()))
              else
                bif (x1 == (35 : Int)) then
                  some (((), ()), ((x0_Floors, (x0_Up, (x0_Down, (x0_Open, (x2, ()))))), ()))
                else
                  some (((), ()), ((x0_Floors, (x0_Up, (x0_Down, (x0_Open, (x0_Closed, ()))))), ()))
    else
      bif (decide (((0 : Int) ≤ x1))) then
        bif (decide ((x1 < (32 : Int)))) then
          bif (decide (((0 : Int) ≤ (Go.IntKind.wrap Go.IntKind.u64 x1)))) then
            let z3 : Int := (Go.IntKind.wrap Go.IntKind.u32 ((1 : Int) * ((2 : Int) ^ (Min.min (Int.toNat (Go.IntKind.wrap Go.IntKind.u64 x1)) (Go.IntKind.bits Go.IntKind.u32)))))
            let z4 : Int := (Go.IntKind.wrap Go.IntKind.u32 (((BitVec.toNat ((BitVec.ofInt (Go.IntKind.bits Go.IntKind.u32) x0_Floors) &&& (Complement.complement (BitVec.ofInt (Go.IntKind.bits Go.IntKind.u32) z3)))) : Nat) : Int))
            some (((), ()), ((z4, (x0_Up, (x0_Down, (x0_Open, (x0_Closed, ()))))), ()))
          else
            none
        else
          bif (x1 == (32 : Int)) then
            some (((), ()), ((x0_Floors, (x2, (x0_Down, (x0_Open, (x0_Closed, ()))))), ()))
          else
            bif (x1 == (33 : Int)) then
              some (((), ()), ((x0_Floors, (x0_Up, (x2, (x0_Open, (x0_Closed, ()))))), ()))
            else
              bif (x1 == (34 : Int)) then
                some (((), ()), ((x0_Floors, (x0_Up, (x0_Down, (x2, (x0_Closed, ()))))), ()))
              else
                bif (x1 == (35 : Int)) then
                  some (((), ()), ((x0_Floors, (x0_Up, (x0_Down, (x0_Open, (x2, ()))))), ()))
                else
                  some (((), ()), ((x0_Floors, (x0_Up, (x0_Down, (x0_Open, (x0_Closed, ()))))), ()))
      else
        bif (x1 == (32 : Int)) then
          some (((), ()), ((x0_Floors, (x2, (x0_Down, (x0_Open, (x0_Closed, ()))))), ()))
        else
          bif (x1 == (33 : Int)) then
            some (((), ()), ((x0_Floors, (x0_Up, (x2, (x0_Open, (x0_Closed, ()))))), ()))
          else
            bif (x1 == (34 : Int)) then
              some (((), ()), ((x0_Floors, (x0_Up, (x0_Down, (x2, (x0_Closed, ()))))), ()))
            else
              bif (x1 == (35 : Int)) then
                some (((), ()), ((x0_Floors, (x0_Up, (x0_Down, (x0_Open, (x2, ()))))), ()))
              else
                some (((), ()), ((x0_Floors, (x0_Up, (x0_Down, (x0_Open, (x0_Closed, ()))))), ()))
  else
    bif (decide (((0 : Int) ≤ x1))) then
      bif (decide ((x1 < (32 : Int)))) then
        bif (decide (((0 : Int) ≤ (Go.IntKind.wrap Go.IntKind.u64 x1)))) then
          let z5 : Int := (Go.IntKind.wrap Go.IntKind.u32 ((1 : Int) * ((2 : Int) ^ (Min.min (Int.toNat (Go.IntKind.wrap Go.IntKind.u64 x1)) (Go.IntKind.bits Go.IntKind.u32)))))
          let z6 : Int := (Go.IntKind.wrap Go.IntKind.u32 (((BitVec.toNat ((BitVec.ofInt (Go.IntKind.bits Go.IntKind.u32) x0_Floors) &&& (Complement.complement (BitVec.ofInt (Go.IntKind.bits Go.IntKind.u32) z5)))) : Nat) : Int))
          some (((), ()), ((z6, (x0_Up, (x0_Down, (x0_Open, (x0_Closed, ()))))), ()))
        else
          none
      else
        bif (x1 == (32 : Int)) then
          some (((), ()), ((x0_Floors, (x2, (x0_Down, (x0_Open, (x0_Closed, ()))))), ()))
        else
          bif (x1 == (33 : Int)) then
            some (((), ()), ((x0_Floors, (x0_Up, (x2, (x0_Open, (x0_Closed, ()))))), ()))
          else
            bif (x1 == (34 : Int)) then
              some (((), ()), ((x0_Floors, (x0_Up, (x0_Down, (x2, (x0_Closed, ()))))), ()))
            else
              bif (x1 == (35 : Int)) then
                some (((), ()), ((x0_Floors, (x0_Up, (x0_Down, (x0_Open, (x2, ()))))), ()))
              else
                some (((), ()), ((x0_Floors, (x0_Up, (x0_Down, (x0_Open, (x0_Closed, ()))))), ()))
    else
      bif (x1 == (32 : Int)) then
        some (((), ()), ((x0_Floors, (x2, (x0_Down, (x0_Open, (x0_Closed, ()))))), ()))
      else
        bif (x1 == (33 : Int)) then
          some (((), ()), ((x0_Floors, (x0_Up, (x2, (x0_Open, (x0_Closed, ()))))), ()))
        else
          bif (x1 == (34 : Int)) then
            some (((), ()), ((x0_Floors, (x0_Up, (x0_Down, (x2, (x0_Closed, ()))))), ()))
          else
            bif (x1 == (35 : Int)) then
              some (((), ()), ((x0_Floors, (x0_Up, (x0_Down, (x0_Open, (x2, ()))))), ()))
            else
              some (((), ()), ((x0_Floors, (x0_Up, (x0_Down, (x0_Open, (x0_Closed, ()))))), ()))
theorem eq28 (x : ArgT G sh28) : endC (cfV (tblOf l27)) noLp (fun _ => []) (fun _ => none) 59 (bodyOf Try.f28) sh28 E28 x = F28 x.1.1 x.1.2.1 x.1.2.2.1 x.1.2.2.2.1 x.1.2.2.2.2.1 x.2.1 x.2.2.1 := by kernel_rfl
noncomputable def e28 : FnE G := ⟨sh28, E28, fun x => F28 x.1.1 x.1.2.1 x.1.2.2.1 x.1.2.2.2.1 x.1.2.2.2.2.1 x.2.1 x.2.2.1, Try.f28.results.toList⟩
noncomputable def l28 : List (Nat × FnE G) := (28, e28) :: l27
theorem tb28 : TblOK Try.prog G (tblOf l28) := tbl_cons sigOK eqOK tb27 (by kernel_rfl) Try.func28 (by kernel_rfl) (by kernel_rfl) rfl (Nat.le_of_ble_eq_true (by kernel_rfl)) (by kernel_rfl) (fun k c' h => absurd h (by rw [show loops (bodyOf Try.f28) = [] from by kernel_rfl]; simp)) fun x _ h => (eq28 x).trans h

/-! ### overlay/store.Current -/
noncomputable def sh21 : List PSh := [.agg [.str, .str, .int .i64]]
noncomputable def E21 : List (Ex × Ab.Spec) := [(.ret, ⟨[(2, .one (.str))], [], []⟩)]
noncomputable def F21 (x0_Halves0 : ByteArray) (x0_Halves1 : ByteArray) (x0_Select : Int) : Option ((ByteArray × Unit) × Unit) :=
  bif (x0_Select == (1 : Int)) then
    some ((x0_Halves1, ()), ())
  else
    some ((x0_Halves0, ()), ())
theorem eq21 (x : ArgT G sh21) : endC (cfV (tblOf l28)) noLp (fun _ => []) (fun _ => none) 12 (bodyOf Try.f21) sh21 E21 x = F21 x.1.1 x.1.2.1 x.1.2.2.1 := by kernel_rfl
noncomputable def e21 : FnE G := ⟨sh21, E21, fun x => F21 x.1.1 x.1.2.1 x.1.2.2.1, Try.f21.results.toList⟩
noncomputable def l21 : List (Nat × FnE G) := (21, e21) :: l28
theorem tb21 : TblOK Try.prog G (tblOf l21) := tbl_cons sigOK eqOK tb28 (by kernel_rfl) Try.func21 (by kernel_rfl) (by kernel_rfl) rfl (Nat.le_of_ble_eq_true (by kernel_rfl)) (by kernel_rfl) (fun k c' h => absurd h (by rw [show loops (bodyOf Try.f21) = [] from by kernel_rfl]; simp)) fun x _ h => (eq21 x).trans h

/-! ### overlay/overlayref08.Current -/
noncomputable def sh22 : List PSh := [.agg [.str, .str, .int .i64]]
noncomputable def E22 : List (Ex × Ab.Spec) := [(.ret, ⟨[(2, .one (.str))], [], []⟩)]
noncomputable def F22 (x0_Halves0 : ByteArray) (x0_Halves1 : ByteArray) (x0_Select : Int) : Option ((ByteArray × Unit) × Unit) :=
  bif (x0_Select == (1 : Int)) then
    some ((x0_Halves1, ()), ())
  else
    some ((x0_Halves0, ()), ())
theorem eq22 (x : ArgT G sh22) : endC (cfV (tblOf l21)) noLp (fun _ => []) (fun _ => none) 12 (bodyOf Try.f22) sh22 E22 x = F22 x.1.1 x.1.2.1 x.1.2.2.1 := by kernel_rfl
noncomputable def e22 : FnE G := ⟨sh22, E22, fun x => F22 x.1.1 x.1.2.1 x.1.2.2.1, Try.f22.results.toList⟩
noncomputable def l22 : List (Nat × FnE G) := (22, e22) :: l21
theorem tb22 : TblOK Try.prog G (tblOf l22) := tbl_cons sigOK eqOK tb21 (by kernel_rfl) Try.func22 (by kernel_rfl) (by kernel_rfl) rfl (Nat.le_of_ble_eq_true (by kernel_rfl)) (by kernel_rfl) (fun k c' h => absurd h (by rw [show loops (bodyOf Try.f22) = [] from by kernel_rfl]; simp)) fun x _ h => (eq22 x).trans h

/-! ### overlay/store.IsStore -/
noncomputable def sh23 : List PSh := [.one (.int .i64), .agg [.str, .str, .int .i64]]
noncomputable def E23 : List (Ex × Ab.Spec) := [(.ret, ⟨[(4, .one (.bool))], [], []⟩)]
noncomputable def F23 (x0 : Int) (x1_Halves0 : ByteArray) (x1_Halves1 : ByteArray) (x1_Select : Int) : Option ((Bool × Unit) × Unit) :=
  bif (decide (((1 : Int) ≤ x0))) then
    bif (decide ((x0 ≤ (65536 : Int)))) then
      bif (decide (((((ByteArray.size x1_Halves0) : Nat) : Int) ≤ x0))) then
        bif (decide (((((ByteArray.size x1_Halves1) : Nat) : Int) ≤ x0))) then
          bif (x1_Select == (0 : Int)) then
            some ((true, ()), ())
          else
            some (((x1_Select == (1 : Int)), ()), ())
        else
          some ((false, ()), ())
      else
        some ((false, ()), ())
    else
      some ((false, ()), ())
  else
    some ((false, ()), ())
theorem eq23 (x : ArgT G sh23) : endC (cfV (tblOf l22)) noLp (fun _ => []) (fun _ => none) 37 (bodyOf Try.f23) sh23 E23 x = F23 x.1 x.2.1.1 x.2.1.2.1 x.2.1.2.2.1 := by kernel_rfl
noncomputable def e23 : FnE G := ⟨sh23, E23, fun x => F23 x.1 x.2.1.1 x.2.1.2.1 x.2.1.2.2.1, Try.f23.results.toList⟩
noncomputable def l23 : List (Nat × FnE G) := (23, e23) :: l22
theorem tb23 : TblOK Try.prog G (tblOf l23) := tbl_cons sigOK eqOK tb22 (by kernel_rfl) Try.func23 (by kernel_rfl) (by kernel_rfl) rfl (Nat.le_of_ble_eq_true (by kernel_rfl)) (by kernel_rfl) (fun k c' h => absurd h (by rw [show loops (bodyOf Try.f23) = [] from by kernel_rfl]; simp)) fun x _ h => (eq23 x).trans h

/-! ### overlay/overlayref08.IsStore -/
noncomputable def sh24 : List PSh := [.one (.int .i64), .agg [.str, .str, .int .i64]]
noncomputable def E24 : List (Ex × Ab.Spec) := [(.ret, ⟨[(4, .one (.bool))], [], []⟩)]
noncomputable def F24 (x0 : Int) (x1_Halves0 : ByteArray) (x1_Halves1 : ByteArray) (x1_Select : Int) : Option ((Bool × Unit) × Unit) :=
  bif (decide (((1 : Int) ≤ x0))) then
    bif (decide ((x0 ≤ (65536 : Int)))) then
      bif (decide (((((ByteArray.size x1_Halves0) : Nat) : Int) ≤ x0))) then
        bif (decide (((((ByteArray.size x1_Halves1) : Nat) : Int) ≤ x0))) then
          bif (x1_Select == (0 : Int)) then
            some ((true, ()), ())
          else
            some (((x1_Select == (1 : Int)), ()), ())
        else
          some ((false, ()), ())
      else
        some ((false, ()), ())
    else
      some ((false, ()), ())
  else
    some ((false, ()), ())
theorem eq24 (x : ArgT G sh24) : endC (cfV (tblOf l23)) noLp (fun _ => []) (fun _ => none) 37 (bodyOf Try.f24) sh24 E24 x = F24 x.1 x.2.1.1 x.2.1.2.1 x.2.1.2.2.1 := by kernel_rfl
noncomputable def e24 : FnE G := ⟨sh24, E24, fun x => F24 x.1 x.2.1.1 x.2.1.2.1 x.2.1.2.2.1, Try.f24.results.toList⟩
noncomputable def l24 : List (Nat × FnE G) := (24, e24) :: l23
theorem tb24 : TblOK Try.prog G (tblOf l24) := tbl_cons sigOK eqOK tb23 (by kernel_rfl) Try.func24 (by kernel_rfl) (by kernel_rfl) rfl (Nat.le_of_ble_eq_true (by kernel_rfl)) (by kernel_rfl) (fun k c' h => absurd h (by rw [show loops (bodyOf Try.f24) = [] from by kernel_rfl]; simp)) fun x _ h => (eq24 x).trans h

/-! ### overlay/store.check -/
noncomputable def sh37 : List PSh := [.one (.int .i64), .agg [.str, .str, .int .i64], .one (.int .i64), .one (.int .i64)]
noncomputable def E37 : List (Ex × Ab.Spec) := [(.ret, ⟨[(8, .one (.int .i64))], [], []⟩)]
noncomputable def F37 (x0 : Int) (x1_Halves0 : ByteArray) (x1_Halves1 : ByteArray) (x1_Select : Int) (x2 : Int) (x3 : Int) : Option ((Int × Unit) × Unit) :=
  (F23 x0 x1_Halves0 x1_Halves1 x1_Select).bind fun y0 =>
  bif (!y0.1.1) then
    some (((1 : Int), ()), ())
  else
    bif (x2 != (0 : Int)) then
      bif (x2 != (1 : Int)) then
        some (((2 : Int), ()), ())
      else
        bif (decide ((x3 < (0 : Int)))) then
          some (((2 : Int), ()), ())
        else
          some (((0 : Int), ()), ())
    else
      bif (decide ((x3 < (0 : Int)))) then
        some (((2 : Int), ()), ())
      else
        some (((0 : Int), ()), ())
theorem eq37 (x : ArgT G sh37) : endC (cfV (tblOf l24)) noLp (fun _ => []) (fun _ => none) 23 (bodyOf Try.f37) sh37 E37 x = F37 x.1 x.2.1.1 x.2.1.2.1 x.2.1.2.2.1 x.2.2.1 x.2.2.2.1 := by kernel_rfl
noncomputable def e37 : FnE G := ⟨sh37, E37, fun x => F37 x.1 x.2.1.1 x.2.1.2.1 x.2.1.2.2.1 x.2.2.1 x.2.2.2.1, Try.f37.results.toList⟩
noncomputable def l37 : List (Nat × FnE G) := (37, e37) :: l24
theorem tb37 : TblOK Try.prog G (tblOf l37) := tbl_cons sigOK eqOK tb24 (by kernel_rfl) Try.func37 (by kernel_rfl) (by kernel_rfl) rfl (Nat.le_of_ble_eq_true (by kernel_rfl)) (by kernel_rfl) (fun k c' h => absurd h (by rw [show loops (bodyOf Try.f37) = [] from by kernel_rfl]; simp)) fun x _ h => (eq37 x).trans h

/-! ### overlay/overlayref08.check -/
noncomputable def sh38 : List PSh := [.one (.int .i64), .agg [.str, .str, .int .i64], .one (.int .i64), .one (.int .i64)]
noncomputable def E38 : List (Ex × Ab.Spec) := [(.ret, ⟨[(8, .one (.int .i64))], [], []⟩)]
noncomputable def F38 (x0 : Int) (x1_Halves0 : ByteArray) (x1_Halves1 : ByteArray) (x1_Select : Int) (x2 : Int) (x3 : Int) : Option ((Int × Unit) × Unit) :=
  (F24 x0 x1_Halves0 x1_Halves1 x1_Select).bind fun y0 =>
  bif (!y0.1.1) then
    some (((1 : Int), ()), ())
  else
    bif (x2 != (0 : Int)) then
      bif (x2 != (1 : Int)) then
        some (((2 : Int), ()), ())
      else
        bif (decide ((x3 < (0 : Int)))) then
          some (((2 : Int), ()), ())
        else
          some (((0 : Int), ()), ())
    else
      bif (decide ((x3 < (0 : Int)))) then
        some (((2 : Int), ()), ())
      else
        some (((0 : Int), ()), ())
theorem eq38 (x : ArgT G sh38) : endC (cfV (tblOf l37)) noLp (fun _ => []) (fun _ => none) 23 (bodyOf Try.f38) sh38 E38 x = F38 x.1 x.2.1.1 x.2.1.2.1 x.2.1.2.2.1 x.2.2.1 x.2.2.2.1 := by kernel_rfl
noncomputable def e38 : FnE G := ⟨sh38, E38, fun x => F38 x.1 x.2.1.1 x.2.1.2.1 x.2.1.2.2.1 x.2.2.1 x.2.2.2.1, Try.f38.results.toList⟩
noncomputable def l38 : List (Nat × FnE G) := (38, e38) :: l37
theorem tb38 : TblOK Try.prog G (tblOf l38) := tbl_cons sigOK eqOK tb37 (by kernel_rfl) Try.func38 (by kernel_rfl) (by kernel_rfl) rfl (Nat.le_of_ble_eq_true (by kernel_rfl)) (by kernel_rfl) (fun k c' h => absurd h (by rw [show loops (bodyOf Try.f38) = [] from by kernel_rfl]; simp)) fun x _ h => (eq38 x).trans h

/-! ### overlay/overlaylaw08.short -/
noncomputable def sh13 : List PSh := [.agg [.str, .str, .int .i64]]
noncomputable def E13 : List (Ex × Ab.Spec) := [(.ret, ⟨[(2, .one (.bool))], [], []⟩)]
noncomputable def F13 (x0_Halves0 : ByteArray) (x0_Halves1 : ByteArray) (_ : Int) : Option ((Bool × Unit) × Unit) :=
  bif (decide (((((ByteArray.size x0_Halves0) : Nat) : Int) ≤ (2000 : Int)))) then
    some (((decide (((((ByteArray.size x0_Halves1) : Nat) : Int) ≤ (2000 : Int)))), ()), ())
  else
    some ((false, ()), ())
theorem eq13 (x : ArgT G sh13) : endC (cfV (tblOf l38)) noLp (fun _ => []) (fun _ => none) 15 (bodyOf Try.f13) sh13 E13 x = F13 x.1.1 x.1.2.1 x.1.2.2.1 := by kernel_rfl
noncomputable def e13 : FnE G := ⟨sh13, E13, fun x => F13 x.1.1 x.1.2.1 x.1.2.2.1, Try.f13.results.toList⟩
noncomputable def l13 : List (Nat × FnE G) := (13, e13) :: l38
theorem tb13 : TblOK Try.prog G (tblOf l13) := tbl_cons sigOK eqOK tb38 (by kernel_rfl) Try.func13 (by kernel_rfl) (by kernel_rfl) rfl (Nat.le_of_ble_eq_true (by kernel_rfl)) (by kernel_rfl) (fun k c' h => absurd h (by rw [show loops (bodyOf Try.f13) = [] from by kernel_rfl]; simp)) fun x _ h => (eq13 x).trans h

/-! ### overlay/store.Write -/
noncomputable def sh15 : List PSh := [.one (.int .i64), .agg [.str, .str, .int .i64], .one (.int .i64), .one (.str), .one (.int .i64)]
noncomputable def E15 : List (Ex × Ab.Spec) := [(.ret, ⟨[(10, .one (.ptr 160 0)), (11, .one (.int .i64)), (12, .one (.int .i64))], [(160, [.str, .str, .int .i64])], []⟩)]
noncomputable def F15 (x0 : Int) (x1_Halves0 : ByteArray) (x1_Halves1 : ByteArray) (x1_Select : Int) (x2 : Int) (x3 : ByteArray) (x4 : Int) : Option ((Unit × Int × Int × Unit) × ((ByteArray × ByteArray × Int × Unit) × Unit)) :=
  (F37 x0 x1_Halves0 x1_Halves1 x1_Select x2 x4).bind fun y0 =>
  bif (y0.1.1 != (0 : Int)) then
    some (((), ((0 : Int), (y0.1.1, ()))), (((ByteArray.mk (Array.mk [])), ((ByteArray.mk (Array.mk [])), ((0 : Int), ()))), ()))
  else
    bif (Go.Ab.inB x2 2) then
      let z0 : ByteArray := (List.getD [x1_Halves0, x1_Halves1] (Int.toNat x2) (ByteArray.mk (Array.mk [])))
      bif (decide (((Go.IntKind.wrap Go.IntKind.i64 (x0 - (((ByteArray.size z0) : Nat) : Int))) < (((ByteArray.size x3) : Nat) : Int)))) then
        some (((), ((0 : Int), ((7 : Int), ()))), (((ByteArray.mk (Array.mk [])), ((ByteArray.mk (Array.mk [])), ((0 : Int), ()))), ()))
      else
        bif (decide ((x4 < (((ByteArray.size x3) : Nat) : Int)))) then
          bif (Go.Ab.inB x2 2) then
            bif ((decide (((0 : Int) ≤ x4))) && (decide ((x4 ≤ (((ByteArray.size x3) : Nat) : Int))))) then
              let z1 : ByteArray := (ByteArray.extract x3 0 (Int.toNat x4))
              bif (Nat.ble ((ByteArray.size z0) + (ByteArray.size z1)) 4611686018427387904) then
                bif (Go.Ab.inB x2 2) then
                  let z2 : ByteArray := (z0 ++ z1)
                  some (((), ((0 : Int), ((8 : Int), ()))), (((bif (Nat.beq (Int.toNat x2) 0) then z2 else x1_Halves0), ((bif (Nat.beq (Int.toNat x2) 1) then z2 else x1_Halves1), (x1_Select, ()))), ()))
                else
                  none
              else
                none
            else
              none
          else
            none
        else
          bif (Go.Ab.inB x2 2) then
            bif (Nat.ble ((ByteArray.size z0) + (ByteArray.size x3)) 4611686018427387904) then
              bif (Go.Ab.inB x2 2) then
                let z3 : ByteArray := (z0 ++ x3)
                some (((), ((Go.IntKind.wrap Go.IntKind.i64 (x4 - (((ByteArray.size x3) : Nat) : Int))), ((0 : Int), ()))), (((bif (Nat.beq (Int.toNat x2) 0) then z3 else x1_Halves0), ((bif (Nat.beq (Int.toNat x2) 1) then z3 else x1_Halves1), (x1_Select, ()))), ()))
              else
                none
            else
              none
          else
            none
    else
      none
theorem eq15 (x : ArgT G sh15) : endC (cfV (tblOf l13)) noLp (fun _ => []) (fun _ => none) 62 (bodyOf Try.f15) sh15 E15 x = F15 x.1 x.2.1.1 x.2.1.2.1 x.2.1.2.2.1 x.2.2.1 x.2.2.2.1 x.2.2.2.2.1 := by kernel_rfl
noncomputable def e15 : FnE G := ⟨sh15, E15, fun x => F15 x.1 x.2.1.1 x.2.1.2.1 x.2.1.2.2.1 x.2.2.1 x.2.2.2.1 x.2.2.2.2.1, Try.f15.results.toList⟩
noncomputable def l15 : List (Nat × FnE G) := (15, e15) :: l13
theorem tb15 : TblOK Try.prog G (tblOf l15) := tbl_cons sigOK eqOK tb13 (by kernel_rfl) Try.func15 (by kernel_rfl) (by kernel_rfl) rfl (Nat.le_of_ble_eq_true (by kernel_rfl)) (by kernel_rfl) (fun k c' h => absurd h (by rw [show loops (bodyOf Try.f15) = [] from by kernel_rfl]; simp)) fun x _ h => (eq15 x).trans h

/-! ### overlay/overlaylaw08.sane -/
noncomputable def sh14 : List PSh := []
noncomputable def E14 : List (Ex × Ab.Spec) := [(.ret, ⟨[(0, .one (.bool))], [], []⟩)]
noncomputable def F14 : Option ((Bool × Unit) × Unit) :=
  (F15 (5 : Int) (ByteArray.mk (Array.mk [])) (ByteArray.mk (Array.mk [])) (0 : Int) (1 : Int) (ByteArray.mk (Array.mk [(97 : UInt8), (98 : UInt8), (99 : UInt8)])) (2 : Int)).bind fun y0 =>
  (F15 (5 : Int) y0.2.1.1 y0.2.1.2.1 y0.2.1.2.2.1 (1 : Int) (ByteArray.mk (Array.mk [(97 : UInt8), (98 : UInt8), (99 : UInt8), (100 : UInt8)])) (9 : Int)).bind fun y1 =>
  bif (y0.1.2.2.1 == (8 : Int)) then
    bif (y0.1.2.1 == (0 : Int)) then
      bif (Go.Ab.eqB y0.2.1.2.1 (ByteArray.mk (Array.mk [(97 : UInt8), (98 : UInt8)]))) then
        bif (y1.1.2.2.1 == (7 : Int)) then
          (F21 y0.2.1.1 y0.2.1.2.1 y0.2.1.2.2.1).bind fun y2 =>
          some (((Go.Ab.eqB y2.1.1 (ByteArray.mk (Array.mk []))), ()), ())
        else
          some ((false, ()), ())
      else
        some ((false, ()), ())
    else
      some ((false, ()), ())
  else
    some ((false, ()), ())
theorem eq14 (x : ArgT G sh14) : endC (cfV (tblOf l15)) noLp (fun _ => []) (fun _ => none) 40 (bodyOf Try.f14) sh14 E14 x = F14 := by kernel_rfl
noncomputable def e14 : FnE G := ⟨sh14, E14, fun _ => F14, Try.f14.results.toList⟩
noncomputable def l14 : List (Nat × FnE G) := (14, e14) :: l15
theorem tb14 : TblOK Try.prog G (tblOf l14) := tbl_cons sigOK eqOK tb15 (by kernel_rfl) Try.func14 (by kernel_rfl) (by kernel_rfl) rfl (Nat.le_of_ble_eq_true (by kernel_rfl)) (by kernel_rfl) (fun k c' h => absurd h (by rw [show loops (bodyOf Try.f14) = [] from by kernel_rfl]; simp)) fun x _ h => (eq14 x).trans h

/-! ### overlay/overlaylaw08.StoreSplits -/
noncomputable def sh3 : List PSh := [.agg [.str, .str, .int .i64], .one (.str), .agg [.int .u16, .int .u16]]
noncomputable def E3 : List (Ex × Ab.Spec) := [(.ret, ⟨[(6, .one (.bool))], [], []⟩)]
noncomputable def F3 (x0_Halves0 : ByteArray) (x0_Halves1 : ByteArray) (x0_Select : Int) (x1 : ByteArray) (x2_0 : Int) (x2_1 : Int) : Option ((Bool × Unit) × Unit) :=
  (F13 x0_Halves0 x0_Halves1 x0_Select).bind fun y0 =>
  bif (!y0.1.1) then
    F14.bind fun y1 =>
    some ((y1.1.1, ()), ())
  else
    bif (decide (((500 : Int) < (((ByteArray.size x1) : Nat) : Int)))) then
      F14.bind fun y1 =>
      some ((y1.1.1, ()), ())
    else
      let z0 : Int := (Go.IntKind.wrap Go.IntKind.i64 ((((ByteArray.size x1) : Nat) : Int) + (1 : Int)))
      bif (z0 != (0 : Int)) then
        let z1 : Int := (Go.IntKind.wrap Go.IntKind.i64 ((((ByteArray.size x1) : Nat) : Int) + (3 : Int)))
        bif (z1 != (0 : Int)) then
          let z2 : Int := (Int.tmod (Go.IntKind.wrap Go.IntKind.i64 x2_1) z1)
          (F15 (9000 : Int) x0_Halves0 x0_Halves1 (0 : Int) (1 : Int) x1 z2).bind fun y1 =>
          let z3 : Int := (Int.tmod (Go.IntKind.wrap Go.IntKind.i64 x2_0) z0)
          bif ((decide (((0 : Int) ≤ z3))) && (decide ((z3 ≤ (((ByteArray.size x1) : Nat) : Int))))) then
            (F15 (9000 : Int) x0_Halves0 x0_Halves1 (0 : Int) (1 : Int) (ByteArray.extract x1 0 (Int.toNat z3)) z2).bind fun y2 =>
            bif (y2.1.2.2.1 == (0 : Int)) then
              bif ((decide (((0 : Int) ≤ z3))) && (decide ((z3 ≤ (((ByteArray.size x1) : Nat) : Int))))) then
                (F15 (9000 : Int) y2.2.1.1 y2.2.1.2.1 y2.2.1.2.2.1 (1 : Int) (ByteArray.extract x1 (Int.toNat z3) (ByteArray.size x1)) y2.1.2.1).bind fun y3 =>
                bif ((Go.Ab.eqB y1.2.1.1 y3.2.1.1) && ((Go.Ab.eqB y1.2.1.2.1 y3.2.1.2.1) && ((y1.2.1.2.2.1 == y3.2.1.2.2.1) && true))) then
                  bif (y1.1.2.1 == y3.1.2.1) then
                    bif (y1.1.2.2.1 == y3.1.2.2.1) then
                      bif ((y1.1.2.2.1 == (0 : Int)) == (decide (((((ByteArray.size x1) : Nat) : Int) ≤ z2)))) then
                        let z4 : Int := (bif (decide (((((ByteArray.size x1) : Nat) : Int) < z2))) then (((ByteArray.size x1) : Nat) : Int) else z2)
                        bif ((decide (((0 : Int) ≤ z4))) && (decide ((z4 ≤ (((ByteArray.size x1) : Nat) : Int))))) then
                          let z5 : ByteArray := (ByteArray.extract x1 0 (Int.toNat z4))
                          let z6 : Nat := ((ByteArray.size x0_Halves1) + (ByteArray.size z5))
                          bif (Nat.ble z6 4611686018427387904) then
                            let z7 : ByteArray := (x0_Halves1 ++ z5)
                            bif (Go.Ab.eqB y1.2.1.2.1 z7) then
                              bif (Go.Ab.eqB y1.2.1.1 x0_Halves0) then
                                let z8 : Int := (Go.IntKind.wrap Go.IntKind.i64 (z2 - z4))
                                bif (y1.1.2.1 == z8) then
                                  F14.bind fun y4 =>
                                  some ((y4.1.1, ()), ())
                                else
                                  some ((false, ()), ())
                              else
                                some ((false, ()), ())
                            else
                              some ((false, ()), ())
                          else
                            none
                        else
                          none
                      else
                        some ((false, ()), ())
                    else
                      some ((false, ()), ())
                  else
                    some ((false, ()), ())
                else
                  some ((false, ()), ())
              else
                none
            else
              bif ((Go.Ab.eqB y1.2.1.1 y2.2.1.1) && ((Go.Ab.eqB y1.2.1.2.1 y2.2.1.2.1) && ((y1.2.1.2.2.1 == y2.2.1.2.2.1) && true))) then
                bif (y1.1.2.1 == y2.1.2.1) then
                  bif (y1.1.2.2.1 == y2.1.2.2.1) then
                    bif ((y1.1.2.2.1 == (0 : Int)) == (decide (((((ByteArray.size x1) : Nat) : Int) ≤ z2)))) then
                      let z9 : Int := (bif (decide (((((ByteArray.size x1) : Nat) : Int) < z2))) then (((ByteArray.size x1) : Nat) : Int) else z2)
                      bif ((decide (((0 : Int) ≤ z9))) && (decide ((z9 ≤ (((ByteArray.size x1) : Nat) : Int))))) then
                        let z10 : ByteArray := (ByteArray.extract x1 0 (Int.toNat z9))
                        let z11 : Nat := ((ByteArray.size x0_Halves1) + (ByteArray.size z10))
                        bif (Nat.ble z11 4611686018427387904) then
                          let z12 : ByteArray := (x0_Halves1 ++ z10)
                          bif (Go.Ab.eqB y1.2.1.2.1 z12) then
                            bif (Go.Ab.eqB y1.2.1.1 x0_Halves0) then
                              let z13 : Int := (Go.IntKind.wrap Go.IntKind.i64 (z2 - z9))
                              bif (y1.1.2.1 == z13) then
                                F14.bind fun y3 =>
                                some ((y3.1.1, ()), ())
                              else
                                some ((false, ()), ())
                            else
                              some ((false, ()), ())
                          else
                            some ((false, ()), ())
                        else
                          none
                      else
                        none
                    else
                      some ((false, ()), ())
                  else
                    some ((false, ()), ())
                else
                  some ((false, ()), ())
              else
                some ((false, ()), ())
          else
            none
        else
          none
      else
        none
theorem eq3 (x : ArgT G sh3) : endC (cfV (tblOf l14)) noLp (fun _ => []) (fun _ => none) 128 (bodyOf Try.f3) sh3 E3 x = F3 x.1.1 x.1.2.1 x.1.2.2.1 x.2.1 x.2.2.1.1 x.2.2.1.2.1 := by kernel_rfl
noncomputable def e3 : FnE G := ⟨sh3, E3, fun x => F3 x.1.1 x.1.2.1 x.1.2.2.1 x.2.1 x.2.2.1.1 x.2.2.1.2.1, Try.f3.results.toList⟩
noncomputable def l3 : List (Nat × FnE G) := (3, e3) :: l14
theorem tb3 : TblOK Try.prog G (tblOf l3) := tbl_cons sigOK eqOK tb14 (by kernel_rfl) Try.func3 (by kernel_rfl) (by kernel_rfl) rfl (Nat.le_of_ble_eq_true (by kernel_rfl)) (by kernel_rfl) (fun k c' h => absurd h (by rw [show loops (bodyOf Try.f3) = [] from by kernel_rfl]; simp)) fun x _ h => (eq3 x).trans h
end Go.Proofs.Yt
