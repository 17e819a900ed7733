/- The contracts of the program's functions: part 2. -/
import Derived.Test.YticbfghinhhgiaaSig
import Derived.Test.YticbfghinhhgiaaDefs1
import Derived.Test.YticbfghinhhgiaaFns1
namespace Go.Ovl
open Go Go.Ab Go.Proofs
set_option maxRecDepth 100000
/-! ### overlay/overlaylaw10.LogKeeps -/
def I_l10_LogKeeps : Ab.Spec := ⟨[(0, .one (.int .u8)), (1, .one (.int .u8)), (2, .one (.ro 5))], [], []⟩
def E_l10_LogKeeps : List (Ex × Ab.Spec) := [(.ret, ⟨[(6, .one (.bool))], [], []⟩)]
def J_l10_LogKeeps : Nat → Option (List (Ex × Ab.Spec)) := fun n => get [] n
noncomputable def T_l10_LogKeeps : List (Nat × Fe G) := [(10, e_l10_Building), (24, e_log_Initial), (11, e_l09_Records), (26, e_log_Append), (27, e_r10_Find), (23, e_r10_Apply), (21, e_r10_Same), (28, e_log_Replay), (9, e_l10_sane)]
def S_l10_LogKeeps_0 : Ab.Spec := ⟨[(7, .one (.ptr 112 0)), (8, .one (.ptr 128 0)), (9, .one (.ptr 144 0)), (10, .one (.own 32768 47)), (11, .one (.int .i64))], [(112, [.int .i64, .int .i64, .int .i64, .int .i64, .flt .f64, .flt .f64, .flt .f64, .own 32769 100]), (128, [.str, .str, .int .i64]), (144, [.own 32770 3, .own 32771 4, .own 32772 4, .own 32773 69])], []⟩
def X_l10_LogKeeps_0 : List (Ex × Ab.Spec) := [(.exit 0, ⟨[], [], []⟩), (.ret, ⟨[(6, .one (.bool))], [], []⟩)]
noncomputable def P_l10_LogKeeps : Nat → St G → M (Ex × St G) := fun n => bif Nat.beq n 0 then lpX S_l10_LogKeeps_0 X_l10_LogKeeps_0 L_l10_LogKeeps_0 else fun _ => M.fail
theorem tT_l10_LogKeeps : ∀ p ∈ T_l10_LogKeeps, FnOK Try.prog G p.1 p.2 := List.forall_mem_cons.2 ⟨ok_l10_Building, List.forall_mem_cons.2 ⟨ok_log_Initial, List.forall_mem_cons.2 ⟨ok_l09_Records, List.forall_mem_cons.2 ⟨ok_log_Append, List.forall_mem_cons.2 ⟨ok_r10_Find, List.forall_mem_cons.2 ⟨ok_r10_Apply, List.forall_mem_cons.2 ⟨ok_r10_Same, List.forall_mem_cons.2 ⟨ok_log_Replay, List.forall_mem_cons.2 ⟨ok_l10_sane, (fun _ h => absurd h (List.not_mem_nil))⟩⟩⟩⟩⟩⟩⟩⟩⟩
noncomputable def HR_l10_LogKeeps_0 (_h_l10_sane : (Unit × Unit) → Option ((Bool × Unit) × Unit)) (x_1 : List (Record)) (i : Int) (b_Floors : Int) (b_Debounce : Int) (b_Room : Int) (b_Park : Int) (b_Empty : Nat) (b_Full : Nat) (b_Over : Nat) (b_Cars : List (Car)) (s_Halves_0 : ByteArray) (s_Halves_1 : ByteArray) (s_Select : Int) (m_Phases : List (Int)) (m_Flags : List (Bool)) (m_Leaving : List (Bool)) (m_Entries : List (Entry)) : Option (Sum ((Unit × Unit × Unit × List (Record) × Int × Unit) × ((Int × Int × Int × Int × Nat × Nat × Nat × List (Car) × Unit) × (ByteArray × ByteArray × Int × Unit) × (List (Int) × List (Bool) × List (Bool) × List (Entry) × Unit) × Unit)) ((Unit × Unit) ⊕ ((Bool × Unit) × Unit))) :=
  bif (decide (i < ((List.length x_1 : Nat) : Int))) then
    bif (Go.Ab.inB i (List.length x_1)) then
      let z0 : Record := (List.getD x_1 (Int.toNat i) (Record.mk (0 : Int) (0 : Int) (0 : Int) (0 : Int) (0 : Int)))
      (F_log_Append b_Floors b_Debounce b_Room b_Park b_Empty b_Full b_Over b_Cars s_Halves_0 s_Halves_1 s_Select m_Phases m_Flags m_Leaving m_Entries z0.Kind z0.Floor z0.Dir z0.Car z0.Value (100000 : Int)).bind fun y1 =>
      bif (y1.1.2.2.2.1 == (7 : Int)) then
        bif (Go.Ab.inB i (List.length x_1)) then
          bif ((List.getD x_1 (Int.toNat i) (Record.mk (0 : Int) (0 : Int) (0 : Int) (0 : Int) (0 : Int))).Kind != (1 : Int)) then
            some (Sum.inr (Sum.inr ((false, ()), ())))
          else
            bif (Go.Ab.inB i (List.length x_1)) then
              bif (Go.Ab.inB i (List.length x_1)) then
                (F_r10_Find m_Phases m_Flags m_Leaving m_Entries (List.getD x_1 (Int.toNat i) (Record.mk (0 : Int) (0 : Int) (0 : Int) (0 : Int) (0 : Int))).Floor (List.getD x_1 (Int.toNat i) (Record.mk (0 : Int) (0 : Int) (0 : Int) (0 : Int) (0 : Int))).Dir).bind fun y2 =>
                bif (decide ((0 : Int) ≤ y2.1.1)) then
                  some (Sum.inr (Sum.inr ((false, ()), ())))
                else
                  bif (decide ((Go.IntKind.wrap Go.IntKind.i64 ((Go.IntKind.wrap Go.IntKind.i64 ((18 : Int) * (Go.IntKind.wrap Go.IntKind.i64 ((Go.IntKind.wrap Go.IntKind.i64 (((List.length b_Cars : Nat) : Int) + ((List.length m_Entries : Nat) : Int))) + (1 : Int))))) + (6 : Int))) ≤ b_Room)) then
                    some (Sum.inr (Sum.inr ((false, ()), ())))
                  else
                    some (Sum.inl (((), (), (), x_1, (Go.IntKind.wrap Go.IntKind.i64 (i + (1 : Int))), ()), ((b_Floors, b_Debounce, b_Room, b_Park, b_Empty, b_Full, b_Over, b_Cars, ()), (s_Halves_0, s_Halves_1, s_Select, ()), (m_Phases, m_Flags, m_Leaving, m_Entries, ()), ())))
              else
                none
            else
              none
        else
          none
      else
        bif (Go.Ab.inB i (List.length x_1)) then
          let z1 : Record := (List.getD x_1 (Int.toNat i) (Record.mk (0 : Int) (0 : Int) (0 : Int) (0 : Int) (0 : Int)))
          (F_r10_Apply b_Floors b_Debounce b_Room b_Park b_Empty b_Full b_Over b_Cars m_Phases m_Flags m_Leaving m_Entries z1.Kind z1.Floor z1.Dir z1.Car z1.Value).bind fun y3 =>
          bif (y1.1.2.2.2.1 != (0 : Int)) then
            some (Sum.inr (Sum.inr ((false, ()), ())))
          else
            bif (y3.1.2.1 != (0 : Int)) then
              some (Sum.inr (Sum.inr ((false, ()), ())))
            else
              (F_r10_Same y1.2.2.1.1 y1.2.2.1.2.1 y1.2.2.1.2.2.1 y1.2.2.1.2.2.2.1 y3.2.1.1 y3.2.1.2.1 y3.2.1.2.2.1 y3.2.1.2.2.2.1).bind fun y4 =>
              bif (!y4.1.1) then
                some (Sum.inr (Sum.inr ((false, ()), ())))
              else
                (F_log_Replay b_Floors b_Debounce b_Room b_Park b_Empty b_Full b_Over b_Cars y1.2.1.1 y1.2.1.2.1 y1.2.1.2.2.1).bind fun y5 =>
                (F_r10_Same y5.2.1.1 y5.2.1.2.1 y5.2.1.2.2.1 y5.2.1.2.2.2.1 y1.2.2.1.1 y1.2.2.1.2.1 y1.2.2.1.2.2.1 y1.2.2.1.2.2.2.1).bind fun y6 =>
                bif (!y6.1.1) then
                  some (Sum.inr (Sum.inr ((false, ()), ())))
                else
                  bif (decide (b_Room < ((ByteArray.size y1.2.1.1 : Nat) : Int))) then
                    some (Sum.inr (Sum.inr ((false, ()), ())))
                  else
                    bif (decide (b_Room < ((ByteArray.size y1.2.1.2.1 : Nat) : Int))) then
                      some (Sum.inr (Sum.inr ((false, ()), ())))
                    else
                      some (Sum.inl (((), (), (), x_1, (Go.IntKind.wrap Go.IntKind.i64 (i + (1 : Int))), ()), ((b_Floors, b_Debounce, b_Room, b_Park, b_Empty, b_Full, b_Over, b_Cars, ()), (y1.2.1.1, y1.2.1.2.1, y1.2.1.2.2.1, ()), (y1.2.2.1.1, y1.2.2.1.2.1, y1.2.2.1.2.2.1, y1.2.2.1.2.2.2.1, ()), ())))
        else
          none
    else
      none
  else
    some (Sum.inr (Sum.inl ((), ())))
theorem rg_l10_LogKeeps_0 (h_l10_sane : (Unit × Unit) → Option ((Bool × Unit) × Unit)) (x : S_l10_LogKeeps_0.T G) : rndI (cfP [(10, e_l10_Building), (24, e_log_Initial), (11, e_l09_Records), (26, e_log_Append), (27, e_r10_Find), (23, e_r10_Apply), (21, e_r10_Same), (28, e_log_Replay), (9, Fe.mk (G := G) I_l10_sane E_l10_sane h_l10_sane Try.f9.results.toList)]) P_l10_LogKeeps J_l10_LogKeeps 135 1 (loopOf (bodyOf Try.f5) 0) S_l10_LogKeeps_0 X_l10_LogKeeps_0 x = HR_l10_LogKeeps_0 h_l10_sane x.1.2.2.2.1 x.1.2.2.2.2.1 x.2.1.1 x.2.1.2.1 x.2.1.2.2.1 x.2.1.2.2.2.1 x.2.1.2.2.2.2.1 x.2.1.2.2.2.2.2.1 x.2.1.2.2.2.2.2.2.1 x.2.1.2.2.2.2.2.2.2.1 x.2.2.1.1 x.2.2.1.2.1 x.2.2.1.2.2.1 x.2.2.2.1.1 x.2.2.2.1.2.1 x.2.2.2.1.2.2.1 x.2.2.2.1.2.2.2.1 := by kernel_rfl
theorem r_l10_LogKeeps_0 (x : S_l10_LogKeeps_0.T G) : rndI (cfP T_l10_LogKeeps) P_l10_LogKeeps J_l10_LogKeeps 135 1 (loopOf (bodyOf Try.f5) 0) S_l10_LogKeeps_0 X_l10_LogKeeps_0 x = R_l10_LogKeeps_0 x.1.2.2.2.1 x.1.2.2.2.2.1 x.2.1.1 x.2.1.2.1 x.2.1.2.2.1 x.2.1.2.2.2.1 x.2.1.2.2.2.2.1 x.2.1.2.2.2.2.2.1 x.2.1.2.2.2.2.2.2.1 x.2.1.2.2.2.2.2.2.2.1 x.2.2.1.1 x.2.2.1.2.1 x.2.2.1.2.2.1 x.2.2.2.1.1 x.2.2.2.1.2.1 x.2.2.2.1.2.2.1 x.2.2.2.1.2.2.2.1 := (rg_l10_LogKeeps_0 (fun _ => F_l10_sane ) x).trans (by kernel_rfl)
theorem lk_l10_LogKeeps_0 : LoopOK Try.prog G 135 (P_l10_LogKeeps 0) (loopOf (bodyOf Try.f5) 0) := loop_ok (lp := P_l10_LogKeeps) (n := 1) (k := 0) sigOK eqOK hmix tT_l10_LogKeeps S_l10_LogKeeps_0 X_l10_LogKeeps_0 (fun x => R_l10_LogKeeps_0 x.1.2.2.2.1 x.1.2.2.2.2.1 x.2.1.1 x.2.1.2.1 x.2.1.2.2.1 x.2.1.2.2.2.1 x.2.1.2.2.2.2.1 x.2.1.2.2.2.2.2.1 x.2.1.2.2.2.2.2.2.1 x.2.1.2.2.2.2.2.2.2.1 x.2.2.1.1 x.2.2.1.2.1 x.2.2.1.2.2.1 x.2.2.2.1.1 x.2.2.2.1.2.1 x.2.2.2.1.2.2.1 x.2.2.2.1.2.2.2.1) (by kernel_rfl) (show AllAt (fun k c => LoopOK Try.prog G 135 (P_l10_LogKeeps k) c) 1 _ from (allAt_of [] (by kernel_rfl) allAt_n)) r_l10_LogKeeps_0
noncomputable def H_l10_LogKeeps (h_l10_sane : (Unit × Unit) → Option ((Bool × Unit) × Unit)) (n : Int) (room : Int) (l : List (Int)) : Option ((Bool × Unit) × Unit) :=
  (F_l10_Building n room).bind fun y1 =>
  (F_log_Initial y1.2.1.1 y1.2.1.2.1 y1.2.1.2.2.1 y1.2.1.2.2.2.1 y1.2.1.2.2.2.2.1 y1.2.1.2.2.2.2.2.1 y1.2.1.2.2.2.2.2.2.1 y1.2.1.2.2.2.2.2.2.2.1).bind fun y2 =>
  (F_l09_Records y1.2.1.1 y1.2.1.2.1 y1.2.1.2.2.1 y1.2.1.2.2.2.1 y1.2.1.2.2.2.2.1 y1.2.1.2.2.2.2.2.1 y1.2.1.2.2.2.2.2.2.1 y1.2.1.2.2.2.2.2.2.2.1 l (100 : Int)).bind fun y3 =>
  (L_l10_LogKeeps_0 (((), (), (), y3.1.1, (0 : Int), ()), ((y1.2.1.1, y1.2.1.2.1, y1.2.1.2.2.1, y1.2.1.2.2.2.1, y1.2.1.2.2.2.2.1, y1.2.1.2.2.2.2.2.1, y1.2.1.2.2.2.2.2.2.1, y1.2.1.2.2.2.2.2.2.2.1, ()), ((ByteArray.mk (Array.mk [])), (ByteArray.mk (Array.mk [])), (0 : Int), ()), (y2.2.1.1, y2.2.1.2.1, y2.2.1.2.2.1, y2.2.1.2.2.2.1, ()), ()))).bind fun y4 =>
  (match y4 with
  | .inl y5 =>
    (h_l10_sane ((), ())).bind fun y6 =>
    some ((y6.1.1, ()), ())
  | .inr y5 =>
    some ((y5.1.1, ()), ()))
theorem qg_l10_LogKeeps (h_l10_sane : (Unit × Unit) → Option ((Bool × Unit) × Unit)) (x : I_l10_LogKeeps.T G) : endI (cfP [(10, e_l10_Building), (24, e_log_Initial), (11, e_l09_Records), (26, e_log_Append), (27, e_r10_Find), (23, e_r10_Apply), (21, e_r10_Same), (28, e_log_Replay), (9, Fe.mk (G := G) I_l10_sane E_l10_sane h_l10_sane Try.f9.results.toList)]) P_l10_LogKeeps J_l10_LogKeeps 135 (bodyOf Try.f5) I_l10_LogKeeps E_l10_LogKeeps x = H_l10_LogKeeps h_l10_sane x.1.1 x.1.2.1 x.1.2.2.1 := by kernel_rfl
theorem q_l10_LogKeeps (x : I_l10_LogKeeps.T G) : endI (cfP T_l10_LogKeeps) P_l10_LogKeeps J_l10_LogKeeps 135 (bodyOf Try.f5) I_l10_LogKeeps E_l10_LogKeeps x = F_l10_LogKeeps x.1.1 x.1.2.1 x.1.2.2.1 := (qg_l10_LogKeeps (fun _ => F_l10_sane ) x).trans (by kernel_rfl)
noncomputable def e_l10_LogKeeps : Fe G := ⟨I_l10_LogKeeps, E_l10_LogKeeps, fun x => F_l10_LogKeeps x.1.1 x.1.2.1 x.1.2.2.1, Try.f5.results.toList⟩
theorem ok_l10_LogKeeps : FnOK Try.prog G 5 e_l10_LogKeeps := fn_ok (e := e_l10_LogKeeps) sigOK eqOK hmix tT_l10_LogKeeps Try.func5 (by kernel_rfl) (by kernel_rfl) rfl (by kernel_rfl) (allAt_zero (Q := fun k c => LoopOK Try.prog G 135 (P_l10_LogKeeps k) c) (allAt_of [loopOf (bodyOf Try.f5) 0] (by kernel_rfl) (allAt_c lk_l10_LogKeeps_0 allAt_n))) q_l10_LogKeeps
/-! ### overlay/overlayref02.Sum8 -/
def I_r02_Sum8 : Ab.Spec := ⟨[(0, .one (.str))], [], []⟩
def E_r02_Sum8 : List (Ex × Ab.Spec) := [(.ret, ⟨[(2, .one (.int .u8))], [], []⟩)]
def J_r02_Sum8 : Nat → Option (List (Ex × Ab.Spec)) := fun n => get [] n
noncomputable def T_r02_Sum8 : List (Nat × Fe G) := []
def S_r02_Sum8_0 : Ab.Spec := ⟨[(0, .one (.str)), (3, .one (.int .i64)), (4, .one (.int .i64))], [], []⟩
def X_r02_Sum8_0 : List (Ex × Ab.Spec) := [(.exit 0, ⟨[(3, .one (.int .i64))], [], []⟩)]
def S_r02_Sum8_1 : Ab.Spec := ⟨[(0, .one (.str)), (3, .one (.int .i64)), (4, .one (.int .i64)), (5, .one (.int .i64))], [], []⟩
def X_r02_Sum8_1 : List (Ex × Ab.Spec) := [(.exit 2, ⟨[(0, .one (.str)), (3, .one (.int .i64)), (4, .one (.int .i64))], [], []⟩)]
noncomputable def P_r02_Sum8 : Nat → St G → M (Ex × St G) := fun n => bif Nat.beq n 0 then lpX S_r02_Sum8_0 X_r02_Sum8_0 L_r02_Sum8_0 else bif Nat.beq n 1 then lpX S_r02_Sum8_1 X_r02_Sum8_1 L_r02_Sum8_1 else fun _ => M.fail
theorem tT_r02_Sum8 : ∀ p ∈ T_r02_Sum8, FnOK Try.prog G p.1 p.2 := (fun _ h => absurd h (List.not_mem_nil))
theorem r_r02_Sum8_1 (x : S_r02_Sum8_1.T G) : rndI (cfP T_r02_Sum8) P_r02_Sum8 J_r02_Sum8 33 2 (loopOf (bodyOf Try.f87) 1) S_r02_Sum8_1 X_r02_Sum8_1 x = R_r02_Sum8_1 x.1.1 x.1.2.1 x.1.2.2.1 x.1.2.2.2.1 := by kernel_rfl
theorem lk_r02_Sum8_1 : LoopOK Try.prog G 33 (P_r02_Sum8 1) (loopOf (bodyOf Try.f87) 1) := loop_ok (lp := P_r02_Sum8) (n := 2) (k := 1) sigOK eqOK hmix tT_r02_Sum8 S_r02_Sum8_1 X_r02_Sum8_1 (fun x => R_r02_Sum8_1 x.1.1 x.1.2.1 x.1.2.2.1 x.1.2.2.2.1) (by kernel_rfl) (show AllAt (fun k c => LoopOK Try.prog G 33 (P_r02_Sum8 k) c) 2 _ from (allAt_of [] (by kernel_rfl) allAt_n)) r_r02_Sum8_1
theorem r_r02_Sum8_0 (x : S_r02_Sum8_0.T G) : rndI (cfP T_r02_Sum8) P_r02_Sum8 J_r02_Sum8 33 1 (loopOf (bodyOf Try.f87) 0) S_r02_Sum8_0 X_r02_Sum8_0 x = R_r02_Sum8_0 x.1.1 x.1.2.1 x.1.2.2.1 := by kernel_rfl
theorem lk_r02_Sum8_0 : LoopOK Try.prog G 33 (P_r02_Sum8 0) (loopOf (bodyOf Try.f87) 0) := loop_ok (lp := P_r02_Sum8) (n := 1) (k := 0) sigOK eqOK hmix tT_r02_Sum8 S_r02_Sum8_0 X_r02_Sum8_0 (fun x => R_r02_Sum8_0 x.1.1 x.1.2.1 x.1.2.2.1) (by kernel_rfl) (show AllAt (fun k c => LoopOK Try.prog G 33 (P_r02_Sum8 k) c) 1 _ from (allAt_of [loopOf (bodyOf Try.f87) 1] (by kernel_rfl) (allAt_c lk_r02_Sum8_1 allAt_n))) r_r02_Sum8_0
theorem q_r02_Sum8 (x : I_r02_Sum8.T G) : endI (cfP T_r02_Sum8) P_r02_Sum8 J_r02_Sum8 33 (bodyOf Try.f87) I_r02_Sum8 E_r02_Sum8 x = F_r02_Sum8 x.1.1 := by kernel_rfl
noncomputable def e_r02_Sum8 : Fe G := ⟨I_r02_Sum8, E_r02_Sum8, fun x => F_r02_Sum8 x.1.1, Try.f87.results.toList⟩
theorem ok_r02_Sum8 : FnOK Try.prog G 87 e_r02_Sum8 := fn_ok (e := e_r02_Sum8) sigOK eqOK hmix tT_r02_Sum8 Try.func87 (by kernel_rfl) (by kernel_rfl) rfl (by kernel_rfl) (allAt_zero (Q := fun k c => LoopOK Try.prog G 33 (P_r02_Sum8 k) c) (allAt_of [loopOf (bodyOf Try.f87) 0, loopOf (bodyOf Try.f87) 1] (by kernel_rfl) (allAt_c lk_r02_Sum8_0 (allAt_c lk_r02_Sum8_1 allAt_n)))) q_r02_Sum8
/-! ### overlay/overlayref09.Encode -/
def I_r09_Encode : Ab.Spec := ⟨[(0, .agg [.int .i64, .int .i64, .int .i64, .int .i64, .flt .f64, .flt .f64, .flt .f64, .ro 100]), (1, .agg [.int .i64, .int .i64, .int .i64, .int .i64, .int .i64])], [], []⟩
def E_r09_Encode : List (Ex × Ab.Spec) := [(.ret, ⟨[(4, .one (.str)), (5, .one (.int .i64))], [], []⟩)]
def J_r09_Encode : Nat → Option (List (Ex × Ab.Spec)) := fun n => get [] n
noncomputable def T_r09_Encode : List (Nat × Fe G) := [(53, e_r09_Valid), (87, e_r02_Sum8)]
noncomputable def P_r09_Encode : Nat → St G → M (Ex × St G) := fun _ _ => M.fail
theorem tT_r09_Encode : ∀ p ∈ T_r09_Encode, FnOK Try.prog G p.1 p.2 := List.forall_mem_cons.2 ⟨ok_r09_Valid, List.forall_mem_cons.2 ⟨ok_r02_Sum8, (fun _ h => absurd h (List.not_mem_nil))⟩⟩
theorem q_r09_Encode (x : I_r09_Encode.T G) : endI (cfP T_r09_Encode) P_r09_Encode J_r09_Encode 35 (bodyOf Try.f62) I_r09_Encode E_r09_Encode x = F_r09_Encode x.1.1.1 x.1.1.2.1 x.1.1.2.2.1 x.1.1.2.2.2.1 x.1.1.2.2.2.2.1 x.1.1.2.2.2.2.2.1 x.1.1.2.2.2.2.2.2.1 x.1.1.2.2.2.2.2.2.2.1 x.1.2.1.1 x.1.2.1.2.1 x.1.2.1.2.2.1 x.1.2.1.2.2.2.1 x.1.2.1.2.2.2.2.1 := by kernel_rfl
noncomputable def e_r09_Encode : Fe G := ⟨I_r09_Encode, E_r09_Encode, fun x => F_r09_Encode x.1.1.1 x.1.1.2.1 x.1.1.2.2.1 x.1.1.2.2.2.1 x.1.1.2.2.2.2.1 x.1.1.2.2.2.2.2.1 x.1.1.2.2.2.2.2.2.1 x.1.1.2.2.2.2.2.2.2.1 x.1.2.1.1 x.1.2.1.2.1 x.1.2.1.2.2.1 x.1.2.1.2.2.2.1 x.1.2.1.2.2.2.2.1, Try.f62.results.toList⟩
theorem ok_r09_Encode : FnOK Try.prog G 62 e_r09_Encode := fn_ok (e := e_r09_Encode) sigOK eqOK hmix tT_r09_Encode Try.func62 (by kernel_rfl) (by kernel_rfl) rfl (by kernel_rfl) (allAt_zero (Q := fun k c => LoopOK Try.prog G 35 (P_r09_Encode k) c) (allAt_of [] (by kernel_rfl) allAt_n)) q_r09_Encode
end Go.Ovl
