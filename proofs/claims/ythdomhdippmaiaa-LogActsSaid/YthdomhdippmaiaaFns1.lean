/- The contracts of the program's functions: part 1. -/
import Derived.Test.YthdomhdippmaiaaSig
import Derived.Test.YthdomhdippmaiaaDefs1
import Derived.Test.YthdomhdippmaiaaHand
namespace Go.Ovl
open Go Go.Ab Go.Proofs
set_option maxRecDepth 100000
/-! ### overlay/overlaylaw01.Sample -/
def I_l01_Sample : Ab.Spec := ⟨[(0, .one (.int .i64)), (1, .one (.int .i64))], [], []⟩
def E_l01_Sample : List (Ex × Ab.Spec) := [(.ret, ⟨[(4, .one (.ptr 64 0))], [(64, [.int .i64, .int .i64, .int .i64, .int .i64, .flt .f64, .flt .f64, .flt .f64, .own 32768 100])], []⟩)]
def J_l01_Sample : Nat → Option (List (Ex × Ab.Spec)) := fun n => get [] n
noncomputable def T_l01_Sample : List (Nat × Fe G) := []
def S_l01_Sample_0 : Ab.Spec := ⟨[(0, .one (.int .i64)), (1, .one (.int .i64)), (4, .one (.ptr 64 0)), (5, .one (.ptr 80 0)), (6, .one (.int .i64))], [(64, [.int .i64, .int .i64, .int .i64, .int .i64, .flt .f64, .flt .f64, .flt .f64, .own 32768 100]), (80, [.int .i64, .int .i64, .int .i64, .int .i64, .flt .f64, .flt .f64, .flt .f64, .own 32769 100])], []⟩
def X_l01_Sample_0 : List (Ex × Ab.Spec) := [(.exit 0, ⟨[(4, .one (.ptr 64 0)), (5, .one (.ptr 80 0))], [(64, [.int .i64, .int .i64, .int .i64, .int .i64, .flt .f64, .flt .f64, .flt .f64, .own 32768 100]), (80, [.int .i64, .int .i64, .int .i64, .int .i64, .flt .f64, .flt .f64, .flt .f64, .own 32769 100])], []⟩)]
noncomputable def P_l01_Sample : Nat → St G → M (Ex × St G) := fun n => bif Nat.beq n 0 then lpX S_l01_Sample_0 X_l01_Sample_0 L_l01_Sample_0 else fun _ => M.fail
theorem tT_l01_Sample : ∀ p ∈ T_l01_Sample, FnOK Try.prog G p.1 p.2 := (fun _ h => absurd h (List.not_mem_nil))
theorem r_l01_Sample_0 (x : S_l01_Sample_0.T G) : rndI (cfP T_l01_Sample) P_l01_Sample J_l01_Sample 24 1 (loopOf (bodyOf Try.f39) 0) S_l01_Sample_0 X_l01_Sample_0 x = R_l01_Sample_0 x.1.1 x.1.2.1 x.1.2.2.2.2.1 x.2.1.1 x.2.1.2.1 x.2.1.2.2.1 x.2.1.2.2.2.1 x.2.1.2.2.2.2.1 x.2.1.2.2.2.2.2.1 x.2.1.2.2.2.2.2.2.1 x.2.1.2.2.2.2.2.2.2.1 x.2.2.1.1 x.2.2.1.2.1 x.2.2.1.2.2.1 x.2.2.1.2.2.2.1 x.2.2.1.2.2.2.2.1 x.2.2.1.2.2.2.2.2.1 x.2.2.1.2.2.2.2.2.2.1 x.2.2.1.2.2.2.2.2.2.2.1 := by kernel_rfl
theorem lk_l01_Sample_0 : LoopOK Try.prog G 24 (P_l01_Sample 0) (loopOf (bodyOf Try.f39) 0) := loop_ok (lp := P_l01_Sample) (n := 1) (k := 0) sigOK eqOK hmix tT_l01_Sample S_l01_Sample_0 X_l01_Sample_0 (fun x => R_l01_Sample_0 x.1.1 x.1.2.1 x.1.2.2.2.2.1 x.2.1.1 x.2.1.2.1 x.2.1.2.2.1 x.2.1.2.2.2.1 x.2.1.2.2.2.2.1 x.2.1.2.2.2.2.2.1 x.2.1.2.2.2.2.2.2.1 x.2.1.2.2.2.2.2.2.2.1 x.2.2.1.1 x.2.2.1.2.1 x.2.2.1.2.2.1 x.2.2.1.2.2.2.1 x.2.2.1.2.2.2.2.1 x.2.2.1.2.2.2.2.2.1 x.2.2.1.2.2.2.2.2.2.1 x.2.2.1.2.2.2.2.2.2.2.1) (by kernel_rfl) (show AllAt (fun k c => LoopOK Try.prog G 24 (P_l01_Sample k) c) 1 _ from (allAt_of [] (by kernel_rfl) allAt_n)) r_l01_Sample_0
theorem q_l01_Sample (x : I_l01_Sample.T G) : endI (cfP T_l01_Sample) P_l01_Sample J_l01_Sample 24 (bodyOf Try.f39) I_l01_Sample E_l01_Sample x = F_l01_Sample x.1.1 x.1.2.1 := by kernel_rfl
noncomputable def e_l01_Sample : Fe G := ⟨I_l01_Sample, E_l01_Sample, fun x => F_l01_Sample x.1.1 x.1.2.1, Try.f39.results.toList⟩
theorem ok_l01_Sample : FnOK Try.prog G 39 e_l01_Sample := fn_ok (e := e_l01_Sample) sigOK eqOK hmix tT_l01_Sample Try.func39 (by kernel_rfl) (by kernel_rfl) rfl (by kernel_rfl) (allAt_zero (Q := fun k c => LoopOK Try.prog G 24 (P_l01_Sample k) c) (allAt_of [loopOf (bodyOf Try.f39) 0] (by kernel_rfl) (allAt_c lk_l01_Sample_0 allAt_n))) q_l01_Sample
/-! ### overlay/overlaylaw10.Building -/
def I_l10_Building : Ab.Spec := ⟨[(0, .one (.int .u8)), (1, .one (.int .u8))], [], []⟩
def E_l10_Building : List (Ex × Ab.Spec) := [(.ret, ⟨[(4, .one (.ptr 64 0))], [(64, [.int .i64, .int .i64, .int .i64, .int .i64, .flt .f64, .flt .f64, .flt .f64, .own 32768 100])], []⟩)]
def J_l10_Building : Nat → Option (List (Ex × Ab.Spec)) := fun n => get [] n
noncomputable def T_l10_Building : List (Nat × Fe G) := [(39, e_l01_Sample)]
noncomputable def P_l10_Building : Nat → St G → M (Ex × St G) := fun _ _ => M.fail
theorem tT_l10_Building : ∀ p ∈ T_l10_Building, FnOK Try.prog G p.1 p.2 := List.forall_mem_cons.2 ⟨ok_l01_Sample, (fun _ h => absurd h (List.not_mem_nil))⟩
theorem q_l10_Building (x : I_l10_Building.T G) : endI (cfP T_l10_Building) P_l10_Building J_l10_Building 26 (bodyOf Try.f9) I_l10_Building E_l10_Building x = F_l10_Building x.1.1 x.1.2.1 := by kernel_rfl
noncomputable def e_l10_Building : Fe G := ⟨I_l10_Building, E_l10_Building, fun x => F_l10_Building x.1.1 x.1.2.1, Try.f9.results.toList⟩
theorem ok_l10_Building : FnOK Try.prog G 9 e_l10_Building := fn_ok (e := e_l10_Building) sigOK eqOK hmix tT_l10_Building Try.func9 (by kernel_rfl) (by kernel_rfl) rfl (by kernel_rfl) (allAt_zero (Q := fun k c => LoopOK Try.prog G 26 (P_l10_Building k) c) (allAt_of [] (by kernel_rfl) allAt_n)) q_l10_Building
/-! ### overlay/building.within -/
def I_building_within : Ab.Spec := ⟨[(0, .one (.int .i64)), (1, .one (.int .i64)), (2, .one (.ro 3))], [], []⟩
def E_building_within : List (Ex × Ab.Spec) := [(.ret, ⟨[(6, .one (.bool))], [], []⟩)]
def J_building_within : Nat → Option (List (Ex × Ab.Spec)) := fun n => get [] n
noncomputable def T_building_within : List (Nat × Fe G) := []
def S_building_within_0 : Ab.Spec := ⟨[(0, .one (.int .i64)), (1, .one (.int .i64)), (9, .one (.ro 3)), (10, .one (.int .i64)), (11, .one (.int .i64))], [], []⟩
def X_building_within_0 : List (Ex × Ab.Spec) := [(.exit 0, ⟨[], [], []⟩), (.ret, ⟨[(6, .one (.bool))], [], []⟩)]
noncomputable def P_building_within : Nat → St G → M (Ex × St G) := fun n => bif Nat.beq n 0 then lpX S_building_within_0 X_building_within_0 L_building_within_0 else fun _ => M.fail
theorem tT_building_within : ∀ p ∈ T_building_within, FnOK Try.prog G p.1 p.2 := (fun _ h => absurd h (List.not_mem_nil))
theorem r_building_within_0 (x : S_building_within_0.T G) : rndI (cfP T_building_within) P_building_within J_building_within 24 1 (loopOf (bodyOf Try.f124) 0) S_building_within_0 X_building_within_0 x = R_building_within_0 x.1.1 x.1.2.1 x.1.2.2.1 x.1.2.2.2.1 x.1.2.2.2.2.1 := by kernel_rfl
theorem lk_building_within_0 : LoopOK Try.prog G 24 (P_building_within 0) (loopOf (bodyOf Try.f124) 0) := loop_ok (lp := P_building_within) (n := 1) (k := 0) sigOK eqOK hmix tT_building_within S_building_within_0 X_building_within_0 (fun x => R_building_within_0 x.1.1 x.1.2.1 x.1.2.2.1 x.1.2.2.2.1 x.1.2.2.2.2.1) (by kernel_rfl) (show AllAt (fun k c => LoopOK Try.prog G 24 (P_building_within k) c) 1 _ from (allAt_of [] (by kernel_rfl) allAt_n)) r_building_within_0
theorem q_building_within (x : I_building_within.T G) : endI (cfP T_building_within) P_building_within J_building_within 24 (bodyOf Try.f124) I_building_within E_building_within x = F_building_within x.1.1 x.1.2.1 x.1.2.2.1 := by kernel_rfl
noncomputable def e_building_within : Fe G := ⟨I_building_within, E_building_within, fun x => F_building_within x.1.1 x.1.2.1 x.1.2.2.1, Try.f124.results.toList⟩
theorem ok_building_within : FnOK Try.prog G 124 e_building_within := fn_ok (e := e_building_within) sigOK eqOK hmix tT_building_within Try.func124 (by kernel_rfl) (by kernel_rfl) rfl (by kernel_rfl) (allAt_zero (Q := fun k c => LoopOK Try.prog G 24 (P_building_within k) c) (allAt_of [loopOf (bodyOf Try.f124) 0] (by kernel_rfl) (allAt_c lk_building_within_0 allAt_n))) q_building_within
/-! ### overlay/building.times -/
def I_building_times : Ab.Spec := ⟨[(0, .agg [.int .i64, .int .i64, .int .i64, .int .i64, .int .i64, .int .i64, .int .i64, .int .i64, .int .i64]), (1, .one (.int .i64))], [], []⟩
def E_building_times : List (Ex × Ab.Spec) := [(.ret, ⟨[(4, .one (.bool))], [], []⟩)]
def J_building_times : Nat → Option (List (Ex × Ab.Spec)) := fun n => get [(1048577, [(.normal, ⟨[(4, .one (.bool))], [], []⟩)])] n
noncomputable def T_building_times : List (Nat × Fe G) := [(124, e_building_within)]
noncomputable def P_building_times : Nat → St G → M (Ex × St G) := fun _ _ => M.fail
theorem tT_building_times : ∀ p ∈ T_building_times, FnOK Try.prog G p.1 p.2 := List.forall_mem_cons.2 ⟨ok_building_within, (fun _ h => absurd h (List.not_mem_nil))⟩
theorem q_building_times (x : I_building_times.T G) : endI (cfP T_building_times) P_building_times J_building_times 42 (bodyOf Try.f125) I_building_times E_building_times x = F_building_times x.1.1.1 x.1.1.2.1 x.1.1.2.2.1 x.1.1.2.2.2.1 x.1.1.2.2.2.2.1 x.1.1.2.2.2.2.2.1 x.1.1.2.2.2.2.2.2.1 x.1.1.2.2.2.2.2.2.2.1 x.1.1.2.2.2.2.2.2.2.2.1 x.1.2.1 := by kernel_rfl
noncomputable def e_building_times : Fe G := ⟨I_building_times, E_building_times, fun x => F_building_times x.1.1.1 x.1.1.2.1 x.1.1.2.2.1 x.1.1.2.2.2.1 x.1.1.2.2.2.2.1 x.1.1.2.2.2.2.2.1 x.1.1.2.2.2.2.2.2.1 x.1.1.2.2.2.2.2.2.2.1 x.1.1.2.2.2.2.2.2.2.2.1 x.1.2.1, Try.f125.results.toList⟩
theorem ok_building_times : FnOK Try.prog G 125 e_building_times := fn_ok (e := e_building_times) sigOK eqOK hmix tT_building_times Try.func125 (by kernel_rfl) (by kernel_rfl) rfl (by kernel_rfl) (allAt_zero (Q := fun k c => LoopOK Try.prog G 42 (P_building_times k) c) (allAt_of [] (by kernel_rfl) allAt_n)) q_building_times
/-! ### overlay/building.loads -/
def I_building_loads : Ab.Spec := ⟨[(0, .agg [.int .i64, .int .i64, .int .i64, .int .i64, .flt .f64, .flt .f64, .flt .f64, .ro 100])], [], []⟩
def E_building_loads : List (Ex × Ab.Spec) := [(.ret, ⟨[(2, .one (.bool))], [], []⟩)]
def J_building_loads : Nat → Option (List (Ex × Ab.Spec)) := fun n => get [(1048577, [(.normal, ⟨[(2, .one (.bool))], [], []⟩)])] n
noncomputable def T_building_loads : List (Nat × Fe G) := []
noncomputable def P_building_loads : Nat → St G → M (Ex × St G) := fun _ _ => M.fail
theorem tT_building_loads : ∀ p ∈ T_building_loads, FnOK Try.prog G p.1 p.2 := (fun _ h => absurd h (List.not_mem_nil))
theorem q_building_loads (x : I_building_loads.T G) : endI (cfP T_building_loads) P_building_loads J_building_loads 25 (bodyOf Try.f126) I_building_loads E_building_loads x = F_building_loads x.1.1.1 x.1.1.2.1 x.1.1.2.2.1 x.1.1.2.2.2.1 x.1.1.2.2.2.2.1 x.1.1.2.2.2.2.2.1 x.1.1.2.2.2.2.2.2.1 x.1.1.2.2.2.2.2.2.2.1 := by kernel_rfl
noncomputable def e_building_loads : Fe G := ⟨I_building_loads, E_building_loads, fun x => F_building_loads x.1.1.1 x.1.1.2.1 x.1.1.2.2.1 x.1.1.2.2.2.1 x.1.1.2.2.2.2.1 x.1.1.2.2.2.2.2.1 x.1.1.2.2.2.2.2.2.1 x.1.1.2.2.2.2.2.2.2.1, Try.f126.results.toList⟩
theorem ok_building_loads : FnOK Try.prog G 126 e_building_loads := fn_ok (e := e_building_loads) sigOK eqOK hmix tT_building_loads Try.func126 (by kernel_rfl) (by kernel_rfl) rfl (by kernel_rfl) (allAt_zero (Q := fun k c => LoopOK Try.prog G 25 (P_building_loads k) c) (allAt_of [] (by kernel_rfl) allAt_n)) q_building_loads
/-! ### overlay/building.Valid -/
def I_building_Valid : Ab.Spec := ⟨[(0, .agg [.int .i64, .int .i64, .int .i64, .int .i64, .flt .f64, .flt .f64, .flt .f64, .ro 100])], [], []⟩
def E_building_Valid : List (Ex × Ab.Spec) := [(.ret, ⟨[(2, .one (.int .i64))], [], []⟩)]
def J_building_Valid : Nat → Option (List (Ex × Ab.Spec)) := fun n => get [(1048581, [(.normal, ⟨[(1, .one (.ptr 16 0)), (3, .one (.bool))], [(16, [.int .i64, .int .i64, .int .i64, .int .i64, .flt .f64, .flt .f64, .flt .f64, .ro 100])], []⟩)]), (1048585, [(.normal, ⟨[(1, .one (.ptr 16 0)), (3, .one (.bool)), (28, .one (.ro 100)), (29, .one (.int .i64)), (30, .one (.int .i64))], [(16, [.int .i64, .int .i64, .int .i64, .int .i64, .flt .f64, .flt .f64, .flt .f64, .ro 100])], []⟩)])] n
noncomputable def T_building_Valid : List (Nat × Fe G) := [(124, e_building_within), (125, e_building_times), (126, e_building_loads)]
def S_building_Valid_0 : Ab.Spec := ⟨[(1, .one (.ptr 16 0)), (3, .one (.bool)), (28, .one (.ro 100)), (29, .one (.int .i64)), (30, .one (.int .i64))], [(16, [.int .i64, .int .i64, .int .i64, .int .i64, .flt .f64, .flt .f64, .flt .f64, .ro 100])], []⟩
def X_building_Valid_0 : List (Ex × Ab.Spec) := [(.exit 0, ⟨[(1, .one (.ptr 16 0)), (3, .one (.bool))], [(16, [.int .i64, .int .i64, .int .i64, .int .i64, .flt .f64, .flt .f64, .flt .f64, .ro 100])], []⟩)]
noncomputable def P_building_Valid : Nat → St G → M (Ex × St G) := fun n => bif Nat.beq n 0 then lpX S_building_Valid_0 X_building_Valid_0 L_building_Valid_0 else fun _ => M.fail
theorem tT_building_Valid : ∀ p ∈ T_building_Valid, FnOK Try.prog G p.1 p.2 := List.forall_mem_cons.2 ⟨ok_building_within, List.forall_mem_cons.2 ⟨ok_building_times, List.forall_mem_cons.2 ⟨ok_building_loads, (fun _ h => absurd h (List.not_mem_nil))⟩⟩⟩
theorem r_building_Valid_0 (x : S_building_Valid_0.T G) : rndI (cfP T_building_Valid) P_building_Valid J_building_Valid 60 1 (loopOf (bodyOf Try.f74) 0) S_building_Valid_0 X_building_Valid_0 x = R_building_Valid_0 x.1.2.1 x.1.2.2.1 x.1.2.2.2.1 x.1.2.2.2.2.1 x.2.1.1 x.2.1.2.1 x.2.1.2.2.1 x.2.1.2.2.2.1 x.2.1.2.2.2.2.1 x.2.1.2.2.2.2.2.1 x.2.1.2.2.2.2.2.2.1 x.2.1.2.2.2.2.2.2.2.1 := by kernel_rfl
theorem lk_building_Valid_0 : LoopOK Try.prog G 60 (P_building_Valid 0) (loopOf (bodyOf Try.f74) 0) := loop_ok (lp := P_building_Valid) (n := 1) (k := 0) sigOK eqOK hmix tT_building_Valid S_building_Valid_0 X_building_Valid_0 (fun x => R_building_Valid_0 x.1.2.1 x.1.2.2.1 x.1.2.2.2.1 x.1.2.2.2.2.1 x.2.1.1 x.2.1.2.1 x.2.1.2.2.1 x.2.1.2.2.2.1 x.2.1.2.2.2.2.1 x.2.1.2.2.2.2.2.1 x.2.1.2.2.2.2.2.2.1 x.2.1.2.2.2.2.2.2.2.1) (by kernel_rfl) (show AllAt (fun k c => LoopOK Try.prog G 60 (P_building_Valid k) c) 1 _ from (allAt_of [] (by kernel_rfl) allAt_n)) r_building_Valid_0
theorem q_building_Valid (x : I_building_Valid.T G) : endI (cfP T_building_Valid) P_building_Valid J_building_Valid 60 (bodyOf Try.f74) I_building_Valid E_building_Valid x = F_building_Valid x.1.1.1 x.1.1.2.1 x.1.1.2.2.1 x.1.1.2.2.2.1 x.1.1.2.2.2.2.1 x.1.1.2.2.2.2.2.1 x.1.1.2.2.2.2.2.2.1 x.1.1.2.2.2.2.2.2.2.1 := by kernel_rfl
noncomputable def e_building_Valid : Fe G := ⟨I_building_Valid, E_building_Valid, fun x => F_building_Valid x.1.1.1 x.1.1.2.1 x.1.1.2.2.1 x.1.1.2.2.2.1 x.1.1.2.2.2.2.1 x.1.1.2.2.2.2.2.1 x.1.1.2.2.2.2.2.2.1 x.1.1.2.2.2.2.2.2.2.1, Try.f74.results.toList⟩
theorem ok_building_Valid : FnOK Try.prog G 74 e_building_Valid := fn_ok (e := e_building_Valid) sigOK eqOK hmix tT_building_Valid Try.func74 (by kernel_rfl) (by kernel_rfl) rfl (by kernel_rfl) (allAt_zero (Q := fun k c => LoopOK Try.prog G 60 (P_building_Valid k) c) (allAt_of [loopOf (bodyOf Try.f74) 0] (by kernel_rfl) (allAt_c lk_building_Valid_0 allAt_n))) q_building_Valid
/-! ### overlay/log.Initial -/
def I_log_Initial : Ab.Spec := ⟨[(0, .agg [.int .i64, .int .i64, .int .i64, .int .i64, .flt .f64, .flt .f64, .flt .f64, .ro 100])], [], []⟩
def E_log_Initial : List (Ex × Ab.Spec) := [(.ret, ⟨[(2, .one (.ptr 32 0))], [(32, [.own 32768 3, .own 32769 4, .own 32770 4, .own 32771 98])], []⟩)]
def J_log_Initial : Nat → Option (List (Ex × Ab.Spec)) := fun n => get [] n
noncomputable def T_log_Initial : List (Nat × Fe G) := [(74, e_building_Valid)]
noncomputable def P_log_Initial : Nat → St G → M (Ex × St G) := fun _ _ => M.fail
theorem tT_log_Initial : ∀ p ∈ T_log_Initial, FnOK Try.prog G p.1 p.2 := List.forall_mem_cons.2 ⟨ok_building_Valid, (fun _ h => absurd h (List.not_mem_nil))⟩
theorem q_log_Initial (x : I_log_Initial.T G) : endI (cfP T_log_Initial) P_log_Initial J_log_Initial 18 (bodyOf Try.f29) I_log_Initial E_log_Initial x = F_log_Initial x.1.1.1 x.1.1.2.1 x.1.1.2.2.1 x.1.1.2.2.2.1 x.1.1.2.2.2.2.1 x.1.1.2.2.2.2.2.1 x.1.1.2.2.2.2.2.2.1 x.1.1.2.2.2.2.2.2.2.1 := by kernel_rfl
noncomputable def e_log_Initial : Fe G := ⟨I_log_Initial, E_log_Initial, fun x => F_log_Initial x.1.1.1 x.1.1.2.1 x.1.1.2.2.1 x.1.1.2.2.2.1 x.1.1.2.2.2.2.1 x.1.1.2.2.2.2.2.1 x.1.1.2.2.2.2.2.2.1 x.1.1.2.2.2.2.2.2.2.1, Try.f29.results.toList⟩
theorem ok_log_Initial : FnOK Try.prog G 29 e_log_Initial := fn_ok (e := e_log_Initial) sigOK eqOK hmix tT_log_Initial Try.func29 (by kernel_rfl) (by kernel_rfl) rfl (by kernel_rfl) (allAt_zero (Q := fun k c => LoopOK Try.prog G 18 (P_log_Initial k) c) (allAt_of [] (by kernel_rfl) allAt_n)) q_log_Initial
/-! ### overlay/building.isCall -/
def I_building_isCall : Ab.Spec := ⟨[(0, .one (.int .i64)), (1, .one (.int .i64)), (2, .one (.int .i64))], [], []⟩
def E_building_isCall : List (Ex × Ab.Spec) := [(.ret, ⟨[(6, .one (.bool))], [], []⟩)]
def J_building_isCall : Nat → Option (List (Ex × Ab.Spec)) := fun n => get [(1048577, [(.normal, ⟨[(6, .one (.bool))], [], []⟩)])] n
noncomputable def T_building_isCall : List (Nat × Fe G) := [(124, e_building_within)]
noncomputable def P_building_isCall : Nat → St G → M (Ex × St G) := fun _ _ => M.fail
theorem tT_building_isCall : ∀ p ∈ T_building_isCall, FnOK Try.prog G p.1 p.2 := List.forall_mem_cons.2 ⟨ok_building_within, (fun _ h => absurd h (List.not_mem_nil))⟩
theorem q_building_isCall (x : I_building_isCall.T G) : endI (cfP T_building_isCall) P_building_isCall J_building_isCall 27 (bodyOf Try.f149) I_building_isCall E_building_isCall x = F_building_isCall x.1.1 x.1.2.1 x.1.2.2.1 := by kernel_rfl
noncomputable def e_building_isCall : Fe G := ⟨I_building_isCall, E_building_isCall, fun x => F_building_isCall x.1.1 x.1.2.1 x.1.2.2.1, Try.f149.results.toList⟩
theorem ok_building_isCall : FnOK Try.prog G 149 e_building_isCall := fn_ok (e := e_building_isCall) sigOK eqOK hmix tT_building_isCall Try.func149 (by kernel_rfl) (by kernel_rfl) rfl (by kernel_rfl) (allAt_zero (Q := fun k c => LoopOK Try.prog G 27 (P_building_isCall k) c) (allAt_of [] (by kernel_rfl) allAt_n)) q_building_isCall
/-! ### overlay/building.IsCall -/
def I_building_IsCall : Ab.Spec := ⟨[(0, .agg [.int .i64, .int .i64, .int .i64, .int .i64, .flt .f64, .flt .f64, .flt .f64, .ro 100]), (1, .one (.int .i64)), (2, .one (.int .i64))], [], []⟩
def E_building_IsCall : List (Ex × Ab.Spec) := [(.ret, ⟨[(6, .one (.bool))], [], []⟩)]
def J_building_IsCall : Nat → Option (List (Ex × Ab.Spec)) := fun n => get [(1048577, [(.normal, ⟨[(6, .one (.bool))], [], []⟩)])] n
noncomputable def T_building_IsCall : List (Nat × Fe G) := [(74, e_building_Valid), (149, e_building_isCall)]
noncomputable def P_building_IsCall : Nat → St G → M (Ex × St G) := fun _ _ => M.fail
theorem tT_building_IsCall : ∀ p ∈ T_building_IsCall, FnOK Try.prog G p.1 p.2 := List.forall_mem_cons.2 ⟨ok_building_Valid, List.forall_mem_cons.2 ⟨ok_building_isCall, (fun _ h => absurd h (List.not_mem_nil))⟩⟩
theorem q_building_IsCall (x : I_building_IsCall.T G) : endI (cfP T_building_IsCall) P_building_IsCall J_building_IsCall 17 (bodyOf Try.f139) I_building_IsCall E_building_IsCall x = F_building_IsCall x.1.1.1 x.1.1.2.1 x.1.1.2.2.1 x.1.1.2.2.2.1 x.1.1.2.2.2.2.1 x.1.1.2.2.2.2.2.1 x.1.1.2.2.2.2.2.2.1 x.1.1.2.2.2.2.2.2.2.1 x.1.2.1 x.1.2.2.1 := by kernel_rfl
noncomputable def e_building_IsCall : Fe G := ⟨I_building_IsCall, E_building_IsCall, fun x => F_building_IsCall x.1.1.1 x.1.1.2.1 x.1.1.2.2.1 x.1.1.2.2.2.1 x.1.1.2.2.2.2.1 x.1.1.2.2.2.2.2.1 x.1.1.2.2.2.2.2.2.1 x.1.1.2.2.2.2.2.2.2.1 x.1.2.1 x.1.2.2.1, Try.f139.results.toList⟩
theorem ok_building_IsCall : FnOK Try.prog G 139 e_building_IsCall := fn_ok (e := e_building_IsCall) sigOK eqOK hmix tT_building_IsCall Try.func139 (by kernel_rfl) (by kernel_rfl) rfl (by kernel_rfl) (allAt_zero (Q := fun k c => LoopOK Try.prog G 17 (P_building_IsCall k) c) (allAt_of [] (by kernel_rfl) allAt_n)) q_building_IsCall
/-! ### overlay/log.isEntry -/
def I_log_isEntry : Ab.Spec := ⟨[(0, .agg [.int .i64, .int .i64, .int .i64, .int .i64, .flt .f64, .flt .f64, .flt .f64, .ro 100]), (1, .agg [.int .i64, .int .i64, .int .i64, .int .i64, .bool])], [], []⟩
def E_log_isEntry : List (Ex × Ab.Spec) := [(.ret, ⟨[(4, .one (.bool))], [], []⟩)]
def J_log_isEntry : Nat → Option (List (Ex × Ab.Spec)) := fun n => get [(1048577, [(.normal, ⟨[(4, .one (.bool))], [], []⟩)])] n
noncomputable def T_log_isEntry : List (Nat × Fe G) := [(139, e_building_IsCall)]
noncomputable def P_log_isEntry : Nat → St G → M (Ex × St G) := fun _ _ => M.fail
theorem tT_log_isEntry : ∀ p ∈ T_log_isEntry, FnOK Try.prog G p.1 p.2 := List.forall_mem_cons.2 ⟨ok_building_IsCall, (fun _ h => absurd h (List.not_mem_nil))⟩
theorem q_log_isEntry (x : I_log_isEntry.T G) : endI (cfP T_log_isEntry) P_log_isEntry J_log_isEntry 34 (bodyOf Try.f112) I_log_isEntry E_log_isEntry x = F_log_isEntry x.1.1.1 x.1.1.2.1 x.1.1.2.2.1 x.1.1.2.2.2.1 x.1.1.2.2.2.2.1 x.1.1.2.2.2.2.2.1 x.1.1.2.2.2.2.2.2.1 x.1.1.2.2.2.2.2.2.2.1 x.1.2.1.1 x.1.2.1.2.1 x.1.2.1.2.2.1 x.1.2.1.2.2.2.1 x.1.2.1.2.2.2.2.1 := by kernel_rfl
noncomputable def e_log_isEntry : Fe G := ⟨I_log_isEntry, E_log_isEntry, fun x => F_log_isEntry x.1.1.1 x.1.1.2.1 x.1.1.2.2.1 x.1.1.2.2.2.1 x.1.1.2.2.2.2.1 x.1.1.2.2.2.2.2.1 x.1.1.2.2.2.2.2.2.1 x.1.1.2.2.2.2.2.2.2.1 x.1.2.1.1 x.1.2.1.2.1 x.1.2.1.2.2.1 x.1.2.1.2.2.2.1 x.1.2.1.2.2.2.2.1, Try.f112.results.toList⟩
theorem ok_log_isEntry : FnOK Try.prog G 112 e_log_isEntry := fn_ok (e := e_log_isEntry) sigOK eqOK hmix tT_log_isEntry Try.func112 (by kernel_rfl) (by kernel_rfl) rfl (by kernel_rfl) (allAt_zero (Q := fun k c => LoopOK Try.prog G 34 (P_log_isEntry k) c) (allAt_of [] (by kernel_rfl) allAt_n)) q_log_isEntry
/-! ### cmp.isNaN[int] -/
def I_cmp_isNaN_int : Ab.Spec := ⟨[(0, .one (.int .i64))], [], []⟩
def E_cmp_isNaN_int : List (Ex × Ab.Spec) := [(.ret, ⟨[(2, .one (.bool))], [], []⟩)]
def J_cmp_isNaN_int : Nat → Option (List (Ex × Ab.Spec)) := fun n => get [] n
noncomputable def T_cmp_isNaN_int : List (Nat × Fe G) := []
noncomputable def P_cmp_isNaN_int : Nat → St G → M (Ex × St G) := fun _ _ => M.fail
theorem tT_cmp_isNaN_int : ∀ p ∈ T_cmp_isNaN_int, FnOK Try.prog G p.1 p.2 := (fun _ h => absurd h (List.not_mem_nil))
theorem q_cmp_isNaN_int (x : I_cmp_isNaN_int.T G) : endI (cfP T_cmp_isNaN_int) P_cmp_isNaN_int J_cmp_isNaN_int 6 (bodyOf Try.f150) I_cmp_isNaN_int E_cmp_isNaN_int x = F_cmp_isNaN_int x.1.1 := by kernel_rfl
noncomputable def e_cmp_isNaN_int : Fe G := ⟨I_cmp_isNaN_int, E_cmp_isNaN_int, fun x => F_cmp_isNaN_int x.1.1, Try.f150.results.toList⟩
theorem ok_cmp_isNaN_int : FnOK Try.prog G 150 e_cmp_isNaN_int := fn_ok (e := e_cmp_isNaN_int) sigOK eqOK hmix tT_cmp_isNaN_int Try.func150 (by kernel_rfl) (by kernel_rfl) rfl (by kernel_rfl) (allAt_zero (Q := fun k c => LoopOK Try.prog G 6 (P_cmp_isNaN_int k) c) (allAt_of [] (by kernel_rfl) allAt_n)) q_cmp_isNaN_int
/-! ### cmp.Compare[int] -/
def I_cmp_Compare_int : Ab.Spec := ⟨[(0, .one (.int .i64)), (1, .one (.int .i64))], [], []⟩
def E_cmp_Compare_int : List (Ex × Ab.Spec) := [(.ret, ⟨[(4, .one (.int .i64))], [], []⟩)]
def J_cmp_Compare_int : Nat → Option (List (Ex × Ab.Spec)) := fun n => get [] n
noncomputable def T_cmp_Compare_int : List (Nat × Fe G) := [(150, e_cmp_isNaN_int)]
noncomputable def P_cmp_Compare_int : Nat → St G → M (Ex × St G) := fun _ _ => M.fail
theorem tT_cmp_Compare_int : ∀ p ∈ T_cmp_Compare_int, FnOK Try.prog G p.1 p.2 := List.forall_mem_cons.2 ⟨ok_cmp_isNaN_int, (fun _ h => absurd h (List.not_mem_nil))⟩
theorem q_cmp_Compare_int (x : I_cmp_Compare_int.T G) : endI (cfP T_cmp_Compare_int) P_cmp_Compare_int J_cmp_Compare_int 20 (bodyOf Try.f142) I_cmp_Compare_int E_cmp_Compare_int x = F_cmp_Compare_int x.1.1 x.1.2.1 := by kernel_rfl
noncomputable def e_cmp_Compare_int : Fe G := ⟨I_cmp_Compare_int, E_cmp_Compare_int, fun x => F_cmp_Compare_int x.1.1 x.1.2.1, Try.f142.results.toList⟩
theorem ok_cmp_Compare_int : FnOK Try.prog G 142 e_cmp_Compare_int := fn_ok (e := e_cmp_Compare_int) sigOK eqOK hmix tT_cmp_Compare_int Try.func142 (by kernel_rfl) (by kernel_rfl) rfl (by kernel_rfl) (allAt_zero (Q := fun k c => LoopOK Try.prog G 20 (P_cmp_Compare_int k) c) (allAt_of [] (by kernel_rfl) allAt_n)) q_cmp_Compare_int
/-! ### cmp.Or[int] -/
def I_cmp_Or_int : Ab.Spec := ⟨[(0, .one (.ro 3))], [], []⟩
def E_cmp_Or_int : List (Ex × Ab.Spec) := [(.ret, ⟨[(2, .one (.int .i64))], [], []⟩)]
def J_cmp_Or_int : Nat → Option (List (Ex × Ab.Spec)) := fun n => get [] n
noncomputable def T_cmp_Or_int : List (Nat × Fe G) := []
def S_cmp_Or_int_0 : Ab.Spec := ⟨[(3, .one (.int .i64)), (6, .one (.ro 3)), (7, .one (.int .i64)), (8, .one (.int .i64))], [], []⟩
def X_cmp_Or_int_0 : List (Ex × Ab.Spec) := [(.exit 0, ⟨[(3, .one (.int .i64))], [], []⟩), (.ret, ⟨[(2, .one (.int .i64))], [], []⟩)]
noncomputable def P_cmp_Or_int : Nat → St G → M (Ex × St G) := fun n => bif Nat.beq n 0 then lpX S_cmp_Or_int_0 X_cmp_Or_int_0 L_cmp_Or_int_0 else fun _ => M.fail
theorem tT_cmp_Or_int : ∀ p ∈ T_cmp_Or_int, FnOK Try.prog G p.1 p.2 := (fun _ h => absurd h (List.not_mem_nil))
theorem r_cmp_Or_int_0 (x : S_cmp_Or_int_0.T G) : rndI (cfP T_cmp_Or_int) P_cmp_Or_int J_cmp_Or_int 18 1 (loopOf (bodyOf Try.f141) 0) S_cmp_Or_int_0 X_cmp_Or_int_0 x = R_cmp_Or_int_0 x.1.1 x.1.2.1 x.1.2.2.1 x.1.2.2.2.1 := by kernel_rfl
theorem lk_cmp_Or_int_0 : LoopOK Try.prog G 18 (P_cmp_Or_int 0) (loopOf (bodyOf Try.f141) 0) := loop_ok (lp := P_cmp_Or_int) (n := 1) (k := 0) sigOK eqOK hmix tT_cmp_Or_int S_cmp_Or_int_0 X_cmp_Or_int_0 (fun x => R_cmp_Or_int_0 x.1.1 x.1.2.1 x.1.2.2.1 x.1.2.2.2.1) (by kernel_rfl) (show AllAt (fun k c => LoopOK Try.prog G 18 (P_cmp_Or_int k) c) 1 _ from (allAt_of [] (by kernel_rfl) allAt_n)) r_cmp_Or_int_0
theorem q_cmp_Or_int (x : I_cmp_Or_int.T G) : endI (cfP T_cmp_Or_int) P_cmp_Or_int J_cmp_Or_int 18 (bodyOf Try.f141) I_cmp_Or_int E_cmp_Or_int x = F_cmp_Or_int x.1.1 := by kernel_rfl
noncomputable def e_cmp_Or_int : Fe G := ⟨I_cmp_Or_int, E_cmp_Or_int, fun x => F_cmp_Or_int x.1.1, Try.f141.results.toList⟩
theorem ok_cmp_Or_int : FnOK Try.prog G 141 e_cmp_Or_int := fn_ok (e := e_cmp_Or_int) sigOK eqOK hmix tT_cmp_Or_int Try.func141 (by kernel_rfl) (by kernel_rfl) rfl (by kernel_rfl) (allAt_zero (Q := fun k c => LoopOK Try.prog G 18 (P_cmp_Or_int k) c) (allAt_of [loopOf (bodyOf Try.f141) 0] (by kernel_rfl) (allAt_c lk_cmp_Or_int_0 allAt_n))) q_cmp_Or_int
/-! ### overlay/log.compare -/
def I_log_compare : Ab.Spec := ⟨[(0, .agg [.int .i64, .int .i64, .int .i64, .int .i64, .bool]), (1, .agg [.int .i64, .int .i64, .int .i64, .int .i64, .bool])], [], []⟩
def E_log_compare : List (Ex × Ab.Spec) := [(.ret, ⟨[(4, .one (.int .i64))], [], []⟩)]
def J_log_compare : Nat → Option (List (Ex × Ab.Spec)) := fun n => get [] n
noncomputable def T_log_compare : List (Nat × Fe G) := [(142, e_cmp_Compare_int), (141, e_cmp_Or_int)]
noncomputable def P_log_compare : Nat → St G → M (Ex × St G) := fun _ _ => M.fail
theorem tT_log_compare : ∀ p ∈ T_log_compare, FnOK Try.prog G p.1 p.2 := List.forall_mem_cons.2 ⟨ok_cmp_Compare_int, List.forall_mem_cons.2 ⟨ok_cmp_Or_int, (fun _ h => absurd h (List.not_mem_nil))⟩⟩
theorem q_log_compare (x : I_log_compare.T G) : endI (cfP T_log_compare) P_log_compare J_log_compare 17 (bodyOf Try.f102) I_log_compare E_log_compare x = F_log_compare x.1.1.1 x.1.1.2.1 x.1.1.2.2.1 x.1.1.2.2.2.1 x.1.1.2.2.2.2.1 x.1.2.1.1 x.1.2.1.2.1 x.1.2.1.2.2.1 x.1.2.1.2.2.2.1 x.1.2.1.2.2.2.2.1 := by kernel_rfl
noncomputable def e_log_compare : Fe G := ⟨I_log_compare, E_log_compare, fun x => F_log_compare x.1.1.1 x.1.1.2.1 x.1.1.2.2.1 x.1.1.2.2.2.1 x.1.1.2.2.2.2.1 x.1.2.1.1 x.1.2.1.2.1 x.1.2.1.2.2.1 x.1.2.1.2.2.2.1 x.1.2.1.2.2.2.2.1, Try.f102.results.toList⟩
theorem ok_log_compare : FnOK Try.prog G 102 e_log_compare := fn_ok (e := e_log_compare) sigOK eqOK hmix tT_log_compare Try.func102 (by kernel_rfl) (by kernel_rfl) rfl (by kernel_rfl) (allAt_zero (Q := fun k c => LoopOK Try.prog G 17 (P_log_compare k) c) (allAt_of [] (by kernel_rfl) allAt_n)) q_log_compare
/-! ### overlay/log.IsImage -/
def I_log_IsImage : Ab.Spec := ⟨[(0, .agg [.int .i64, .int .i64, .int .i64, .int .i64, .flt .f64, .flt .f64, .flt .f64, .ro 100]), (1, .agg [.ro 3, .ro 4, .ro 4, .ro 98])], [], []⟩
def E_log_IsImage : List (Ex × Ab.Spec) := [(.ret, ⟨[(4, .one (.bool))], [], []⟩)]
def J_log_IsImage : Nat → Option (List (Ex × Ab.Spec)) := fun n => get [(1048589, [(.normal, ⟨[(2, .one (.ptr 32 0)), (3, .one (.ptr 48 0)), (52, .one (.ro 98)), (53, .one (.int .i64)), (54, .one (.int .i64)), (77, .one (.bool))], [(32, [.int .i64, .int .i64, .int .i64, .int .i64, .flt .f64, .flt .f64, .flt .f64, .ro 100]), (48, [.ro 3, .ro 4, .ro 4, .ro 98])], []⟩)])] n
noncomputable def T_log_IsImage : List (Nat × Fe G) := [(74, e_building_Valid), (112, e_log_isEntry), (102, e_log_compare)]
def S_log_IsImage_0 : Ab.Spec := ⟨[(2, .one (.ptr 32 0)), (3, .one (.ptr 48 0)), (38, .one (.ro 3)), (39, .one (.int .i64)), (40, .one (.int .i64))], [(32, [.int .i64, .int .i64, .int .i64, .int .i64, .flt .f64, .flt .f64, .flt .f64, .ro 100]), (48, [.ro 3, .ro 4, .ro 4, .ro 98])], []⟩
def X_log_IsImage_0 : List (Ex × Ab.Spec) := [(.exit 0, ⟨[(2, .one (.ptr 32 0)), (3, .one (.ptr 48 0))], [(32, [.int .i64, .int .i64, .int .i64, .int .i64, .flt .f64, .flt .f64, .flt .f64, .ro 100]), (48, [.ro 3, .ro 4, .ro 4, .ro 98])], []⟩), (.ret, ⟨[(4, .one (.bool))], [], []⟩)]
def S_log_IsImage_1 : Ab.Spec := ⟨[(2, .one (.ptr 32 0)), (3, .one (.ptr 48 0)), (52, .one (.ro 98)), (53, .one (.int .i64)), (54, .one (.int .i64))], [(32, [.int .i64, .int .i64, .int .i64, .int .i64, .flt .f64, .flt .f64, .flt .f64, .ro 100]), (48, [.ro 3, .ro 4, .ro 4, .ro 98])], []⟩
def X_log_IsImage_1 : List (Ex × Ab.Spec) := [(.exit 2, ⟨[], [], []⟩), (.ret, ⟨[(4, .one (.bool))], [], []⟩)]
noncomputable def P_log_IsImage : Nat → St G → M (Ex × St G) := fun n => bif Nat.beq n 0 then lpX S_log_IsImage_0 X_log_IsImage_0 L_log_IsImage_0 else bif Nat.beq n 1 then lpX S_log_IsImage_1 X_log_IsImage_1 L_log_IsImage_1 else fun _ => M.fail
theorem tT_log_IsImage : ∀ p ∈ T_log_IsImage, FnOK Try.prog G p.1 p.2 := List.forall_mem_cons.2 ⟨ok_building_Valid, List.forall_mem_cons.2 ⟨ok_log_isEntry, List.forall_mem_cons.2 ⟨ok_log_compare, (fun _ h => absurd h (List.not_mem_nil))⟩⟩⟩
theorem r_log_IsImage_1 (x : S_log_IsImage_1.T G) : rndI (cfP T_log_IsImage) P_log_IsImage J_log_IsImage 79 2 (loopOf (bodyOf Try.f63) 1) S_log_IsImage_1 X_log_IsImage_1 x = R_log_IsImage_1 x.1.2.2.1 x.1.2.2.2.1 x.1.2.2.2.2.1 x.2.1.1 x.2.1.2.1 x.2.1.2.2.1 x.2.1.2.2.2.1 x.2.1.2.2.2.2.1 x.2.1.2.2.2.2.2.1 x.2.1.2.2.2.2.2.2.1 x.2.1.2.2.2.2.2.2.2.1 x.2.2.1.1 x.2.2.1.2.1 x.2.2.1.2.2.1 x.2.2.1.2.2.2.1 := by kernel_rfl
theorem lk_log_IsImage_1 : LoopOK Try.prog G 79 (P_log_IsImage 1) (loopOf (bodyOf Try.f63) 1) := loop_ok (lp := P_log_IsImage) (n := 2) (k := 1) sigOK eqOK hmix tT_log_IsImage S_log_IsImage_1 X_log_IsImage_1 (fun x => R_log_IsImage_1 x.1.2.2.1 x.1.2.2.2.1 x.1.2.2.2.2.1 x.2.1.1 x.2.1.2.1 x.2.1.2.2.1 x.2.1.2.2.2.1 x.2.1.2.2.2.2.1 x.2.1.2.2.2.2.2.1 x.2.1.2.2.2.2.2.2.1 x.2.1.2.2.2.2.2.2.2.1 x.2.2.1.1 x.2.2.1.2.1 x.2.2.1.2.2.1 x.2.2.1.2.2.2.1) (by kernel_rfl) (show AllAt (fun k c => LoopOK Try.prog G 79 (P_log_IsImage k) c) 2 _ from (allAt_of [] (by kernel_rfl) allAt_n)) r_log_IsImage_1
theorem r_log_IsImage_0 (x : S_log_IsImage_0.T G) : rndI (cfP T_log_IsImage) P_log_IsImage J_log_IsImage 79 1 (loopOf (bodyOf Try.f63) 0) S_log_IsImage_0 X_log_IsImage_0 x = R_log_IsImage_0 x.1.2.2.1 x.1.2.2.2.1 x.1.2.2.2.2.1 x.2.1.1 x.2.1.2.1 x.2.1.2.2.1 x.2.1.2.2.2.1 x.2.1.2.2.2.2.1 x.2.1.2.2.2.2.2.1 x.2.1.2.2.2.2.2.2.1 x.2.1.2.2.2.2.2.2.2.1 x.2.2.1.1 x.2.2.1.2.1 x.2.2.1.2.2.1 x.2.2.1.2.2.2.1 := by kernel_rfl
theorem lk_log_IsImage_0 : LoopOK Try.prog G 79 (P_log_IsImage 0) (loopOf (bodyOf Try.f63) 0) := loop_ok (lp := P_log_IsImage) (n := 1) (k := 0) sigOK eqOK hmix tT_log_IsImage S_log_IsImage_0 X_log_IsImage_0 (fun x => R_log_IsImage_0 x.1.2.2.1 x.1.2.2.2.1 x.1.2.2.2.2.1 x.2.1.1 x.2.1.2.1 x.2.1.2.2.1 x.2.1.2.2.2.1 x.2.1.2.2.2.2.1 x.2.1.2.2.2.2.2.1 x.2.1.2.2.2.2.2.2.1 x.2.1.2.2.2.2.2.2.2.1 x.2.2.1.1 x.2.2.1.2.1 x.2.2.1.2.2.1 x.2.2.1.2.2.2.1) (by kernel_rfl) (show AllAt (fun k c => LoopOK Try.prog G 79 (P_log_IsImage k) c) 1 _ from (allAt_of [] (by kernel_rfl) allAt_n)) r_log_IsImage_0
theorem q_log_IsImage (x : I_log_IsImage.T G) : endI (cfP T_log_IsImage) P_log_IsImage J_log_IsImage 79 (bodyOf Try.f63) I_log_IsImage E_log_IsImage x = F_log_IsImage x.1.1.1 x.1.1.2.1 x.1.1.2.2.1 x.1.1.2.2.2.1 x.1.1.2.2.2.2.1 x.1.1.2.2.2.2.2.1 x.1.1.2.2.2.2.2.2.1 x.1.1.2.2.2.2.2.2.2.1 x.1.2.1.1 x.1.2.1.2.1 x.1.2.1.2.2.1 x.1.2.1.2.2.2.1 := by kernel_rfl
noncomputable def e_log_IsImage : Fe G := ⟨I_log_IsImage, E_log_IsImage, fun x => F_log_IsImage x.1.1.1 x.1.1.2.1 x.1.1.2.2.1 x.1.1.2.2.2.1 x.1.1.2.2.2.2.1 x.1.1.2.2.2.2.2.1 x.1.1.2.2.2.2.2.2.1 x.1.1.2.2.2.2.2.2.2.1 x.1.2.1.1 x.1.2.1.2.1 x.1.2.1.2.2.1 x.1.2.1.2.2.2.1, Try.f63.results.toList⟩
theorem ok_log_IsImage : FnOK Try.prog G 63 e_log_IsImage := fn_ok (e := e_log_IsImage) sigOK eqOK hmix tT_log_IsImage Try.func63 (by kernel_rfl) (by kernel_rfl) rfl (by kernel_rfl) (allAt_zero (Q := fun k c => LoopOK Try.prog G 79 (P_log_IsImage k) c) (allAt_of [loopOf (bodyOf Try.f63) 0, loopOf (bodyOf Try.f63) 1] (by kernel_rfl) (allAt_c lk_log_IsImage_0 (allAt_c lk_log_IsImage_1 allAt_n)))) q_log_IsImage
/-! ### overlay/record.within -/
def I_record_within : Ab.Spec := ⟨[(0, .one (.int .i64)), (1, .one (.int .i64)), (2, .one (.int .i64))], [], []⟩
def E_record_within : List (Ex × Ab.Spec) := [(.ret, ⟨[(6, .one (.bool))], [], []⟩)]
def J_record_within : Nat → Option (List (Ex × Ab.Spec)) := fun n => get [(1048577, [(.normal, ⟨[(6, .one (.bool))], [], []⟩)])] n
noncomputable def T_record_within : List (Nat × Fe G) := []
noncomputable def P_record_within : Nat → St G → M (Ex × St G) := fun _ _ => M.fail
theorem tT_record_within : ∀ p ∈ T_record_within, FnOK Try.prog G p.1 p.2 := (fun _ h => absurd h (List.not_mem_nil))
theorem q_record_within (x : I_record_within.T G) : endI (cfP T_record_within) P_record_within J_record_within 15 (bodyOf Try.f140) I_record_within E_record_within x = F_record_within x.1.1 x.1.2.1 x.1.2.2.1 := by kernel_rfl
noncomputable def e_record_within : Fe G := ⟨I_record_within, E_record_within, fun x => F_record_within x.1.1 x.1.2.1 x.1.2.2.1, Try.f140.results.toList⟩
theorem ok_record_within : FnOK Try.prog G 140 e_record_within := fn_ok (e := e_record_within) sigOK eqOK hmix tT_record_within Try.func140 (by kernel_rfl) (by kernel_rfl) rfl (by kernel_rfl) (allAt_zero (Q := fun k c => LoopOK Try.prog G 15 (P_record_within k) c) (allAt_of [] (by kernel_rfl) allAt_n)) q_record_within
/-! ### overlay/record.Valid -/
def I_record_Valid : Ab.Spec := ⟨[(0, .agg [.int .i64, .int .i64, .int .i64, .int .i64, .flt .f64, .flt .f64, .flt .f64, .ro 100]), (1, .agg [.int .i64, .int .i64, .int .i64, .int .i64, .int .i64])], [], []⟩
def E_record_Valid : List (Ex × Ab.Spec) := [(.ret, ⟨[(4, .one (.bool))], [], []⟩)]
def J_record_Valid : Nat → Option (List (Ex × Ab.Spec)) := fun n => get [(1048580, [(.normal, ⟨[(2, .one (.ptr 32 0)), (3, .one (.ptr 48 0)), (5, .one (.bool)), (6, .one (.bool))], [(32, [.int .i64, .int .i64, .int .i64, .int .i64, .flt .f64, .flt .f64, .flt .f64, .ro 100]), (48, [.int .i64, .int .i64, .int .i64, .int .i64, .int .i64])], []⟩)]), (1048584, [(.normal, ⟨[(4, .one (.bool))], [], []⟩)]), (1048586, [(.normal, ⟨[(4, .one (.bool))], [], []⟩)]), (1048588, [(.normal, ⟨[(4, .one (.bool))], [], []⟩)]), (1048590, [(.normal, ⟨[(4, .one (.bool))], [], []⟩)]), (1048593, [(.normal, ⟨[(4, .one (.bool))], [], []⟩)])] n
noncomputable def T_record_Valid : List (Nat × Fe G) := [(74, e_building_Valid), (139, e_building_IsCall), (140, e_record_within)]
noncomputable def P_record_Valid : Nat → St G → M (Ex × St G) := fun _ _ => M.fail
theorem tT_record_Valid : ∀ p ∈ T_record_Valid, FnOK Try.prog G p.1 p.2 := List.forall_mem_cons.2 ⟨ok_building_Valid, List.forall_mem_cons.2 ⟨ok_building_IsCall, List.forall_mem_cons.2 ⟨ok_record_within, (fun _ h => absurd h (List.not_mem_nil))⟩⟩⟩
theorem q_record_Valid (x : I_record_Valid.T G) : endI (cfP T_record_Valid) P_record_Valid J_record_Valid 96 (bodyOf Try.f100) I_record_Valid E_record_Valid x = F_record_Valid x.1.1.1 x.1.1.2.1 x.1.1.2.2.1 x.1.1.2.2.2.1 x.1.1.2.2.2.2.1 x.1.1.2.2.2.2.2.1 x.1.1.2.2.2.2.2.2.1 x.1.1.2.2.2.2.2.2.2.1 x.1.2.1.1 x.1.2.1.2.1 x.1.2.1.2.2.1 x.1.2.1.2.2.2.1 x.1.2.1.2.2.2.2.1 := by kernel_rfl
noncomputable def e_record_Valid : Fe G := ⟨I_record_Valid, E_record_Valid, fun x => F_record_Valid x.1.1.1 x.1.1.2.1 x.1.1.2.2.1 x.1.1.2.2.2.1 x.1.1.2.2.2.2.1 x.1.1.2.2.2.2.2.1 x.1.1.2.2.2.2.2.2.1 x.1.1.2.2.2.2.2.2.2.1 x.1.2.1.1 x.1.2.1.2.1 x.1.2.1.2.2.1 x.1.2.1.2.2.2.1 x.1.2.1.2.2.2.2.1, Try.f100.results.toList⟩
theorem ok_record_Valid : FnOK Try.prog G 100 e_record_Valid := fn_ok (e := e_record_Valid) sigOK eqOK hmix tT_record_Valid Try.func100 (by kernel_rfl) (by kernel_rfl) rfl (by kernel_rfl) (allAt_zero (Q := fun k c => LoopOK Try.prog G 96 (P_record_Valid k) c) (allAt_of [] (by kernel_rfl) allAt_n)) q_record_Valid
/-! ### slices.Clone[[]int,int] -/
def I_slices_Clone_sl_int_int : Ab.Spec := ⟨[(0, .one (.ro 3))], [], []⟩
def E_slices_Clone_sl_int_int : List (Ex × Ab.Spec) := [(.ret, ⟨[(2, .one (.own 32768 3))], [], []⟩)]
noncomputable def e_slices_Clone_sl_int_int : Fe G := ⟨I_slices_Clone_sl_int_int, E_slices_Clone_sl_int_int, fun x => F_slices_Clone_sl_int_int x.1.1, Try.f105.results.toList⟩
theorem same_slices_Clone_sl_int_int : cloFe G 2 3 = e_slices_Clone_sl_int_int := by kernel_rfl
theorem ok_slices_Clone_sl_int_int : FnOK Try.prog G 105 e_slices_Clone_sl_int_int := same_slices_Clone_sl_int_int ▸ cloneOK (r := 2) (t := 3) sigOK ⟨_, Try.func105, by kernel_rfl, by kernel_rfl⟩ (tS := 24) (size := 1) (bytes := Try.t3.bytes) (by kernel_rfl) (by kernel_rfl) (Nat.le_of_ble_eq_true (by kernel_rfl)) (fun w a n c news => clo_walk_105 _ rfl (by kernel_rfl) w a n c news) (clo_nil_105)
/-! ### slices.Clone[[]bool,bool] -/
def I_slices_Clone_sl_bool_bool : Ab.Spec := ⟨[(0, .one (.ro 4))], [], []⟩
def E_slices_Clone_sl_bool_bool : List (Ex × Ab.Spec) := [(.ret, ⟨[(2, .one (.own 32768 4))], [], []⟩)]
noncomputable def e_slices_Clone_sl_bool_bool : Fe G := ⟨I_slices_Clone_sl_bool_bool, E_slices_Clone_sl_bool_bool, fun x => F_slices_Clone_sl_bool_bool x.1.1, Try.f106.results.toList⟩
theorem same_slices_Clone_sl_bool_bool : cloFe G 2 4 = e_slices_Clone_sl_bool_bool := by kernel_rfl
theorem ok_slices_Clone_sl_bool_bool : FnOK Try.prog G 106 e_slices_Clone_sl_bool_bool := same_slices_Clone_sl_bool_bool ▸ cloneOK (r := 2) (t := 4) sigOK ⟨_, Try.func106, by kernel_rfl, by kernel_rfl⟩ (tS := 25) (size := 1) (bytes := Try.t4.bytes) (by kernel_rfl) (by kernel_rfl) (Nat.le_of_ble_eq_true (by kernel_rfl)) (fun w a n c news => clo_walk_106 _ rfl (by kernel_rfl) w a n c news) (clo_nil_106)
/-! ### slices.Clone[[]overlay/api.Entry,overlay/api.Entry] -/
def I_slices_Clone_sl_api_Entry_api_Entry : Ab.Spec := ⟨[(0, .one (.ro 98))], [], []⟩
def E_slices_Clone_sl_api_Entry_api_Entry : List (Ex × Ab.Spec) := [(.ret, ⟨[(2, .one (.own 32768 98))], [], []⟩)]
noncomputable def e_slices_Clone_sl_api_Entry_api_Entry : Fe G := ⟨I_slices_Clone_sl_api_Entry_api_Entry, E_slices_Clone_sl_api_Entry_api_Entry, fun x => F_slices_Clone_sl_api_Entry_api_Entry x.1.1, Try.f107.results.toList⟩
theorem same_slices_Clone_sl_api_Entry_api_Entry : cloFe G 2 98 = e_slices_Clone_sl_api_Entry_api_Entry := by kernel_rfl
theorem ok_slices_Clone_sl_api_Entry_api_Entry : FnOK Try.prog G 107 e_slices_Clone_sl_api_Entry_api_Entry := same_slices_Clone_sl_api_Entry_api_Entry ▸ cloneOK (r := 2) (t := 98) sigOK ⟨_, Try.func107, by kernel_rfl, by kernel_rfl⟩ (tS := 26) (size := 5) (bytes := Try.t98.bytes) (by kernel_rfl) (by kernel_rfl) (Nat.le_of_ble_eq_true (by kernel_rfl)) (fun w a n c news => clo_walk_107 _ rfl (by kernel_rfl) w a n c news) (clo_nil_107)
/-! ### overlay/log.clone -/
def I_log_clone : Ab.Spec := ⟨[(0, .agg [.ro 3, .ro 4, .ro 4, .ro 98])], [], []⟩
def E_log_clone : List (Ex × Ab.Spec) := [(.ret, ⟨[(2, .one (.ptr 32 0))], [(32, [.own 32768 3, .own 32769 4, .own 32770 4, .own 32771 98])], []⟩)]
def J_log_clone : Nat → Option (List (Ex × Ab.Spec)) := fun n => get [] n
noncomputable def T_log_clone : List (Nat × Fe G) := [(105, e_slices_Clone_sl_int_int), (106, e_slices_Clone_sl_bool_bool), (107, e_slices_Clone_sl_api_Entry_api_Entry)]
noncomputable def P_log_clone : Nat → St G → M (Ex × St G) := fun _ _ => M.fail
theorem tT_log_clone : ∀ p ∈ T_log_clone, FnOK Try.prog G p.1 p.2 := List.forall_mem_cons.2 ⟨ok_slices_Clone_sl_int_int, List.forall_mem_cons.2 ⟨ok_slices_Clone_sl_bool_bool, List.forall_mem_cons.2 ⟨ok_slices_Clone_sl_api_Entry_api_Entry, (fun _ h => absurd h (List.not_mem_nil))⟩⟩⟩
theorem q_log_clone (x : I_log_clone.T G) : endI (cfP T_log_clone) P_log_clone J_log_clone 16 (bodyOf Try.f55) I_log_clone E_log_clone x = F_log_clone x.1.1.1 x.1.1.2.1 x.1.1.2.2.1 x.1.1.2.2.2.1 := by kernel_rfl
noncomputable def e_log_clone : Fe G := ⟨I_log_clone, E_log_clone, fun x => F_log_clone x.1.1.1 x.1.1.2.1 x.1.1.2.2.1 x.1.1.2.2.2.1, Try.f55.results.toList⟩
theorem ok_log_clone : FnOK Try.prog G 55 e_log_clone := fn_ok (e := e_log_clone) sigOK eqOK hmix tT_log_clone Try.func55 (by kernel_rfl) (by kernel_rfl) rfl (by kernel_rfl) (allAt_zero (Q := fun k c => LoopOK Try.prog G 16 (P_log_clone k) c) (allAt_of [] (by kernel_rfl) allAt_n)) q_log_clone
/-! ### slices.BinarySearchFunc[[]overlay/api.Entry,overlay/api.Entry,overlay/api.Entry] -/
def I_slices_BinarySearchFunc_sl_api_Entry_api_Entry_api_Entry_log_compare : Ab.Spec := ⟨[(0, .one (.ro 98)), (1, .agg [.int .i64, .int .i64, .int .i64, .int .i64, .bool]), (2, .one (.clo 102 [] []))], [], []⟩
def E_slices_BinarySearchFunc_sl_api_Entry_api_Entry_api_Entry_log_compare : List (Ex × Ab.Spec) := [(.ret, ⟨[(6, .one (.int .i64)), (7, .one (.bool))], [], []⟩)]
def J_slices_BinarySearchFunc_sl_api_Entry_api_Entry_api_Entry_log_compare : Nat → Option (List (Ex × Ab.Spec)) := fun n => get [(1048584, [(.normal, ⟨[(6, .one (.int .i64)), (7, .one (.bool))], [], []⟩)])] n
noncomputable def T_slices_BinarySearchFunc_sl_api_Entry_api_Entry_api_Entry_log_compare : List (Nat × Fe G) := [(102, e_log_compare)]
def S_slices_BinarySearchFunc_sl_api_Entry_api_Entry_api_Entry_log_compare_0 : Ab.Spec := ⟨[(0, .one (.ro 98)), (2, .one (.clo 102 [] [])), (4, .one (.ptr 64 0)), (8, .one (.int .i64)), (9, .one (.int .i64)), (10, .one (.int .i64))], [(64, [.int .i64, .int .i64, .int .i64, .int .i64, .bool])], []⟩
def X_slices_BinarySearchFunc_sl_api_Entry_api_Entry_api_Entry_log_compare_0 : List (Ex × Ab.Spec) := [(.exit 0, ⟨[(0, .one (.ro 98)), (2, .one (.clo 102 [] [])), (4, .one (.ptr 64 0)), (8, .one (.int .i64)), (9, .one (.int .i64))], [(64, [.int .i64, .int .i64, .int .i64, .int .i64, .bool])], []⟩)]
noncomputable def P_slices_BinarySearchFunc_sl_api_Entry_api_Entry_api_Entry_log_compare : Nat → St G → M (Ex × St G) := fun n => bif Nat.beq n 0 then lpX S_slices_BinarySearchFunc_sl_api_Entry_api_Entry_api_Entry_log_compare_0 X_slices_BinarySearchFunc_sl_api_Entry_api_Entry_api_Entry_log_compare_0 L_slices_BinarySearchFunc_sl_api_Entry_api_Entry_api_Entry_log_compare_0 else fun _ => M.fail
theorem tT_slices_BinarySearchFunc_sl_api_Entry_api_Entry_api_Entry_log_compare : ∀ p ∈ T_slices_BinarySearchFunc_sl_api_Entry_api_Entry_api_Entry_log_compare, FnOK Try.prog G p.1 p.2 := List.forall_mem_cons.2 ⟨ok_log_compare, (fun _ h => absurd h (List.not_mem_nil))⟩
theorem r_slices_BinarySearchFunc_sl_api_Entry_api_Entry_api_Entry_log_compare_0 (x : S_slices_BinarySearchFunc_sl_api_Entry_api_Entry_api_Entry_log_compare_0.T G) : rndI (cfP T_slices_BinarySearchFunc_sl_api_Entry_api_Entry_api_Entry_log_compare) P_slices_BinarySearchFunc_sl_api_Entry_api_Entry_api_Entry_log_compare J_slices_BinarySearchFunc_sl_api_Entry_api_Entry_api_Entry_log_compare 49 1 (loopOf (bodyOf Try.f101) 0) S_slices_BinarySearchFunc_sl_api_Entry_api_Entry_api_Entry_log_compare_0 X_slices_BinarySearchFunc_sl_api_Entry_api_Entry_api_Entry_log_compare_0 x = R_slices_BinarySearchFunc_sl_api_Entry_api_Entry_api_Entry_log_compare_0 x.1.1 x.1.2.2.2.1 x.1.2.2.2.2.1 x.1.2.2.2.2.2.1 x.2.1.1 x.2.1.2.1 x.2.1.2.2.1 x.2.1.2.2.2.1 x.2.1.2.2.2.2.1 := by kernel_rfl
theorem lk_slices_BinarySearchFunc_sl_api_Entry_api_Entry_api_Entry_log_compare_0 : LoopOK Try.prog G 49 (P_slices_BinarySearchFunc_sl_api_Entry_api_Entry_api_Entry_log_compare 0) (loopOf (bodyOf Try.f101) 0) := loop_ok (lp := P_slices_BinarySearchFunc_sl_api_Entry_api_Entry_api_Entry_log_compare) (n := 1) (k := 0) sigOK eqOK hmix tT_slices_BinarySearchFunc_sl_api_Entry_api_Entry_api_Entry_log_compare S_slices_BinarySearchFunc_sl_api_Entry_api_Entry_api_Entry_log_compare_0 X_slices_BinarySearchFunc_sl_api_Entry_api_Entry_api_Entry_log_compare_0 (fun x => R_slices_BinarySearchFunc_sl_api_Entry_api_Entry_api_Entry_log_compare_0 x.1.1 x.1.2.2.2.1 x.1.2.2.2.2.1 x.1.2.2.2.2.2.1 x.2.1.1 x.2.1.2.1 x.2.1.2.2.1 x.2.1.2.2.2.1 x.2.1.2.2.2.2.1) (by kernel_rfl) (show AllAt (fun k c => LoopOK Try.prog G 49 (P_slices_BinarySearchFunc_sl_api_Entry_api_Entry_api_Entry_log_compare k) c) 1 _ from (allAt_of [] (by kernel_rfl) allAt_n)) r_slices_BinarySearchFunc_sl_api_Entry_api_Entry_api_Entry_log_compare_0
theorem q_slices_BinarySearchFunc_sl_api_Entry_api_Entry_api_Entry_log_compare (x : I_slices_BinarySearchFunc_sl_api_Entry_api_Entry_api_Entry_log_compare.T G) : endI (cfP T_slices_BinarySearchFunc_sl_api_Entry_api_Entry_api_Entry_log_compare) P_slices_BinarySearchFunc_sl_api_Entry_api_Entry_api_Entry_log_compare J_slices_BinarySearchFunc_sl_api_Entry_api_Entry_api_Entry_log_compare 49 (bodyOf Try.f101) I_slices_BinarySearchFunc_sl_api_Entry_api_Entry_api_Entry_log_compare E_slices_BinarySearchFunc_sl_api_Entry_api_Entry_api_Entry_log_compare x = F_slices_BinarySearchFunc_sl_api_Entry_api_Entry_api_Entry_log_compare x.1.1 x.1.2.1.1 x.1.2.1.2.1 x.1.2.1.2.2.1 x.1.2.1.2.2.2.1 x.1.2.1.2.2.2.2.1 := by kernel_rfl
noncomputable def e_slices_BinarySearchFunc_sl_api_Entry_api_Entry_api_Entry_log_compare : Fe G := ⟨I_slices_BinarySearchFunc_sl_api_Entry_api_Entry_api_Entry_log_compare, E_slices_BinarySearchFunc_sl_api_Entry_api_Entry_api_Entry_log_compare, fun x => F_slices_BinarySearchFunc_sl_api_Entry_api_Entry_api_Entry_log_compare x.1.1 x.1.2.1.1 x.1.2.1.2.1 x.1.2.1.2.2.1 x.1.2.1.2.2.2.1 x.1.2.1.2.2.2.2.1, Try.f101.results.toList⟩
theorem ok_slices_BinarySearchFunc_sl_api_Entry_api_Entry_api_Entry_log_compare : FnOK Try.prog G 101 e_slices_BinarySearchFunc_sl_api_Entry_api_Entry_api_Entry_log_compare := fn_ok (e := e_slices_BinarySearchFunc_sl_api_Entry_api_Entry_api_Entry_log_compare) sigOK eqOK hmix tT_slices_BinarySearchFunc_sl_api_Entry_api_Entry_api_Entry_log_compare Try.func101 (by kernel_rfl) (by kernel_rfl) rfl (by kernel_rfl) (allAt_zero (Q := fun k c => LoopOK Try.prog G 49 (P_slices_BinarySearchFunc_sl_api_Entry_api_Entry_api_Entry_log_compare k) c) (allAt_of [loopOf (bodyOf Try.f101) 0] (by kernel_rfl) (allAt_c lk_slices_BinarySearchFunc_sl_api_Entry_api_Entry_api_Entry_log_compare_0 allAt_n))) q_slices_BinarySearchFunc_sl_api_Entry_api_Entry_api_Entry_log_compare
/-! ### overlay/log.find -/
def I_log_find : Ab.Spec := ⟨[(0, .agg [.ro 3, .ro 4, .ro 4, .ro 98]), (1, .one (.int .i64)), (2, .one (.int .i64))], [], []⟩
def E_log_find : List (Ex × Ab.Spec) := [(.ret, ⟨[(6, .one (.int .i64)), (7, .one (.bool))], [], []⟩)]
def J_log_find : Nat → Option (List (Ex × Ab.Spec)) := fun n => get [] n
noncomputable def T_log_find : List (Nat × Fe G) := [(101, e_slices_BinarySearchFunc_sl_api_Entry_api_Entry_api_Entry_log_compare)]
noncomputable def P_log_find : Nat → St G → M (Ex × St G) := fun _ _ => M.fail
theorem tT_log_find : ∀ p ∈ T_log_find, FnOK Try.prog G p.1 p.2 := List.forall_mem_cons.2 ⟨ok_slices_BinarySearchFunc_sl_api_Entry_api_Entry_api_Entry_log_compare, (fun _ h => absurd h (List.not_mem_nil))⟩
theorem q_log_find (x : I_log_find.T G) : endI (cfP T_log_find) P_log_find J_log_find 16 (bodyOf Try.f50) I_log_find E_log_find x = F_log_find x.1.1.1 x.1.1.2.1 x.1.1.2.2.1 x.1.1.2.2.2.1 x.1.2.1 x.1.2.2.1 := by kernel_rfl
noncomputable def e_log_find : Fe G := ⟨I_log_find, E_log_find, fun x => F_log_find x.1.1.1 x.1.1.2.1 x.1.1.2.2.1 x.1.1.2.2.2.1 x.1.2.1 x.1.2.2.1, Try.f50.results.toList⟩
theorem ok_log_find : FnOK Try.prog G 50 e_log_find := fn_ok (e := e_log_find) sigOK eqOK hmix tT_log_find Try.func50 (by kernel_rfl) (by kernel_rfl) rfl (by kernel_rfl) (allAt_zero (Q := fun k c => LoopOK Try.prog G 16 (P_log_find k) c) (allAt_of [] (by kernel_rfl) allAt_n)) q_log_find
/-! ### slices.Insert[[]overlay/api.Entry,overlay/api.Entry] -/
def I_slices_Insert_sl_api_Entry_api_Entry : Ab.Spec := ⟨[(0, .one (.own 32768 98)), (1, .one (.int .i64)), (2, .one (.own 32769 98))], [], []⟩
def E_slices_Insert_sl_api_Entry_api_Entry : List (Ex × Ab.Spec) := [(.ret, ⟨[(6, .one (.own 32768 98))], [], []⟩)]
noncomputable def e_slices_Insert_sl_api_Entry_api_Entry : Fe G := ⟨I_slices_Insert_sl_api_Entry_api_Entry, E_slices_Insert_sl_api_Entry_api_Entry, fun x => F_slices_Insert_sl_api_Entry_api_Entry x.1.1 x.1.2.1 x.1.2.2.1, Try.f121.results.toList⟩
theorem same_slices_Insert_sl_api_Entry_api_Entry : insFe G 6 98 = e_slices_Insert_sl_api_Entry_api_Entry := by kernel_rfl
theorem ok_slices_Insert_sl_api_Entry_api_Entry : FnOK Try.prog G 121 e_slices_Insert_sl_api_Entry_api_Entry := same_slices_Insert_sl_api_Entry_api_Entry ▸ insertOK (r := 6) (t := 98) sigOK ⟨_, Try.func121, by kernel_rfl, by kernel_rfl⟩ (by intro h; cases h) (fun _ => rfl) (ins_contract_121)
/-! ### slices.Delete[[]overlay/api.Entry,overlay/api.Entry] -/
def I_slices_Delete_sl_api_Entry_api_Entry : Ab.Spec := ⟨[(0, .one (.own 32768 98)), (1, .one (.int .i64)), (2, .one (.int .i64))], [], []⟩
def E_slices_Delete_sl_api_Entry_api_Entry : List (Ex × Ab.Spec) := [(.ret, ⟨[(6, .one (.own 32768 98))], [], []⟩)]
noncomputable def e_slices_Delete_sl_api_Entry_api_Entry : Fe G := ⟨I_slices_Delete_sl_api_Entry_api_Entry, E_slices_Delete_sl_api_Entry_api_Entry, fun x => F_slices_Delete_sl_api_Entry_api_Entry x.1.1 x.1.2.1 x.1.2.2.1, Try.f122.results.toList⟩
theorem same_slices_Delete_sl_api_Entry_api_Entry : delFe G 6 98 = e_slices_Delete_sl_api_Entry_api_Entry := by kernel_rfl
theorem ok_slices_Delete_sl_api_Entry_api_Entry : FnOK Try.prog G 122 e_slices_Delete_sl_api_Entry_api_Entry := same_slices_Delete_sl_api_Entry_api_Entry ▸ deleteOK (r := 6) (t := 98) sigOK ⟨_, Try.func122, by kernel_rfl, by kernel_rfl⟩ (by intro h; cases h) (fun _ => rfl) (del_contract_122)
/-! ### overlay/log.change -/
def I_log_change : Ab.Spec := ⟨[(0, .one (.ptr 65536 0)), (1, .agg [.int .i64, .int .i64, .int .i64, .int .i64, .int .i64])], [(65536, [.own 32768 3, .own 32769 4, .own 32770 4, .own 32771 98])], []⟩
def E_log_change : List (Ex × Ab.Spec) := [(.normal, ⟨[], [(65536, [.own 32768 3, .own 32769 4, .own 32770 4, .own 32771 98])], [65536]⟩)]
def J_log_change : Nat → Option (List (Ex × Ab.Spec)) := fun n => get [] n
noncomputable def T_log_change : List (Nat × Fe G) := [(50, e_log_find), (121, e_slices_Insert_sl_api_Entry_api_Entry), (122, e_slices_Delete_sl_api_Entry_api_Entry)]
noncomputable def P_log_change : Nat → St G → M (Ex × St G) := fun _ _ => M.fail
theorem tT_log_change : ∀ p ∈ T_log_change, FnOK Try.prog G p.1 p.2 := List.forall_mem_cons.2 ⟨ok_log_find, List.forall_mem_cons.2 ⟨ok_slices_Insert_sl_api_Entry_api_Entry, List.forall_mem_cons.2 ⟨ok_slices_Delete_sl_api_Entry_api_Entry, (fun _ h => absurd h (List.not_mem_nil))⟩⟩⟩
theorem q_log_change (x : I_log_change.T G) : endI (cfP T_log_change) P_log_change J_log_change 121 (bodyOf Try.f72) I_log_change E_log_change x = F_log_change x.1.2.1.1 x.1.2.1.2.1 x.1.2.1.2.2.1 x.1.2.1.2.2.2.1 x.1.2.1.2.2.2.2.1 x.2.1.1 x.2.1.2.1 x.2.1.2.2.1 x.2.1.2.2.2.1 := by kernel_rfl
noncomputable def e_log_change : Fe G := ⟨I_log_change, E_log_change, fun x => F_log_change x.1.2.1.1 x.1.2.1.2.1 x.1.2.1.2.2.1 x.1.2.1.2.2.2.1 x.1.2.1.2.2.2.2.1 x.2.1.1 x.2.1.2.1 x.2.1.2.2.1 x.2.1.2.2.2.1, Try.f72.results.toList⟩
theorem ok_log_change : FnOK Try.prog G 72 e_log_change := fn_ok (e := e_log_change) sigOK eqOK hmix tT_log_change Try.func72 (by kernel_rfl) (by kernel_rfl) rfl (by kernel_rfl) (allAt_zero (Q := fun k c => LoopOK Try.prog G 121 (P_log_change k) c) (allAt_of [] (by kernel_rfl) allAt_n)) q_log_change
/-! ### overlay/log.Apply -/
def I_log_Apply : Ab.Spec := ⟨[(0, .agg [.int .i64, .int .i64, .int .i64, .int .i64, .flt .f64, .flt .f64, .flt .f64, .ro 100]), (1, .agg [.ro 3, .ro 4, .ro 4, .ro 98]), (2, .agg [.int .i64, .int .i64, .int .i64, .int .i64, .int .i64])], [], []⟩
def E_log_Apply : List (Ex × Ab.Spec) := [(.ret, ⟨[(6, .one (.ptr 96 0)), (7, .one (.int .i64))], [(96, [.own 32768 3, .own 32769 4, .own 32770 4, .own 32771 98])], []⟩)]
def J_log_Apply : Nat → Option (List (Ex × Ab.Spec)) := fun n => get [] n
noncomputable def T_log_Apply : List (Nat × Fe G) := [(63, e_log_IsImage), (100, e_record_Valid), (55, e_log_clone), (72, e_log_change)]
noncomputable def P_log_Apply : Nat → St G → M (Ex × St G) := fun _ _ => M.fail
theorem tT_log_Apply : ∀ p ∈ T_log_Apply, FnOK Try.prog G p.1 p.2 := List.forall_mem_cons.2 ⟨ok_log_IsImage, List.forall_mem_cons.2 ⟨ok_record_Valid, List.forall_mem_cons.2 ⟨ok_log_clone, List.forall_mem_cons.2 ⟨ok_log_change, (fun _ h => absurd h (List.not_mem_nil))⟩⟩⟩⟩
theorem q_log_Apply (x : I_log_Apply.T G) : endI (cfP T_log_Apply) P_log_Apply J_log_Apply 25 (bodyOf Try.f48) I_log_Apply E_log_Apply x = F_log_Apply x.1.1.1 x.1.1.2.1 x.1.1.2.2.1 x.1.1.2.2.2.1 x.1.1.2.2.2.2.1 x.1.1.2.2.2.2.2.1 x.1.1.2.2.2.2.2.2.1 x.1.1.2.2.2.2.2.2.2.1 x.1.2.1.1 x.1.2.1.2.1 x.1.2.1.2.2.1 x.1.2.1.2.2.2.1 x.1.2.2.1.1 x.1.2.2.1.2.1 x.1.2.2.1.2.2.1 x.1.2.2.1.2.2.2.1 x.1.2.2.1.2.2.2.2.1 := by kernel_rfl
noncomputable def e_log_Apply : Fe G := ⟨I_log_Apply, E_log_Apply, fun x => F_log_Apply x.1.1.1 x.1.1.2.1 x.1.1.2.2.1 x.1.1.2.2.2.1 x.1.1.2.2.2.2.1 x.1.1.2.2.2.2.2.1 x.1.1.2.2.2.2.2.2.1 x.1.1.2.2.2.2.2.2.2.1 x.1.2.1.1 x.1.2.1.2.1 x.1.2.1.2.2.1 x.1.2.1.2.2.2.1 x.1.2.2.1.1 x.1.2.2.1.2.1 x.1.2.2.1.2.2.1 x.1.2.2.1.2.2.2.1 x.1.2.2.1.2.2.2.2.1, Try.f48.results.toList⟩
theorem ok_log_Apply : FnOK Try.prog G 48 e_log_Apply := fn_ok (e := e_log_Apply) sigOK eqOK hmix tT_log_Apply Try.func48 (by kernel_rfl) (by kernel_rfl) rfl (by kernel_rfl) (allAt_zero (Q := fun k c => LoopOK Try.prog G 25 (P_log_Apply k) c) (allAt_of [] (by kernel_rfl) allAt_n)) q_log_Apply
/-! ### overlay/store.IsStore -/
def I_store_IsStore : Ab.Spec := ⟨[(0, .one (.int .i64)), (1, .agg [.str, .str, .int .i64])], [], []⟩
def E_store_IsStore : List (Ex × Ab.Spec) := [(.ret, ⟨[(4, .one (.bool))], [], []⟩)]
def J_store_IsStore : Nat → Option (List (Ex × Ab.Spec)) := fun n => get [(1048577, [(.normal, ⟨[(4, .one (.bool))], [], []⟩)])] n
noncomputable def T_store_IsStore : List (Nat × Fe G) := []
noncomputable def P_store_IsStore : Nat → St G → M (Ex × St G) := fun _ _ => M.fail
theorem tT_store_IsStore : ∀ p ∈ T_store_IsStore, FnOK Try.prog G p.1 p.2 := (fun _ h => absurd h (List.not_mem_nil))
theorem q_store_IsStore (x : I_store_IsStore.T G) : endI (cfP T_store_IsStore) P_store_IsStore J_store_IsStore 37 (bodyOf Try.f49) I_store_IsStore E_store_IsStore x = F_store_IsStore x.1.1 x.1.2.1.1 x.1.2.1.2.1 x.1.2.1.2.2.1 := by kernel_rfl
noncomputable def e_store_IsStore : Fe G := ⟨I_store_IsStore, E_store_IsStore, fun x => F_store_IsStore x.1.1 x.1.2.1.1 x.1.2.1.2.1 x.1.2.1.2.2.1, Try.f49.results.toList⟩
theorem ok_store_IsStore : FnOK Try.prog G 49 e_store_IsStore := fn_ok (e := e_store_IsStore) sigOK eqOK hmix tT_store_IsStore Try.func49 (by kernel_rfl) (by kernel_rfl) rfl (by kernel_rfl) (allAt_zero (Q := fun k c => LoopOK Try.prog G 37 (P_store_IsStore k) c) (allAt_of [] (by kernel_rfl) allAt_n)) q_store_IsStore
/-! ### overlay/log.Room -/
def I_log_Room : Ab.Spec := ⟨[(0, .agg [.int .i64, .int .i64, .int .i64, .int .i64, .flt .f64, .flt .f64, .flt .f64, .ro 100]), (1, .agg [.ro 3, .ro 4, .ro 4, .ro 98])], [], []⟩
def E_log_Room : List (Ex × Ab.Spec) := [(.ret, ⟨[(4, .one (.bool))], [], []⟩)]
def J_log_Room : Nat → Option (List (Ex × Ab.Spec)) := fun n => get [(1048577, [(.normal, ⟨[(4, .one (.bool))], [], []⟩)])] n
noncomputable def T_log_Room : List (Nat × Fe G) := [(63, e_log_IsImage)]
noncomputable def P_log_Room : Nat → St G → M (Ex × St G) := fun _ _ => M.fail
theorem tT_log_Room : ∀ p ∈ T_log_Room, FnOK Try.prog G p.1 p.2 := List.forall_mem_cons.2 ⟨ok_log_IsImage, (fun _ h => absurd h (List.not_mem_nil))⟩
theorem q_log_Room (x : I_log_Room.T G) : endI (cfP T_log_Room) P_log_Room J_log_Room 23 (bodyOf Try.f51) I_log_Room E_log_Room x = F_log_Room x.1.1.1 x.1.1.2.1 x.1.1.2.2.1 x.1.1.2.2.2.1 x.1.1.2.2.2.2.1 x.1.1.2.2.2.2.2.1 x.1.1.2.2.2.2.2.2.1 x.1.1.2.2.2.2.2.2.2.1 x.1.2.1.1 x.1.2.1.2.1 x.1.2.1.2.2.1 x.1.2.1.2.2.2.1 := by kernel_rfl
noncomputable def e_log_Room : Fe G := ⟨I_log_Room, E_log_Room, fun x => F_log_Room x.1.1.1 x.1.1.2.1 x.1.1.2.2.1 x.1.1.2.2.2.1 x.1.1.2.2.2.2.1 x.1.1.2.2.2.2.2.1 x.1.1.2.2.2.2.2.2.1 x.1.1.2.2.2.2.2.2.2.1 x.1.2.1.1 x.1.2.1.2.1 x.1.2.1.2.2.1 x.1.2.1.2.2.2.1, Try.f51.results.toList⟩
theorem ok_log_Room : FnOK Try.prog G 51 e_log_Room := fn_ok (e := e_log_Room) sigOK eqOK hmix tT_log_Room Try.func51 (by kernel_rfl) (by kernel_rfl) rfl (by kernel_rfl) (allAt_zero (Q := fun k c => LoopOK Try.prog G 23 (P_log_Room k) c) (allAt_of [] (by kernel_rfl) allAt_n)) q_log_Room
/-! ### overlay/crc.Sum8 -/
def I_crc_Sum8 : Ab.Spec := ⟨[(0, .one (.str))], [], []⟩
def E_crc_Sum8 : List (Ex × Ab.Spec) := [(.ret, ⟨[(2, .one (.int .u8))], [], []⟩)]
def J_crc_Sum8 : Nat → Option (List (Ex × Ab.Spec)) := fun n => get [] n
noncomputable def T_crc_Sum8 : List (Nat × Fe G) := []
def S_crc_Sum8_0 : Ab.Spec := ⟨[(0, .one (.str)), (3, .one (.int .u8)), (7, .one (.int .i64)), (8, .one (.int .i64))], [], []⟩
def X_crc_Sum8_0 : List (Ex × Ab.Spec) := [(.exit 0, ⟨[(3, .one (.int .u8))], [], []⟩)]
def S_crc_Sum8_1 : Ab.Spec := ⟨[(0, .one (.str)), (3, .one (.int .u8)), (7, .one (.int .i64)), (8, .one (.int .i64)), (16, .one (.int .i64))], [], []⟩
def X_crc_Sum8_1 : List (Ex × Ab.Spec) := [(.exit 2, ⟨[(0, .one (.str)), (3, .one (.int .u8)), (7, .one (.int .i64)), (8, .one (.int .i64))], [], []⟩)]
noncomputable def P_crc_Sum8 : Nat → St G → M (Ex × St G) := fun n => bif Nat.beq n 0 then lpX S_crc_Sum8_0 X_crc_Sum8_0 L_crc_Sum8_0 else bif Nat.beq n 1 then lpX S_crc_Sum8_1 X_crc_Sum8_1 L_crc_Sum8_1 else fun _ => M.fail
theorem tT_crc_Sum8 : ∀ p ∈ T_crc_Sum8, FnOK Try.prog G p.1 p.2 := (fun _ h => absurd h (List.not_mem_nil))
theorem r_crc_Sum8_1 (x : S_crc_Sum8_1.T G) : rndI (cfP T_crc_Sum8) P_crc_Sum8 J_crc_Sum8 28 2 (loopOf (bodyOf Try.f103) 1) S_crc_Sum8_1 X_crc_Sum8_1 x = R_crc_Sum8_1 x.1.1 x.1.2.1 x.1.2.2.1 x.1.2.2.2.1 x.1.2.2.2.2.1 := by kernel_rfl
theorem lk_crc_Sum8_1 : LoopOK Try.prog G 28 (P_crc_Sum8 1) (loopOf (bodyOf Try.f103) 1) := loop_ok (lp := P_crc_Sum8) (n := 2) (k := 1) sigOK eqOK hmix tT_crc_Sum8 S_crc_Sum8_1 X_crc_Sum8_1 (fun x => R_crc_Sum8_1 x.1.1 x.1.2.1 x.1.2.2.1 x.1.2.2.2.1 x.1.2.2.2.2.1) (by kernel_rfl) (show AllAt (fun k c => LoopOK Try.prog G 28 (P_crc_Sum8 k) c) 2 _ from (allAt_of [] (by kernel_rfl) allAt_n)) r_crc_Sum8_1
theorem r_crc_Sum8_0 (x : S_crc_Sum8_0.T G) : rndI (cfP T_crc_Sum8) P_crc_Sum8 J_crc_Sum8 28 1 (loopOf (bodyOf Try.f103) 0) S_crc_Sum8_0 X_crc_Sum8_0 x = R_crc_Sum8_0 x.1.1 x.1.2.1 x.1.2.2.1 x.1.2.2.2.1 := by kernel_rfl
theorem lk_crc_Sum8_0 : LoopOK Try.prog G 28 (P_crc_Sum8 0) (loopOf (bodyOf Try.f103) 0) := loop_ok (lp := P_crc_Sum8) (n := 1) (k := 0) sigOK eqOK hmix tT_crc_Sum8 S_crc_Sum8_0 X_crc_Sum8_0 (fun x => R_crc_Sum8_0 x.1.1 x.1.2.1 x.1.2.2.1 x.1.2.2.2.1) (by kernel_rfl) (show AllAt (fun k c => LoopOK Try.prog G 28 (P_crc_Sum8 k) c) 1 _ from (allAt_of [loopOf (bodyOf Try.f103) 1] (by kernel_rfl) (allAt_c lk_crc_Sum8_1 allAt_n))) r_crc_Sum8_0
theorem q_crc_Sum8 (x : I_crc_Sum8.T G) : endI (cfP T_crc_Sum8) P_crc_Sum8 J_crc_Sum8 28 (bodyOf Try.f103) I_crc_Sum8 E_crc_Sum8 x = F_crc_Sum8 x.1.1 := by kernel_rfl
noncomputable def e_crc_Sum8 : Fe G := ⟨I_crc_Sum8, E_crc_Sum8, fun x => F_crc_Sum8 x.1.1, Try.f103.results.toList⟩
theorem ok_crc_Sum8 : FnOK Try.prog G 103 e_crc_Sum8 := fn_ok (e := e_crc_Sum8) sigOK eqOK hmix tT_crc_Sum8 Try.func103 (by kernel_rfl) (by kernel_rfl) rfl (by kernel_rfl) (allAt_zero (Q := fun k c => LoopOK Try.prog G 28 (P_crc_Sum8 k) c) (allAt_of [loopOf (bodyOf Try.f103) 0, loopOf (bodyOf Try.f103) 1] (by kernel_rfl) (allAt_c lk_crc_Sum8_0 (allAt_c lk_crc_Sum8_1 allAt_n)))) q_crc_Sum8
/-! ### overlay/record.Encode -/
def I_record_Encode : Ab.Spec := ⟨[(0, .agg [.int .i64, .int .i64, .int .i64, .int .i64, .flt .f64, .flt .f64, .flt .f64, .ro 100]), (1, .agg [.int .i64, .int .i64, .int .i64, .int .i64, .int .i64])], [], []⟩
def E_record_Encode : List (Ex × Ab.Spec) := [(.ret, ⟨[(4, .one (.str)), (5, .one (.int .i64))], [], []⟩)]
def J_record_Encode : Nat → Option (List (Ex × Ab.Spec)) := fun n => get [] n
noncomputable def T_record_Encode : List (Nat × Fe G) := [(100, e_record_Valid), (103, e_crc_Sum8)]
noncomputable def P_record_Encode : Nat → St G → M (Ex × St G) := fun _ _ => M.fail
theorem tT_record_Encode : ∀ p ∈ T_record_Encode, FnOK Try.prog G p.1 p.2 := List.forall_mem_cons.2 ⟨ok_record_Valid, List.forall_mem_cons.2 ⟨ok_crc_Sum8, (fun _ h => absurd h (List.not_mem_nil))⟩⟩
theorem q_record_Encode (x : I_record_Encode.T G) : endI (cfP T_record_Encode) P_record_Encode J_record_Encode 35 (bodyOf Try.f52) I_record_Encode E_record_Encode x = F_record_Encode x.1.1.1 x.1.1.2.1 x.1.1.2.2.1 x.1.1.2.2.2.1 x.1.1.2.2.2.2.1 x.1.1.2.2.2.2.2.1 x.1.1.2.2.2.2.2.2.1 x.1.1.2.2.2.2.2.2.2.1 x.1.2.1.1 x.1.2.1.2.1 x.1.2.1.2.2.1 x.1.2.1.2.2.2.1 x.1.2.1.2.2.2.2.1 := by kernel_rfl
noncomputable def e_record_Encode : Fe G := ⟨I_record_Encode, E_record_Encode, fun x => F_record_Encode x.1.1.1 x.1.1.2.1 x.1.1.2.2.1 x.1.1.2.2.2.1 x.1.1.2.2.2.2.1 x.1.1.2.2.2.2.2.1 x.1.1.2.2.2.2.2.2.1 x.1.1.2.2.2.2.2.2.2.1 x.1.2.1.1 x.1.2.1.2.1 x.1.2.1.2.2.1 x.1.2.1.2.2.2.1 x.1.2.1.2.2.2.2.1, Try.f52.results.toList⟩
theorem ok_record_Encode : FnOK Try.prog G 52 e_record_Encode := fn_ok (e := e_record_Encode) sigOK eqOK hmix tT_record_Encode Try.func52 (by kernel_rfl) (by kernel_rfl) rfl (by kernel_rfl) (allAt_zero (Q := fun k c => LoopOK Try.prog G 35 (P_record_Encode k) c) (allAt_of [] (by kernel_rfl) allAt_n)) q_record_Encode
/-! ### overlay/store.Current -/
def I_store_Current : Ab.Spec := ⟨[(0, .agg [.str, .str, .int .i64])], [], []⟩
def E_store_Current : List (Ex × Ab.Spec) := [(.ret, ⟨[(2, .one (.str))], [], []⟩)]
def J_store_Current : Nat → Option (List (Ex × Ab.Spec)) := fun n => get [] n
noncomputable def T_store_Current : List (Nat × Fe G) := []
noncomputable def P_store_Current : Nat → St G → M (Ex × St G) := fun _ _ => M.fail
theorem tT_store_Current : ∀ p ∈ T_store_Current, FnOK Try.prog G p.1 p.2 := (fun _ h => absurd h (List.not_mem_nil))
theorem q_store_Current (x : I_store_Current.T G) : endI (cfP T_store_Current) P_store_Current J_store_Current 12 (bodyOf Try.f53) I_store_Current E_store_Current x = F_store_Current x.1.1.1 x.1.1.2.1 x.1.1.2.2.1 := by kernel_rfl
noncomputable def e_store_Current : Fe G := ⟨I_store_Current, E_store_Current, fun x => F_store_Current x.1.1.1 x.1.1.2.1 x.1.1.2.2.1, Try.f53.results.toList⟩
theorem ok_store_Current : FnOK Try.prog G 53 e_store_Current := fn_ok (e := e_store_Current) sigOK eqOK hmix tT_store_Current Try.func53 (by kernel_rfl) (by kernel_rfl) rfl (by kernel_rfl) (allAt_zero (Q := fun k c => LoopOK Try.prog G 12 (P_store_Current k) c) (allAt_of [] (by kernel_rfl) allAt_n)) q_store_Current
/-! ### overlay/store.check -/
def I_store_check : Ab.Spec := ⟨[(0, .one (.int .i64)), (1, .agg [.str, .str, .int .i64]), (2, .one (.int .i64)), (3, .one (.int .i64))], [], []⟩
def E_store_check : List (Ex × Ab.Spec) := [(.ret, ⟨[(8, .one (.int .i64))], [], []⟩)]
def J_store_check : Nat → Option (List (Ex × Ab.Spec)) := fun n => get [(1048579, [(.normal, ⟨[(3, .one (.int .i64)), (14, .one (.bool))], [], []⟩)])] n
noncomputable def T_store_check : List (Nat × Fe G) := [(49, e_store_IsStore)]
noncomputable def P_store_check : Nat → St G → M (Ex × St G) := fun _ _ => M.fail
theorem tT_store_check : ∀ p ∈ T_store_check, FnOK Try.prog G p.1 p.2 := List.forall_mem_cons.2 ⟨ok_store_IsStore, (fun _ h => absurd h (List.not_mem_nil))⟩
theorem q_store_check (x : I_store_check.T G) : endI (cfP T_store_check) P_store_check J_store_check 23 (bodyOf Try.f104) I_store_check E_store_check x = F_store_check x.1.1 x.1.2.1.1 x.1.2.1.2.1 x.1.2.1.2.2.1 x.1.2.2.1 x.1.2.2.2.1 := by kernel_rfl
noncomputable def e_store_check : Fe G := ⟨I_store_check, E_store_check, fun x => F_store_check x.1.1 x.1.2.1.1 x.1.2.1.2.1 x.1.2.1.2.2.1 x.1.2.2.1 x.1.2.2.2.1, Try.f104.results.toList⟩
theorem ok_store_check : FnOK Try.prog G 104 e_store_check := fn_ok (e := e_store_check) sigOK eqOK hmix tT_store_check Try.func104 (by kernel_rfl) (by kernel_rfl) rfl (by kernel_rfl) (allAt_zero (Q := fun k c => LoopOK Try.prog G 23 (P_store_check k) c) (allAt_of [] (by kernel_rfl) allAt_n)) q_store_check
/-! ### overlay/store.Write -/
def I_store_Write : Ab.Spec := ⟨[(0, .one (.int .i64)), (1, .agg [.str, .str, .int .i64]), (2, .one (.int .i64)), (3, .one (.str)), (4, .one (.int .i64))], [], []⟩
def E_store_Write : List (Ex × Ab.Spec) := [(.ret, ⟨[(10, .one (.ptr 160 0)), (11, .one (.int .i64)), (12, .one (.int .i64))], [(160, [.str, .str, .int .i64])], []⟩)]
def J_store_Write : Nat → Option (List (Ex × Ab.Spec)) := fun n => get [] n
noncomputable def T_store_Write : List (Nat × Fe G) := [(104, e_store_check)]
noncomputable def P_store_Write : Nat → St G → M (Ex × St G) := fun _ _ => M.fail
theorem tT_store_Write : ∀ p ∈ T_store_Write, FnOK Try.prog G p.1 p.2 := List.forall_mem_cons.2 ⟨ok_store_check, (fun _ h => absurd h (List.not_mem_nil))⟩
theorem q_store_Write (x : I_store_Write.T G) : endI (cfP T_store_Write) P_store_Write J_store_Write 62 (bodyOf Try.f54) I_store_Write E_store_Write x = F_store_Write x.1.1 x.1.2.1.1 x.1.2.1.2.1 x.1.2.1.2.2.1 x.1.2.2.1 x.1.2.2.2.1 x.1.2.2.2.2.1 := by kernel_rfl
noncomputable def e_store_Write : Fe G := ⟨I_store_Write, E_store_Write, fun x => F_store_Write x.1.1 x.1.2.1.1 x.1.2.1.2.1 x.1.2.1.2.2.1 x.1.2.2.1 x.1.2.2.2.1 x.1.2.2.2.2.1, Try.f54.results.toList⟩
theorem ok_store_Write : FnOK Try.prog G 54 e_store_Write := fn_ok (e := e_store_Write) sigOK eqOK hmix tT_store_Write Try.func54 (by kernel_rfl) (by kernel_rfl) rfl (by kernel_rfl) (allAt_zero (Q := fun k c => LoopOK Try.prog G 62 (P_store_Write k) c) (allAt_of [] (by kernel_rfl) allAt_n)) q_store_Write
/-! ### overlay/log.Snapshot$1 -/
def I_log_Snapshot_1 : Ab.Spec := ⟨[(0, .one (.int .i64)), (1, .one (.int .i64)), (2, .one (.ptr 65536 0)), (3, .one (.ptr 65537 0))], [(65536, [.own 32768 56]), (65537, [.int .i64])], []⟩
def E_log_Snapshot_1 : List (Ex × Ab.Spec) := [(.normal, ⟨[], [(65536, [.own 32768 56]), (65537, [.int .i64])], [65536, 65537]⟩)]
def J_log_Snapshot_1 : Nat → Option (List (Ex × Ab.Spec)) := fun n => get [] n
noncomputable def T_log_Snapshot_1 : List (Nat × Fe G) := []
noncomputable def P_log_Snapshot_1 : Nat → St G → M (Ex × St G) := fun _ _ => M.fail
theorem tT_log_Snapshot_1 : ∀ p ∈ T_log_Snapshot_1, FnOK Try.prog G p.1 p.2 := (fun _ h => absurd h (List.not_mem_nil))
theorem q_log_Snapshot_1 (x : I_log_Snapshot_1.T G) : endI (cfP T_log_Snapshot_1) P_log_Snapshot_1 J_log_Snapshot_1 13 (bodyOf Try.f113) I_log_Snapshot_1 E_log_Snapshot_1 x = F_log_Snapshot_1 x.1.1 x.1.2.1 x.2.1.1 x.2.2.1.1 := by kernel_rfl
noncomputable def e_log_Snapshot_1 : Fe G := ⟨I_log_Snapshot_1, E_log_Snapshot_1, fun x => F_log_Snapshot_1 x.1.1 x.1.2.1 x.2.1.1 x.2.2.1.1, Try.f113.results.toList⟩
theorem ok_log_Snapshot_1 : FnOK Try.prog G 113 e_log_Snapshot_1 := fn_ok (e := e_log_Snapshot_1) sigOK eqOK hmix tT_log_Snapshot_1 Try.func113 (by kernel_rfl) (by kernel_rfl) rfl (by kernel_rfl) (allAt_zero (Q := fun k c => LoopOK Try.prog G 13 (P_log_Snapshot_1 k) c) (allAt_of [] (by kernel_rfl) allAt_n)) q_log_Snapshot_1
/-! ### overlay/log.number -/
def I_log_number : Ab.Spec := ⟨[(0, .one (.bool))], [], []⟩
def E_log_number : List (Ex × Ab.Spec) := [(.ret, ⟨[(2, .one (.int .i64))], [], []⟩)]
def J_log_number : Nat → Option (List (Ex × Ab.Spec)) := fun n => get [] n
noncomputable def T_log_number : List (Nat × Fe G) := []
noncomputable def P_log_number : Nat → St G → M (Ex × St G) := fun _ _ => M.fail
theorem tT_log_number : ∀ p ∈ T_log_number, FnOK Try.prog G p.1 p.2 := (fun _ h => absurd h (List.not_mem_nil))
theorem q_log_number (x : I_log_number.T G) : endI (cfP T_log_number) P_log_number J_log_number 4 (bodyOf Try.f114) I_log_number E_log_number x = F_log_number x.1.1 := by kernel_rfl
noncomputable def e_log_number : Fe G := ⟨I_log_number, E_log_number, fun x => F_log_number x.1.1, Try.f114.results.toList⟩
theorem ok_log_number : FnOK Try.prog G 114 e_log_number := fn_ok (e := e_log_number) sigOK eqOK hmix tT_log_number Try.func114 (by kernel_rfl) (by kernel_rfl) rfl (by kernel_rfl) (allAt_zero (Q := fun k c => LoopOK Try.prog G 4 (P_log_number k) c) (allAt_of [] (by kernel_rfl) allAt_n)) q_log_number
/-! ### overlay/log.Snapshot$2 -/
def I_log_Snapshot_2 : Ab.Spec := ⟨[(0, .one (.int .i64)), (1, .one (.int .i64)), (2, .one (.int .i64)), (3, .one (.ptr 65536 0)), (4, .one (.ptr 65537 0))], [(65536, [.own 32768 56]), (65537, [.int .i64, .int .i64, .int .i64, .int .i64, .bool])], []⟩
def E_log_Snapshot_2 : List (Ex × Ab.Spec) := [(.normal, ⟨[], [(65536, [.own 32768 56]), (65537, [.int .i64, .int .i64, .int .i64, .int .i64, .bool])], [65536, 65537]⟩)]
def J_log_Snapshot_2 : Nat → Option (List (Ex × Ab.Spec)) := fun n => get [] n
noncomputable def T_log_Snapshot_2 : List (Nat × Fe G) := []
noncomputable def P_log_Snapshot_2 : Nat → St G → M (Ex × St G) := fun _ _ => M.fail
theorem tT_log_Snapshot_2 : ∀ p ∈ T_log_Snapshot_2, FnOK Try.prog G p.1 p.2 := (fun _ h => absurd h (List.not_mem_nil))
theorem q_log_Snapshot_2 (x : I_log_Snapshot_2.T G) : endI (cfP T_log_Snapshot_2) P_log_Snapshot_2 J_log_Snapshot_2 19 (bodyOf Try.f115) I_log_Snapshot_2 E_log_Snapshot_2 x = F_log_Snapshot_2 x.1.1 x.1.2.1 x.1.2.2.1 x.2.1.1 x.2.2.1.1 x.2.2.1.2.1 x.2.2.1.2.2.1 x.2.2.1.2.2.2.1 x.2.2.1.2.2.2.2.1 := by kernel_rfl
noncomputable def e_log_Snapshot_2 : Fe G := ⟨I_log_Snapshot_2, E_log_Snapshot_2, fun x => F_log_Snapshot_2 x.1.1 x.1.2.1 x.1.2.2.1 x.2.1.1 x.2.2.1.1 x.2.2.1.2.1 x.2.2.1.2.2.1 x.2.2.1.2.2.2.1 x.2.2.1.2.2.2.2.1, Try.f115.results.toList⟩
theorem ok_log_Snapshot_2 : FnOK Try.prog G 115 e_log_Snapshot_2 := fn_ok (e := e_log_Snapshot_2) sigOK eqOK hmix tT_log_Snapshot_2 Try.func115 (by kernel_rfl) (by kernel_rfl) rfl (by kernel_rfl) (allAt_zero (Q := fun k c => LoopOK Try.prog G 19 (P_log_Snapshot_2 k) c) (allAt_of [] (by kernel_rfl) allAt_n)) q_log_Snapshot_2
/-! ### overlay/log.Snapshot -/
def I_log_Snapshot : Ab.Spec := ⟨[(0, .agg [.int .i64, .int .i64, .int .i64, .int .i64, .flt .f64, .flt .f64, .flt .f64, .ro 100]), (1, .agg [.ro 3, .ro 4, .ro 4, .ro 98])], [], []⟩
def E_log_Snapshot : List (Ex × Ab.Spec) := [(.ret, ⟨[(4, .one (.own 32768 56))], [], []⟩)]
def J_log_Snapshot : Nat → Option (List (Ex × Ab.Spec)) := fun n => get [] n
noncomputable def T_log_Snapshot : List (Nat × Fe G) := [(63, e_log_IsImage), (113, e_log_Snapshot_1), (114, e_log_number), (115, e_log_Snapshot_2)]
def S_log_Snapshot_0 : Ab.Spec := ⟨[(3, .one (.ptr 48 0)), (5, .one (.ptr 80 0)), (17, .one (.int .i64)), (18, .one (.int .i64))], [(48, [.ro 3, .ro 4, .ro 4, .ro 98]), (80, [.own 32768 56])], []⟩
def X_log_Snapshot_0 : List (Ex × Ab.Spec) := [(.exit 0, ⟨[(3, .one (.ptr 48 0)), (5, .one (.ptr 80 0))], [(48, [.ro 3, .ro 4, .ro 4, .ro 98]), (80, [.own 32768 56])], []⟩)]
def S_log_Snapshot_1 : Ab.Spec := ⟨[(5, .one (.ptr 80 0)), (47, .one (.ro 98)), (48, .one (.int .i64)), (49, .one (.int .i64))], [(80, [.own 32768 56])], []⟩
def X_log_Snapshot_1 : List (Ex × Ab.Spec) := [(.exit 2, ⟨[(5, .one (.ptr 80 0))], [(80, [.own 32768 56])], []⟩)]
noncomputable def P_log_Snapshot : Nat → St G → M (Ex × St G) := fun n => bif Nat.beq n 0 then lpX S_log_Snapshot_0 X_log_Snapshot_0 L_log_Snapshot_0 else bif Nat.beq n 1 then lpX S_log_Snapshot_1 X_log_Snapshot_1 L_log_Snapshot_1 else fun _ => M.fail
theorem tT_log_Snapshot : ∀ p ∈ T_log_Snapshot, FnOK Try.prog G p.1 p.2 := List.forall_mem_cons.2 ⟨ok_log_IsImage, List.forall_mem_cons.2 ⟨ok_log_Snapshot_1, List.forall_mem_cons.2 ⟨ok_log_number, List.forall_mem_cons.2 ⟨ok_log_Snapshot_2, (fun _ h => absurd h (List.not_mem_nil))⟩⟩⟩⟩
theorem r_log_Snapshot_1 (x : S_log_Snapshot_1.T G) : rndI (cfP T_log_Snapshot) P_log_Snapshot J_log_Snapshot 69 2 (loopOf (bodyOf Try.f64) 1) S_log_Snapshot_1 X_log_Snapshot_1 x = R_log_Snapshot_1 x.1.2.1 x.1.2.2.1 x.1.2.2.2.1 x.2.1.1 := by kernel_rfl
theorem lk_log_Snapshot_1 : LoopOK Try.prog G 69 (P_log_Snapshot 1) (loopOf (bodyOf Try.f64) 1) := loop_ok (lp := P_log_Snapshot) (n := 2) (k := 1) sigOK eqOK hmix tT_log_Snapshot S_log_Snapshot_1 X_log_Snapshot_1 (fun x => R_log_Snapshot_1 x.1.2.1 x.1.2.2.1 x.1.2.2.2.1 x.2.1.1) (by kernel_rfl) (show AllAt (fun k c => LoopOK Try.prog G 69 (P_log_Snapshot k) c) 2 _ from (allAt_of [] (by kernel_rfl) allAt_n)) r_log_Snapshot_1
theorem r_log_Snapshot_0 (x : S_log_Snapshot_0.T G) : rndI (cfP T_log_Snapshot) P_log_Snapshot J_log_Snapshot 69 1 (loopOf (bodyOf Try.f64) 0) S_log_Snapshot_0 X_log_Snapshot_0 x = R_log_Snapshot_0 x.1.2.2.1 x.1.2.2.2.1 x.2.1.1 x.2.1.2.1 x.2.1.2.2.1 x.2.1.2.2.2.1 x.2.2.1.1 := by kernel_rfl
theorem lk_log_Snapshot_0 : LoopOK Try.prog G 69 (P_log_Snapshot 0) (loopOf (bodyOf Try.f64) 0) := loop_ok (lp := P_log_Snapshot) (n := 1) (k := 0) sigOK eqOK hmix tT_log_Snapshot S_log_Snapshot_0 X_log_Snapshot_0 (fun x => R_log_Snapshot_0 x.1.2.2.1 x.1.2.2.2.1 x.2.1.1 x.2.1.2.1 x.2.1.2.2.1 x.2.1.2.2.2.1 x.2.2.1.1) (by kernel_rfl) (show AllAt (fun k c => LoopOK Try.prog G 69 (P_log_Snapshot k) c) 1 _ from (allAt_of [] (by kernel_rfl) allAt_n)) r_log_Snapshot_0
theorem q_log_Snapshot (x : I_log_Snapshot.T G) : endI (cfP T_log_Snapshot) P_log_Snapshot J_log_Snapshot 69 (bodyOf Try.f64) I_log_Snapshot E_log_Snapshot x = F_log_Snapshot x.1.1.1 x.1.1.2.1 x.1.1.2.2.1 x.1.1.2.2.2.1 x.1.1.2.2.2.2.1 x.1.1.2.2.2.2.2.1 x.1.1.2.2.2.2.2.2.1 x.1.1.2.2.2.2.2.2.2.1 x.1.2.1.1 x.1.2.1.2.1 x.1.2.1.2.2.1 x.1.2.1.2.2.2.1 := by kernel_rfl
noncomputable def e_log_Snapshot : Fe G := ⟨I_log_Snapshot, E_log_Snapshot, fun x => F_log_Snapshot x.1.1.1 x.1.1.2.1 x.1.1.2.2.1 x.1.1.2.2.2.1 x.1.1.2.2.2.2.1 x.1.1.2.2.2.2.2.1 x.1.1.2.2.2.2.2.2.1 x.1.1.2.2.2.2.2.2.2.1 x.1.2.1.1 x.1.2.1.2.1 x.1.2.1.2.2.1 x.1.2.1.2.2.2.1, Try.f64.results.toList⟩
theorem ok_log_Snapshot : FnOK Try.prog G 64 e_log_Snapshot := fn_ok (e := e_log_Snapshot) sigOK eqOK hmix tT_log_Snapshot Try.func64 (by kernel_rfl) (by kernel_rfl) rfl (by kernel_rfl) (allAt_zero (Q := fun k c => LoopOK Try.prog G 69 (P_log_Snapshot k) c) (allAt_of [loopOf (bodyOf Try.f64) 0, loopOf (bodyOf Try.f64) 1] (by kernel_rfl) (allAt_c lk_log_Snapshot_0 (allAt_c lk_log_Snapshot_1 allAt_n)))) q_log_Snapshot
/-! ### (*strings.Builder).WriteString -/
def I_strings_Builder_WriteString : Ab.Spec := ⟨[(0, .one (.ptr 65536 0)), (1, .one (.str))], [(65536, [.np 65536 133, .own 32768 5])], []⟩
def E_strings_Builder_WriteString : List (Ex × Ab.Spec) := [(.ret, ⟨[(4, .one (.int .i64)), (5, .one (.nili))], [(65536, [.np 65536 133, .own 32768 5])], [65536]⟩)]
noncomputable def e_strings_Builder_WriteString : Fe G := ⟨I_strings_Builder_WriteString, E_strings_Builder_WriteString, fun x => F_strings_Builder_WriteString x.1.2.1 x.2.1.2.1, Try.f65.results.toList⟩
theorem same_strings_Builder_WriteString : wsFe G 4 5 133 5 (fun b => (b.toNat : Int)) = e_strings_Builder_WriteString := by kernel_rfl
theorem ok_strings_Builder_WriteString : FnOK Try.prog G 65 e_strings_Builder_WriteString := same_strings_Builder_WriteString ▸ writeOK (tb := 133) (te := 5) sigOK ⟨_, Try.func65, by kernel_rfl, by kernel_rfl⟩ (by intro h; cases h) (fun _ => rfl) (by kernel_rfl) (r0 := 4) (r1 := 5) (by decide) (ofB := fun b => (b.toNat : Int)) (fun _ => rfl) (fun b w a0 v ha hb n xs ho hne s h => ws_walk_65 b w a0 v ha hb n xs ho hne s h)
/-! ### overlay/store.Erase$1 -/
def I_store_Erase_1 : Ab.Spec := ⟨[(0, .one (.ptr 65536 0)), (1, .one (.ptr 65537 0))], [(65536, [.str, .str, .int .i64]), (65537, [.int .i64])], []⟩
def E_store_Erase_1 : List (Ex × Ab.Spec) := [(.normal, ⟨[], [(65536, [.str, .str, .int .i64]), (65537, [.int .i64])], [65536, 65537]⟩)]
def J_store_Erase_1 : Nat → Option (List (Ex × Ab.Spec)) := fun n => get [] n
noncomputable def T_store_Erase_1 : List (Nat × Fe G) := []
noncomputable def P_store_Erase_1 : Nat → St G → M (Ex × St G) := fun _ _ => M.fail
theorem tT_store_Erase_1 : ∀ p ∈ T_store_Erase_1, FnOK Try.prog G p.1 p.2 := (fun _ h => absurd h (List.not_mem_nil))
theorem q_store_Erase_1 (x : I_store_Erase_1.T G) : endI (cfP T_store_Erase_1) P_store_Erase_1 J_store_Erase_1 8 (bodyOf Try.f118) I_store_Erase_1 E_store_Erase_1 x = F_store_Erase_1 x.2.1.1 x.2.1.2.1 x.2.1.2.2.1 x.2.2.1.1 := by kernel_rfl
noncomputable def e_store_Erase_1 : Fe G := ⟨I_store_Erase_1, E_store_Erase_1, fun x => F_store_Erase_1 x.2.1.1 x.2.1.2.1 x.2.1.2.2.1 x.2.2.1.1, Try.f118.results.toList⟩
theorem ok_store_Erase_1 : FnOK Try.prog G 118 e_store_Erase_1 := fn_ok (e := e_store_Erase_1) sigOK eqOK hmix tT_store_Erase_1 Try.func118 (by kernel_rfl) (by kernel_rfl) rfl (by kernel_rfl) (allAt_zero (Q := fun k c => LoopOK Try.prog G 8 (P_store_Erase_1 k) c) (allAt_of [] (by kernel_rfl) allAt_n)) q_store_Erase_1
/-! ### overlay/store.unit -/
def I_store_unit_store_Erase_1 : Ab.Spec := ⟨[(0, .one (.int .i64)), (1, .agg [.str, .str, .int .i64]), (2, .one (.int .i64)), (3, .one (.int .i64)), (4, .one (.clo 118 [] [(65536, 0)]))], [(65536, [.int .i64])], []⟩
def E_store_unit_store_Erase_1 : List (Ex × Ab.Spec) := [(.ret, ⟨[(10, .one (.ptr 160 0)), (11, .one (.int .i64)), (12, .one (.int .i64))], [(160, [.str, .str, .int .i64]), (65536, [.int .i64])], [65536]⟩)]
def J_store_unit_store_Erase_1 : Nat → Option (List (Ex × Ab.Spec)) := fun n => get [] n
noncomputable def T_store_unit_store_Erase_1 : List (Nat × Fe G) := [(104, e_store_check), (118, e_store_Erase_1)]
noncomputable def P_store_unit_store_Erase_1 : Nat → St G → M (Ex × St G) := fun _ _ => M.fail
theorem tT_store_unit_store_Erase_1 : ∀ p ∈ T_store_unit_store_Erase_1, FnOK Try.prog G p.1 p.2 := List.forall_mem_cons.2 ⟨ok_store_check, List.forall_mem_cons.2 ⟨ok_store_Erase_1, (fun _ h => absurd h (List.not_mem_nil))⟩⟩
theorem q_store_unit_store_Erase_1 (x : I_store_unit_store_Erase_1.T G) : endI (cfP T_store_unit_store_Erase_1) P_store_unit_store_Erase_1 J_store_unit_store_Erase_1 31 (bodyOf Try.f117) I_store_unit_store_Erase_1 E_store_unit_store_Erase_1 x = F_store_unit_store_Erase_1 x.1.1 x.1.2.1.1 x.1.2.1.2.1 x.1.2.1.2.2.1 x.1.2.2.1 x.1.2.2.2.1 x.2.1.1 := by kernel_rfl
noncomputable def e_store_unit_store_Erase_1 : Fe G := ⟨I_store_unit_store_Erase_1, E_store_unit_store_Erase_1, fun x => F_store_unit_store_Erase_1 x.1.1 x.1.2.1.1 x.1.2.1.2.1 x.1.2.1.2.2.1 x.1.2.2.1 x.1.2.2.2.1 x.2.1.1, Try.f117.results.toList⟩
theorem ok_store_unit_store_Erase_1 : FnOK Try.prog G 117 e_store_unit_store_Erase_1 := fn_ok (e := e_store_unit_store_Erase_1) sigOK eqOK hmix tT_store_unit_store_Erase_1 Try.func117 (by kernel_rfl) (by kernel_rfl) rfl (by kernel_rfl) (allAt_zero (Q := fun k c => LoopOK Try.prog G 31 (P_store_unit_store_Erase_1 k) c) (allAt_of [] (by kernel_rfl) allAt_n)) q_store_unit_store_Erase_1
/-! ### overlay/store.Erase -/
def I_store_Erase : Ab.Spec := ⟨[(0, .one (.int .i64)), (1, .agg [.str, .str, .int .i64]), (2, .one (.int .i64)), (3, .one (.int .i64))], [], []⟩
def E_store_Erase : List (Ex × Ab.Spec) := [(.ret, ⟨[(8, .one (.ptr 128 0)), (9, .one (.int .i64)), (10, .one (.int .i64))], [(128, [.str, .str, .int .i64])], []⟩)]
def J_store_Erase : Nat → Option (List (Ex × Ab.Spec)) := fun n => get [] n
noncomputable def T_store_Erase : List (Nat × Fe G) := [(117, e_store_unit_store_Erase_1)]
noncomputable def P_store_Erase : Nat → St G → M (Ex × St G) := fun _ _ => M.fail
theorem tT_store_Erase : ∀ p ∈ T_store_Erase, FnOK Try.prog G p.1 p.2 := List.forall_mem_cons.2 ⟨ok_store_unit_store_Erase_1, (fun _ h => absurd h (List.not_mem_nil))⟩
theorem q_store_Erase (x : I_store_Erase.T G) : endI (cfP T_store_Erase) P_store_Erase J_store_Erase 20 (bodyOf Try.f66) I_store_Erase E_store_Erase x = F_store_Erase x.1.1 x.1.2.1.1 x.1.2.1.2.1 x.1.2.1.2.2.1 x.1.2.2.1 x.1.2.2.2.1 := by kernel_rfl
noncomputable def e_store_Erase : Fe G := ⟨I_store_Erase, E_store_Erase, fun x => F_store_Erase x.1.1 x.1.2.1.1 x.1.2.1.2.1 x.1.2.1.2.2.1 x.1.2.2.1 x.1.2.2.2.1, Try.f66.results.toList⟩
theorem ok_store_Erase : FnOK Try.prog G 66 e_store_Erase := fn_ok (e := e_store_Erase) sigOK eqOK hmix tT_store_Erase Try.func66 (by kernel_rfl) (by kernel_rfl) rfl (by kernel_rfl) (allAt_zero (Q := fun k c => LoopOK Try.prog G 20 (P_store_Erase k) c) (allAt_of [] (by kernel_rfl) allAt_n)) q_store_Erase
/-! ### (*strings.Builder).String -/
def I_strings_Builder_String : Ab.Spec := ⟨[(0, .one (.ptr 65536 0))], [(65536, [.np 65536 133, .own 32768 5])], []⟩
def E_strings_Builder_String : List (Ex × Ab.Spec) := [(.ret, ⟨[(2, .one (.str))], [(65536, [.np 65536 133, .ro 5])], [65536]⟩)]
noncomputable def e_strings_Builder_String : Fe G := ⟨I_strings_Builder_String, E_strings_Builder_String, fun x => F_strings_Builder_String x.2.1.2.1, Try.f67.results.toList⟩
theorem same_strings_Builder_String : stFe G 2 133 5 = e_strings_Builder_String := by kernel_rfl
theorem ok_strings_Builder_String : FnOK Try.prog G 67 e_strings_Builder_String := same_strings_Builder_String ▸ stringOK (tb := 133) (te := 5) sigOK ⟨_, Try.func67, by kernel_rfl, by kernel_rfl⟩ (by intro h; cases h) (by kernel_rfl) (r0 := 2) (fun _ => rfl) (fun b w a0 g0 cap cur l h0 hb hg hn hc h63 hx => st_walk_67 b w a0 g0 cap cur l h0 hb hg hn hc h63 hx)
/-! ### overlay/store.Choose$1 -/
def I_store_Choose_1 : Ab.Spec := ⟨[(0, .one (.ptr 65536 0)), (1, .one (.ptr 65537 0))], [(65536, [.str, .str, .int .i64]), (65537, [.int .i64])], []⟩
def E_store_Choose_1 : List (Ex × Ab.Spec) := [(.normal, ⟨[], [(65536, [.str, .str, .int .i64]), (65537, [.int .i64])], [65536, 65537]⟩)]
def J_store_Choose_1 : Nat → Option (List (Ex × Ab.Spec)) := fun n => get [] n
noncomputable def T_store_Choose_1 : List (Nat × Fe G) := []
noncomputable def P_store_Choose_1 : Nat → St G → M (Ex × St G) := fun _ _ => M.fail
theorem tT_store_Choose_1 : ∀ p ∈ T_store_Choose_1, FnOK Try.prog G p.1 p.2 := (fun _ h => absurd h (List.not_mem_nil))
theorem q_store_Choose_1 (x : I_store_Choose_1.T G) : endI (cfP T_store_Choose_1) P_store_Choose_1 J_store_Choose_1 7 (bodyOf Try.f119) I_store_Choose_1 E_store_Choose_1 x = F_store_Choose_1 x.2.1.1 x.2.1.2.1 x.2.1.2.2.1 x.2.2.1.1 := by kernel_rfl
noncomputable def e_store_Choose_1 : Fe G := ⟨I_store_Choose_1, E_store_Choose_1, fun x => F_store_Choose_1 x.2.1.1 x.2.1.2.1 x.2.1.2.2.1 x.2.2.1.1, Try.f119.results.toList⟩
theorem ok_store_Choose_1 : FnOK Try.prog G 119 e_store_Choose_1 := fn_ok (e := e_store_Choose_1) sigOK eqOK hmix tT_store_Choose_1 Try.func119 (by kernel_rfl) (by kernel_rfl) rfl (by kernel_rfl) (allAt_zero (Q := fun k c => LoopOK Try.prog G 7 (P_store_Choose_1 k) c) (allAt_of [] (by kernel_rfl) allAt_n)) q_store_Choose_1
/-! ### overlay/store.unit -/
def I_store_unit_store_Choose_1 : Ab.Spec := ⟨[(0, .one (.int .i64)), (1, .agg [.str, .str, .int .i64]), (2, .one (.int .i64)), (3, .one (.int .i64)), (4, .one (.clo 119 [] [(65536, 0)]))], [(65536, [.int .i64])], []⟩
def E_store_unit_store_Choose_1 : List (Ex × Ab.Spec) := [(.ret, ⟨[(10, .one (.ptr 160 0)), (11, .one (.int .i64)), (12, .one (.int .i64))], [(160, [.str, .str, .int .i64]), (65536, [.int .i64])], [65536]⟩)]
def J_store_unit_store_Choose_1 : Nat → Option (List (Ex × Ab.Spec)) := fun n => get [] n
noncomputable def T_store_unit_store_Choose_1 : List (Nat × Fe G) := [(104, e_store_check), (119, e_store_Choose_1)]
noncomputable def P_store_unit_store_Choose_1 : Nat → St G → M (Ex × St G) := fun _ _ => M.fail
theorem tT_store_unit_store_Choose_1 : ∀ p ∈ T_store_unit_store_Choose_1, FnOK Try.prog G p.1 p.2 := List.forall_mem_cons.2 ⟨ok_store_check, List.forall_mem_cons.2 ⟨ok_store_Choose_1, (fun _ h => absurd h (List.not_mem_nil))⟩⟩
theorem q_store_unit_store_Choose_1 (x : I_store_unit_store_Choose_1.T G) : endI (cfP T_store_unit_store_Choose_1) P_store_unit_store_Choose_1 J_store_unit_store_Choose_1 31 (bodyOf Try.f117) I_store_unit_store_Choose_1 E_store_unit_store_Choose_1 x = F_store_unit_store_Choose_1 x.1.1 x.1.2.1.1 x.1.2.1.2.1 x.1.2.1.2.2.1 x.1.2.2.1 x.1.2.2.2.1 x.2.1.1 := by kernel_rfl
noncomputable def e_store_unit_store_Choose_1 : Fe G := ⟨I_store_unit_store_Choose_1, E_store_unit_store_Choose_1, fun x => F_store_unit_store_Choose_1 x.1.1 x.1.2.1.1 x.1.2.1.2.1 x.1.2.1.2.2.1 x.1.2.2.1 x.1.2.2.2.1 x.2.1.1, Try.f117.results.toList⟩
theorem ok_store_unit_store_Choose_1 : FnOK Try.prog G 117 e_store_unit_store_Choose_1 := fn_ok (e := e_store_unit_store_Choose_1) sigOK eqOK hmix tT_store_unit_store_Choose_1 Try.func117 (by kernel_rfl) (by kernel_rfl) rfl (by kernel_rfl) (allAt_zero (Q := fun k c => LoopOK Try.prog G 31 (P_store_unit_store_Choose_1 k) c) (allAt_of [] (by kernel_rfl) allAt_n)) q_store_unit_store_Choose_1
/-! ### overlay/store.Choose -/
def I_store_Choose : Ab.Spec := ⟨[(0, .one (.int .i64)), (1, .agg [.str, .str, .int .i64]), (2, .one (.int .i64)), (3, .one (.int .i64))], [], []⟩
def E_store_Choose : List (Ex × Ab.Spec) := [(.ret, ⟨[(8, .one (.ptr 128 0)), (9, .one (.int .i64)), (10, .one (.int .i64))], [(128, [.str, .str, .int .i64])], []⟩)]
def J_store_Choose : Nat → Option (List (Ex × Ab.Spec)) := fun n => get [] n
noncomputable def T_store_Choose : List (Nat × Fe G) := [(117, e_store_unit_store_Choose_1)]
noncomputable def P_store_Choose : Nat → St G → M (Ex × St G) := fun _ _ => M.fail
theorem tT_store_Choose : ∀ p ∈ T_store_Choose, FnOK Try.prog G p.1 p.2 := List.forall_mem_cons.2 ⟨ok_store_unit_store_Choose_1, (fun _ h => absurd h (List.not_mem_nil))⟩
theorem q_store_Choose (x : I_store_Choose.T G) : endI (cfP T_store_Choose) P_store_Choose J_store_Choose 20 (bodyOf Try.f68) I_store_Choose E_store_Choose x = F_store_Choose x.1.1 x.1.2.1.1 x.1.2.1.2.1 x.1.2.1.2.2.1 x.1.2.2.1 x.1.2.2.2.1 := by kernel_rfl
noncomputable def e_store_Choose : Fe G := ⟨I_store_Choose, E_store_Choose, fun x => F_store_Choose x.1.1 x.1.2.1.1 x.1.2.1.2.1 x.1.2.1.2.2.1 x.1.2.2.1 x.1.2.2.2.1, Try.f68.results.toList⟩
theorem ok_store_Choose : FnOK Try.prog G 68 e_store_Choose := fn_ok (e := e_store_Choose) sigOK eqOK hmix tT_store_Choose Try.func68 (by kernel_rfl) (by kernel_rfl) rfl (by kernel_rfl) (allAt_zero (Q := fun k c => LoopOK Try.prog G 20 (P_store_Choose k) c) (allAt_of [] (by kernel_rfl) allAt_n)) q_store_Choose
/-! ### overlay/log.Compact -/
def I_log_Compact : Ab.Spec := ⟨[(0, .agg [.int .i64, .int .i64, .int .i64, .int .i64, .flt .f64, .flt .f64, .flt .f64, .ro 100]), (1, .agg [.str, .str, .int .i64]), (2, .agg [.ro 3, .ro 4, .ro 4, .ro 98]), (3, .one (.int .i64))], [], []⟩
def E_log_Compact : List (Ex × Ab.Spec) := [(.ret, ⟨[(8, .one (.ptr 128 0)), (9, .one (.int .i64)), (10, .one (.int .i64))], [(128, [.str, .str, .int .i64])], []⟩)]
def J_log_Compact : Nat → Option (List (Ex × Ab.Spec)) := fun n => get [(15, [(.normal, ⟨[(3, .one (.int .i64)), (4, .one (.ptr 64 0)), (5, .one (.ptr 80 0)), (8, .one (.ptr 128 0)), (16, .one (.int .i64)), (17, .one (.int .i64))], [(64, [.int .i64, .int .i64, .int .i64, .int .i64, .flt .f64, .flt .f64, .flt .f64, .ro 100]), (80, [.str, .str, .int .i64]), (128, [.str, .str, .int .i64])], []⟩)])] n
noncomputable def T_log_Compact : List (Nat × Fe G) := [(49, e_store_IsStore), (63, e_log_IsImage), (64, e_log_Snapshot), (52, e_record_Encode), (65, e_strings_Builder_WriteString), (66, e_store_Erase), (67, e_strings_Builder_String), (54, e_store_Write), (68, e_store_Choose)]
def S_log_Compact_0 : Ab.Spec := ⟨[(3, .one (.int .i64)), (4, .one (.ptr 64 0)), (5, .one (.ptr 80 0)), (8, .one (.ptr 128 0)), (11, .one (.ptr 176 0)), (36, .one (.own 32768 56)), (37, .one (.int .i64)), (38, .one (.int .i64))], [(64, [.int .i64, .int .i64, .int .i64, .int .i64, .flt .f64, .flt .f64, .flt .f64, .ro 100]), (80, [.str, .str, .int .i64]), (128, [.str, .str, .int .i64]), (176, [.np 176 133, .own 32769 5])], []⟩
def X_log_Compact_0 : List (Ex × Ab.Spec) := [(.exit 0, ⟨[(3, .one (.int .i64)), (4, .one (.ptr 64 0)), (5, .one (.ptr 80 0)), (8, .one (.ptr 128 0)), (11, .one (.ptr 176 0))], [(64, [.int .i64, .int .i64, .int .i64, .int .i64, .flt .f64, .flt .f64, .flt .f64, .ro 100]), (80, [.str, .str, .int .i64]), (128, [.str, .str, .int .i64]), (176, [.np 176 133, .own 32768 5])], []⟩)]
noncomputable def P_log_Compact : Nat → St G → M (Ex × St G) := fun n => bif Nat.beq n 0 then lpX S_log_Compact_0 X_log_Compact_0 L_log_Compact_0 else fun _ => M.fail
theorem tT_log_Compact : ∀ p ∈ T_log_Compact, FnOK Try.prog G p.1 p.2 := List.forall_mem_cons.2 ⟨ok_store_IsStore, List.forall_mem_cons.2 ⟨ok_log_IsImage, List.forall_mem_cons.2 ⟨ok_log_Snapshot, List.forall_mem_cons.2 ⟨ok_record_Encode, List.forall_mem_cons.2 ⟨ok_strings_Builder_WriteString, List.forall_mem_cons.2 ⟨ok_store_Erase, List.forall_mem_cons.2 ⟨ok_strings_Builder_String, List.forall_mem_cons.2 ⟨ok_store_Write, List.forall_mem_cons.2 ⟨ok_store_Choose, (fun _ h => absurd h (List.not_mem_nil))⟩⟩⟩⟩⟩⟩⟩⟩⟩
theorem r_log_Compact_0 (x : S_log_Compact_0.T G) : rndI (cfP T_log_Compact) P_log_Compact J_log_Compact 92 1 (loopOf (bodyOf Try.f23) 0) S_log_Compact_0 X_log_Compact_0 x = R_log_Compact_0 x.1.1 x.1.2.2.2.2.2.1 x.1.2.2.2.2.2.2.1 x.1.2.2.2.2.2.2.2.1 x.2.1.1 x.2.1.2.1 x.2.1.2.2.1 x.2.1.2.2.2.1 x.2.1.2.2.2.2.1 x.2.1.2.2.2.2.2.1 x.2.1.2.2.2.2.2.2.1 x.2.1.2.2.2.2.2.2.2.1 x.2.2.1.1 x.2.2.1.2.1 x.2.2.1.2.2.1 x.2.2.2.1.1 x.2.2.2.1.2.1 x.2.2.2.1.2.2.1 x.2.2.2.2.1.2.1 := by kernel_rfl
theorem lk_log_Compact_0 : LoopOK Try.prog G 92 (P_log_Compact 0) (loopOf (bodyOf Try.f23) 0) := loop_ok (lp := P_log_Compact) (n := 1) (k := 0) sigOK eqOK hmix tT_log_Compact S_log_Compact_0 X_log_Compact_0 (fun x => R_log_Compact_0 x.1.1 x.1.2.2.2.2.2.1 x.1.2.2.2.2.2.2.1 x.1.2.2.2.2.2.2.2.1 x.2.1.1 x.2.1.2.1 x.2.1.2.2.1 x.2.1.2.2.2.1 x.2.1.2.2.2.2.1 x.2.1.2.2.2.2.2.1 x.2.1.2.2.2.2.2.2.1 x.2.1.2.2.2.2.2.2.2.1 x.2.2.1.1 x.2.2.1.2.1 x.2.2.1.2.2.1 x.2.2.2.1.1 x.2.2.2.1.2.1 x.2.2.2.1.2.2.1 x.2.2.2.2.1.2.1) (by kernel_rfl) (show AllAt (fun k c => LoopOK Try.prog G 92 (P_log_Compact k) c) 1 _ from (allAt_of [] (by kernel_rfl) allAt_n)) r_log_Compact_0
theorem q_log_Compact (x : I_log_Compact.T G) : endI (cfP T_log_Compact) P_log_Compact J_log_Compact 92 (bodyOf Try.f23) I_log_Compact E_log_Compact x = F_log_Compact x.1.1.1 x.1.1.2.1 x.1.1.2.2.1 x.1.1.2.2.2.1 x.1.1.2.2.2.2.1 x.1.1.2.2.2.2.2.1 x.1.1.2.2.2.2.2.2.1 x.1.1.2.2.2.2.2.2.2.1 x.1.2.1.1 x.1.2.1.2.1 x.1.2.1.2.2.1 x.1.2.2.1.1 x.1.2.2.1.2.1 x.1.2.2.1.2.2.1 x.1.2.2.1.2.2.2.1 x.1.2.2.2.1 := by kernel_rfl
noncomputable def e_log_Compact : Fe G := ⟨I_log_Compact, E_log_Compact, fun x => F_log_Compact x.1.1.1 x.1.1.2.1 x.1.1.2.2.1 x.1.1.2.2.2.1 x.1.1.2.2.2.2.1 x.1.1.2.2.2.2.2.1 x.1.1.2.2.2.2.2.2.1 x.1.1.2.2.2.2.2.2.2.1 x.1.2.1.1 x.1.2.1.2.1 x.1.2.1.2.2.1 x.1.2.2.1.1 x.1.2.2.1.2.1 x.1.2.2.1.2.2.1 x.1.2.2.1.2.2.2.1 x.1.2.2.2.1, Try.f23.results.toList⟩
theorem ok_log_Compact : FnOK Try.prog G 23 e_log_Compact := fn_ok (e := e_log_Compact) sigOK eqOK hmix tT_log_Compact Try.func23 (by kernel_rfl) (by kernel_rfl) rfl (by kernel_rfl) (allAt_zero (Q := fun k c => LoopOK Try.prog G 92 (P_log_Compact k) c) (allAt_of [loopOf (bodyOf Try.f23) 0] (by kernel_rfl) (allAt_c lk_log_Compact_0 allAt_n))) q_log_Compact
/-! ### overlay/log.Append -/
def I_log_Append : Ab.Spec := ⟨[(0, .agg [.int .i64, .int .i64, .int .i64, .int .i64, .flt .f64, .flt .f64, .flt .f64, .ro 100]), (1, .agg [.str, .str, .int .i64]), (2, .agg [.ro 3, .ro 4, .ro 4, .ro 98]), (3, .agg [.int .i64, .int .i64, .int .i64, .int .i64, .int .i64]), (4, .one (.int .i64))], [], []⟩
def E_log_Append : List (Ex × Ab.Spec) := [(.ret, ⟨[(10, .one (.ptr 160 0)), (11, .one (.ptr 176 0)), (12, .one (.int .i64)), (13, .one (.int .i64))], [(160, [.str, .str, .int .i64]), (176, [.own 32768 3, .own 32769 4, .own 32770 4, .own 32771 98])], []⟩)]
def J_log_Append : Nat → Option (List (Ex × Ab.Spec)) := fun n => get [(12, [(.normal, ⟨[(4, .one (.int .i64)), (6, .one (.ptr 96 0)), (7, .one (.ptr 112 0)), (10, .one (.ptr 160 0)), (11, .one (.ptr 176 0)), (14, .one (.ptr 224 0)), (15, .one (.int .i64))], [(96, [.str, .str, .int .i64]), (112, [.ro 3, .ro 4, .ro 4, .ro 98]), (160, [.str, .str, .int .i64]), (176, [.own 32768 3, .own 32769 4, .own 32770 4, .own 32771 98]), (224, [.own 32772 3, .own 32773 4, .own 32774 4, .own 32775 98])], []⟩)]), (1048581, [(.normal, ⟨[(4, .one (.int .i64)), (5, .one (.ptr 80 0)), (6, .one (.ptr 96 0)), (7, .one (.ptr 112 0)), (8, .one (.ptr 128 0)), (10, .one (.ptr 160 0)), (11, .one (.ptr 176 0)), (14, .one (.ptr 224 0)), (63, .one (.bool))], [(80, [.int .i64, .int .i64, .int .i64, .int .i64, .flt .f64, .flt .f64, .flt .f64, .ro 100]), (96, [.str, .str, .int .i64]), (112, [.ro 3, .ro 4, .ro 4, .ro 98]), (128, [.int .i64, .int .i64, .int .i64, .int .i64, .int .i64]), (160, [.str, .str, .int .i64]), (176, [.own 32768 3, .own 32769 4, .own 32770 4, .own 32771 98]), (224, [.own 32772 3, .own 32773 4, .own 32774 4, .own 32775 98])], []⟩)])] n
noncomputable def T_log_Append : List (Nat × Fe G) := [(48, e_log_Apply), (49, e_store_IsStore), (50, e_log_find), (51, e_log_Room), (52, e_record_Encode), (53, e_store_Current), (54, e_store_Write), (23, e_log_Compact), (55, e_log_clone)]
noncomputable def P_log_Append : Nat → St G → M (Ex × St G) := fun _ _ => M.fail
theorem tT_log_Append : ∀ p ∈ T_log_Append, FnOK Try.prog G p.1 p.2 := List.forall_mem_cons.2 ⟨ok_log_Apply, List.forall_mem_cons.2 ⟨ok_store_IsStore, List.forall_mem_cons.2 ⟨ok_log_find, List.forall_mem_cons.2 ⟨ok_log_Room, List.forall_mem_cons.2 ⟨ok_record_Encode, List.forall_mem_cons.2 ⟨ok_store_Current, List.forall_mem_cons.2 ⟨ok_store_Write, List.forall_mem_cons.2 ⟨ok_log_Compact, List.forall_mem_cons.2 ⟨ok_log_clone, (fun _ h => absurd h (List.not_mem_nil))⟩⟩⟩⟩⟩⟩⟩⟩⟩
theorem q_log_Append (x : I_log_Append.T G) : endI (cfP T_log_Append) P_log_Append J_log_Append 118 (bodyOf Try.f20) I_log_Append E_log_Append x = F_log_Append x.1.1.1 x.1.1.2.1 x.1.1.2.2.1 x.1.1.2.2.2.1 x.1.1.2.2.2.2.1 x.1.1.2.2.2.2.2.1 x.1.1.2.2.2.2.2.2.1 x.1.1.2.2.2.2.2.2.2.1 x.1.2.1.1 x.1.2.1.2.1 x.1.2.1.2.2.1 x.1.2.2.1.1 x.1.2.2.1.2.1 x.1.2.2.1.2.2.1 x.1.2.2.1.2.2.2.1 x.1.2.2.2.1.1 x.1.2.2.2.1.2.1 x.1.2.2.2.1.2.2.1 x.1.2.2.2.1.2.2.2.1 x.1.2.2.2.1.2.2.2.2.1 x.1.2.2.2.2.1 := by kernel_rfl
noncomputable def e_log_Append : Fe G := ⟨I_log_Append, E_log_Append, fun x => F_log_Append x.1.1.1 x.1.1.2.1 x.1.1.2.2.1 x.1.1.2.2.2.1 x.1.1.2.2.2.2.1 x.1.1.2.2.2.2.2.1 x.1.1.2.2.2.2.2.2.1 x.1.1.2.2.2.2.2.2.2.1 x.1.2.1.1 x.1.2.1.2.1 x.1.2.1.2.2.1 x.1.2.2.1.1 x.1.2.2.1.2.1 x.1.2.2.1.2.2.1 x.1.2.2.1.2.2.2.1 x.1.2.2.2.1.1 x.1.2.2.2.1.2.1 x.1.2.2.2.1.2.2.1 x.1.2.2.2.1.2.2.2.1 x.1.2.2.2.1.2.2.2.2.1 x.1.2.2.2.2.1, Try.f20.results.toList⟩
theorem ok_log_Append : FnOK Try.prog G 20 e_log_Append := fn_ok (e := e_log_Append) sigOK eqOK hmix tT_log_Append Try.func20 (by kernel_rfl) (by kernel_rfl) rfl (by kernel_rfl) (allAt_zero (Q := fun k c => LoopOK Try.prog G 118 (P_log_Append k) c) (allAt_of [] (by kernel_rfl) allAt_n)) q_log_Append
/-! ### slices.Equal[[]int,int] -/
def I_slices_Equal_sl_int_int : Ab.Spec := ⟨[(0, .one (.ro 3)), (1, .one (.ro 3))], [], []⟩
def E_slices_Equal_sl_int_int : List (Ex × Ab.Spec) := [(.ret, ⟨[(4, .one (.bool))], [], []⟩)]
def J_slices_Equal_sl_int_int : Nat → Option (List (Ex × Ab.Spec)) := fun n => get [] n
noncomputable def T_slices_Equal_sl_int_int : List (Nat × Fe G) := []
def S_slices_Equal_sl_int_int_0 : Ab.Spec := ⟨[(0, .one (.ro 3)), (1, .one (.ro 3)), (12, .one (.int .i64)), (13, .one (.int .i64))], [], []⟩
def X_slices_Equal_sl_int_int_0 : List (Ex × Ab.Spec) := [(.exit 0, ⟨[], [], []⟩), (.ret, ⟨[(4, .one (.bool))], [], []⟩)]
noncomputable def P_slices_Equal_sl_int_int : Nat → St G → M (Ex × St G) := fun n => bif Nat.beq n 0 then lpX S_slices_Equal_sl_int_int_0 X_slices_Equal_sl_int_int_0 L_slices_Equal_sl_int_int_0 else fun _ => M.fail
theorem tT_slices_Equal_sl_int_int : ∀ p ∈ T_slices_Equal_sl_int_int, FnOK Try.prog G p.1 p.2 := (fun _ h => absurd h (List.not_mem_nil))
theorem r_slices_Equal_sl_int_int_0 (x : S_slices_Equal_sl_int_int_0.T G) : rndI (cfP T_slices_Equal_sl_int_int) P_slices_Equal_sl_int_int J_slices_Equal_sl_int_int 26 1 (loopOf (bodyOf Try.f96) 0) S_slices_Equal_sl_int_int_0 X_slices_Equal_sl_int_int_0 x = R_slices_Equal_sl_int_int_0 x.1.1 x.1.2.1 x.1.2.2.1 x.1.2.2.2.1 := by kernel_rfl
theorem lk_slices_Equal_sl_int_int_0 : LoopOK Try.prog G 26 (P_slices_Equal_sl_int_int 0) (loopOf (bodyOf Try.f96) 0) := loop_ok (lp := P_slices_Equal_sl_int_int) (n := 1) (k := 0) sigOK eqOK hmix tT_slices_Equal_sl_int_int S_slices_Equal_sl_int_int_0 X_slices_Equal_sl_int_int_0 (fun x => R_slices_Equal_sl_int_int_0 x.1.1 x.1.2.1 x.1.2.2.1 x.1.2.2.2.1) (by kernel_rfl) (show AllAt (fun k c => LoopOK Try.prog G 26 (P_slices_Equal_sl_int_int k) c) 1 _ from (allAt_of [] (by kernel_rfl) allAt_n)) r_slices_Equal_sl_int_int_0
theorem q_slices_Equal_sl_int_int (x : I_slices_Equal_sl_int_int.T G) : endI (cfP T_slices_Equal_sl_int_int) P_slices_Equal_sl_int_int J_slices_Equal_sl_int_int 26 (bodyOf Try.f96) I_slices_Equal_sl_int_int E_slices_Equal_sl_int_int x = F_slices_Equal_sl_int_int x.1.1 x.1.2.1 := by kernel_rfl
noncomputable def e_slices_Equal_sl_int_int : Fe G := ⟨I_slices_Equal_sl_int_int, E_slices_Equal_sl_int_int, fun x => F_slices_Equal_sl_int_int x.1.1 x.1.2.1, Try.f96.results.toList⟩
theorem ok_slices_Equal_sl_int_int : FnOK Try.prog G 96 e_slices_Equal_sl_int_int := fn_ok (e := e_slices_Equal_sl_int_int) sigOK eqOK hmix tT_slices_Equal_sl_int_int Try.func96 (by kernel_rfl) (by kernel_rfl) rfl (by kernel_rfl) (allAt_zero (Q := fun k c => LoopOK Try.prog G 26 (P_slices_Equal_sl_int_int k) c) (allAt_of [loopOf (bodyOf Try.f96) 0] (by kernel_rfl) (allAt_c lk_slices_Equal_sl_int_int_0 allAt_n))) q_slices_Equal_sl_int_int
/-! ### slices.Equal[[]bool,bool] -/
def I_slices_Equal_sl_bool_bool : Ab.Spec := ⟨[(0, .one (.ro 4)), (1, .one (.ro 4))], [], []⟩
def E_slices_Equal_sl_bool_bool : List (Ex × Ab.Spec) := [(.ret, ⟨[(4, .one (.bool))], [], []⟩)]
def J_slices_Equal_sl_bool_bool : Nat → Option (List (Ex × Ab.Spec)) := fun n => get [] n
noncomputable def T_slices_Equal_sl_bool_bool : List (Nat × Fe G) := []
def S_slices_Equal_sl_bool_bool_0 : Ab.Spec := ⟨[(0, .one (.ro 4)), (1, .one (.ro 4)), (12, .one (.int .i64)), (13, .one (.int .i64))], [], []⟩
def X_slices_Equal_sl_bool_bool_0 : List (Ex × Ab.Spec) := [(.exit 0, ⟨[], [], []⟩), (.ret, ⟨[(4, .one (.bool))], [], []⟩)]
noncomputable def P_slices_Equal_sl_bool_bool : Nat → St G → M (Ex × St G) := fun n => bif Nat.beq n 0 then lpX S_slices_Equal_sl_bool_bool_0 X_slices_Equal_sl_bool_bool_0 L_slices_Equal_sl_bool_bool_0 else fun _ => M.fail
theorem tT_slices_Equal_sl_bool_bool : ∀ p ∈ T_slices_Equal_sl_bool_bool, FnOK Try.prog G p.1 p.2 := (fun _ h => absurd h (List.not_mem_nil))
theorem r_slices_Equal_sl_bool_bool_0 (x : S_slices_Equal_sl_bool_bool_0.T G) : rndI (cfP T_slices_Equal_sl_bool_bool) P_slices_Equal_sl_bool_bool J_slices_Equal_sl_bool_bool 26 1 (loopOf (bodyOf Try.f97) 0) S_slices_Equal_sl_bool_bool_0 X_slices_Equal_sl_bool_bool_0 x = R_slices_Equal_sl_bool_bool_0 x.1.1 x.1.2.1 x.1.2.2.1 x.1.2.2.2.1 := by kernel_rfl
theorem lk_slices_Equal_sl_bool_bool_0 : LoopOK Try.prog G 26 (P_slices_Equal_sl_bool_bool 0) (loopOf (bodyOf Try.f97) 0) := loop_ok (lp := P_slices_Equal_sl_bool_bool) (n := 1) (k := 0) sigOK eqOK hmix tT_slices_Equal_sl_bool_bool S_slices_Equal_sl_bool_bool_0 X_slices_Equal_sl_bool_bool_0 (fun x => R_slices_Equal_sl_bool_bool_0 x.1.1 x.1.2.1 x.1.2.2.1 x.1.2.2.2.1) (by kernel_rfl) (show AllAt (fun k c => LoopOK Try.prog G 26 (P_slices_Equal_sl_bool_bool k) c) 1 _ from (allAt_of [] (by kernel_rfl) allAt_n)) r_slices_Equal_sl_bool_bool_0
theorem q_slices_Equal_sl_bool_bool (x : I_slices_Equal_sl_bool_bool.T G) : endI (cfP T_slices_Equal_sl_bool_bool) P_slices_Equal_sl_bool_bool J_slices_Equal_sl_bool_bool 26 (bodyOf Try.f97) I_slices_Equal_sl_bool_bool E_slices_Equal_sl_bool_bool x = F_slices_Equal_sl_bool_bool x.1.1 x.1.2.1 := by kernel_rfl
noncomputable def e_slices_Equal_sl_bool_bool : Fe G := ⟨I_slices_Equal_sl_bool_bool, E_slices_Equal_sl_bool_bool, fun x => F_slices_Equal_sl_bool_bool x.1.1 x.1.2.1, Try.f97.results.toList⟩
theorem ok_slices_Equal_sl_bool_bool : FnOK Try.prog G 97 e_slices_Equal_sl_bool_bool := fn_ok (e := e_slices_Equal_sl_bool_bool) sigOK eqOK hmix tT_slices_Equal_sl_bool_bool Try.func97 (by kernel_rfl) (by kernel_rfl) rfl (by kernel_rfl) (allAt_zero (Q := fun k c => LoopOK Try.prog G 26 (P_slices_Equal_sl_bool_bool k) c) (allAt_of [loopOf (bodyOf Try.f97) 0] (by kernel_rfl) (allAt_c lk_slices_Equal_sl_bool_bool_0 allAt_n))) q_slices_Equal_sl_bool_bool
/-! ### slices.Equal[[]overlay/api.Entry,overlay/api.Entry] -/
def I_slices_Equal_sl_api_Entry_api_Entry : Ab.Spec := ⟨[(0, .one (.ro 98)), (1, .one (.ro 98))], [], []⟩
def E_slices_Equal_sl_api_Entry_api_Entry : List (Ex × Ab.Spec) := [(.ret, ⟨[(4, .one (.bool))], [], []⟩)]
def J_slices_Equal_sl_api_Entry_api_Entry : Nat → Option (List (Ex × Ab.Spec)) := fun n => get [] n
noncomputable def T_slices_Equal_sl_api_Entry_api_Entry : List (Nat × Fe G) := []
def S_slices_Equal_sl_api_Entry_api_Entry_0 : Ab.Spec := ⟨[(0, .one (.ro 98)), (1, .one (.ro 98)), (12, .one (.int .i64)), (13, .one (.int .i64))], [], []⟩
def X_slices_Equal_sl_api_Entry_api_Entry_0 : List (Ex × Ab.Spec) := [(.exit 0, ⟨[], [], []⟩), (.ret, ⟨[(4, .one (.bool))], [], []⟩)]
noncomputable def P_slices_Equal_sl_api_Entry_api_Entry : Nat → St G → M (Ex × St G) := fun n => bif Nat.beq n 0 then lpX S_slices_Equal_sl_api_Entry_api_Entry_0 X_slices_Equal_sl_api_Entry_api_Entry_0 L_slices_Equal_sl_api_Entry_api_Entry_0 else fun _ => M.fail
theorem tT_slices_Equal_sl_api_Entry_api_Entry : ∀ p ∈ T_slices_Equal_sl_api_Entry_api_Entry, FnOK Try.prog G p.1 p.2 := (fun _ h => absurd h (List.not_mem_nil))
theorem r_slices_Equal_sl_api_Entry_api_Entry_0 (x : S_slices_Equal_sl_api_Entry_api_Entry_0.T G) : rndI (cfP T_slices_Equal_sl_api_Entry_api_Entry) P_slices_Equal_sl_api_Entry_api_Entry J_slices_Equal_sl_api_Entry_api_Entry 26 1 (loopOf (bodyOf Try.f98) 0) S_slices_Equal_sl_api_Entry_api_Entry_0 X_slices_Equal_sl_api_Entry_api_Entry_0 x = R_slices_Equal_sl_api_Entry_api_Entry_0 x.1.1 x.1.2.1 x.1.2.2.1 x.1.2.2.2.1 := by kernel_rfl
theorem lk_slices_Equal_sl_api_Entry_api_Entry_0 : LoopOK Try.prog G 26 (P_slices_Equal_sl_api_Entry_api_Entry 0) (loopOf (bodyOf Try.f98) 0) := loop_ok (lp := P_slices_Equal_sl_api_Entry_api_Entry) (n := 1) (k := 0) sigOK eqOK hmix tT_slices_Equal_sl_api_Entry_api_Entry S_slices_Equal_sl_api_Entry_api_Entry_0 X_slices_Equal_sl_api_Entry_api_Entry_0 (fun x => R_slices_Equal_sl_api_Entry_api_Entry_0 x.1.1 x.1.2.1 x.1.2.2.1 x.1.2.2.2.1) (by kernel_rfl) (show AllAt (fun k c => LoopOK Try.prog G 26 (P_slices_Equal_sl_api_Entry_api_Entry k) c) 1 _ from (allAt_of [] (by kernel_rfl) allAt_n)) r_slices_Equal_sl_api_Entry_api_Entry_0
theorem q_slices_Equal_sl_api_Entry_api_Entry (x : I_slices_Equal_sl_api_Entry_api_Entry.T G) : endI (cfP T_slices_Equal_sl_api_Entry_api_Entry) P_slices_Equal_sl_api_Entry_api_Entry J_slices_Equal_sl_api_Entry_api_Entry 26 (bodyOf Try.f98) I_slices_Equal_sl_api_Entry_api_Entry E_slices_Equal_sl_api_Entry_api_Entry x = F_slices_Equal_sl_api_Entry_api_Entry x.1.1 x.1.2.1 := by kernel_rfl
noncomputable def e_slices_Equal_sl_api_Entry_api_Entry : Fe G := ⟨I_slices_Equal_sl_api_Entry_api_Entry, E_slices_Equal_sl_api_Entry_api_Entry, fun x => F_slices_Equal_sl_api_Entry_api_Entry x.1.1 x.1.2.1, Try.f98.results.toList⟩
theorem ok_slices_Equal_sl_api_Entry_api_Entry : FnOK Try.prog G 98 e_slices_Equal_sl_api_Entry_api_Entry := fn_ok (e := e_slices_Equal_sl_api_Entry_api_Entry) sigOK eqOK hmix tT_slices_Equal_sl_api_Entry_api_Entry Try.func98 (by kernel_rfl) (by kernel_rfl) rfl (by kernel_rfl) (allAt_zero (Q := fun k c => LoopOK Try.prog G 26 (P_slices_Equal_sl_api_Entry_api_Entry k) c) (allAt_of [loopOf (bodyOf Try.f98) 0] (by kernel_rfl) (allAt_c lk_slices_Equal_sl_api_Entry_api_Entry_0 allAt_n))) q_slices_Equal_sl_api_Entry_api_Entry
/-! ### overlay/log.Same -/
def I_log_Same : Ab.Spec := ⟨[(0, .agg [.ro 3, .ro 4, .ro 4, .ro 98]), (1, .agg [.ro 3, .ro 4, .ro 4, .ro 98])], [], []⟩
def E_log_Same : List (Ex × Ab.Spec) := [(.ret, ⟨[(4, .one (.bool))], [], []⟩)]
def J_log_Same : Nat → Option (List (Ex × Ab.Spec)) := fun n => get [(1048577, [(.normal, ⟨[(4, .one (.bool))], [], []⟩)])] n
noncomputable def T_log_Same : List (Nat × Fe G) := [(96, e_slices_Equal_sl_int_int), (97, e_slices_Equal_sl_bool_bool), (98, e_slices_Equal_sl_api_Entry_api_Entry)]
noncomputable def P_log_Same : Nat → St G → M (Ex × St G) := fun _ _ => M.fail
theorem tT_log_Same : ∀ p ∈ T_log_Same, FnOK Try.prog G p.1 p.2 := List.forall_mem_cons.2 ⟨ok_slices_Equal_sl_int_int, List.forall_mem_cons.2 ⟨ok_slices_Equal_sl_bool_bool, List.forall_mem_cons.2 ⟨ok_slices_Equal_sl_api_Entry_api_Entry, (fun _ h => absurd h (List.not_mem_nil))⟩⟩⟩
theorem q_log_Same (x : I_log_Same.T G) : endI (cfP T_log_Same) P_log_Same J_log_Same 31 (bodyOf Try.f46) I_log_Same E_log_Same x = F_log_Same x.1.1.1 x.1.1.2.1 x.1.1.2.2.1 x.1.1.2.2.2.1 x.1.2.1.1 x.1.2.1.2.1 x.1.2.1.2.2.1 x.1.2.1.2.2.2.1 := by kernel_rfl
noncomputable def e_log_Same : Fe G := ⟨I_log_Same, E_log_Same, fun x => F_log_Same x.1.1.1 x.1.1.2.1 x.1.1.2.2.1 x.1.1.2.2.2.1 x.1.2.1.1 x.1.2.1.2.1 x.1.2.1.2.2.1 x.1.2.1.2.2.2.1, Try.f46.results.toList⟩
theorem ok_log_Same : FnOK Try.prog G 46 e_log_Same := fn_ok (e := e_log_Same) sigOK eqOK hmix tT_log_Same Try.func46 (by kernel_rfl) (by kernel_rfl) rfl (by kernel_rfl) (allAt_zero (Q := fun k c => LoopOK Try.prog G 31 (P_log_Same k) c) (allAt_of [] (by kernel_rfl) allAt_n)) q_log_Same
/-! ### overlay/record.Decode -/
def I_record_Decode : Ab.Spec := ⟨[(0, .agg [.int .i64, .int .i64, .int .i64, .int .i64, .flt .f64, .flt .f64, .flt .f64, .ro 100]), (1, .one (.str))], [], []⟩
def E_record_Decode : List (Ex × Ab.Spec) := [(.ret, ⟨[(4, .one (.ptr 64 0)), (5, .one (.int .i64))], [(64, [.int .i64, .int .i64, .int .i64, .int .i64, .int .i64])], []⟩)]
def J_record_Decode : Nat → Option (List (Ex × Ab.Spec)) := fun n => get [] n
noncomputable def T_record_Decode : List (Nat × Fe G) := [(74, e_building_Valid), (103, e_crc_Sum8), (100, e_record_Valid)]
noncomputable def P_record_Decode : Nat → St G → M (Ex × St G) := fun _ _ => M.fail
theorem tT_record_Decode : ∀ p ∈ T_record_Decode, FnOK Try.prog G p.1 p.2 := List.forall_mem_cons.2 ⟨ok_building_Valid, List.forall_mem_cons.2 ⟨ok_crc_Sum8, List.forall_mem_cons.2 ⟨ok_record_Valid, (fun _ h => absurd h (List.not_mem_nil))⟩⟩⟩
theorem q_record_Decode (x : I_record_Decode.T G) : endI (cfP T_record_Decode) P_record_Decode J_record_Decode 48 (bodyOf Try.f120) I_record_Decode E_record_Decode x = F_record_Decode x.1.1.1 x.1.1.2.1 x.1.1.2.2.1 x.1.1.2.2.2.1 x.1.1.2.2.2.2.1 x.1.1.2.2.2.2.2.1 x.1.1.2.2.2.2.2.2.1 x.1.1.2.2.2.2.2.2.2.1 x.1.2.1 := by kernel_rfl
noncomputable def e_record_Decode : Fe G := ⟨I_record_Decode, E_record_Decode, fun x => F_record_Decode x.1.1.1 x.1.1.2.1 x.1.1.2.2.1 x.1.1.2.2.2.1 x.1.1.2.2.2.2.1 x.1.1.2.2.2.2.2.1 x.1.1.2.2.2.2.2.2.1 x.1.1.2.2.2.2.2.2.2.1 x.1.2.1, Try.f120.results.toList⟩
theorem ok_record_Decode : FnOK Try.prog G 120 e_record_Decode := fn_ok (e := e_record_Decode) sigOK eqOK hmix tT_record_Decode Try.func120 (by kernel_rfl) (by kernel_rfl) rfl (by kernel_rfl) (allAt_zero (Q := fun k c => LoopOK Try.prog G 48 (P_record_Decode k) c) (allAt_of [] (by kernel_rfl) allAt_n)) q_record_Decode
/-! ### overlay/record.Read -/
def I_record_Read : Ab.Spec := ⟨[(0, .agg [.int .i64, .int .i64, .int .i64, .int .i64, .flt .f64, .flt .f64, .flt .f64, .ro 100]), (1, .one (.str))], [], []⟩
def E_record_Read : List (Ex × Ab.Spec) := [(.ret, ⟨[(4, .one (.own 32768 56)), (5, .one (.int .i64))], [], []⟩)]
def J_record_Read : Nat → Option (List (Ex × Ab.Spec)) := fun n => get [] n
noncomputable def T_record_Read : List (Nat × Fe G) := [(120, e_record_Decode)]
def S_record_Read_0 : Ab.Spec := ⟨[(1, .one (.str)), (2, .one (.ptr 32 0)), (6, .one (.own 32768 56)), (7, .one (.int .i64))], [(32, [.int .i64, .int .i64, .int .i64, .int .i64, .flt .f64, .flt .f64, .flt .f64, .ro 100])], []⟩
def X_record_Read_0 : List (Ex × Ab.Spec) := [(.exit 0, ⟨[(6, .one (.own 32768 56)), (7, .one (.int .i64))], [], []⟩)]
noncomputable def P_record_Read : Nat → St G → M (Ex × St G) := fun n => bif Nat.beq n 0 then lpX S_record_Read_0 X_record_Read_0 L_record_Read_0 else fun _ => M.fail
theorem tT_record_Read : ∀ p ∈ T_record_Read, FnOK Try.prog G p.1 p.2 := List.forall_mem_cons.2 ⟨ok_record_Decode, (fun _ h => absurd h (List.not_mem_nil))⟩
theorem r_record_Read_0 (x : S_record_Read_0.T G) : rndI (cfP T_record_Read) P_record_Read J_record_Read 35 1 (loopOf (bodyOf Try.f71) 0) S_record_Read_0 X_record_Read_0 x = R_record_Read_0 x.1.1 x.1.2.2.1 x.1.2.2.2.1 x.2.1.1 x.2.1.2.1 x.2.1.2.2.1 x.2.1.2.2.2.1 x.2.1.2.2.2.2.1 x.2.1.2.2.2.2.2.1 x.2.1.2.2.2.2.2.2.1 x.2.1.2.2.2.2.2.2.2.1 := by kernel_rfl
theorem lk_record_Read_0 : LoopOK Try.prog G 35 (P_record_Read 0) (loopOf (bodyOf Try.f71) 0) := loop_ok (lp := P_record_Read) (n := 1) (k := 0) sigOK eqOK hmix tT_record_Read S_record_Read_0 X_record_Read_0 (fun x => R_record_Read_0 x.1.1 x.1.2.2.1 x.1.2.2.2.1 x.2.1.1 x.2.1.2.1 x.2.1.2.2.1 x.2.1.2.2.2.1 x.2.1.2.2.2.2.1 x.2.1.2.2.2.2.2.1 x.2.1.2.2.2.2.2.2.1 x.2.1.2.2.2.2.2.2.2.1) (by kernel_rfl) (show AllAt (fun k c => LoopOK Try.prog G 35 (P_record_Read k) c) 1 _ from (allAt_of [] (by kernel_rfl) allAt_n)) r_record_Read_0
theorem q_record_Read (x : I_record_Read.T G) : endI (cfP T_record_Read) P_record_Read J_record_Read 35 (bodyOf Try.f71) I_record_Read E_record_Read x = F_record_Read x.1.1.1 x.1.1.2.1 x.1.1.2.2.1 x.1.1.2.2.2.1 x.1.1.2.2.2.2.1 x.1.1.2.2.2.2.2.1 x.1.1.2.2.2.2.2.2.1 x.1.1.2.2.2.2.2.2.2.1 x.1.2.1 := by kernel_rfl
noncomputable def e_record_Read : Fe G := ⟨I_record_Read, E_record_Read, fun x => F_record_Read x.1.1.1 x.1.1.2.1 x.1.1.2.2.1 x.1.1.2.2.2.1 x.1.1.2.2.2.2.1 x.1.1.2.2.2.2.2.1 x.1.1.2.2.2.2.2.2.1 x.1.1.2.2.2.2.2.2.2.1 x.1.2.1, Try.f71.results.toList⟩
theorem ok_record_Read : FnOK Try.prog G 71 e_record_Read := fn_ok (e := e_record_Read) sigOK eqOK hmix tT_record_Read Try.func71 (by kernel_rfl) (by kernel_rfl) rfl (by kernel_rfl) (allAt_zero (Q := fun k c => LoopOK Try.prog G 35 (P_record_Read k) c) (allAt_of [loopOf (bodyOf Try.f71) 0] (by kernel_rfl) (allAt_c lk_record_Read_0 allAt_n))) q_record_Read
/-! ### overlay/log.Replay -/
def I_log_Replay : Ab.Spec := ⟨[(0, .agg [.int .i64, .int .i64, .int .i64, .int .i64, .flt .f64, .flt .f64, .flt .f64, .ro 100]), (1, .agg [.str, .str, .int .i64])], [], []⟩
def E_log_Replay : List (Ex × Ab.Spec) := [(.ret, ⟨[(4, .one (.ptr 64 0))], [(64, [.own 32768 3, .own 32769 4, .own 32770 4, .own 32771 98])], []⟩)]
def J_log_Replay : Nat → Option (List (Ex × Ab.Spec)) := fun n => get [] n
noncomputable def T_log_Replay : List (Nat × Fe G) := [(29, e_log_Initial), (53, e_store_Current), (71, e_record_Read), (72, e_log_change)]
def S_log_Replay_0 : Ab.Spec := ⟨[(4, .one (.ptr 64 0)), (5, .one (.ptr 80 0)), (19, .one (.own 32768 56)), (20, .one (.int .i64)), (21, .one (.int .i64))], [(64, [.own 32769 3, .own 32770 4, .own 32771 4, .own 32772 98]), (80, [.own 32773 3, .own 32774 4, .own 32775 4, .own 32776 98])], []⟩
def X_log_Replay_0 : List (Ex × Ab.Spec) := [(.exit 0, ⟨[(4, .one (.ptr 64 0)), (5, .one (.ptr 80 0))], [(64, [.own 32768 3, .own 32769 4, .own 32770 4, .own 32771 98]), (80, [.own 32772 3, .own 32773 4, .own 32774 4, .own 32775 98])], []⟩)]
noncomputable def P_log_Replay : Nat → St G → M (Ex × St G) := fun n => bif Nat.beq n 0 then lpX S_log_Replay_0 X_log_Replay_0 L_log_Replay_0 else fun _ => M.fail
theorem tT_log_Replay : ∀ p ∈ T_log_Replay, FnOK Try.prog G p.1 p.2 := List.forall_mem_cons.2 ⟨ok_log_Initial, List.forall_mem_cons.2 ⟨ok_store_Current, List.forall_mem_cons.2 ⟨ok_record_Read, List.forall_mem_cons.2 ⟨ok_log_change, (fun _ h => absurd h (List.not_mem_nil))⟩⟩⟩⟩
theorem r_log_Replay_0 (x : S_log_Replay_0.T G) : rndI (cfP T_log_Replay) P_log_Replay J_log_Replay 29 1 (loopOf (bodyOf Try.f27) 0) S_log_Replay_0 X_log_Replay_0 x = R_log_Replay_0 x.1.2.2.1 x.1.2.2.2.1 x.1.2.2.2.2.1 x.2.1.1 x.2.1.2.1 x.2.1.2.2.1 x.2.1.2.2.2.1 x.2.2.1.1 x.2.2.1.2.1 x.2.2.1.2.2.1 x.2.2.1.2.2.2.1 := by kernel_rfl
theorem lk_log_Replay_0 : LoopOK Try.prog G 29 (P_log_Replay 0) (loopOf (bodyOf Try.f27) 0) := loop_ok (lp := P_log_Replay) (n := 1) (k := 0) sigOK eqOK hmix tT_log_Replay S_log_Replay_0 X_log_Replay_0 (fun x => R_log_Replay_0 x.1.2.2.1 x.1.2.2.2.1 x.1.2.2.2.2.1 x.2.1.1 x.2.1.2.1 x.2.1.2.2.1 x.2.1.2.2.2.1 x.2.2.1.1 x.2.2.1.2.1 x.2.2.1.2.2.1 x.2.2.1.2.2.2.1) (by kernel_rfl) (show AllAt (fun k c => LoopOK Try.prog G 29 (P_log_Replay k) c) 1 _ from (allAt_of [] (by kernel_rfl) allAt_n)) r_log_Replay_0
theorem q_log_Replay (x : I_log_Replay.T G) : endI (cfP T_log_Replay) P_log_Replay J_log_Replay 29 (bodyOf Try.f27) I_log_Replay E_log_Replay x = F_log_Replay x.1.1.1 x.1.1.2.1 x.1.1.2.2.1 x.1.1.2.2.2.1 x.1.1.2.2.2.2.1 x.1.1.2.2.2.2.2.1 x.1.1.2.2.2.2.2.2.1 x.1.1.2.2.2.2.2.2.2.1 x.1.2.1.1 x.1.2.1.2.1 x.1.2.1.2.2.1 := by kernel_rfl
noncomputable def e_log_Replay : Fe G := ⟨I_log_Replay, E_log_Replay, fun x => F_log_Replay x.1.1.1 x.1.1.2.1 x.1.1.2.2.1 x.1.1.2.2.2.1 x.1.1.2.2.2.2.1 x.1.1.2.2.2.2.2.1 x.1.1.2.2.2.2.2.2.1 x.1.1.2.2.2.2.2.2.2.1 x.1.2.1.1 x.1.2.1.2.1 x.1.2.1.2.2.1, Try.f27.results.toList⟩
theorem ok_log_Replay : FnOK Try.prog G 27 e_log_Replay := fn_ok (e := e_log_Replay) sigOK eqOK hmix tT_log_Replay Try.func27 (by kernel_rfl) (by kernel_rfl) rfl (by kernel_rfl) (allAt_zero (Q := fun k c => LoopOK Try.prog G 29 (P_log_Replay k) c) (allAt_of [loopOf (bodyOf Try.f27) 0] (by kernel_rfl) (allAt_c lk_log_Replay_0 allAt_n))) q_log_Replay
/-! ### overlay/overlaylaw10.sane -/
def I_l10_sane : Ab.Spec := ⟨[], [], []⟩
def E_l10_sane : List (Ex × Ab.Spec) := [(.ret, ⟨[(0, .one (.bool))], [], []⟩)]
def J_l10_sane : Nat → Option (List (Ex × Ab.Spec)) := fun n => get [(1048581, [(.normal, ⟨[(0, .one (.bool))], [], []⟩)])] n
noncomputable def T_l10_sane : List (Nat × Fe G) := [(9, e_l10_Building), (29, e_log_Initial), (20, e_log_Append), (46, e_log_Same), (27, e_log_Replay)]
noncomputable def P_l10_sane : Nat → St G → M (Ex × St G) := fun _ _ => M.fail
theorem tT_l10_sane : ∀ p ∈ T_l10_sane, FnOK Try.prog G p.1 p.2 := List.forall_mem_cons.2 ⟨ok_l10_Building, List.forall_mem_cons.2 ⟨ok_log_Initial, List.forall_mem_cons.2 ⟨ok_log_Append, List.forall_mem_cons.2 ⟨ok_log_Same, List.forall_mem_cons.2 ⟨ok_log_Replay, (fun _ h => absurd h (List.not_mem_nil))⟩⟩⟩⟩⟩
noncomputable def H_l10_sane (h_l10_Building : ((Int × Int × Unit) × Unit) → Option ((Unit × Unit) × ((Int × Int × Int × Int × Nat × Nat × Nat × List (Car) × Unit) × Unit))) (h_log_Initial : (((Int × Int × Int × Int × Nat × Nat × Nat × List (Car) × Unit) × Unit) × Unit) → Option ((Unit × Unit) × ((List (Int) × List (Bool) × List (Bool) × List (Entry) × Unit) × Unit))) (h_log_Append : (((Int × Int × Int × Int × Nat × Nat × Nat × List (Car) × Unit) × (ByteArray × ByteArray × Int × Unit) × (List (Int) × List (Bool) × List (Bool) × List (Entry) × Unit) × (Int × Int × Int × Int × Int × Unit) × Int × Unit) × Unit) → Option ((Unit × Unit × Int × Int × Unit) × ((ByteArray × ByteArray × Int × Unit) × (List (Int) × List (Bool) × List (Bool) × List (Entry) × Unit) × Unit))) (h_log_Same : (((List (Int) × List (Bool) × List (Bool) × List (Entry) × Unit) × (List (Int) × List (Bool) × List (Bool) × List (Entry) × Unit) × Unit) × Unit) → Option ((Bool × Unit) × Unit)) (h_log_Replay : (((Int × Int × Int × Int × Nat × Nat × Nat × List (Car) × Unit) × (ByteArray × ByteArray × Int × Unit) × Unit) × Unit) → Option ((Unit × Unit) × ((List (Int) × List (Bool) × List (Bool) × List (Entry) × Unit) × Unit)))  : Option ((Bool × Unit) × Unit) :=
  (h_l10_Building (((9 : Int), (30 : Int), ()), ())).bind fun y1 =>
  (h_log_Initial (((y1.2.1.1, y1.2.1.2.1, y1.2.1.2.2.1, y1.2.1.2.2.2.1, y1.2.1.2.2.2.2.1, y1.2.1.2.2.2.2.2.1, y1.2.1.2.2.2.2.2.2.1, y1.2.1.2.2.2.2.2.2.2.1, ()), ()), ())).bind fun y2 =>
  (h_log_Append (((y1.2.1.1, y1.2.1.2.1, y1.2.1.2.2.1, y1.2.1.2.2.2.1, y1.2.1.2.2.2.2.1, y1.2.1.2.2.2.2.2.1, y1.2.1.2.2.2.2.2.2.1, y1.2.1.2.2.2.2.2.2.2.1, ()), ((ByteArray.mk (Array.mk [])), (ByteArray.mk (Array.mk [])), (0 : Int), ()), (y2.2.1.1, y2.2.1.2.1, y2.2.1.2.2.1, y2.2.1.2.2.2.1, ()), ((1 : Int), (2 : Int), (1 : Int), (0 : Int), (0 : Int), ()), (100 : Int), ()), ())).bind fun y3 =>
  (h_log_Append (((y1.2.1.1, y1.2.1.2.1, y1.2.1.2.2.1, y1.2.1.2.2.2.1, y1.2.1.2.2.2.2.1, y1.2.1.2.2.2.2.2.1, y1.2.1.2.2.2.2.2.2.1, y1.2.1.2.2.2.2.2.2.2.1, ()), (y3.2.1.1, y3.2.1.2.1, y3.2.1.2.2.1, ()), (y3.2.2.1.1, y3.2.2.1.2.1, y3.2.2.1.2.2.1, y3.2.2.1.2.2.2.1, ()), ((3 : Int), (2 : Int), (1 : Int), (0 : Int), (0 : Int), ()), y3.1.2.2.1, ()), ())).bind fun y4 =>
  (h_log_Append (((y1.2.1.1, y1.2.1.2.1, y1.2.1.2.2.1, y1.2.1.2.2.2.1, y1.2.1.2.2.2.2.1, y1.2.1.2.2.2.2.2.1, y1.2.1.2.2.2.2.2.2.1, y1.2.1.2.2.2.2.2.2.2.1, ()), (y4.2.1.1, y4.2.1.2.1, y4.2.1.2.2.1, ()), (y4.2.2.1.1, y4.2.2.1.2.1, y4.2.2.1.2.2.1, y4.2.2.1.2.2.2.1, ()), ((2 : Int), (2 : Int), (1 : Int), (0 : Int), (0 : Int), ()), (5 : Int), ()), ())).bind fun y5 =>
  Option.bind (bif (y3.1.2.2.2.1 == (0 : Int)) then
        bif (y3.1.2.2.1 == (94 : Int)) then
          bif (y4.1.2.2.2.1 == (0 : Int)) then
            bif (y4.1.2.2.1 == (88 : Int)) then
              bif (((List.length y4.2.2.1.2.2.2.1 : Nat) : Int) == (1 : Int)) then
                bif (Go.Ab.inB (0 : Int) (List.length y4.2.2.1.2.2.2.1)) then
                  let z0 : Entry := (List.getD y4.2.2.1.2.2.2.1 (Int.toNat (0 : Int)) (Entry.mk (0 : Int) (0 : Int) (0 : Int) (0 : Int) false))
                  bif ((z0.Floor == (2 : Int)) && ((z0.Dir == (1 : Int)) && ((z0.Car == (0 : Int)) && ((z0.Moves == (0 : Int)) && ((z0.Moved == false) && true))))) then
                    bif (y5.1.2.2.2.1 == (8 : Int)) then
                      (h_log_Same (((y5.2.2.1.1, y5.2.2.1.2.1, y5.2.2.1.2.2.1, y5.2.2.1.2.2.2.1, ()), (y4.2.2.1.1, y4.2.2.1.2.1, y4.2.2.1.2.2.1, y4.2.2.1.2.2.2.1, ()), ()), ())).bind fun y6 =>
                      bif y6.1.1 then
                        (h_log_Replay (((y1.2.1.1, y1.2.1.2.1, y1.2.1.2.2.1, y1.2.1.2.2.2.1, y1.2.1.2.2.2.2.1, y1.2.1.2.2.2.2.2.1, y1.2.1.2.2.2.2.2.2.1, y1.2.1.2.2.2.2.2.2.2.1, ()), (y5.2.1.1, y5.2.1.2.1, y5.2.1.2.2.1, ()), ()), ())).bind fun y7 =>
                        (h_log_Same (((y7.2.1.1, y7.2.1.2.1, y7.2.1.2.2.1, y7.2.1.2.2.2.1, ()), (y4.2.2.1.1, y4.2.2.1.2.1, y4.2.2.1.2.2.1, y4.2.2.1.2.2.2.1, ()), ()), ())).bind fun y8 =>
                        some ((y8.1.1, ()), ())
                      else
                        some ((false, ()), ())
                    else
                      some ((false, ()), ())
                  else
                    some ((false, ()), ())
                else
                  none
              else
                some ((false, ()), ())
            else
              some ((false, ()), ())
          else
            some ((false, ()), ())
        else
          some ((false, ()), ())
      else
        some ((false, ()), ())) fun y9 =>
  some ((y9.1.1, ()), ())
theorem qg_l10_sane (h_l10_Building : ((Int × Int × Unit) × Unit) → Option ((Unit × Unit) × ((Int × Int × Int × Int × Nat × Nat × Nat × List (Car) × Unit) × Unit))) (h_log_Initial : (((Int × Int × Int × Int × Nat × Nat × Nat × List (Car) × Unit) × Unit) × Unit) → Option ((Unit × Unit) × ((List (Int) × List (Bool) × List (Bool) × List (Entry) × Unit) × Unit))) (h_log_Append : (((Int × Int × Int × Int × Nat × Nat × Nat × List (Car) × Unit) × (ByteArray × ByteArray × Int × Unit) × (List (Int) × List (Bool) × List (Bool) × List (Entry) × Unit) × (Int × Int × Int × Int × Int × Unit) × Int × Unit) × Unit) → Option ((Unit × Unit × Int × Int × Unit) × ((ByteArray × ByteArray × Int × Unit) × (List (Int) × List (Bool) × List (Bool) × List (Entry) × Unit) × Unit))) (h_log_Same : (((List (Int) × List (Bool) × List (Bool) × List (Entry) × Unit) × (List (Int) × List (Bool) × List (Bool) × List (Entry) × Unit) × Unit) × Unit) → Option ((Bool × Unit) × Unit)) (h_log_Replay : (((Int × Int × Int × Int × Nat × Nat × Nat × List (Car) × Unit) × (ByteArray × ByteArray × Int × Unit) × Unit) × Unit) → Option ((Unit × Unit) × ((List (Int) × List (Bool) × List (Bool) × List (Entry) × Unit) × Unit))) (x : I_l10_sane.T G) : endI (cfP [(9, Fe.mk (G := G) I_l10_Building E_l10_Building h_l10_Building Try.f9.results.toList), (29, Fe.mk (G := G) I_log_Initial E_log_Initial h_log_Initial Try.f29.results.toList), (20, Fe.mk (G := G) I_log_Append E_log_Append h_log_Append Try.f20.results.toList), (46, Fe.mk (G := G) I_log_Same E_log_Same h_log_Same Try.f46.results.toList), (27, Fe.mk (G := G) I_log_Replay E_log_Replay h_log_Replay Try.f27.results.toList)]) P_l10_sane J_l10_sane 89 (bodyOf Try.f17) I_l10_sane E_l10_sane x = H_l10_sane h_l10_Building h_log_Initial h_log_Append h_log_Same h_log_Replay  := by kernel_rfl
noncomputable def e_l10_sane : Fe G := ⟨I_l10_sane, E_l10_sane, fun _ => F_l10_sane, Try.f17.results.toList⟩
theorem q_l10_sane (x : I_l10_sane.T G) : endI (cfP T_l10_sane) P_l10_sane J_l10_sane 89 (bodyOf Try.f17) e_l10_sane.I e_l10_sane.E x = e_l10_sane.F x := (qg_l10_sane (fun x => F_l10_Building x.1.1 x.1.2.1) (fun x => F_log_Initial x.1.1.1 x.1.1.2.1 x.1.1.2.2.1 x.1.1.2.2.2.1 x.1.1.2.2.2.2.1 x.1.1.2.2.2.2.2.1 x.1.1.2.2.2.2.2.2.1 x.1.1.2.2.2.2.2.2.2.1) (fun x => F_log_Append x.1.1.1 x.1.1.2.1 x.1.1.2.2.1 x.1.1.2.2.2.1 x.1.1.2.2.2.2.1 x.1.1.2.2.2.2.2.1 x.1.1.2.2.2.2.2.2.1 x.1.1.2.2.2.2.2.2.2.1 x.1.2.1.1 x.1.2.1.2.1 x.1.2.1.2.2.1 x.1.2.2.1.1 x.1.2.2.1.2.1 x.1.2.2.1.2.2.1 x.1.2.2.1.2.2.2.1 x.1.2.2.2.1.1 x.1.2.2.2.1.2.1 x.1.2.2.2.1.2.2.1 x.1.2.2.2.1.2.2.2.1 x.1.2.2.2.1.2.2.2.2.1 x.1.2.2.2.2.1) (fun x => F_log_Same x.1.1.1 x.1.1.2.1 x.1.1.2.2.1 x.1.1.2.2.2.1 x.1.2.1.1 x.1.2.1.2.1 x.1.2.1.2.2.1 x.1.2.1.2.2.2.1) (fun x => F_log_Replay x.1.1.1 x.1.1.2.1 x.1.1.2.2.1 x.1.1.2.2.2.1 x.1.1.2.2.2.2.1 x.1.1.2.2.2.2.2.1 x.1.1.2.2.2.2.2.2.1 x.1.1.2.2.2.2.2.2.2.1 x.1.2.1.1 x.1.2.1.2.1 x.1.2.1.2.2.1) x).trans (by kernel_rfl)
theorem ok_l10_sane : FnOK Try.prog G 17 e_l10_sane := fn_ok (e := e_l10_sane) sigOK eqOK hmix tT_l10_sane Try.func17 (by kernel_rfl) (by kernel_rfl) rfl (by kernel_rfl) (allAt_zero (Q := fun k c => LoopOK Try.prog G 89 (P_l10_sane k) c) (allAt_of [] (by kernel_rfl) allAt_n)) q_l10_sane
/-! ### overlay/overlayref01.in -/
def I_r01_in : Ab.Spec := ⟨[(0, .one (.int .i64)), (1, .one (.int .i64)), (2, .one (.int .i64))], [], []⟩
def E_r01_in : List (Ex × Ab.Spec) := [(.ret, ⟨[(6, .one (.bool))], [], []⟩)]
def J_r01_in : Nat → Option (List (Ex × Ab.Spec)) := fun n => get [(1048577, [(.normal, ⟨[(6, .one (.bool))], [], []⟩)])] n
noncomputable def T_r01_in : List (Nat × Fe G) := []
noncomputable def P_r01_in : Nat → St G → M (Ex × St G) := fun _ _ => M.fail
theorem tT_r01_in : ∀ p ∈ T_r01_in, FnOK Try.prog G p.1 p.2 := (fun _ h => absurd h (List.not_mem_nil))
theorem q_r01_in (x : I_r01_in.T G) : endI (cfP T_r01_in) P_r01_in J_r01_in 15 (bodyOf Try.f137) I_r01_in E_r01_in x = F_r01_in x.1.1 x.1.2.1 x.1.2.2.1 := by kernel_rfl
noncomputable def e_r01_in : Fe G := ⟨I_r01_in, E_r01_in, fun x => F_r01_in x.1.1 x.1.2.1 x.1.2.2.1, Try.f137.results.toList⟩
theorem ok_r01_in : FnOK Try.prog G 137 e_r01_in := fn_ok (e := e_r01_in) sigOK eqOK hmix tT_r01_in Try.func137 (by kernel_rfl) (by kernel_rfl) rfl (by kernel_rfl) (allAt_zero (Q := fun k c => LoopOK Try.prog G 15 (P_r01_in k) c) (allAt_of [] (by kernel_rfl) allAt_n)) q_r01_in
/-! ### overlay/overlayref01.times -/
def I_r01_times : Ab.Spec := ⟨[(0, .agg [.int .i64, .int .i64, .int .i64, .int .i64, .flt .f64, .flt .f64, .flt .f64, .ro 100]), (1, .agg [.int .i64, .int .i64, .int .i64, .int .i64, .int .i64, .int .i64, .int .i64, .int .i64, .int .i64])], [], []⟩
def E_r01_times : List (Ex × Ab.Spec) := [(.ret, ⟨[(4, .one (.bool))], [], []⟩)]
def J_r01_times : Nat → Option (List (Ex × Ab.Spec)) := fun n => get [(1048585, [(.normal, ⟨[(4, .one (.bool))], [], []⟩)])] n
noncomputable def T_r01_times : List (Nat × Fe G) := [(137, e_r01_in)]
def S_r01_times_0 : Ab.Spec := ⟨[(2, .one (.ptr 32 0)), (3, .one (.ptr 48 0)), (5, .one (.own 32768 3)), (6, .one (.int .i64))], [(32, [.int .i64, .int .i64, .int .i64, .int .i64, .flt .f64, .flt .f64, .flt .f64, .ro 100]), (48, [.int .i64, .int .i64, .int .i64, .int .i64, .int .i64, .int .i64, .int .i64, .int .i64, .int .i64])], []⟩
def X_r01_times_0 : List (Ex × Ab.Spec) := [(.exit 0, ⟨[(2, .one (.ptr 32 0)), (3, .one (.ptr 48 0))], [(32, [.int .i64, .int .i64, .int .i64, .int .i64, .flt .f64, .flt .f64, .flt .f64, .ro 100]), (48, [.int .i64, .int .i64, .int .i64, .int .i64, .int .i64, .int .i64, .int .i64, .int .i64, .int .i64])], []⟩), (.ret, ⟨[(4, .one (.bool))], [], []⟩)]
noncomputable def P_r01_times : Nat → St G → M (Ex × St G) := fun n => bif Nat.beq n 0 then lpX S_r01_times_0 X_r01_times_0 L_r01_times_0 else fun _ => M.fail
theorem tT_r01_times : ∀ p ∈ T_r01_times, FnOK Try.prog G p.1 p.2 := List.forall_mem_cons.2 ⟨ok_r01_in, (fun _ h => absurd h (List.not_mem_nil))⟩
theorem r_r01_times_0 (x : S_r01_times_0.T G) : rndI (cfP T_r01_times) P_r01_times J_r01_times 56 1 (loopOf (bodyOf Try.f138) 0) S_r01_times_0 X_r01_times_0 x = R_r01_times_0 x.1.2.2.1 x.1.2.2.2.1 x.2.1.1 x.2.1.2.1 x.2.1.2.2.1 x.2.1.2.2.2.1 x.2.1.2.2.2.2.1 x.2.1.2.2.2.2.2.1 x.2.1.2.2.2.2.2.2.1 x.2.1.2.2.2.2.2.2.2.1 x.2.2.1.1 x.2.2.1.2.1 x.2.2.1.2.2.1 x.2.2.1.2.2.2.1 x.2.2.1.2.2.2.2.1 x.2.2.1.2.2.2.2.2.1 x.2.2.1.2.2.2.2.2.2.1 x.2.2.1.2.2.2.2.2.2.2.1 x.2.2.1.2.2.2.2.2.2.2.2.1 := by kernel_rfl
theorem lk_r01_times_0 : LoopOK Try.prog G 56 (P_r01_times 0) (loopOf (bodyOf Try.f138) 0) := loop_ok (lp := P_r01_times) (n := 1) (k := 0) sigOK eqOK hmix tT_r01_times S_r01_times_0 X_r01_times_0 (fun x => R_r01_times_0 x.1.2.2.1 x.1.2.2.2.1 x.2.1.1 x.2.1.2.1 x.2.1.2.2.1 x.2.1.2.2.2.1 x.2.1.2.2.2.2.1 x.2.1.2.2.2.2.2.1 x.2.1.2.2.2.2.2.2.1 x.2.1.2.2.2.2.2.2.2.1 x.2.2.1.1 x.2.2.1.2.1 x.2.2.1.2.2.1 x.2.2.1.2.2.2.1 x.2.2.1.2.2.2.2.1 x.2.2.1.2.2.2.2.2.1 x.2.2.1.2.2.2.2.2.2.1 x.2.2.1.2.2.2.2.2.2.2.1 x.2.2.1.2.2.2.2.2.2.2.2.1) (by kernel_rfl) (show AllAt (fun k c => LoopOK Try.prog G 56 (P_r01_times k) c) 1 _ from (allAt_of [] (by kernel_rfl) allAt_n)) r_r01_times_0
theorem q_r01_times (x : I_r01_times.T G) : endI (cfP T_r01_times) P_r01_times J_r01_times 56 (bodyOf Try.f138) I_r01_times E_r01_times x = F_r01_times x.1.1.1 x.1.1.2.1 x.1.1.2.2.1 x.1.1.2.2.2.1 x.1.1.2.2.2.2.1 x.1.1.2.2.2.2.2.1 x.1.1.2.2.2.2.2.2.1 x.1.1.2.2.2.2.2.2.2.1 x.1.2.1.1 x.1.2.1.2.1 x.1.2.1.2.2.1 x.1.2.1.2.2.2.1 x.1.2.1.2.2.2.2.1 x.1.2.1.2.2.2.2.2.1 x.1.2.1.2.2.2.2.2.2.1 x.1.2.1.2.2.2.2.2.2.2.1 x.1.2.1.2.2.2.2.2.2.2.2.1 := by kernel_rfl
noncomputable def e_r01_times : Fe G := ⟨I_r01_times, E_r01_times, fun x => F_r01_times x.1.1.1 x.1.1.2.1 x.1.1.2.2.1 x.1.1.2.2.2.1 x.1.1.2.2.2.2.1 x.1.1.2.2.2.2.2.1 x.1.1.2.2.2.2.2.2.1 x.1.1.2.2.2.2.2.2.2.1 x.1.2.1.1 x.1.2.1.2.1 x.1.2.1.2.2.1 x.1.2.1.2.2.2.1 x.1.2.1.2.2.2.2.1 x.1.2.1.2.2.2.2.2.1 x.1.2.1.2.2.2.2.2.2.1 x.1.2.1.2.2.2.2.2.2.2.1 x.1.2.1.2.2.2.2.2.2.2.2.1, Try.f138.results.toList⟩
theorem ok_r01_times : FnOK Try.prog G 138 e_r01_times := fn_ok (e := e_r01_times) sigOK eqOK hmix tT_r01_times Try.func138 (by kernel_rfl) (by kernel_rfl) rfl (by kernel_rfl) (allAt_zero (Q := fun k c => LoopOK Try.prog G 56 (P_r01_times k) c) (allAt_of [loopOf (bodyOf Try.f138) 0] (by kernel_rfl) (allAt_c lk_r01_times_0 allAt_n))) q_r01_times
/-! ### overlay/overlayref01.Valid -/
def I_r01_Valid : Ab.Spec := ⟨[(0, .agg [.int .i64, .int .i64, .int .i64, .int .i64, .flt .f64, .flt .f64, .flt .f64, .ro 100])], [], []⟩
def E_r01_Valid : List (Ex × Ab.Spec) := [(.ret, ⟨[(2, .one (.int .i64))], [], []⟩)]
def J_r01_Valid : Nat → Option (List (Ex × Ab.Spec)) := fun n => get [(1048581, [(.normal, ⟨[(1, .one (.ptr 16 0)), (3, .one (.bool))], [(16, [.int .i64, .int .i64, .int .i64, .int .i64, .flt .f64, .flt .f64, .flt .f64, .ro 100])], []⟩)]), (1048585, [(.normal, ⟨[(1, .one (.ptr 16 0)), (3, .one (.bool)), (4, .one (.int .i64))], [(16, [.int .i64, .int .i64, .int .i64, .int .i64, .flt .f64, .flt .f64, .flt .f64, .ro 100])], []⟩)])] n
noncomputable def T_r01_Valid : List (Nat × Fe G) := [(137, e_r01_in), (138, e_r01_times)]
def S_r01_Valid_0 : Ab.Spec := ⟨[(1, .one (.ptr 16 0)), (3, .one (.bool)), (4, .one (.int .i64))], [(16, [.int .i64, .int .i64, .int .i64, .int .i64, .flt .f64, .flt .f64, .flt .f64, .ro 100])], []⟩
def X_r01_Valid_0 : List (Ex × Ab.Spec) := [(.exit 0, ⟨[(1, .one (.ptr 16 0)), (3, .one (.bool))], [(16, [.int .i64, .int .i64, .int .i64, .int .i64, .flt .f64, .flt .f64, .flt .f64, .ro 100])], []⟩)]
noncomputable def P_r01_Valid : Nat → St G → M (Ex × St G) := fun n => bif Nat.beq n 0 then lpX S_r01_Valid_0 X_r01_Valid_0 L_r01_Valid_0 else fun _ => M.fail
theorem tT_r01_Valid : ∀ p ∈ T_r01_Valid, FnOK Try.prog G p.1 p.2 := List.forall_mem_cons.2 ⟨ok_r01_in, List.forall_mem_cons.2 ⟨ok_r01_times, (fun _ h => absurd h (List.not_mem_nil))⟩⟩
theorem r_r01_Valid_0 (x : S_r01_Valid_0.T G) : rndI (cfP T_r01_Valid) P_r01_Valid J_r01_Valid 73 1 (loopOf (bodyOf Try.f93) 0) S_r01_Valid_0 X_r01_Valid_0 x = R_r01_Valid_0 x.1.2.1 x.1.2.2.1 x.2.1.1 x.2.1.2.1 x.2.1.2.2.1 x.2.1.2.2.2.1 x.2.1.2.2.2.2.1 x.2.1.2.2.2.2.2.1 x.2.1.2.2.2.2.2.2.1 x.2.1.2.2.2.2.2.2.2.1 := by kernel_rfl
theorem lk_r01_Valid_0 : LoopOK Try.prog G 73 (P_r01_Valid 0) (loopOf (bodyOf Try.f93) 0) := loop_ok (lp := P_r01_Valid) (n := 1) (k := 0) sigOK eqOK hmix tT_r01_Valid S_r01_Valid_0 X_r01_Valid_0 (fun x => R_r01_Valid_0 x.1.2.1 x.1.2.2.1 x.2.1.1 x.2.1.2.1 x.2.1.2.2.1 x.2.1.2.2.2.1 x.2.1.2.2.2.2.1 x.2.1.2.2.2.2.2.1 x.2.1.2.2.2.2.2.2.1 x.2.1.2.2.2.2.2.2.2.1) (by kernel_rfl) (show AllAt (fun k c => LoopOK Try.prog G 73 (P_r01_Valid k) c) 1 _ from (allAt_of [] (by kernel_rfl) allAt_n)) r_r01_Valid_0
theorem q_r01_Valid (x : I_r01_Valid.T G) : endI (cfP T_r01_Valid) P_r01_Valid J_r01_Valid 73 (bodyOf Try.f93) I_r01_Valid E_r01_Valid x = F_r01_Valid x.1.1.1 x.1.1.2.1 x.1.1.2.2.1 x.1.1.2.2.2.1 x.1.1.2.2.2.2.1 x.1.1.2.2.2.2.2.1 x.1.1.2.2.2.2.2.2.1 x.1.1.2.2.2.2.2.2.2.1 := by kernel_rfl
noncomputable def e_r01_Valid : Fe G := ⟨I_r01_Valid, E_r01_Valid, fun x => F_r01_Valid x.1.1.1 x.1.1.2.1 x.1.1.2.2.1 x.1.1.2.2.2.1 x.1.1.2.2.2.2.1 x.1.1.2.2.2.2.2.1 x.1.1.2.2.2.2.2.2.1 x.1.1.2.2.2.2.2.2.2.1, Try.f93.results.toList⟩
theorem ok_r01_Valid : FnOK Try.prog G 93 e_r01_Valid := fn_ok (e := e_r01_Valid) sigOK eqOK hmix tT_r01_Valid Try.func93 (by kernel_rfl) (by kernel_rfl) rfl (by kernel_rfl) (allAt_zero (Q := fun k c => LoopOK Try.prog G 73 (P_r01_Valid k) c) (allAt_of [loopOf (bodyOf Try.f93) 0] (by kernel_rfl) (allAt_c lk_r01_Valid_0 allAt_n))) q_r01_Valid
/-! ### overlay/overlayref10.Initial -/
def I_r10_Initial : Ab.Spec := ⟨[(0, .agg [.int .i64, .int .i64, .int .i64, .int .i64, .flt .f64, .flt .f64, .flt .f64, .ro 100])], [], []⟩
def E_r10_Initial : List (Ex × Ab.Spec) := [(.ret, ⟨[(2, .one (.ptr 32 0))], [(32, [.own 32768 3, .own 32769 4, .own 32770 4, .own 32771 98])], []⟩)]
def J_r10_Initial : Nat → Option (List (Ex × Ab.Spec)) := fun n => get [] n
noncomputable def T_r10_Initial : List (Nat × Fe G) := [(93, e_r01_Valid)]
noncomputable def P_r10_Initial : Nat → St G → M (Ex × St G) := fun _ _ => M.fail
theorem tT_r10_Initial : ∀ p ∈ T_r10_Initial, FnOK Try.prog G p.1 p.2 := List.forall_mem_cons.2 ⟨ok_r01_Valid, (fun _ h => absurd h (List.not_mem_nil))⟩
theorem q_r10_Initial (x : I_r10_Initial.T G) : endI (cfP T_r10_Initial) P_r10_Initial J_r10_Initial 18 (bodyOf Try.f40) I_r10_Initial E_r10_Initial x = F_r10_Initial x.1.1.1 x.1.1.2.1 x.1.1.2.2.1 x.1.1.2.2.2.1 x.1.1.2.2.2.2.1 x.1.1.2.2.2.2.2.1 x.1.1.2.2.2.2.2.2.1 x.1.1.2.2.2.2.2.2.2.1 := by kernel_rfl
noncomputable def e_r10_Initial : Fe G := ⟨I_r10_Initial, E_r10_Initial, fun x => F_r10_Initial x.1.1.1 x.1.1.2.1 x.1.1.2.2.1 x.1.1.2.2.2.1 x.1.1.2.2.2.2.1 x.1.1.2.2.2.2.2.1 x.1.1.2.2.2.2.2.2.1 x.1.1.2.2.2.2.2.2.2.1, Try.f40.results.toList⟩
theorem ok_r10_Initial : FnOK Try.prog G 40 e_r10_Initial := fn_ok (e := e_r10_Initial) sigOK eqOK hmix tT_r10_Initial Try.func40 (by kernel_rfl) (by kernel_rfl) rfl (by kernel_rfl) (allAt_zero (Q := fun k c => LoopOK Try.prog G 18 (P_r10_Initial k) c) (allAt_of [] (by kernel_rfl) allAt_n)) q_r10_Initial
/-! ### overlay/overlaylaw09.Records -/
def I_l09_Records : Ab.Spec := ⟨[(0, .agg [.int .i64, .int .i64, .int .i64, .int .i64, .flt .f64, .flt .f64, .flt .f64, .ro 100]), (1, .one (.ro 5)), (2, .one (.int .i64))], [], []⟩
def E_l09_Records : List (Ex × Ab.Spec) := [(.ret, ⟨[(6, .one (.own 32768 56))], [], []⟩)]
def J_l09_Records : Nat → Option (List (Ex × Ab.Spec)) := fun n => get [(18, [(.normal, ⟨[(1, .one (.ro 5)), (2, .one (.int .i64)), (7, .one (.own 32768 56)), (8, .one (.int .i64)), (9, .one (.int .i64)), (10, .one (.int .i64)), (11, .one (.int .i64)), (13, .one (.ptr 208 0))], [(208, [.int .i64, .int .i64, .int .i64, .int .i64, .int .i64])], []⟩)]), (20, [(.normal, ⟨[(1, .one (.ro 5)), (2, .one (.int .i64)), (7, .one (.own 32768 56)), (8, .one (.int .i64)), (9, .one (.int .i64)), (10, .one (.int .i64)), (11, .one (.int .i64)), (13, .one (.ptr 208 0))], [(208, [.int .i64, .int .i64, .int .i64, .int .i64, .int .i64])], []⟩)])] n
noncomputable def T_l09_Records : List (Nat × Fe G) := []
def S_l09_Records_0 : Ab.Spec := ⟨[(1, .one (.ro 5)), (2, .one (.int .i64)), (7, .one (.own 32768 56)), (8, .one (.int .i64)), (9, .one (.int .i64)), (10, .one (.int .i64))], [], []⟩
def X_l09_Records_0 : List (Ex × Ab.Spec) := [(.exit 0, ⟨[(7, .one (.own 32768 56))], [], []⟩)]
noncomputable def P_l09_Records : Nat → St G → M (Ex × St G) := fun n => bif Nat.beq n 0 then lpX S_l09_Records_0 X_l09_Records_0 L_l09_Records_0 else fun _ => M.fail
theorem tT_l09_Records : ∀ p ∈ T_l09_Records, FnOK Try.prog G p.1 p.2 := (fun _ h => absurd h (List.not_mem_nil))
theorem r_l09_Records_0 (x : S_l09_Records_0.T G) : rndI (cfP T_l09_Records) P_l09_Records J_l09_Records 112 1 (loopOf (bodyOf Try.f18) 0) S_l09_Records_0 X_l09_Records_0 x = R_l09_Records_0 x.1.1 x.1.2.1 x.1.2.2.1 x.1.2.2.2.1 x.1.2.2.2.2.1 x.1.2.2.2.2.2.1 := by kernel_rfl
theorem lk_l09_Records_0 : LoopOK Try.prog G 112 (P_l09_Records 0) (loopOf (bodyOf Try.f18) 0) := loop_ok (lp := P_l09_Records) (n := 1) (k := 0) sigOK eqOK hmix tT_l09_Records S_l09_Records_0 X_l09_Records_0 (fun x => R_l09_Records_0 x.1.1 x.1.2.1 x.1.2.2.1 x.1.2.2.2.1 x.1.2.2.2.2.1 x.1.2.2.2.2.2.1) (by kernel_rfl) (show AllAt (fun k c => LoopOK Try.prog G 112 (P_l09_Records k) c) 1 _ from (allAt_of [] (by kernel_rfl) allAt_n)) r_l09_Records_0
theorem q_l09_Records (x : I_l09_Records.T G) : endI (cfP T_l09_Records) P_l09_Records J_l09_Records 112 (bodyOf Try.f18) I_l09_Records E_l09_Records x = F_l09_Records x.1.1.1 x.1.1.2.1 x.1.1.2.2.1 x.1.1.2.2.2.1 x.1.1.2.2.2.2.1 x.1.1.2.2.2.2.2.1 x.1.1.2.2.2.2.2.2.1 x.1.1.2.2.2.2.2.2.2.1 x.1.2.1 x.1.2.2.1 := by kernel_rfl
noncomputable def e_l09_Records : Fe G := ⟨I_l09_Records, E_l09_Records, fun x => F_l09_Records x.1.1.1 x.1.1.2.1 x.1.1.2.2.1 x.1.1.2.2.2.1 x.1.1.2.2.2.2.1 x.1.1.2.2.2.2.2.1 x.1.1.2.2.2.2.2.2.1 x.1.1.2.2.2.2.2.2.2.1 x.1.2.1 x.1.2.2.1, Try.f18.results.toList⟩
theorem ok_l09_Records : FnOK Try.prog G 18 e_l09_Records := fn_ok (e := e_l09_Records) sigOK eqOK hmix tT_l09_Records Try.func18 (by kernel_rfl) (by kernel_rfl) rfl (by kernel_rfl) (allAt_zero (Q := fun k c => LoopOK Try.prog G 112 (P_l09_Records k) c) (allAt_of [loopOf (bodyOf Try.f18) 0] (by kernel_rfl) (allAt_c lk_l09_Records_0 allAt_n))) q_l09_Records
/-! ### overlay/overlayref01.IsCall -/
def I_r01_IsCall : Ab.Spec := ⟨[(0, .agg [.int .i64, .int .i64, .int .i64, .int .i64, .flt .f64, .flt .f64, .flt .f64, .ro 100]), (1, .one (.int .i64)), (2, .one (.int .i64))], [], []⟩
def E_r01_IsCall : List (Ex × Ab.Spec) := [(.ret, ⟨[(6, .one (.bool))], [], []⟩)]
def J_r01_IsCall : Nat → Option (List (Ex × Ab.Spec)) := fun n => get [(1048579, [(.normal, ⟨[(6, .one (.bool))], [], []⟩)])] n
noncomputable def T_r01_IsCall : List (Nat × Fe G) := [(93, e_r01_Valid), (137, e_r01_in)]
noncomputable def P_r01_IsCall : Nat → St G → M (Ex × St G) := fun _ _ => M.fail
theorem tT_r01_IsCall : ∀ p ∈ T_r01_IsCall, FnOK Try.prog G p.1 p.2 := List.forall_mem_cons.2 ⟨ok_r01_Valid, List.forall_mem_cons.2 ⟨ok_r01_in, (fun _ h => absurd h (List.not_mem_nil))⟩⟩
theorem q_r01_IsCall (x : I_r01_IsCall.T G) : endI (cfP T_r01_IsCall) P_r01_IsCall J_r01_IsCall 30 (bodyOf Try.f108) I_r01_IsCall E_r01_IsCall x = F_r01_IsCall x.1.1.1 x.1.1.2.1 x.1.1.2.2.1 x.1.1.2.2.2.1 x.1.1.2.2.2.2.1 x.1.1.2.2.2.2.2.1 x.1.1.2.2.2.2.2.2.1 x.1.1.2.2.2.2.2.2.2.1 x.1.2.1 x.1.2.2.1 := by kernel_rfl
noncomputable def e_r01_IsCall : Fe G := ⟨I_r01_IsCall, E_r01_IsCall, fun x => F_r01_IsCall x.1.1.1 x.1.1.2.1 x.1.1.2.2.1 x.1.1.2.2.2.1 x.1.1.2.2.2.2.1 x.1.1.2.2.2.2.2.1 x.1.1.2.2.2.2.2.2.1 x.1.1.2.2.2.2.2.2.2.1 x.1.2.1 x.1.2.2.1, Try.f108.results.toList⟩
theorem ok_r01_IsCall : FnOK Try.prog G 108 e_r01_IsCall := fn_ok (e := e_r01_IsCall) sigOK eqOK hmix tT_r01_IsCall Try.func108 (by kernel_rfl) (by kernel_rfl) rfl (by kernel_rfl) (allAt_zero (Q := fun k c => LoopOK Try.prog G 30 (P_r01_IsCall k) c) (allAt_of [] (by kernel_rfl) allAt_n)) q_r01_IsCall
/-! ### overlay/overlayref10.less -/
def I_r10_less : Ab.Spec := ⟨[(0, .agg [.int .i64, .int .i64, .int .i64, .int .i64, .bool]), (1, .agg [.int .i64, .int .i64, .int .i64, .int .i64, .bool])], [], []⟩
def E_r10_less : List (Ex × Ab.Spec) := [(.ret, ⟨[(4, .one (.bool))], [], []⟩)]
def J_r10_less : Nat → Option (List (Ex × Ab.Spec)) := fun n => get [(1048577, [(.normal, ⟨[(4, .one (.bool))], [], []⟩)])] n
noncomputable def T_r10_less : List (Nat × Fe G) := []
noncomputable def P_r10_less : Nat → St G → M (Ex × St G) := fun _ _ => M.fail
theorem tT_r10_less : ∀ p ∈ T_r10_less, FnOK Try.prog G p.1 p.2 := (fun _ h => absurd h (List.not_mem_nil))
theorem q_r10_less (x : I_r10_less.T G) : endI (cfP T_r10_less) P_r10_less J_r10_less 24 (bodyOf Try.f109) I_r10_less E_r10_less x = F_r10_less x.1.1.1 x.1.1.2.1 x.1.1.2.2.1 x.1.1.2.2.2.1 x.1.1.2.2.2.2.1 x.1.2.1.1 x.1.2.1.2.1 x.1.2.1.2.2.1 x.1.2.1.2.2.2.1 x.1.2.1.2.2.2.2.1 := by kernel_rfl
noncomputable def e_r10_less : Fe G := ⟨I_r10_less, E_r10_less, fun x => F_r10_less x.1.1.1 x.1.1.2.1 x.1.1.2.2.1 x.1.1.2.2.2.1 x.1.1.2.2.2.2.1 x.1.2.1.1 x.1.2.1.2.1 x.1.2.1.2.2.1 x.1.2.1.2.2.2.1 x.1.2.1.2.2.2.2.1, Try.f109.results.toList⟩
theorem ok_r10_less : FnOK Try.prog G 109 e_r10_less := fn_ok (e := e_r10_less) sigOK eqOK hmix tT_r10_less Try.func109 (by kernel_rfl) (by kernel_rfl) rfl (by kernel_rfl) (allAt_zero (Q := fun k c => LoopOK Try.prog G 24 (P_r10_less k) c) (allAt_of [] (by kernel_rfl) allAt_n)) q_r10_less
/-! ### overlay/overlayref10.IsImage -/
def I_r10_IsImage : Ab.Spec := ⟨[(0, .agg [.int .i64, .int .i64, .int .i64, .int .i64, .flt .f64, .flt .f64, .flt .f64, .ro 100]), (1, .agg [.ro 3, .ro 4, .ro 4, .ro 98])], [], []⟩
def E_r10_IsImage : List (Ex × Ab.Spec) := [(.ret, ⟨[(4, .one (.bool))], [], []⟩)]
def J_r10_IsImage : Nat → Option (List (Ex × Ab.Spec)) := fun n => get [(1048589, [(.normal, ⟨[(2, .one (.ptr 32 0)), (3, .one (.ptr 48 0)), (5, .one (.int .i64)), (7, .one (.int .i64)), (109, .one (.bool))], [(32, [.int .i64, .int .i64, .int .i64, .int .i64, .flt .f64, .flt .f64, .flt .f64, .ro 100]), (48, [.ro 3, .ro 4, .ro 4, .ro 98])], []⟩)])] n
noncomputable def T_r10_IsImage : List (Nat × Fe G) := [(93, e_r01_Valid), (108, e_r01_IsCall), (109, e_r10_less)]
def S_r10_IsImage_0 : Ab.Spec := ⟨[(2, .one (.ptr 32 0)), (3, .one (.ptr 48 0)), (5, .one (.int .i64)), (6, .one (.int .i64))], [(32, [.int .i64, .int .i64, .int .i64, .int .i64, .flt .f64, .flt .f64, .flt .f64, .ro 100]), (48, [.ro 3, .ro 4, .ro 4, .ro 98])], []⟩
def X_r10_IsImage_0 : List (Ex × Ab.Spec) := [(.exit 0, ⟨[(2, .one (.ptr 32 0)), (3, .one (.ptr 48 0)), (5, .one (.int .i64))], [(32, [.int .i64, .int .i64, .int .i64, .int .i64, .flt .f64, .flt .f64, .flt .f64, .ro 100]), (48, [.ro 3, .ro 4, .ro 4, .ro 98])], []⟩), (.ret, ⟨[(4, .one (.bool))], [], []⟩)]
def S_r10_IsImage_1 : Ab.Spec := ⟨[(2, .one (.ptr 32 0)), (3, .one (.ptr 48 0)), (5, .one (.int .i64)), (7, .one (.int .i64))], [(32, [.int .i64, .int .i64, .int .i64, .int .i64, .flt .f64, .flt .f64, .flt .f64, .ro 100]), (48, [.ro 3, .ro 4, .ro 4, .ro 98])], []⟩
def X_r10_IsImage_1 : List (Ex × Ab.Spec) := [(.exit 2, ⟨[], [], []⟩), (.ret, ⟨[(4, .one (.bool))], [], []⟩)]
noncomputable def P_r10_IsImage : Nat → St G → M (Ex × St G) := fun n => bif Nat.beq n 0 then lpX S_r10_IsImage_0 X_r10_IsImage_0 L_r10_IsImage_0 else bif Nat.beq n 1 then lpX S_r10_IsImage_1 X_r10_IsImage_1 L_r10_IsImage_1 else fun _ => M.fail
theorem tT_r10_IsImage : ∀ p ∈ T_r10_IsImage, FnOK Try.prog G p.1 p.2 := List.forall_mem_cons.2 ⟨ok_r01_Valid, List.forall_mem_cons.2 ⟨ok_r01_IsCall, List.forall_mem_cons.2 ⟨ok_r10_less, (fun _ h => absurd h (List.not_mem_nil))⟩⟩⟩
theorem r_r10_IsImage_1 (x : S_r10_IsImage_1.T G) : rndI (cfP T_r10_IsImage) P_r10_IsImage J_r10_IsImage 110 2 (loopOf (bodyOf Try.f57) 1) S_r10_IsImage_1 X_r10_IsImage_1 x = R_r10_IsImage_1 x.1.2.2.1 x.1.2.2.2.1 x.2.1.1 x.2.1.2.1 x.2.1.2.2.1 x.2.1.2.2.2.1 x.2.1.2.2.2.2.1 x.2.1.2.2.2.2.2.1 x.2.1.2.2.2.2.2.2.1 x.2.1.2.2.2.2.2.2.2.1 x.2.2.1.1 x.2.2.1.2.1 x.2.2.1.2.2.1 x.2.2.1.2.2.2.1 := by kernel_rfl
theorem lk_r10_IsImage_1 : LoopOK Try.prog G 110 (P_r10_IsImage 1) (loopOf (bodyOf Try.f57) 1) := loop_ok (lp := P_r10_IsImage) (n := 2) (k := 1) sigOK eqOK hmix tT_r10_IsImage S_r10_IsImage_1 X_r10_IsImage_1 (fun x => R_r10_IsImage_1 x.1.2.2.1 x.1.2.2.2.1 x.2.1.1 x.2.1.2.1 x.2.1.2.2.1 x.2.1.2.2.2.1 x.2.1.2.2.2.2.1 x.2.1.2.2.2.2.2.1 x.2.1.2.2.2.2.2.2.1 x.2.1.2.2.2.2.2.2.2.1 x.2.2.1.1 x.2.2.1.2.1 x.2.2.1.2.2.1 x.2.2.1.2.2.2.1) (by kernel_rfl) (show AllAt (fun k c => LoopOK Try.prog G 110 (P_r10_IsImage k) c) 2 _ from (allAt_of [] (by kernel_rfl) allAt_n)) r_r10_IsImage_1
theorem r_r10_IsImage_0 (x : S_r10_IsImage_0.T G) : rndI (cfP T_r10_IsImage) P_r10_IsImage J_r10_IsImage 110 1 (loopOf (bodyOf Try.f57) 0) S_r10_IsImage_0 X_r10_IsImage_0 x = R_r10_IsImage_0 x.1.2.2.1 x.1.2.2.2.1 x.2.1.1 x.2.1.2.1 x.2.1.2.2.1 x.2.1.2.2.2.1 x.2.1.2.2.2.2.1 x.2.1.2.2.2.2.2.1 x.2.1.2.2.2.2.2.2.1 x.2.1.2.2.2.2.2.2.2.1 x.2.2.1.1 x.2.2.1.2.1 x.2.2.1.2.2.1 x.2.2.1.2.2.2.1 := by kernel_rfl
theorem lk_r10_IsImage_0 : LoopOK Try.prog G 110 (P_r10_IsImage 0) (loopOf (bodyOf Try.f57) 0) := loop_ok (lp := P_r10_IsImage) (n := 1) (k := 0) sigOK eqOK hmix tT_r10_IsImage S_r10_IsImage_0 X_r10_IsImage_0 (fun x => R_r10_IsImage_0 x.1.2.2.1 x.1.2.2.2.1 x.2.1.1 x.2.1.2.1 x.2.1.2.2.1 x.2.1.2.2.2.1 x.2.1.2.2.2.2.1 x.2.1.2.2.2.2.2.1 x.2.1.2.2.2.2.2.2.1 x.2.1.2.2.2.2.2.2.2.1 x.2.2.1.1 x.2.2.1.2.1 x.2.2.1.2.2.1 x.2.2.1.2.2.2.1) (by kernel_rfl) (show AllAt (fun k c => LoopOK Try.prog G 110 (P_r10_IsImage k) c) 1 _ from (allAt_of [] (by kernel_rfl) allAt_n)) r_r10_IsImage_0
theorem q_r10_IsImage (x : I_r10_IsImage.T G) : endI (cfP T_r10_IsImage) P_r10_IsImage J_r10_IsImage 110 (bodyOf Try.f57) I_r10_IsImage E_r10_IsImage x = F_r10_IsImage x.1.1.1 x.1.1.2.1 x.1.1.2.2.1 x.1.1.2.2.2.1 x.1.1.2.2.2.2.1 x.1.1.2.2.2.2.2.1 x.1.1.2.2.2.2.2.2.1 x.1.1.2.2.2.2.2.2.2.1 x.1.2.1.1 x.1.2.1.2.1 x.1.2.1.2.2.1 x.1.2.1.2.2.2.1 := by kernel_rfl
noncomputable def e_r10_IsImage : Fe G := ⟨I_r10_IsImage, E_r10_IsImage, fun x => F_r10_IsImage x.1.1.1 x.1.1.2.1 x.1.1.2.2.1 x.1.1.2.2.2.1 x.1.1.2.2.2.2.1 x.1.1.2.2.2.2.2.1 x.1.1.2.2.2.2.2.2.1 x.1.1.2.2.2.2.2.2.2.1 x.1.2.1.1 x.1.2.1.2.1 x.1.2.1.2.2.1 x.1.2.1.2.2.2.1, Try.f57.results.toList⟩
theorem ok_r10_IsImage : FnOK Try.prog G 57 e_r10_IsImage := fn_ok (e := e_r10_IsImage) sigOK eqOK hmix tT_r10_IsImage Try.func57 (by kernel_rfl) (by kernel_rfl) rfl (by kernel_rfl) (allAt_zero (Q := fun k c => LoopOK Try.prog G 110 (P_r10_IsImage k) c) (allAt_of [loopOf (bodyOf Try.f57) 0, loopOf (bodyOf Try.f57) 1] (by kernel_rfl) (allAt_c lk_r10_IsImage_0 (allAt_c lk_r10_IsImage_1 allAt_n)))) q_r10_IsImage
/-! ### overlay/overlayref09.in -/
def I_r09_in : Ab.Spec := ⟨[(0, .one (.int .i64)), (1, .one (.int .i64)), (2, .one (.int .i64))], [], []⟩
def E_r09_in : List (Ex × Ab.Spec) := [(.ret, ⟨[(6, .one (.bool))], [], []⟩)]
def J_r09_in : Nat → Option (List (Ex × Ab.Spec)) := fun n => get [(1048577, [(.normal, ⟨[(6, .one (.bool))], [], []⟩)])] n
noncomputable def T_r09_in : List (Nat × Fe G) := []
noncomputable def P_r09_in : Nat → St G → M (Ex × St G) := fun _ _ => M.fail
theorem tT_r09_in : ∀ p ∈ T_r09_in, FnOK Try.prog G p.1 p.2 := (fun _ h => absurd h (List.not_mem_nil))
theorem q_r09_in (x : I_r09_in.T G) : endI (cfP T_r09_in) P_r09_in J_r09_in 15 (bodyOf Try.f110) I_r09_in E_r09_in x = F_r09_in x.1.1 x.1.2.1 x.1.2.2.1 := by kernel_rfl
noncomputable def e_r09_in : Fe G := ⟨I_r09_in, E_r09_in, fun x => F_r09_in x.1.1 x.1.2.1 x.1.2.2.1, Try.f110.results.toList⟩
theorem ok_r09_in : FnOK Try.prog G 110 e_r09_in := fn_ok (e := e_r09_in) sigOK eqOK hmix tT_r09_in Try.func110 (by kernel_rfl) (by kernel_rfl) rfl (by kernel_rfl) (allAt_zero (Q := fun k c => LoopOK Try.prog G 15 (P_r09_in k) c) (allAt_of [] (by kernel_rfl) allAt_n)) q_r09_in
/-! ### overlay/overlayref09.Valid -/
def I_r09_Valid : Ab.Spec := ⟨[(0, .agg [.int .i64, .int .i64, .int .i64, .int .i64, .flt .f64, .flt .f64, .flt .f64, .ro 100]), (1, .agg [.int .i64, .int .i64, .int .i64, .int .i64, .int .i64])], [], []⟩
def E_r09_Valid : List (Ex × Ab.Spec) := [(.ret, ⟨[(4, .one (.bool))], [], []⟩)]
def J_r09_Valid : Nat → Option (List (Ex × Ab.Spec)) := fun n => get [(1048580, [(.normal, ⟨[(2, .one (.ptr 32 0)), (3, .one (.ptr 48 0)), (5, .one (.bool)), (6, .one (.bool))], [(32, [.int .i64, .int .i64, .int .i64, .int .i64, .flt .f64, .flt .f64, .flt .f64, .ro 100]), (48, [.int .i64, .int .i64, .int .i64, .int .i64, .int .i64])], []⟩)]), (1048584, [(.normal, ⟨[(4, .one (.bool))], [], []⟩)]), (1048586, [(.normal, ⟨[(4, .one (.bool))], [], []⟩)]), (1048588, [(.normal, ⟨[(4, .one (.bool))], [], []⟩)]), (1048591, [(.normal, ⟨[(4, .one (.bool))], [], []⟩)]), (1048593, [(.normal, ⟨[(4, .one (.bool))], [], []⟩)])] n
noncomputable def T_r09_Valid : List (Nat × Fe G) := [(93, e_r01_Valid), (108, e_r01_IsCall), (110, e_r09_in)]
noncomputable def P_r09_Valid : Nat → St G → M (Ex × St G) := fun _ _ => M.fail
theorem tT_r09_Valid : ∀ p ∈ T_r09_Valid, FnOK Try.prog G p.1 p.2 := List.forall_mem_cons.2 ⟨ok_r01_Valid, List.forall_mem_cons.2 ⟨ok_r01_IsCall, List.forall_mem_cons.2 ⟨ok_r09_in, (fun _ h => absurd h (List.not_mem_nil))⟩⟩⟩
theorem q_r09_Valid (x : I_r09_Valid.T G) : endI (cfP T_r09_Valid) P_r09_Valid J_r09_Valid 96 (bodyOf Try.f58) I_r09_Valid E_r09_Valid x = F_r09_Valid x.1.1.1 x.1.1.2.1 x.1.1.2.2.1 x.1.1.2.2.2.1 x.1.1.2.2.2.2.1 x.1.1.2.2.2.2.2.1 x.1.1.2.2.2.2.2.2.1 x.1.1.2.2.2.2.2.2.2.1 x.1.2.1.1 x.1.2.1.2.1 x.1.2.1.2.2.1 x.1.2.1.2.2.2.1 x.1.2.1.2.2.2.2.1 := by kernel_rfl
noncomputable def e_r09_Valid : Fe G := ⟨I_r09_Valid, E_r09_Valid, fun x => F_r09_Valid x.1.1.1 x.1.1.2.1 x.1.1.2.2.1 x.1.1.2.2.2.1 x.1.1.2.2.2.2.1 x.1.1.2.2.2.2.2.1 x.1.1.2.2.2.2.2.2.1 x.1.1.2.2.2.2.2.2.2.1 x.1.2.1.1 x.1.2.1.2.1 x.1.2.1.2.2.1 x.1.2.1.2.2.2.1 x.1.2.1.2.2.2.2.1, Try.f58.results.toList⟩
theorem ok_r09_Valid : FnOK Try.prog G 58 e_r09_Valid := fn_ok (e := e_r09_Valid) sigOK eqOK hmix tT_r09_Valid Try.func58 (by kernel_rfl) (by kernel_rfl) rfl (by kernel_rfl) (allAt_zero (Q := fun k c => LoopOK Try.prog G 96 (P_r09_Valid k) c) (allAt_of [] (by kernel_rfl) allAt_n)) q_r09_Valid
/-! ### overlay/overlayref10.Find -/
def I_r10_Find : Ab.Spec := ⟨[(0, .agg [.ro 3, .ro 4, .ro 4, .ro 98]), (1, .one (.int .i64)), (2, .one (.int .i64))], [], []⟩
def E_r10_Find : List (Ex × Ab.Spec) := [(.ret, ⟨[(6, .one (.int .i64))], [], []⟩)]
def J_r10_Find : Nat → Option (List (Ex × Ab.Spec)) := fun n => get [(1048580, [(.normal, ⟨[(1, .one (.int .i64)), (2, .one (.int .i64)), (3, .one (.ptr 48 0)), (7, .one (.int .i64)), (32, .one (.bool))], [(48, [.ro 3, .ro 4, .ro 4, .ro 98])], []⟩)])] n
noncomputable def T_r10_Find : List (Nat × Fe G) := []
def S_r10_Find_0 : Ab.Spec := ⟨[(1, .one (.int .i64)), (2, .one (.int .i64)), (3, .one (.ptr 48 0)), (7, .one (.int .i64))], [(48, [.ro 3, .ro 4, .ro 4, .ro 98])], []⟩
def X_r10_Find_0 : List (Ex × Ab.Spec) := [(.exit 0, ⟨[], [], []⟩), (.ret, ⟨[(6, .one (.int .i64))], [], []⟩)]
noncomputable def P_r10_Find : Nat → St G → M (Ex × St G) := fun n => bif Nat.beq n 0 then lpX S_r10_Find_0 X_r10_Find_0 L_r10_Find_0 else fun _ => M.fail
theorem tT_r10_Find : ∀ p ∈ T_r10_Find, FnOK Try.prog G p.1 p.2 := (fun _ h => absurd h (List.not_mem_nil))
theorem r_r10_Find_0 (x : S_r10_Find_0.T G) : rndI (cfP T_r10_Find) P_r10_Find J_r10_Find 34 1 (loopOf (bodyOf Try.f59) 0) S_r10_Find_0 X_r10_Find_0 x = R_r10_Find_0 x.1.1 x.1.2.1 x.1.2.2.2.1 x.2.1.1 x.2.1.2.1 x.2.1.2.2.1 x.2.1.2.2.2.1 := by kernel_rfl
theorem lk_r10_Find_0 : LoopOK Try.prog G 34 (P_r10_Find 0) (loopOf (bodyOf Try.f59) 0) := loop_ok (lp := P_r10_Find) (n := 1) (k := 0) sigOK eqOK hmix tT_r10_Find S_r10_Find_0 X_r10_Find_0 (fun x => R_r10_Find_0 x.1.1 x.1.2.1 x.1.2.2.2.1 x.2.1.1 x.2.1.2.1 x.2.1.2.2.1 x.2.1.2.2.2.1) (by kernel_rfl) (show AllAt (fun k c => LoopOK Try.prog G 34 (P_r10_Find k) c) 1 _ from (allAt_of [] (by kernel_rfl) allAt_n)) r_r10_Find_0
theorem q_r10_Find (x : I_r10_Find.T G) : endI (cfP T_r10_Find) P_r10_Find J_r10_Find 34 (bodyOf Try.f59) I_r10_Find E_r10_Find x = F_r10_Find x.1.1.1 x.1.1.2.1 x.1.1.2.2.1 x.1.1.2.2.2.1 x.1.2.1 x.1.2.2.1 := by kernel_rfl
noncomputable def e_r10_Find : Fe G := ⟨I_r10_Find, E_r10_Find, fun x => F_r10_Find x.1.1.1 x.1.1.2.1 x.1.1.2.2.1 x.1.1.2.2.2.1 x.1.2.1 x.1.2.2.1, Try.f59.results.toList⟩
theorem ok_r10_Find : FnOK Try.prog G 59 e_r10_Find := fn_ok (e := e_r10_Find) sigOK eqOK hmix tT_r10_Find Try.func59 (by kernel_rfl) (by kernel_rfl) rfl (by kernel_rfl) (allAt_zero (Q := fun k c => LoopOK Try.prog G 34 (P_r10_Find k) c) (allAt_of [loopOf (bodyOf Try.f59) 0] (by kernel_rfl) (allAt_c lk_r10_Find_0 allAt_n))) q_r10_Find
/-! ### overlay/overlayref10.entered -/
def I_r10_entered : Ab.Spec := ⟨[(0, .one (.ro 98)), (1, .agg [.int .i64, .int .i64, .int .i64, .int .i64, .bool])], [], []⟩
def E_r10_entered : List (Ex × Ab.Spec) := [(.ret, ⟨[(4, .one (.own 32768 98))], [], []⟩)]
def J_r10_entered : Nat → Option (List (Ex × Ab.Spec)) := fun n => get [(10, [(.normal, ⟨[(0, .one (.ro 98)), (3, .one (.ptr 48 0)), (5, .one (.own 32768 98)), (6, .one (.bool)), (7, .one (.int .i64))], [(48, [.int .i64, .int .i64, .int .i64, .int .i64, .bool])], []⟩)]), (1048582, [(.normal, ⟨[(0, .one (.ro 98)), (3, .one (.ptr 48 0)), (5, .one (.own 32768 98)), (6, .one (.bool)), (7, .one (.int .i64)), (23, .one (.bool))], [(48, [.int .i64, .int .i64, .int .i64, .int .i64, .bool])], []⟩)])] n
noncomputable def T_r10_entered : List (Nat × Fe G) := [(109, e_r10_less)]
def S_r10_entered_0 : Ab.Spec := ⟨[(0, .one (.ro 98)), (3, .one (.ptr 48 0)), (5, .one (.own 32768 98)), (6, .one (.bool)), (7, .one (.int .i64))], [(48, [.int .i64, .int .i64, .int .i64, .int .i64, .bool])], []⟩
def X_r10_entered_0 : List (Ex × Ab.Spec) := [(.exit 0, ⟨[(3, .one (.ptr 48 0)), (5, .one (.own 32768 98)), (6, .one (.bool))], [(48, [.int .i64, .int .i64, .int .i64, .int .i64, .bool])], []⟩)]
noncomputable def P_r10_entered : Nat → St G → M (Ex × St G) := fun n => bif Nat.beq n 0 then lpX S_r10_entered_0 X_r10_entered_0 L_r10_entered_0 else fun _ => M.fail
theorem tT_r10_entered : ∀ p ∈ T_r10_entered, FnOK Try.prog G p.1 p.2 := List.forall_mem_cons.2 ⟨ok_r10_less, (fun _ h => absurd h (List.not_mem_nil))⟩
theorem r_r10_entered_0 (x : S_r10_entered_0.T G) : rndI (cfP T_r10_entered) P_r10_entered J_r10_entered 42 1 (loopOf (bodyOf Try.f75) 0) S_r10_entered_0 X_r10_entered_0 x = R_r10_entered_0 x.1.1 x.1.2.2.1 x.1.2.2.2.1 x.1.2.2.2.2.1 x.2.1.1 x.2.1.2.1 x.2.1.2.2.1 x.2.1.2.2.2.1 x.2.1.2.2.2.2.1 := by kernel_rfl
theorem lk_r10_entered_0 : LoopOK Try.prog G 42 (P_r10_entered 0) (loopOf (bodyOf Try.f75) 0) := loop_ok (lp := P_r10_entered) (n := 1) (k := 0) sigOK eqOK hmix tT_r10_entered S_r10_entered_0 X_r10_entered_0 (fun x => R_r10_entered_0 x.1.1 x.1.2.2.1 x.1.2.2.2.1 x.1.2.2.2.2.1 x.2.1.1 x.2.1.2.1 x.2.1.2.2.1 x.2.1.2.2.2.1 x.2.1.2.2.2.2.1) (by kernel_rfl) (show AllAt (fun k c => LoopOK Try.prog G 42 (P_r10_entered k) c) 1 _ from (allAt_of [] (by kernel_rfl) allAt_n)) r_r10_entered_0
theorem q_r10_entered (x : I_r10_entered.T G) : endI (cfP T_r10_entered) P_r10_entered J_r10_entered 42 (bodyOf Try.f75) I_r10_entered E_r10_entered x = F_r10_entered x.1.1 x.1.2.1.1 x.1.2.1.2.1 x.1.2.1.2.2.1 x.1.2.1.2.2.2.1 x.1.2.1.2.2.2.2.1 := by kernel_rfl
noncomputable def e_r10_entered : Fe G := ⟨I_r10_entered, E_r10_entered, fun x => F_r10_entered x.1.1 x.1.2.1.1 x.1.2.1.2.1 x.1.2.1.2.2.1 x.1.2.1.2.2.2.1 x.1.2.1.2.2.2.2.1, Try.f75.results.toList⟩
theorem ok_r10_entered : FnOK Try.prog G 75 e_r10_entered := fn_ok (e := e_r10_entered) sigOK eqOK hmix tT_r10_entered Try.func75 (by kernel_rfl) (by kernel_rfl) rfl (by kernel_rfl) (allAt_zero (Q := fun k c => LoopOK Try.prog G 42 (P_r10_entered k) c) (allAt_of [loopOf (bodyOf Try.f75) 0] (by kernel_rfl) (allAt_c lk_r10_entered_0 allAt_n))) q_r10_entered
/-! ### overlay/overlayref10.Apply -/
def I_r10_Apply : Ab.Spec := ⟨[(0, .agg [.int .i64, .int .i64, .int .i64, .int .i64, .flt .f64, .flt .f64, .flt .f64, .ro 100]), (1, .agg [.ro 3, .ro 4, .ro 4, .ro 98]), (2, .agg [.int .i64, .int .i64, .int .i64, .int .i64, .int .i64])], [], []⟩
def E_r10_Apply : List (Ex × Ab.Spec) := [(.ret, ⟨[(6, .one (.ptr 96 0)), (7, .one (.int .i64))], [(96, [.own 32768 3, .own 32769 4, .own 32770 4, .own 32771 98])], []⟩)]
def J_r10_Apply : Nat → Option (List (Ex × Ab.Spec)) := fun n => get [(1048588, [(.normal, ⟨[(4, .one (.ptr 64 0)), (5, .one (.ptr 80 0)), (6, .one (.ptr 96 0)), (8, .one (.int .i64)), (77, .one (.bool))], [(64, [.own 32768 3, .own 32769 4, .own 32770 4, .own 32771 98]), (80, [.int .i64, .int .i64, .int .i64, .int .i64, .int .i64]), (96, [.own 32772 3, .own 32773 4, .own 32774 4, .own 32775 98])], []⟩)]), (2097168, [(.normal, ⟨[(4, .one (.ptr 64 0)), (6, .one (.ptr 96 0)), (8, .one (.int .i64))], [(64, [.own 32768 3, .own 32769 4, .own 32770 4, .ro 98]), (96, [.own 32771 3, .own 32772 4, .own 32773 4, .own 32774 98])], []⟩)])] n
noncomputable def T_r10_Apply : List (Nat × Fe G) := [(57, e_r10_IsImage), (58, e_r09_Valid), (59, e_r10_Find), (75, e_r10_entered)]
noncomputable def P_r10_Apply : Nat → St G → M (Ex × St G) := fun _ _ => M.fail
theorem tT_r10_Apply : ∀ p ∈ T_r10_Apply, FnOK Try.prog G p.1 p.2 := List.forall_mem_cons.2 ⟨ok_r10_IsImage, List.forall_mem_cons.2 ⟨ok_r09_Valid, List.forall_mem_cons.2 ⟨ok_r10_Find, List.forall_mem_cons.2 ⟨ok_r10_entered, (fun _ h => absurd h (List.not_mem_nil))⟩⟩⟩⟩
theorem q_r10_Apply (x : I_r10_Apply.T G) : endI (cfP T_r10_Apply) P_r10_Apply J_r10_Apply 144 (bodyOf Try.f30) I_r10_Apply E_r10_Apply x = F_r10_Apply x.1.1.1 x.1.1.2.1 x.1.1.2.2.1 x.1.1.2.2.2.1 x.1.1.2.2.2.2.1 x.1.1.2.2.2.2.2.1 x.1.1.2.2.2.2.2.2.1 x.1.1.2.2.2.2.2.2.2.1 x.1.2.1.1 x.1.2.1.2.1 x.1.2.1.2.2.1 x.1.2.1.2.2.2.1 x.1.2.2.1.1 x.1.2.2.1.2.1 x.1.2.2.1.2.2.1 x.1.2.2.1.2.2.2.1 x.1.2.2.1.2.2.2.2.1 := by kernel_rfl
noncomputable def e_r10_Apply : Fe G := ⟨I_r10_Apply, E_r10_Apply, fun x => F_r10_Apply x.1.1.1 x.1.1.2.1 x.1.1.2.2.1 x.1.1.2.2.2.1 x.1.1.2.2.2.2.1 x.1.1.2.2.2.2.2.1 x.1.1.2.2.2.2.2.2.1 x.1.1.2.2.2.2.2.2.2.1 x.1.2.1.1 x.1.2.1.2.1 x.1.2.1.2.2.1 x.1.2.1.2.2.2.1 x.1.2.2.1.1 x.1.2.2.1.2.1 x.1.2.2.1.2.2.1 x.1.2.2.1.2.2.2.1 x.1.2.2.1.2.2.2.2.1, Try.f30.results.toList⟩
theorem ok_r10_Apply : FnOK Try.prog G 30 e_r10_Apply := fn_ok (e := e_r10_Apply) sigOK eqOK hmix tT_r10_Apply Try.func30 (by kernel_rfl) (by kernel_rfl) rfl (by kernel_rfl) (allAt_zero (Q := fun k c => LoopOK Try.prog G 144 (P_r10_Apply k) c) (allAt_of [] (by kernel_rfl) allAt_n)) q_r10_Apply
/-! ### overlay/overlaylaw10.Image -/
def I_l10_Image : Ab.Spec := ⟨[(0, .agg [.int .i64, .int .i64, .int .i64, .int .i64, .flt .f64, .flt .f64, .flt .f64, .ro 100]), (1, .one (.ro 5))], [], []⟩
def E_l10_Image : List (Ex × Ab.Spec) := [(.ret, ⟨[(4, .one (.ptr 64 0))], [(64, [.own 32768 3, .own 32769 4, .own 32770 4, .own 32771 98])], []⟩)]
def J_l10_Image : Nat → Option (List (Ex × Ab.Spec)) := fun n => get [] n
noncomputable def T_l10_Image : List (Nat × Fe G) := [(40, e_r10_Initial), (18, e_l09_Records), (30, e_r10_Apply)]
def S_l10_Image_0 : Ab.Spec := ⟨[(2, .one (.ptr 32 0)), (4, .one (.ptr 64 0)), (5, .one (.ptr 80 0)), (6, .one (.own 32768 56)), (7, .one (.int .i64))], [(32, [.int .i64, .int .i64, .int .i64, .int .i64, .flt .f64, .flt .f64, .flt .f64, .ro 100]), (64, [.own 32769 3, .own 32770 4, .own 32771 4, .own 32772 98]), (80, [.own 32773 3, .own 32774 4, .own 32775 4, .own 32776 98])], []⟩
def X_l10_Image_0 : List (Ex × Ab.Spec) := [(.exit 0, ⟨[(4, .one (.ptr 64 0)), (5, .one (.ptr 80 0))], [(64, [.own 32768 3, .own 32769 4, .own 32770 4, .own 32771 98]), (80, [.own 32772 3, .own 32773 4, .own 32774 4, .own 32775 98])], []⟩)]
noncomputable def P_l10_Image : Nat → St G → M (Ex × St G) := fun n => bif Nat.beq n 0 then lpX S_l10_Image_0 X_l10_Image_0 L_l10_Image_0 else fun _ => M.fail
theorem tT_l10_Image : ∀ p ∈ T_l10_Image, FnOK Try.prog G p.1 p.2 := List.forall_mem_cons.2 ⟨ok_r10_Initial, List.forall_mem_cons.2 ⟨ok_l09_Records, List.forall_mem_cons.2 ⟨ok_r10_Apply, (fun _ h => absurd h (List.not_mem_nil))⟩⟩⟩
theorem r_l10_Image_0 (x : S_l10_Image_0.T G) : rndI (cfP T_l10_Image) P_l10_Image J_l10_Image 30 1 (loopOf (bodyOf Try.f10) 0) S_l10_Image_0 X_l10_Image_0 x = R_l10_Image_0 x.1.2.2.2.1 x.1.2.2.2.2.1 x.2.1.1 x.2.1.2.1 x.2.1.2.2.1 x.2.1.2.2.2.1 x.2.1.2.2.2.2.1 x.2.1.2.2.2.2.2.1 x.2.1.2.2.2.2.2.2.1 x.2.1.2.2.2.2.2.2.2.1 x.2.2.1.1 x.2.2.1.2.1 x.2.2.1.2.2.1 x.2.2.1.2.2.2.1 x.2.2.2.1.1 x.2.2.2.1.2.1 x.2.2.2.1.2.2.1 x.2.2.2.1.2.2.2.1 := by kernel_rfl
theorem lk_l10_Image_0 : LoopOK Try.prog G 30 (P_l10_Image 0) (loopOf (bodyOf Try.f10) 0) := loop_ok (lp := P_l10_Image) (n := 1) (k := 0) sigOK eqOK hmix tT_l10_Image S_l10_Image_0 X_l10_Image_0 (fun x => R_l10_Image_0 x.1.2.2.2.1 x.1.2.2.2.2.1 x.2.1.1 x.2.1.2.1 x.2.1.2.2.1 x.2.1.2.2.2.1 x.2.1.2.2.2.2.1 x.2.1.2.2.2.2.2.1 x.2.1.2.2.2.2.2.2.1 x.2.1.2.2.2.2.2.2.2.1 x.2.2.1.1 x.2.2.1.2.1 x.2.2.1.2.2.1 x.2.2.1.2.2.2.1 x.2.2.2.1.1 x.2.2.2.1.2.1 x.2.2.2.1.2.2.1 x.2.2.2.1.2.2.2.1) (by kernel_rfl) (show AllAt (fun k c => LoopOK Try.prog G 30 (P_l10_Image k) c) 1 _ from (allAt_of [] (by kernel_rfl) allAt_n)) r_l10_Image_0
theorem q_l10_Image (x : I_l10_Image.T G) : endI (cfP T_l10_Image) P_l10_Image J_l10_Image 30 (bodyOf Try.f10) I_l10_Image E_l10_Image x = F_l10_Image x.1.1.1 x.1.1.2.1 x.1.1.2.2.1 x.1.1.2.2.2.1 x.1.1.2.2.2.2.1 x.1.1.2.2.2.2.2.1 x.1.1.2.2.2.2.2.2.1 x.1.1.2.2.2.2.2.2.2.1 x.1.2.1 := by kernel_rfl
noncomputable def e_l10_Image : Fe G := ⟨I_l10_Image, E_l10_Image, fun x => F_l10_Image x.1.1.1 x.1.1.2.1 x.1.1.2.2.1 x.1.1.2.2.2.1 x.1.1.2.2.2.2.1 x.1.1.2.2.2.2.2.1 x.1.1.2.2.2.2.2.2.1 x.1.1.2.2.2.2.2.2.2.1 x.1.2.1, Try.f10.results.toList⟩
theorem ok_l10_Image : FnOK Try.prog G 10 e_l10_Image := fn_ok (e := e_l10_Image) sigOK eqOK hmix tT_l10_Image Try.func10 (by kernel_rfl) (by kernel_rfl) rfl (by kernel_rfl) (allAt_zero (Q := fun k c => LoopOK Try.prog G 30 (P_l10_Image k) c) (allAt_of [loopOf (bodyOf Try.f10) 0] (by kernel_rfl) (allAt_c lk_l10_Image_0 allAt_n))) q_l10_Image
/-! ### overlay/overlayref02.Sum8 -/
def I_r02_Sum8 : Ab.Spec := ⟨[(0, .one (.str))], [], []⟩
def E_r02_Sum8 : List (Ex × Ab.Spec) := [(.ret, ⟨[(2, .one (.int .u8))], [], []⟩)]
def J_r02_Sum8 : Nat → Option (List (Ex × Ab.Spec)) := fun n => get [] n
noncomputable def T_r02_Sum8 : List (Nat × Fe G) := []
def S_r02_Sum8_0 : Ab.Spec := ⟨[(0, .one (.str)), (3, .one (.int .i64)), (4, .one (.int .i64))], [], []⟩
def X_r02_Sum8_0 : List (Ex × Ab.Spec) := [(.exit 0, ⟨[(3, .one (.int .i64))], [], []⟩)]
def S_r02_Sum8_1 : Ab.Spec := ⟨[(0, .one (.str)), (3, .one (.int .i64)), (4, .one (.int .i64)), (5, .one (.int .i64))], [], []⟩
def X_r02_Sum8_1 : List (Ex × Ab.Spec) := [(.exit 2, ⟨[(0, .one (.str)), (3, .one (.int .i64)), (4, .one (.int .i64))], [], []⟩)]
noncomputable def P_r02_Sum8 : Nat → St G → M (Ex × St G) := fun n => bif Nat.beq n 0 then lpX S_r02_Sum8_0 X_r02_Sum8_0 L_r02_Sum8_0 else bif Nat.beq n 1 then lpX S_r02_Sum8_1 X_r02_Sum8_1 L_r02_Sum8_1 else fun _ => M.fail
theorem tT_r02_Sum8 : ∀ p ∈ T_r02_Sum8, FnOK Try.prog G p.1 p.2 := (fun _ h => absurd h (List.not_mem_nil))
theorem r_r02_Sum8_1 (x : S_r02_Sum8_1.T G) : rndI (cfP T_r02_Sum8) P_r02_Sum8 J_r02_Sum8 33 2 (loopOf (bodyOf Try.f99) 1) S_r02_Sum8_1 X_r02_Sum8_1 x = R_r02_Sum8_1 x.1.1 x.1.2.1 x.1.2.2.1 x.1.2.2.2.1 := by kernel_rfl
theorem lk_r02_Sum8_1 : LoopOK Try.prog G 33 (P_r02_Sum8 1) (loopOf (bodyOf Try.f99) 1) := loop_ok (lp := P_r02_Sum8) (n := 2) (k := 1) sigOK eqOK hmix tT_r02_Sum8 S_r02_Sum8_1 X_r02_Sum8_1 (fun x => R_r02_Sum8_1 x.1.1 x.1.2.1 x.1.2.2.1 x.1.2.2.2.1) (by kernel_rfl) (show AllAt (fun k c => LoopOK Try.prog G 33 (P_r02_Sum8 k) c) 2 _ from (allAt_of [] (by kernel_rfl) allAt_n)) r_r02_Sum8_1
theorem r_r02_Sum8_0 (x : S_r02_Sum8_0.T G) : rndI (cfP T_r02_Sum8) P_r02_Sum8 J_r02_Sum8 33 1 (loopOf (bodyOf Try.f99) 0) S_r02_Sum8_0 X_r02_Sum8_0 x = R_r02_Sum8_0 x.1.1 x.1.2.1 x.1.2.2.1 := by kernel_rfl
theorem lk_r02_Sum8_0 : LoopOK Try.prog G 33 (P_r02_Sum8 0) (loopOf (bodyOf Try.f99) 0) := loop_ok (lp := P_r02_Sum8) (n := 1) (k := 0) sigOK eqOK hmix tT_r02_Sum8 S_r02_Sum8_0 X_r02_Sum8_0 (fun x => R_r02_Sum8_0 x.1.1 x.1.2.1 x.1.2.2.1) (by kernel_rfl) (show AllAt (fun k c => LoopOK Try.prog G 33 (P_r02_Sum8 k) c) 1 _ from (allAt_of [loopOf (bodyOf Try.f99) 1] (by kernel_rfl) (allAt_c lk_r02_Sum8_1 allAt_n))) r_r02_Sum8_0
theorem q_r02_Sum8 (x : I_r02_Sum8.T G) : endI (cfP T_r02_Sum8) P_r02_Sum8 J_r02_Sum8 33 (bodyOf Try.f99) I_r02_Sum8 E_r02_Sum8 x = F_r02_Sum8 x.1.1 := by kernel_rfl
noncomputable def e_r02_Sum8 : Fe G := ⟨I_r02_Sum8, E_r02_Sum8, fun x => F_r02_Sum8 x.1.1, Try.f99.results.toList⟩
theorem ok_r02_Sum8 : FnOK Try.prog G 99 e_r02_Sum8 := fn_ok (e := e_r02_Sum8) sigOK eqOK hmix tT_r02_Sum8 Try.func99 (by kernel_rfl) (by kernel_rfl) rfl (by kernel_rfl) (allAt_zero (Q := fun k c => LoopOK Try.prog G 33 (P_r02_Sum8 k) c) (allAt_of [loopOf (bodyOf Try.f99) 0, loopOf (bodyOf Try.f99) 1] (by kernel_rfl) (allAt_c lk_r02_Sum8_0 (allAt_c lk_r02_Sum8_1 allAt_n)))) q_r02_Sum8
/-! ### overlay/overlayref09.Encode -/
def I_r09_Encode : Ab.Spec := ⟨[(0, .agg [.int .i64, .int .i64, .int .i64, .int .i64, .flt .f64, .flt .f64, .flt .f64, .ro 100]), (1, .agg [.int .i64, .int .i64, .int .i64, .int .i64, .int .i64])], [], []⟩
def E_r09_Encode : List (Ex × Ab.Spec) := [(.ret, ⟨[(4, .one (.str)), (5, .one (.int .i64))], [], []⟩)]
def J_r09_Encode : Nat → Option (List (Ex × Ab.Spec)) := fun n => get [] n
noncomputable def T_r09_Encode : List (Nat × Fe G) := [(58, e_r09_Valid), (99, e_r02_Sum8)]
noncomputable def P_r09_Encode : Nat → St G → M (Ex × St G) := fun _ _ => M.fail
theorem tT_r09_Encode : ∀ p ∈ T_r09_Encode, FnOK Try.prog G p.1 p.2 := List.forall_mem_cons.2 ⟨ok_r09_Valid, List.forall_mem_cons.2 ⟨ok_r02_Sum8, (fun _ h => absurd h (List.not_mem_nil))⟩⟩
theorem q_r09_Encode (x : I_r09_Encode.T G) : endI (cfP T_r09_Encode) P_r09_Encode J_r09_Encode 35 (bodyOf Try.f47) I_r09_Encode E_r09_Encode x = F_r09_Encode x.1.1.1 x.1.1.2.1 x.1.1.2.2.1 x.1.1.2.2.2.1 x.1.1.2.2.2.2.1 x.1.1.2.2.2.2.2.1 x.1.1.2.2.2.2.2.2.1 x.1.1.2.2.2.2.2.2.2.1 x.1.2.1.1 x.1.2.1.2.1 x.1.2.1.2.2.1 x.1.2.1.2.2.2.1 x.1.2.1.2.2.2.2.1 := by kernel_rfl
noncomputable def e_r09_Encode : Fe G := ⟨I_r09_Encode, E_r09_Encode, fun x => F_r09_Encode x.1.1.1 x.1.1.2.1 x.1.1.2.2.1 x.1.1.2.2.2.1 x.1.1.2.2.2.2.1 x.1.1.2.2.2.2.2.1 x.1.1.2.2.2.2.2.2.1 x.1.1.2.2.2.2.2.2.2.1 x.1.2.1.1 x.1.2.1.2.1 x.1.2.1.2.2.1 x.1.2.1.2.2.2.1 x.1.2.1.2.2.2.2.1, Try.f47.results.toList⟩
theorem ok_r09_Encode : FnOK Try.prog G 47 e_r09_Encode := fn_ok (e := e_r09_Encode) sigOK eqOK hmix tT_r09_Encode Try.func47 (by kernel_rfl) (by kernel_rfl) rfl (by kernel_rfl) (allAt_zero (Q := fun k c => LoopOK Try.prog G 35 (P_r09_Encode k) c) (allAt_of [] (by kernel_rfl) allAt_n)) q_r09_Encode
/-! ### overlay/overlayref10.Bytes -/
def I_r10_Bytes : Ab.Spec := ⟨[(0, .agg [.int .i64, .int .i64, .int .i64, .int .i64, .flt .f64, .flt .f64, .flt .f64, .ro 100]), (1, .one (.ro 56))], [], []⟩
def E_r10_Bytes : List (Ex × Ab.Spec) := [(.ret, ⟨[(4, .one (.str))], [], []⟩)]
def J_r10_Bytes : Nat → Option (List (Ex × Ab.Spec)) := fun n => get [] n
noncomputable def T_r10_Bytes : List (Nat × Fe G) := [(47, e_r09_Encode)]
def S_r10_Bytes_0 : Ab.Spec := ⟨[(1, .one (.ro 56)), (2, .one (.ptr 32 0)), (5, .one (.str)), (6, .one (.int .i64))], [(32, [.int .i64, .int .i64, .int .i64, .int .i64, .flt .f64, .flt .f64, .flt .f64, .ro 100])], []⟩
def X_r10_Bytes_0 : List (Ex × Ab.Spec) := [(.exit 0, ⟨[(5, .one (.str))], [], []⟩)]
noncomputable def P_r10_Bytes : Nat → St G → M (Ex × St G) := fun n => bif Nat.beq n 0 then lpX S_r10_Bytes_0 X_r10_Bytes_0 L_r10_Bytes_0 else fun _ => M.fail
theorem tT_r10_Bytes : ∀ p ∈ T_r10_Bytes, FnOK Try.prog G p.1 p.2 := List.forall_mem_cons.2 ⟨ok_r09_Encode, (fun _ h => absurd h (List.not_mem_nil))⟩
theorem r_r10_Bytes_0 (x : S_r10_Bytes_0.T G) : rndI (cfP T_r10_Bytes) P_r10_Bytes J_r10_Bytes 28 1 (loopOf (bodyOf Try.f19) 0) S_r10_Bytes_0 X_r10_Bytes_0 x = R_r10_Bytes_0 x.1.1 x.1.2.2.1 x.1.2.2.2.1 x.2.1.1 x.2.1.2.1 x.2.1.2.2.1 x.2.1.2.2.2.1 x.2.1.2.2.2.2.1 x.2.1.2.2.2.2.2.1 x.2.1.2.2.2.2.2.2.1 x.2.1.2.2.2.2.2.2.2.1 := by kernel_rfl
theorem lk_r10_Bytes_0 : LoopOK Try.prog G 28 (P_r10_Bytes 0) (loopOf (bodyOf Try.f19) 0) := loop_ok (lp := P_r10_Bytes) (n := 1) (k := 0) sigOK eqOK hmix tT_r10_Bytes S_r10_Bytes_0 X_r10_Bytes_0 (fun x => R_r10_Bytes_0 x.1.1 x.1.2.2.1 x.1.2.2.2.1 x.2.1.1 x.2.1.2.1 x.2.1.2.2.1 x.2.1.2.2.2.1 x.2.1.2.2.2.2.1 x.2.1.2.2.2.2.2.1 x.2.1.2.2.2.2.2.2.1 x.2.1.2.2.2.2.2.2.2.1) (by kernel_rfl) (show AllAt (fun k c => LoopOK Try.prog G 28 (P_r10_Bytes k) c) 1 _ from (allAt_of [] (by kernel_rfl) allAt_n)) r_r10_Bytes_0
theorem q_r10_Bytes (x : I_r10_Bytes.T G) : endI (cfP T_r10_Bytes) P_r10_Bytes J_r10_Bytes 28 (bodyOf Try.f19) I_r10_Bytes E_r10_Bytes x = F_r10_Bytes x.1.1.1 x.1.1.2.1 x.1.1.2.2.1 x.1.1.2.2.2.1 x.1.1.2.2.2.2.1 x.1.1.2.2.2.2.2.1 x.1.1.2.2.2.2.2.2.1 x.1.1.2.2.2.2.2.2.2.1 x.1.2.1 := by kernel_rfl
noncomputable def e_r10_Bytes : Fe G := ⟨I_r10_Bytes, E_r10_Bytes, fun x => F_r10_Bytes x.1.1.1 x.1.1.2.1 x.1.1.2.2.1 x.1.1.2.2.2.1 x.1.1.2.2.2.2.1 x.1.1.2.2.2.2.2.1 x.1.1.2.2.2.2.2.2.1 x.1.1.2.2.2.2.2.2.2.1 x.1.2.1, Try.f19.results.toList⟩
theorem ok_r10_Bytes : FnOK Try.prog G 19 e_r10_Bytes := fn_ok (e := e_r10_Bytes) sigOK eqOK hmix tT_r10_Bytes Try.func19 (by kernel_rfl) (by kernel_rfl) rfl (by kernel_rfl) (allAt_zero (Q := fun k c => LoopOK Try.prog G 28 (P_r10_Bytes k) c) (allAt_of [loopOf (bodyOf Try.f19) 0] (by kernel_rfl) (allAt_c lk_r10_Bytes_0 allAt_n))) q_r10_Bytes
/-! ### overlay/overlayref08.IsStore -/
def I_r08_IsStore : Ab.Spec := ⟨[(0, .one (.int .i64)), (1, .agg [.str, .str, .int .i64])], [], []⟩
def E_r08_IsStore : List (Ex × Ab.Spec) := [(.ret, ⟨[(4, .one (.bool))], [], []⟩)]
def J_r08_IsStore : Nat → Option (List (Ex × Ab.Spec)) := fun n => get [(1048577, [(.normal, ⟨[(4, .one (.bool))], [], []⟩)])] n
noncomputable def T_r08_IsStore : List (Nat × Fe G) := []
noncomputable def P_r08_IsStore : Nat → St G → M (Ex × St G) := fun _ _ => M.fail
theorem tT_r08_IsStore : ∀ p ∈ T_r08_IsStore, FnOK Try.prog G p.1 p.2 := (fun _ h => absurd h (List.not_mem_nil))
theorem q_r08_IsStore (x : I_r08_IsStore.T G) : endI (cfP T_r08_IsStore) P_r08_IsStore J_r08_IsStore 37 (bodyOf Try.f42) I_r08_IsStore E_r08_IsStore x = F_r08_IsStore x.1.1 x.1.2.1.1 x.1.2.1.2.1 x.1.2.1.2.2.1 := by kernel_rfl
noncomputable def e_r08_IsStore : Fe G := ⟨I_r08_IsStore, E_r08_IsStore, fun x => F_r08_IsStore x.1.1 x.1.2.1.1 x.1.2.1.2.1 x.1.2.1.2.2.1, Try.f42.results.toList⟩
theorem ok_r08_IsStore : FnOK Try.prog G 42 e_r08_IsStore := fn_ok (e := e_r08_IsStore) sigOK eqOK hmix tT_r08_IsStore Try.func42 (by kernel_rfl) (by kernel_rfl) rfl (by kernel_rfl) (allAt_zero (Q := fun k c => LoopOK Try.prog G 37 (P_r08_IsStore k) c) (allAt_of [] (by kernel_rfl) allAt_n)) q_r08_IsStore
/-! ### overlay/overlayref10.ok -/
def I_r10_ok : Ab.Spec := ⟨[(0, .agg [.int .i64, .int .i64, .int .i64, .int .i64, .flt .f64, .flt .f64, .flt .f64, .ro 100]), (1, .agg [.str, .str, .int .i64]), (2, .one (.int .i64))], [], []⟩
def E_r10_ok : List (Ex × Ab.Spec) := [(.ret, ⟨[(6, .one (.bool))], [], []⟩)]
def J_r10_ok : Nat → Option (List (Ex × Ab.Spec)) := fun n => get [(1048577, [(.normal, ⟨[(6, .one (.bool))], [], []⟩)])] n
noncomputable def T_r10_ok : List (Nat × Fe G) := [(93, e_r01_Valid), (42, e_r08_IsStore)]
noncomputable def P_r10_ok : Nat → St G → M (Ex × St G) := fun _ _ => M.fail
theorem tT_r10_ok : ∀ p ∈ T_r10_ok, FnOK Try.prog G p.1 p.2 := List.forall_mem_cons.2 ⟨ok_r01_Valid, List.forall_mem_cons.2 ⟨ok_r08_IsStore, (fun _ h => absurd h (List.not_mem_nil))⟩⟩
theorem q_r10_ok (x : I_r10_ok.T G) : endI (cfP T_r10_ok) P_r10_ok J_r10_ok 20 (bodyOf Try.f56) I_r10_ok E_r10_ok x = F_r10_ok x.1.1.1 x.1.1.2.1 x.1.1.2.2.1 x.1.1.2.2.2.1 x.1.1.2.2.2.2.1 x.1.1.2.2.2.2.2.1 x.1.1.2.2.2.2.2.2.1 x.1.1.2.2.2.2.2.2.2.1 x.1.2.1.1 x.1.2.1.2.1 x.1.2.1.2.2.1 x.1.2.2.1 := by kernel_rfl
noncomputable def e_r10_ok : Fe G := ⟨I_r10_ok, E_r10_ok, fun x => F_r10_ok x.1.1.1 x.1.1.2.1 x.1.1.2.2.1 x.1.1.2.2.2.1 x.1.1.2.2.2.2.1 x.1.1.2.2.2.2.2.1 x.1.1.2.2.2.2.2.2.1 x.1.1.2.2.2.2.2.2.2.1 x.1.2.1.1 x.1.2.1.2.1 x.1.2.1.2.2.1 x.1.2.2.1, Try.f56.results.toList⟩
theorem ok_r10_ok : FnOK Try.prog G 56 e_r10_ok := fn_ok (e := e_r10_ok) sigOK eqOK hmix tT_r10_ok Try.func56 (by kernel_rfl) (by kernel_rfl) rfl (by kernel_rfl) (allAt_zero (Q := fun k c => LoopOK Try.prog G 20 (P_r10_ok k) c) (allAt_of [] (by kernel_rfl) allAt_n)) q_r10_ok
/-! ### overlay/overlayref10.Room -/
def I_r10_Room : Ab.Spec := ⟨[(0, .agg [.int .i64, .int .i64, .int .i64, .int .i64, .flt .f64, .flt .f64, .flt .f64, .ro 100]), (1, .agg [.ro 3, .ro 4, .ro 4, .ro 98])], [], []⟩
def E_r10_Room : List (Ex × Ab.Spec) := [(.ret, ⟨[(4, .one (.bool))], [], []⟩)]
def J_r10_Room : Nat → Option (List (Ex × Ab.Spec)) := fun n => get [(1048577, [(.normal, ⟨[(4, .one (.bool))], [], []⟩)])] n
noncomputable def T_r10_Room : List (Nat × Fe G) := [(57, e_r10_IsImage)]
noncomputable def P_r10_Room : Nat → St G → M (Ex × St G) := fun _ _ => M.fail
theorem tT_r10_Room : ∀ p ∈ T_r10_Room, FnOK Try.prog G p.1 p.2 := List.forall_mem_cons.2 ⟨ok_r10_IsImage, (fun _ h => absurd h (List.not_mem_nil))⟩
theorem q_r10_Room (x : I_r10_Room.T G) : endI (cfP T_r10_Room) P_r10_Room J_r10_Room 23 (bodyOf Try.f60) I_r10_Room E_r10_Room x = F_r10_Room x.1.1.1 x.1.1.2.1 x.1.1.2.2.1 x.1.1.2.2.2.1 x.1.1.2.2.2.2.1 x.1.1.2.2.2.2.2.1 x.1.1.2.2.2.2.2.2.1 x.1.1.2.2.2.2.2.2.2.1 x.1.2.1.1 x.1.2.1.2.1 x.1.2.1.2.2.1 x.1.2.1.2.2.2.1 := by kernel_rfl
noncomputable def e_r10_Room : Fe G := ⟨I_r10_Room, E_r10_Room, fun x => F_r10_Room x.1.1.1 x.1.1.2.1 x.1.1.2.2.1 x.1.1.2.2.2.1 x.1.1.2.2.2.2.1 x.1.1.2.2.2.2.2.1 x.1.1.2.2.2.2.2.2.1 x.1.1.2.2.2.2.2.2.2.1 x.1.2.1.1 x.1.2.1.2.1 x.1.2.1.2.2.1 x.1.2.1.2.2.2.1, Try.f60.results.toList⟩
theorem ok_r10_Room : FnOK Try.prog G 60 e_r10_Room := fn_ok (e := e_r10_Room) sigOK eqOK hmix tT_r10_Room Try.func60 (by kernel_rfl) (by kernel_rfl) rfl (by kernel_rfl) (allAt_zero (Q := fun k c => LoopOK Try.prog G 23 (P_r10_Room k) c) (allAt_of [] (by kernel_rfl) allAt_n)) q_r10_Room
/-! ### overlay/overlayref08.Current -/
def I_r08_Current : Ab.Spec := ⟨[(0, .agg [.str, .str, .int .i64])], [], []⟩
def E_r08_Current : List (Ex × Ab.Spec) := [(.ret, ⟨[(2, .one (.str))], [], []⟩)]
def J_r08_Current : Nat → Option (List (Ex × Ab.Spec)) := fun n => get [] n
noncomputable def T_r08_Current : List (Nat × Fe G) := []
noncomputable def P_r08_Current : Nat → St G → M (Ex × St G) := fun _ _ => M.fail
theorem tT_r08_Current : ∀ p ∈ T_r08_Current, FnOK Try.prog G p.1 p.2 := (fun _ h => absurd h (List.not_mem_nil))
theorem q_r08_Current (x : I_r08_Current.T G) : endI (cfP T_r08_Current) P_r08_Current J_r08_Current 12 (bodyOf Try.f61) I_r08_Current E_r08_Current x = F_r08_Current x.1.1.1 x.1.1.2.1 x.1.1.2.2.1 := by kernel_rfl
noncomputable def e_r08_Current : Fe G := ⟨I_r08_Current, E_r08_Current, fun x => F_r08_Current x.1.1.1 x.1.1.2.1 x.1.1.2.2.1, Try.f61.results.toList⟩
theorem ok_r08_Current : FnOK Try.prog G 61 e_r08_Current := fn_ok (e := e_r08_Current) sigOK eqOK hmix tT_r08_Current Try.func61 (by kernel_rfl) (by kernel_rfl) rfl (by kernel_rfl) (allAt_zero (Q := fun k c => LoopOK Try.prog G 12 (P_r08_Current k) c) (allAt_of [] (by kernel_rfl) allAt_n)) q_r08_Current
/-! ### overlay/overlayref08.check -/
def I_r08_check : Ab.Spec := ⟨[(0, .one (.int .i64)), (1, .agg [.str, .str, .int .i64]), (2, .one (.int .i64)), (3, .one (.int .i64))], [], []⟩
def E_r08_check : List (Ex × Ab.Spec) := [(.ret, ⟨[(8, .one (.int .i64))], [], []⟩)]
def J_r08_check : Nat → Option (List (Ex × Ab.Spec)) := fun n => get [(1048579, [(.normal, ⟨[(22, .one (.bool))], [], []⟩)])] n
noncomputable def T_r08_check : List (Nat × Fe G) := [(42, e_r08_IsStore)]
noncomputable def P_r08_check : Nat → St G → M (Ex × St G) := fun _ _ => M.fail
theorem tT_r08_check : ∀ p ∈ T_r08_check, FnOK Try.prog G p.1 p.2 := List.forall_mem_cons.2 ⟨ok_r08_IsStore, (fun _ h => absurd h (List.not_mem_nil))⟩
theorem q_r08_check (x : I_r08_check.T G) : endI (cfP T_r08_check) P_r08_check J_r08_check 23 (bodyOf Try.f111) I_r08_check E_r08_check x = F_r08_check x.1.1 x.1.2.1.1 x.1.2.1.2.1 x.1.2.1.2.2.1 x.1.2.2.1 x.1.2.2.2.1 := by kernel_rfl
noncomputable def e_r08_check : Fe G := ⟨I_r08_check, E_r08_check, fun x => F_r08_check x.1.1 x.1.2.1.1 x.1.2.1.2.1 x.1.2.1.2.2.1 x.1.2.2.1 x.1.2.2.2.1, Try.f111.results.toList⟩
theorem ok_r08_check : FnOK Try.prog G 111 e_r08_check := fn_ok (e := e_r08_check) sigOK eqOK hmix tT_r08_check Try.func111 (by kernel_rfl) (by kernel_rfl) rfl (by kernel_rfl) (allAt_zero (Q := fun k c => LoopOK Try.prog G 23 (P_r08_check k) c) (allAt_of [] (by kernel_rfl) allAt_n)) q_r08_check
/-! ### overlay/overlayref08.Write -/
def I_r08_Write : Ab.Spec := ⟨[(0, .one (.int .i64)), (1, .agg [.str, .str, .int .i64]), (2, .one (.int .i64)), (3, .one (.str)), (4, .one (.int .i64))], [], []⟩
def E_r08_Write : List (Ex × Ab.Spec) := [(.ret, ⟨[(10, .one (.ptr 160 0)), (11, .one (.int .i64)), (12, .one (.int .i64))], [(160, [.str, .str, .int .i64])], []⟩)]
def J_r08_Write : Nat → Option (List (Ex × Ab.Spec)) := fun n => get [] n
noncomputable def T_r08_Write : List (Nat × Fe G) := [(111, e_r08_check)]
def S_r08_Write_0 : Ab.Spec := ⟨[(2, .one (.int .i64)), (3, .one (.str)), (4, .one (.int .i64)), (6, .one (.ptr 96 0)), (10, .one (.ptr 160 0)), (14, .one (.int .i64))], [(96, [.str, .str, .int .i64]), (160, [.str, .str, .int .i64])], []⟩
def X_r08_Write_0 : List (Ex × Ab.Spec) := [(.exit 0, ⟨[(4, .one (.int .i64)), (6, .one (.ptr 96 0)), (10, .one (.ptr 160 0))], [(96, [.str, .str, .int .i64]), (160, [.str, .str, .int .i64])], []⟩), (.ret, ⟨[(10, .one (.ptr 160 0)), (11, .one (.int .i64)), (12, .one (.int .i64))], [(160, [.str, .str, .int .i64])], []⟩)]
noncomputable def P_r08_Write : Nat → St G → M (Ex × St G) := fun n => bif Nat.beq n 0 then lpX S_r08_Write_0 X_r08_Write_0 L_r08_Write_0 else fun _ => M.fail
theorem tT_r08_Write : ∀ p ∈ T_r08_Write, FnOK Try.prog G p.1 p.2 := List.forall_mem_cons.2 ⟨ok_r08_check, (fun _ h => absurd h (List.not_mem_nil))⟩
theorem r_r08_Write_0 (x : S_r08_Write_0.T G) : rndI (cfP T_r08_Write) P_r08_Write J_r08_Write 61 1 (loopOf (bodyOf Try.f62) 0) S_r08_Write_0 X_r08_Write_0 x = R_r08_Write_0 x.1.1 x.1.2.1 x.1.2.2.1 x.1.2.2.2.2.2.1 x.2.1.1 x.2.1.2.1 x.2.1.2.2.1 x.2.2.1.1 x.2.2.1.2.1 x.2.2.1.2.2.1 := by kernel_rfl
theorem lk_r08_Write_0 : LoopOK Try.prog G 61 (P_r08_Write 0) (loopOf (bodyOf Try.f62) 0) := loop_ok (lp := P_r08_Write) (n := 1) (k := 0) sigOK eqOK hmix tT_r08_Write S_r08_Write_0 X_r08_Write_0 (fun x => R_r08_Write_0 x.1.1 x.1.2.1 x.1.2.2.1 x.1.2.2.2.2.2.1 x.2.1.1 x.2.1.2.1 x.2.1.2.2.1 x.2.2.1.1 x.2.2.1.2.1 x.2.2.1.2.2.1) (by kernel_rfl) (show AllAt (fun k c => LoopOK Try.prog G 61 (P_r08_Write k) c) 1 _ from (allAt_of [] (by kernel_rfl) allAt_n)) r_r08_Write_0
theorem q_r08_Write (x : I_r08_Write.T G) : endI (cfP T_r08_Write) P_r08_Write J_r08_Write 61 (bodyOf Try.f62) I_r08_Write E_r08_Write x = F_r08_Write x.1.1 x.1.2.1.1 x.1.2.1.2.1 x.1.2.1.2.2.1 x.1.2.2.1 x.1.2.2.2.1 x.1.2.2.2.2.1 := by kernel_rfl
noncomputable def e_r08_Write : Fe G := ⟨I_r08_Write, E_r08_Write, fun x => F_r08_Write x.1.1 x.1.2.1.1 x.1.2.1.2.1 x.1.2.1.2.2.1 x.1.2.2.1 x.1.2.2.2.1 x.1.2.2.2.2.1, Try.f62.results.toList⟩
theorem ok_r08_Write : FnOK Try.prog G 62 e_r08_Write := fn_ok (e := e_r08_Write) sigOK eqOK hmix tT_r08_Write Try.func62 (by kernel_rfl) (by kernel_rfl) rfl (by kernel_rfl) (allAt_zero (Q := fun k c => LoopOK Try.prog G 61 (P_r08_Write k) c) (allAt_of [loopOf (bodyOf Try.f62) 0] (by kernel_rfl) (allAt_c lk_r08_Write_0 allAt_n))) q_r08_Write
/-! ### overlay/overlayref08.Erase -/
def I_r08_Erase : Ab.Spec := ⟨[(0, .one (.int .i64)), (1, .agg [.str, .str, .int .i64]), (2, .one (.int .i64)), (3, .one (.int .i64))], [], []⟩
def E_r08_Erase : List (Ex × Ab.Spec) := [(.ret, ⟨[(8, .one (.ptr 128 0)), (9, .one (.int .i64)), (10, .one (.int .i64))], [(128, [.str, .str, .int .i64])], []⟩)]
def J_r08_Erase : Nat → Option (List (Ex × Ab.Spec)) := fun n => get [] n
noncomputable def T_r08_Erase : List (Nat × Fe G) := [(111, e_r08_check)]
noncomputable def P_r08_Erase : Nat → St G → M (Ex × St G) := fun _ _ => M.fail
theorem tT_r08_Erase : ∀ p ∈ T_r08_Erase, FnOK Try.prog G p.1 p.2 := List.forall_mem_cons.2 ⟨ok_r08_check, (fun _ h => absurd h (List.not_mem_nil))⟩
theorem q_r08_Erase (x : I_r08_Erase.T G) : endI (cfP T_r08_Erase) P_r08_Erase J_r08_Erase 30 (bodyOf Try.f69) I_r08_Erase E_r08_Erase x = F_r08_Erase x.1.1 x.1.2.1.1 x.1.2.1.2.1 x.1.2.1.2.2.1 x.1.2.2.1 x.1.2.2.2.1 := by kernel_rfl
noncomputable def e_r08_Erase : Fe G := ⟨I_r08_Erase, E_r08_Erase, fun x => F_r08_Erase x.1.1 x.1.2.1.1 x.1.2.1.2.1 x.1.2.1.2.2.1 x.1.2.2.1 x.1.2.2.2.1, Try.f69.results.toList⟩
theorem ok_r08_Erase : FnOK Try.prog G 69 e_r08_Erase := fn_ok (e := e_r08_Erase) sigOK eqOK hmix tT_r08_Erase Try.func69 (by kernel_rfl) (by kernel_rfl) rfl (by kernel_rfl) (allAt_zero (Q := fun k c => LoopOK Try.prog G 30 (P_r08_Erase k) c) (allAt_of [] (by kernel_rfl) allAt_n)) q_r08_Erase
/-! ### overlay/overlayref10.one -/
def I_r10_one : Ab.Spec := ⟨[(0, .one (.bool))], [], []⟩
def E_r10_one : List (Ex × Ab.Spec) := [(.ret, ⟨[(2, .one (.int .i64))], [], []⟩)]
def J_r10_one : Nat → Option (List (Ex × Ab.Spec)) := fun n => get [] n
noncomputable def T_r10_one : List (Nat × Fe G) := []
noncomputable def P_r10_one : Nat → St G → M (Ex × St G) := fun _ _ => M.fail
theorem tT_r10_one : ∀ p ∈ T_r10_one, FnOK Try.prog G p.1 p.2 := (fun _ h => absurd h (List.not_mem_nil))
theorem q_r10_one (x : I_r10_one.T G) : endI (cfP T_r10_one) P_r10_one J_r10_one 4 (bodyOf Try.f81) I_r10_one E_r10_one x = F_r10_one x.1.1 := by kernel_rfl
noncomputable def e_r10_one : Fe G := ⟨I_r10_one, E_r10_one, fun x => F_r10_one x.1.1, Try.f81.results.toList⟩
theorem ok_r10_one : FnOK Try.prog G 81 e_r10_one := fn_ok (e := e_r10_one) sigOK eqOK hmix tT_r10_one Try.func81 (by kernel_rfl) (by kernel_rfl) rfl (by kernel_rfl) (allAt_zero (Q := fun k c => LoopOK Try.prog G 4 (P_r10_one k) c) (allAt_of [] (by kernel_rfl) allAt_n)) q_r10_one
/-! ### overlay/overlayref10.Snapshot -/
def I_r10_Snapshot : Ab.Spec := ⟨[(0, .agg [.int .i64, .int .i64, .int .i64, .int .i64, .flt .f64, .flt .f64, .flt .f64, .ro 100]), (1, .agg [.ro 3, .ro 4, .ro 4, .ro 98])], [], []⟩
def E_r10_Snapshot : List (Ex × Ab.Spec) := [(.ret, ⟨[(4, .one (.own 32768 56))], [], []⟩)]
def J_r10_Snapshot : Nat → Option (List (Ex × Ab.Spec)) := fun n => get [] n
noncomputable def T_r10_Snapshot : List (Nat × Fe G) := [(57, e_r10_IsImage), (81, e_r10_one)]
def S_r10_Snapshot_0 : Ab.Spec := ⟨[(3, .one (.ptr 48 0)), (5, .one (.own 32768 56)), (6, .one (.int .i64))], [(48, [.ro 3, .ro 4, .ro 4, .ro 98])], []⟩
def X_r10_Snapshot_0 : List (Ex × Ab.Spec) := [(.exit 0, ⟨[(3, .one (.ptr 48 0)), (5, .one (.own 32768 56))], [(48, [.ro 3, .ro 4, .ro 4, .ro 98])], []⟩)]
def S_r10_Snapshot_1 : Ab.Spec := ⟨[(3, .one (.ptr 48 0)), (5, .one (.own 32768 56)), (7, .one (.int .i64))], [(48, [.ro 3, .ro 4, .ro 4, .ro 98])], []⟩
def X_r10_Snapshot_1 : List (Ex × Ab.Spec) := [(.exit 2, ⟨[(5, .one (.own 32768 56))], [], []⟩)]
noncomputable def P_r10_Snapshot : Nat → St G → M (Ex × St G) := fun n => bif Nat.beq n 0 then lpX S_r10_Snapshot_0 X_r10_Snapshot_0 L_r10_Snapshot_0 else bif Nat.beq n 1 then lpX S_r10_Snapshot_1 X_r10_Snapshot_1 L_r10_Snapshot_1 else fun _ => M.fail
theorem tT_r10_Snapshot : ∀ p ∈ T_r10_Snapshot, FnOK Try.prog G p.1 p.2 := List.forall_mem_cons.2 ⟨ok_r10_IsImage, List.forall_mem_cons.2 ⟨ok_r10_one, (fun _ h => absurd h (List.not_mem_nil))⟩⟩
theorem r_r10_Snapshot_1 (x : S_r10_Snapshot_1.T G) : rndI (cfP T_r10_Snapshot) P_r10_Snapshot J_r10_Snapshot 84 2 (loopOf (bodyOf Try.f33) 1) S_r10_Snapshot_1 X_r10_Snapshot_1 x = R_r10_Snapshot_1 x.1.2.1 x.1.2.2.1 x.2.1.1 x.2.1.2.1 x.2.1.2.2.1 x.2.1.2.2.2.1 := by kernel_rfl
theorem lk_r10_Snapshot_1 : LoopOK Try.prog G 84 (P_r10_Snapshot 1) (loopOf (bodyOf Try.f33) 1) := loop_ok (lp := P_r10_Snapshot) (n := 2) (k := 1) sigOK eqOK hmix tT_r10_Snapshot S_r10_Snapshot_1 X_r10_Snapshot_1 (fun x => R_r10_Snapshot_1 x.1.2.1 x.1.2.2.1 x.2.1.1 x.2.1.2.1 x.2.1.2.2.1 x.2.1.2.2.2.1) (by kernel_rfl) (show AllAt (fun k c => LoopOK Try.prog G 84 (P_r10_Snapshot k) c) 2 _ from (allAt_of [] (by kernel_rfl) allAt_n)) r_r10_Snapshot_1
theorem r_r10_Snapshot_0 (x : S_r10_Snapshot_0.T G) : rndI (cfP T_r10_Snapshot) P_r10_Snapshot J_r10_Snapshot 84 1 (loopOf (bodyOf Try.f33) 0) S_r10_Snapshot_0 X_r10_Snapshot_0 x = R_r10_Snapshot_0 x.1.2.1 x.1.2.2.1 x.2.1.1 x.2.1.2.1 x.2.1.2.2.1 x.2.1.2.2.2.1 := by kernel_rfl
theorem lk_r10_Snapshot_0 : LoopOK Try.prog G 84 (P_r10_Snapshot 0) (loopOf (bodyOf Try.f33) 0) := loop_ok (lp := P_r10_Snapshot) (n := 1) (k := 0) sigOK eqOK hmix tT_r10_Snapshot S_r10_Snapshot_0 X_r10_Snapshot_0 (fun x => R_r10_Snapshot_0 x.1.2.1 x.1.2.2.1 x.2.1.1 x.2.1.2.1 x.2.1.2.2.1 x.2.1.2.2.2.1) (by kernel_rfl) (show AllAt (fun k c => LoopOK Try.prog G 84 (P_r10_Snapshot k) c) 1 _ from (allAt_of [] (by kernel_rfl) allAt_n)) r_r10_Snapshot_0
theorem q_r10_Snapshot (x : I_r10_Snapshot.T G) : endI (cfP T_r10_Snapshot) P_r10_Snapshot J_r10_Snapshot 84 (bodyOf Try.f33) I_r10_Snapshot E_r10_Snapshot x = F_r10_Snapshot x.1.1.1 x.1.1.2.1 x.1.1.2.2.1 x.1.1.2.2.2.1 x.1.1.2.2.2.2.1 x.1.1.2.2.2.2.2.1 x.1.1.2.2.2.2.2.2.1 x.1.1.2.2.2.2.2.2.2.1 x.1.2.1.1 x.1.2.1.2.1 x.1.2.1.2.2.1 x.1.2.1.2.2.2.1 := by kernel_rfl
noncomputable def e_r10_Snapshot : Fe G := ⟨I_r10_Snapshot, E_r10_Snapshot, fun x => F_r10_Snapshot x.1.1.1 x.1.1.2.1 x.1.1.2.2.1 x.1.1.2.2.2.1 x.1.1.2.2.2.2.1 x.1.1.2.2.2.2.2.1 x.1.1.2.2.2.2.2.2.1 x.1.1.2.2.2.2.2.2.2.1 x.1.2.1.1 x.1.2.1.2.1 x.1.2.1.2.2.1 x.1.2.1.2.2.2.1, Try.f33.results.toList⟩
theorem ok_r10_Snapshot : FnOK Try.prog G 33 e_r10_Snapshot := fn_ok (e := e_r10_Snapshot) sigOK eqOK hmix tT_r10_Snapshot Try.func33 (by kernel_rfl) (by kernel_rfl) rfl (by kernel_rfl) (allAt_zero (Q := fun k c => LoopOK Try.prog G 84 (P_r10_Snapshot k) c) (allAt_of [loopOf (bodyOf Try.f33) 0, loopOf (bodyOf Try.f33) 1] (by kernel_rfl) (allAt_c lk_r10_Snapshot_0 (allAt_c lk_r10_Snapshot_1 allAt_n)))) q_r10_Snapshot
/-! ### overlay/overlayref08.Choose -/
def I_r08_Choose : Ab.Spec := ⟨[(0, .one (.int .i64)), (1, .agg [.str, .str, .int .i64]), (2, .one (.int .i64)), (3, .one (.int .i64))], [], []⟩
def E_r08_Choose : List (Ex × Ab.Spec) := [(.ret, ⟨[(8, .one (.ptr 128 0)), (9, .one (.int .i64)), (10, .one (.int .i64))], [(128, [.str, .str, .int .i64])], []⟩)]
def J_r08_Choose : Nat → Option (List (Ex × Ab.Spec)) := fun n => get [] n
noncomputable def T_r08_Choose : List (Nat × Fe G) := [(111, e_r08_check)]
noncomputable def P_r08_Choose : Nat → St G → M (Ex × St G) := fun _ _ => M.fail
theorem tT_r08_Choose : ∀ p ∈ T_r08_Choose, FnOK Try.prog G p.1 p.2 := List.forall_mem_cons.2 ⟨ok_r08_check, (fun _ h => absurd h (List.not_mem_nil))⟩
theorem q_r08_Choose (x : I_r08_Choose.T G) : endI (cfP T_r08_Choose) P_r08_Choose J_r08_Choose 29 (bodyOf Try.f70) I_r08_Choose E_r08_Choose x = F_r08_Choose x.1.1 x.1.2.1.1 x.1.2.1.2.1 x.1.2.1.2.2.1 x.1.2.2.1 x.1.2.2.2.1 := by kernel_rfl
noncomputable def e_r08_Choose : Fe G := ⟨I_r08_Choose, E_r08_Choose, fun x => F_r08_Choose x.1.1 x.1.2.1.1 x.1.2.1.2.1 x.1.2.1.2.2.1 x.1.2.2.1 x.1.2.2.2.1, Try.f70.results.toList⟩
theorem ok_r08_Choose : FnOK Try.prog G 70 e_r08_Choose := fn_ok (e := e_r08_Choose) sigOK eqOK hmix tT_r08_Choose Try.func70 (by kernel_rfl) (by kernel_rfl) rfl (by kernel_rfl) (allAt_zero (Q := fun k c => LoopOK Try.prog G 29 (P_r08_Choose k) c) (allAt_of [] (by kernel_rfl) allAt_n)) q_r08_Choose
/-! ### overlay/overlayref10.Compact -/
def I_r10_Compact : Ab.Spec := ⟨[(0, .agg [.int .i64, .int .i64, .int .i64, .int .i64, .flt .f64, .flt .f64, .flt .f64, .ro 100]), (1, .agg [.str, .str, .int .i64]), (2, .agg [.ro 3, .ro 4, .ro 4, .ro 98]), (3, .one (.int .i64))], [], []⟩
def E_r10_Compact : List (Ex × Ab.Spec) := [(.ret, ⟨[(8, .one (.ptr 128 0)), (9, .one (.int .i64)), (10, .one (.int .i64))], [(128, [.str, .str, .int .i64])], []⟩)]
def J_r10_Compact : Nat → Option (List (Ex × Ab.Spec)) := fun n => get [] n
noncomputable def T_r10_Compact : List (Nat × Fe G) := [(56, e_r10_ok), (57, e_r10_IsImage), (69, e_r08_Erase), (33, e_r10_Snapshot), (19, e_r10_Bytes), (62, e_r08_Write), (70, e_r08_Choose)]
noncomputable def P_r10_Compact : Nat → St G → M (Ex × St G) := fun _ _ => M.fail
theorem tT_r10_Compact : ∀ p ∈ T_r10_Compact, FnOK Try.prog G p.1 p.2 := List.forall_mem_cons.2 ⟨ok_r10_ok, List.forall_mem_cons.2 ⟨ok_r10_IsImage, List.forall_mem_cons.2 ⟨ok_r08_Erase, List.forall_mem_cons.2 ⟨ok_r10_Snapshot, List.forall_mem_cons.2 ⟨ok_r10_Bytes, List.forall_mem_cons.2 ⟨ok_r08_Write, List.forall_mem_cons.2 ⟨ok_r08_Choose, (fun _ h => absurd h (List.not_mem_nil))⟩⟩⟩⟩⟩⟩⟩
theorem q_r10_Compact (x : I_r10_Compact.T G) : endI (cfP T_r10_Compact) P_r10_Compact J_r10_Compact 70 (bodyOf Try.f24) I_r10_Compact E_r10_Compact x = F_r10_Compact x.1.1.1 x.1.1.2.1 x.1.1.2.2.1 x.1.1.2.2.2.1 x.1.1.2.2.2.2.1 x.1.1.2.2.2.2.2.1 x.1.1.2.2.2.2.2.2.1 x.1.1.2.2.2.2.2.2.2.1 x.1.2.1.1 x.1.2.1.2.1 x.1.2.1.2.2.1 x.1.2.2.1.1 x.1.2.2.1.2.1 x.1.2.2.1.2.2.1 x.1.2.2.1.2.2.2.1 x.1.2.2.2.1 := by kernel_rfl
noncomputable def e_r10_Compact : Fe G := ⟨I_r10_Compact, E_r10_Compact, fun x => F_r10_Compact x.1.1.1 x.1.1.2.1 x.1.1.2.2.1 x.1.1.2.2.2.1 x.1.1.2.2.2.2.1 x.1.1.2.2.2.2.2.1 x.1.1.2.2.2.2.2.2.1 x.1.1.2.2.2.2.2.2.2.1 x.1.2.1.1 x.1.2.1.2.1 x.1.2.1.2.2.1 x.1.2.2.1.1 x.1.2.2.1.2.1 x.1.2.2.1.2.2.1 x.1.2.2.1.2.2.2.1 x.1.2.2.2.1, Try.f24.results.toList⟩
theorem ok_r10_Compact : FnOK Try.prog G 24 e_r10_Compact := fn_ok (e := e_r10_Compact) sigOK eqOK hmix tT_r10_Compact Try.func24 (by kernel_rfl) (by kernel_rfl) rfl (by kernel_rfl) (allAt_zero (Q := fun k c => LoopOK Try.prog G 70 (P_r10_Compact k) c) (allAt_of [] (by kernel_rfl) allAt_n)) q_r10_Compact
/-! ### overlay/overlayref10.Append -/
def I_r10_Append : Ab.Spec := ⟨[(0, .agg [.int .i64, .int .i64, .int .i64, .int .i64, .flt .f64, .flt .f64, .flt .f64, .ro 100]), (1, .agg [.str, .str, .int .i64]), (2, .agg [.ro 3, .ro 4, .ro 4, .ro 98]), (3, .agg [.int .i64, .int .i64, .int .i64, .int .i64, .int .i64]), (4, .one (.int .i64))], [], []⟩
def E_r10_Append : List (Ex × Ab.Spec) := [(.ret, ⟨[(10, .one (.ptr 160 0)), (11, .one (.ptr 176 0)), (12, .one (.int .i64)), (13, .one (.int .i64))], [(160, [.str, .str, .int .i64]), (176, [.ro 3, .ro 4, .ro 4, .ro 98])], []⟩)]
def J_r10_Append : Nat → Option (List (Ex × Ab.Spec)) := fun n => get [(11, [(.normal, ⟨[(4, .one (.int .i64)), (6, .one (.ptr 96 0)), (7, .one (.ptr 112 0)), (10, .one (.ptr 160 0)), (11, .one (.ptr 176 0)), (14, .one (.ptr 224 0)), (16, .one (.int .i64))], [(96, [.str, .str, .int .i64]), (112, [.ro 3, .ro 4, .ro 4, .ro 98]), (160, [.str, .str, .int .i64]), (176, [.own 32768 3, .own 32769 4, .own 32770 4, .own 32771 98]), (224, [.own 32772 3, .own 32773 4, .own 32774 4, .own 32775 98])], []⟩)]), (1048579, [(.normal, ⟨[(4, .one (.int .i64)), (5, .one (.ptr 80 0)), (6, .one (.ptr 96 0)), (7, .one (.ptr 112 0)), (8, .one (.ptr 128 0)), (10, .one (.ptr 160 0)), (11, .one (.ptr 176 0)), (53, .one (.bool))], [(80, [.int .i64, .int .i64, .int .i64, .int .i64, .flt .f64, .flt .f64, .flt .f64, .ro 100]), (96, [.str, .str, .int .i64]), (112, [.ro 3, .ro 4, .ro 4, .ro 98]), (128, [.int .i64, .int .i64, .int .i64, .int .i64, .int .i64]), (160, [.str, .str, .int .i64]), (176, [.own 32768 3, .own 32769 4, .own 32770 4, .own 32771 98])], []⟩)])] n
noncomputable def T_r10_Append : List (Nat × Fe G) := [(56, e_r10_ok), (57, e_r10_IsImage), (58, e_r09_Valid), (59, e_r10_Find), (60, e_r10_Room), (30, e_r10_Apply), (61, e_r08_Current), (19, e_r10_Bytes), (62, e_r08_Write), (24, e_r10_Compact)]
noncomputable def P_r10_Append : Nat → St G → M (Ex × St G) := fun _ _ => M.fail
theorem tT_r10_Append : ∀ p ∈ T_r10_Append, FnOK Try.prog G p.1 p.2 := List.forall_mem_cons.2 ⟨ok_r10_ok, List.forall_mem_cons.2 ⟨ok_r10_IsImage, List.forall_mem_cons.2 ⟨ok_r09_Valid, List.forall_mem_cons.2 ⟨ok_r10_Find, List.forall_mem_cons.2 ⟨ok_r10_Room, List.forall_mem_cons.2 ⟨ok_r10_Apply, List.forall_mem_cons.2 ⟨ok_r08_Current, List.forall_mem_cons.2 ⟨ok_r10_Bytes, List.forall_mem_cons.2 ⟨ok_r08_Write, List.forall_mem_cons.2 ⟨ok_r10_Compact, (fun _ h => absurd h (List.not_mem_nil))⟩⟩⟩⟩⟩⟩⟩⟩⟩⟩
theorem q_r10_Append (x : I_r10_Append.T G) : endI (cfP T_r10_Append) P_r10_Append J_r10_Append 108 (bodyOf Try.f21) I_r10_Append E_r10_Append x = F_r10_Append x.1.1.1 x.1.1.2.1 x.1.1.2.2.1 x.1.1.2.2.2.1 x.1.1.2.2.2.2.1 x.1.1.2.2.2.2.2.1 x.1.1.2.2.2.2.2.2.1 x.1.1.2.2.2.2.2.2.2.1 x.1.2.1.1 x.1.2.1.2.1 x.1.2.1.2.2.1 x.1.2.2.1.1 x.1.2.2.1.2.1 x.1.2.2.1.2.2.1 x.1.2.2.1.2.2.2.1 x.1.2.2.2.1.1 x.1.2.2.2.1.2.1 x.1.2.2.2.1.2.2.1 x.1.2.2.2.1.2.2.2.1 x.1.2.2.2.1.2.2.2.2.1 x.1.2.2.2.2.1 := by kernel_rfl
noncomputable def e_r10_Append : Fe G := ⟨I_r10_Append, E_r10_Append, fun x => F_r10_Append x.1.1.1 x.1.1.2.1 x.1.1.2.2.1 x.1.1.2.2.2.1 x.1.1.2.2.2.2.1 x.1.1.2.2.2.2.2.1 x.1.1.2.2.2.2.2.2.1 x.1.1.2.2.2.2.2.2.2.1 x.1.2.1.1 x.1.2.1.2.1 x.1.2.1.2.2.1 x.1.2.2.1.1 x.1.2.2.1.2.1 x.1.2.2.1.2.2.1 x.1.2.2.1.2.2.2.1 x.1.2.2.2.1.1 x.1.2.2.2.1.2.1 x.1.2.2.2.1.2.2.1 x.1.2.2.2.1.2.2.2.1 x.1.2.2.2.1.2.2.2.2.1 x.1.2.2.2.2.1, Try.f21.results.toList⟩
theorem ok_r10_Append : FnOK Try.prog G 21 e_r10_Append := fn_ok (e := e_r10_Append) sigOK eqOK hmix tT_r10_Append Try.func21 (by kernel_rfl) (by kernel_rfl) rfl (by kernel_rfl) (allAt_zero (Q := fun k c => LoopOK Try.prog G 108 (P_r10_Append k) c) (allAt_of [] (by kernel_rfl) allAt_n)) q_r10_Append
/-! ### overlay/overlayref10.Same -/
def I_r10_Same : Ab.Spec := ⟨[(0, .agg [.ro 3, .ro 4, .ro 4, .ro 98]), (1, .agg [.ro 3, .ro 4, .ro 4, .ro 98])], [], []⟩
def E_r10_Same : List (Ex × Ab.Spec) := [(.ret, ⟨[(4, .one (.bool))], [], []⟩)]
def J_r10_Same : Nat → Option (List (Ex × Ab.Spec)) := fun n => get [] n
noncomputable def T_r10_Same : List (Nat × Fe G) := []
def S_r10_Same_0 : Ab.Spec := ⟨[(2, .one (.ptr 32 0)), (3, .one (.ptr 48 0)), (5, .one (.int .i64))], [(32, [.ro 3, .ro 4, .ro 4, .ro 98]), (48, [.ro 3, .ro 4, .ro 4, .ro 98])], []⟩
def X_r10_Same_0 : List (Ex × Ab.Spec) := [(.exit 0, ⟨[(2, .one (.ptr 32 0)), (3, .one (.ptr 48 0))], [(32, [.ro 3, .ro 4, .ro 4, .ro 98]), (48, [.ro 3, .ro 4, .ro 4, .ro 98])], []⟩), (.ret, ⟨[(4, .one (.bool))], [], []⟩)]
def S_r10_Same_1 : Ab.Spec := ⟨[(2, .one (.ptr 32 0)), (3, .one (.ptr 48 0)), (6, .one (.int .i64))], [(32, [.ro 3, .ro 4, .ro 4, .ro 98]), (48, [.ro 3, .ro 4, .ro 4, .ro 98])], []⟩
def X_r10_Same_1 : List (Ex × Ab.Spec) := [(.exit 2, ⟨[(2, .one (.ptr 32 0)), (3, .one (.ptr 48 0))], [(32, [.ro 3, .ro 4, .ro 4, .ro 98]), (48, [.ro 3, .ro 4, .ro 4, .ro 98])], []⟩), (.ret, ⟨[(4, .one (.bool))], [], []⟩)]
def S_r10_Same_2 : Ab.Spec := ⟨[(2, .one (.ptr 32 0)), (3, .one (.ptr 48 0)), (7, .one (.int .i64))], [(32, [.ro 3, .ro 4, .ro 4, .ro 98]), (48, [.ro 3, .ro 4, .ro 4, .ro 98])], []⟩
def X_r10_Same_2 : List (Ex × Ab.Spec) := [(.exit 4, ⟨[(2, .one (.ptr 32 0)), (3, .one (.ptr 48 0))], [(32, [.ro 3, .ro 4, .ro 4, .ro 98]), (48, [.ro 3, .ro 4, .ro 4, .ro 98])], []⟩), (.ret, ⟨[(4, .one (.bool))], [], []⟩)]
def S_r10_Same_3 : Ab.Spec := ⟨[(2, .one (.ptr 32 0)), (3, .one (.ptr 48 0)), (8, .one (.int .i64))], [(32, [.ro 3, .ro 4, .ro 4, .ro 98]), (48, [.ro 3, .ro 4, .ro 4, .ro 98])], []⟩
def X_r10_Same_3 : List (Ex × Ab.Spec) := [(.exit 6, ⟨[], [], []⟩), (.ret, ⟨[(4, .one (.bool))], [], []⟩)]
noncomputable def P_r10_Same : Nat → St G → M (Ex × St G) := fun n => bif Nat.beq n 0 then lpX S_r10_Same_0 X_r10_Same_0 L_r10_Same_0 else bif Nat.beq n 1 then lpX S_r10_Same_1 X_r10_Same_1 L_r10_Same_1 else bif Nat.beq n 2 then lpX S_r10_Same_2 X_r10_Same_2 L_r10_Same_2 else bif Nat.beq n 3 then lpX S_r10_Same_3 X_r10_Same_3 L_r10_Same_3 else fun _ => M.fail
theorem tT_r10_Same : ∀ p ∈ T_r10_Same, FnOK Try.prog G p.1 p.2 := (fun _ h => absurd h (List.not_mem_nil))
theorem r_r10_Same_3 (x : S_r10_Same_3.T G) : rndI (cfP T_r10_Same) P_r10_Same J_r10_Same 115 4 (loopOf (bodyOf Try.f22) 3) S_r10_Same_3 X_r10_Same_3 x = R_r10_Same_3 x.1.2.2.1 x.2.1.1 x.2.1.2.1 x.2.1.2.2.1 x.2.1.2.2.2.1 x.2.2.1.1 x.2.2.1.2.1 x.2.2.1.2.2.1 x.2.2.1.2.2.2.1 := by kernel_rfl
theorem lk_r10_Same_3 : LoopOK Try.prog G 115 (P_r10_Same 3) (loopOf (bodyOf Try.f22) 3) := loop_ok (lp := P_r10_Same) (n := 4) (k := 3) sigOK eqOK hmix tT_r10_Same S_r10_Same_3 X_r10_Same_3 (fun x => R_r10_Same_3 x.1.2.2.1 x.2.1.1 x.2.1.2.1 x.2.1.2.2.1 x.2.1.2.2.2.1 x.2.2.1.1 x.2.2.1.2.1 x.2.2.1.2.2.1 x.2.2.1.2.2.2.1) (by kernel_rfl) (show AllAt (fun k c => LoopOK Try.prog G 115 (P_r10_Same k) c) 4 _ from (allAt_of [] (by kernel_rfl) allAt_n)) r_r10_Same_3
theorem r_r10_Same_2 (x : S_r10_Same_2.T G) : rndI (cfP T_r10_Same) P_r10_Same J_r10_Same 115 3 (loopOf (bodyOf Try.f22) 2) S_r10_Same_2 X_r10_Same_2 x = R_r10_Same_2 x.1.2.2.1 x.2.1.1 x.2.1.2.1 x.2.1.2.2.1 x.2.1.2.2.2.1 x.2.2.1.1 x.2.2.1.2.1 x.2.2.1.2.2.1 x.2.2.1.2.2.2.1 := by kernel_rfl
theorem lk_r10_Same_2 : LoopOK Try.prog G 115 (P_r10_Same 2) (loopOf (bodyOf Try.f22) 2) := loop_ok (lp := P_r10_Same) (n := 3) (k := 2) sigOK eqOK hmix tT_r10_Same S_r10_Same_2 X_r10_Same_2 (fun x => R_r10_Same_2 x.1.2.2.1 x.2.1.1 x.2.1.2.1 x.2.1.2.2.1 x.2.1.2.2.2.1 x.2.2.1.1 x.2.2.1.2.1 x.2.2.1.2.2.1 x.2.2.1.2.2.2.1) (by kernel_rfl) (show AllAt (fun k c => LoopOK Try.prog G 115 (P_r10_Same k) c) 3 _ from (allAt_of [] (by kernel_rfl) allAt_n)) r_r10_Same_2
theorem r_r10_Same_1 (x : S_r10_Same_1.T G) : rndI (cfP T_r10_Same) P_r10_Same J_r10_Same 115 2 (loopOf (bodyOf Try.f22) 1) S_r10_Same_1 X_r10_Same_1 x = R_r10_Same_1 x.1.2.2.1 x.2.1.1 x.2.1.2.1 x.2.1.2.2.1 x.2.1.2.2.2.1 x.2.2.1.1 x.2.2.1.2.1 x.2.2.1.2.2.1 x.2.2.1.2.2.2.1 := by kernel_rfl
theorem lk_r10_Same_1 : LoopOK Try.prog G 115 (P_r10_Same 1) (loopOf (bodyOf Try.f22) 1) := loop_ok (lp := P_r10_Same) (n := 2) (k := 1) sigOK eqOK hmix tT_r10_Same S_r10_Same_1 X_r10_Same_1 (fun x => R_r10_Same_1 x.1.2.2.1 x.2.1.1 x.2.1.2.1 x.2.1.2.2.1 x.2.1.2.2.2.1 x.2.2.1.1 x.2.2.1.2.1 x.2.2.1.2.2.1 x.2.2.1.2.2.2.1) (by kernel_rfl) (show AllAt (fun k c => LoopOK Try.prog G 115 (P_r10_Same k) c) 2 _ from (allAt_of [] (by kernel_rfl) allAt_n)) r_r10_Same_1
theorem r_r10_Same_0 (x : S_r10_Same_0.T G) : rndI (cfP T_r10_Same) P_r10_Same J_r10_Same 115 1 (loopOf (bodyOf Try.f22) 0) S_r10_Same_0 X_r10_Same_0 x = R_r10_Same_0 x.1.2.2.1 x.2.1.1 x.2.1.2.1 x.2.1.2.2.1 x.2.1.2.2.2.1 x.2.2.1.1 x.2.2.1.2.1 x.2.2.1.2.2.1 x.2.2.1.2.2.2.1 := by kernel_rfl
theorem lk_r10_Same_0 : LoopOK Try.prog G 115 (P_r10_Same 0) (loopOf (bodyOf Try.f22) 0) := loop_ok (lp := P_r10_Same) (n := 1) (k := 0) sigOK eqOK hmix tT_r10_Same S_r10_Same_0 X_r10_Same_0 (fun x => R_r10_Same_0 x.1.2.2.1 x.2.1.1 x.2.1.2.1 x.2.1.2.2.1 x.2.1.2.2.2.1 x.2.2.1.1 x.2.2.1.2.1 x.2.2.1.2.2.1 x.2.2.1.2.2.2.1) (by kernel_rfl) (show AllAt (fun k c => LoopOK Try.prog G 115 (P_r10_Same k) c) 1 _ from (allAt_of [] (by kernel_rfl) allAt_n)) r_r10_Same_0
theorem q_r10_Same (x : I_r10_Same.T G) : endI (cfP T_r10_Same) P_r10_Same J_r10_Same 115 (bodyOf Try.f22) I_r10_Same E_r10_Same x = F_r10_Same x.1.1.1 x.1.1.2.1 x.1.1.2.2.1 x.1.1.2.2.2.1 x.1.2.1.1 x.1.2.1.2.1 x.1.2.1.2.2.1 x.1.2.1.2.2.2.1 := by kernel_rfl
noncomputable def e_r10_Same : Fe G := ⟨I_r10_Same, E_r10_Same, fun x => F_r10_Same x.1.1.1 x.1.1.2.1 x.1.1.2.2.1 x.1.1.2.2.2.1 x.1.2.1.1 x.1.2.1.2.1 x.1.2.1.2.2.1 x.1.2.1.2.2.2.1, Try.f22.results.toList⟩
theorem ok_r10_Same : FnOK Try.prog G 22 e_r10_Same := fn_ok (e := e_r10_Same) sigOK eqOK hmix tT_r10_Same Try.func22 (by kernel_rfl) (by kernel_rfl) rfl (by kernel_rfl) (allAt_zero (Q := fun k c => LoopOK Try.prog G 115 (P_r10_Same k) c) (allAt_of [loopOf (bodyOf Try.f22) 0, loopOf (bodyOf Try.f22) 1, loopOf (bodyOf Try.f22) 2, loopOf (bodyOf Try.f22) 3] (by kernel_rfl) (allAt_c lk_r10_Same_0 (allAt_c lk_r10_Same_1 (allAt_c lk_r10_Same_2 (allAt_c lk_r10_Same_3 allAt_n)))))) q_r10_Same
end Go.Ovl
