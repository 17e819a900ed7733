/- The contracts of the program's functions: part 1. -/
import Derived.Test.YticbfghinhhgiaaDoorSig
import Derived.Test.YticbfghinhhgiaaDoorDefs1
namespace Go.Ovl
open Go Go.Ab Go.Proofs
set_option maxRecDepth 100000
/-! ### overlay/overlaylaw01.Sample -/
def I_l01_Sample : Ab.Spec := ⟨[(0, .one (.int .i64)), (1, .one (.int .i64))], [], []⟩
def E_l01_Sample : List (Ex × Ab.Spec) := [(.ret, ⟨[(4, .one (.ptr 64 0))], [(64, [.int .i64, .int .i64, .int .i64, .int .i64, .flt .f64, .flt .f64, .flt .f64, .own 32768 62])], []⟩)]
def J_l01_Sample : Nat → Option (List (Ex × Ab.Spec)) := fun n => get [] n
noncomputable def T_l01_Sample : List (Nat × Fe G) := []
def S_l01_Sample_0 : Ab.Spec := ⟨[(0, .one (.int .i64)), (1, .one (.int .i64)), (4, .one (.ptr 64 0)), (5, .one (.ptr 80 0)), (6, .one (.int .i64))], [(64, [.int .i64, .int .i64, .int .i64, .int .i64, .flt .f64, .flt .f64, .flt .f64, .own 32768 62]), (80, [.int .i64, .int .i64, .int .i64, .int .i64, .flt .f64, .flt .f64, .flt .f64, .own 32769 62])], []⟩
def X_l01_Sample_0 : List (Ex × Ab.Spec) := [(.exit 0, ⟨[(4, .one (.ptr 64 0)), (5, .one (.ptr 80 0))], [(64, [.int .i64, .int .i64, .int .i64, .int .i64, .flt .f64, .flt .f64, .flt .f64, .own 32768 62]), (80, [.int .i64, .int .i64, .int .i64, .int .i64, .flt .f64, .flt .f64, .flt .f64, .own 32769 62])], []⟩)]
noncomputable def P_l01_Sample : Nat → St G → M (Ex × St G) := fun n => bif Nat.beq n 0 then lpX S_l01_Sample_0 X_l01_Sample_0 L_l01_Sample_0 else fun _ => M.fail
theorem tT_l01_Sample : ∀ p ∈ T_l01_Sample, FnOK Tryd.prog G p.1 p.2 := (fun _ h => absurd h (List.not_mem_nil))
theorem r_l01_Sample_0 (x : S_l01_Sample_0.T G) : rndI (cfP T_l01_Sample) P_l01_Sample J_l01_Sample 24 1 (loopOf (bodyOf Tryd.f31) 0) S_l01_Sample_0 X_l01_Sample_0 x = R_l01_Sample_0 x.1.1 x.1.2.1 x.1.2.2.2.2.1 x.2.1.1 x.2.1.2.1 x.2.1.2.2.1 x.2.1.2.2.2.1 x.2.1.2.2.2.2.1 x.2.1.2.2.2.2.2.1 x.2.1.2.2.2.2.2.2.1 x.2.1.2.2.2.2.2.2.2.1 x.2.2.1.1 x.2.2.1.2.1 x.2.2.1.2.2.1 x.2.2.1.2.2.2.1 x.2.2.1.2.2.2.2.1 x.2.2.1.2.2.2.2.2.1 x.2.2.1.2.2.2.2.2.2.1 x.2.2.1.2.2.2.2.2.2.2.1 := by kernel_rfl
theorem lk_l01_Sample_0 : LoopOK Tryd.prog G 24 (P_l01_Sample 0) (loopOf (bodyOf Tryd.f31) 0) := loop_ok (lp := P_l01_Sample) (n := 1) (k := 0) sigOK eqOK hmix tT_l01_Sample S_l01_Sample_0 X_l01_Sample_0 (fun x => R_l01_Sample_0 x.1.1 x.1.2.1 x.1.2.2.2.2.1 x.2.1.1 x.2.1.2.1 x.2.1.2.2.1 x.2.1.2.2.2.1 x.2.1.2.2.2.2.1 x.2.1.2.2.2.2.2.1 x.2.1.2.2.2.2.2.2.1 x.2.1.2.2.2.2.2.2.2.1 x.2.2.1.1 x.2.2.1.2.1 x.2.2.1.2.2.1 x.2.2.1.2.2.2.1 x.2.2.1.2.2.2.2.1 x.2.2.1.2.2.2.2.2.1 x.2.2.1.2.2.2.2.2.2.1 x.2.2.1.2.2.2.2.2.2.2.1) (by kernel_rfl) (show AllAt (fun k c => LoopOK Tryd.prog G 24 (P_l01_Sample k) c) 1 _ from (allAt_of [] (by kernel_rfl) allAt_n)) r_l01_Sample_0
theorem q_l01_Sample (x : I_l01_Sample.T G) : endI (cfP T_l01_Sample) P_l01_Sample J_l01_Sample 24 (bodyOf Tryd.f31) I_l01_Sample E_l01_Sample x = F_l01_Sample x.1.1 x.1.2.1 := by kernel_rfl
noncomputable def e_l01_Sample : Fe G := ⟨I_l01_Sample, E_l01_Sample, fun x => F_l01_Sample x.1.1 x.1.2.1, Tryd.f31.results.toList⟩
theorem ok_l01_Sample : FnOK Tryd.prog G 31 e_l01_Sample := fn_ok (e := e_l01_Sample) sigOK eqOK hmix tT_l01_Sample Tryd.func31 (by kernel_rfl) (by kernel_rfl) rfl (by kernel_rfl) (allAt_zero (Q := fun k c => LoopOK Tryd.prog G 24 (P_l01_Sample k) c) (allAt_of [loopOf (bodyOf Tryd.f31) 0] (by kernel_rfl) (allAt_c lk_l01_Sample_0 allAt_n))) q_l01_Sample
/-! ### overlay/overlaylaw10.Building -/
def I_l10_Building : Ab.Spec := ⟨[(0, .one (.int .u8)), (1, .one (.int .u8))], [], []⟩
def E_l10_Building : List (Ex × Ab.Spec) := [(.ret, ⟨[(4, .one (.ptr 64 0))], [(64, [.int .i64, .int .i64, .int .i64, .int .i64, .flt .f64, .flt .f64, .flt .f64, .own 32768 62])], []⟩)]
def J_l10_Building : Nat → Option (List (Ex × Ab.Spec)) := fun n => get [] n
noncomputable def T_l10_Building : List (Nat × Fe G) := [(31, e_l01_Sample)]
noncomputable def P_l10_Building : Nat → St G → M (Ex × St G) := fun _ _ => M.fail
theorem tT_l10_Building : ∀ p ∈ T_l10_Building, FnOK Tryd.prog G p.1 p.2 := List.forall_mem_cons.2 ⟨ok_l01_Sample, (fun _ h => absurd h (List.not_mem_nil))⟩
theorem q_l10_Building (x : I_l10_Building.T G) : endI (cfP T_l10_Building) P_l10_Building J_l10_Building 26 (bodyOf Tryd.f11) I_l10_Building E_l10_Building x = F_l10_Building x.1.1 x.1.2.1 := by kernel_rfl
noncomputable def e_l10_Building : Fe G := ⟨I_l10_Building, E_l10_Building, fun x => F_l10_Building x.1.1 x.1.2.1, Tryd.f11.results.toList⟩
theorem ok_l10_Building : FnOK Tryd.prog G 11 e_l10_Building := fn_ok (e := e_l10_Building) sigOK eqOK hmix tT_l10_Building Tryd.func11 (by kernel_rfl) (by kernel_rfl) rfl (by kernel_rfl) (allAt_zero (Q := fun k c => LoopOK Tryd.prog G 26 (P_l10_Building k) c) (allAt_of [] (by kernel_rfl) allAt_n)) q_l10_Building
/-! ### overlay/overlayref01.in -/
def I_r01_in : Ab.Spec := ⟨[(0, .one (.int .i64)), (1, .one (.int .i64)), (2, .one (.int .i64))], [], []⟩
def E_r01_in : List (Ex × Ab.Spec) := [(.ret, ⟨[(6, .one (.bool))], [], []⟩)]
def J_r01_in : Nat → Option (List (Ex × Ab.Spec)) := fun n => get [(1048577, [(.normal, ⟨[(6, .one (.bool))], [], []⟩)])] n
noncomputable def T_r01_in : List (Nat × Fe G) := []
noncomputable def P_r01_in : Nat → St G → M (Ex × St G) := fun _ _ => M.fail
theorem tT_r01_in : ∀ p ∈ T_r01_in, FnOK Tryd.prog G p.1 p.2 := (fun _ h => absurd h (List.not_mem_nil))
theorem q_r01_in (x : I_r01_in.T G) : endI (cfP T_r01_in) P_r01_in J_r01_in 15 (bodyOf Tryd.f55) I_r01_in E_r01_in x = F_r01_in x.1.1 x.1.2.1 x.1.2.2.1 := by kernel_rfl
noncomputable def e_r01_in : Fe G := ⟨I_r01_in, E_r01_in, fun x => F_r01_in x.1.1 x.1.2.1 x.1.2.2.1, Tryd.f55.results.toList⟩
theorem ok_r01_in : FnOK Tryd.prog G 55 e_r01_in := fn_ok (e := e_r01_in) sigOK eqOK hmix tT_r01_in Tryd.func55 (by kernel_rfl) (by kernel_rfl) rfl (by kernel_rfl) (allAt_zero (Q := fun k c => LoopOK Tryd.prog G 15 (P_r01_in k) c) (allAt_of [] (by kernel_rfl) allAt_n)) q_r01_in
/-! ### overlay/overlayref01.times -/
def I_r01_times : Ab.Spec := ⟨[(0, .agg [.int .i64, .int .i64, .int .i64, .int .i64, .flt .f64, .flt .f64, .flt .f64, .ro 62]), (1, .agg [.int .i64, .int .i64, .int .i64, .int .i64, .int .i64, .int .i64, .int .i64, .int .i64, .int .i64])], [], []⟩
def E_r01_times : List (Ex × Ab.Spec) := [(.ret, ⟨[(4, .one (.bool))], [], []⟩)]
def J_r01_times : Nat → Option (List (Ex × Ab.Spec)) := fun n => get [(1048585, [(.normal, ⟨[(4, .one (.bool))], [], []⟩)])] n
noncomputable def T_r01_times : List (Nat × Fe G) := [(55, e_r01_in)]
def S_r01_times_0 : Ab.Spec := ⟨[(2, .one (.ptr 32 0)), (3, .one (.ptr 48 0)), (5, .one (.own 32768 3)), (6, .one (.int .i64))], [(32, [.int .i64, .int .i64, .int .i64, .int .i64, .flt .f64, .flt .f64, .flt .f64, .ro 62]), (48, [.int .i64, .int .i64, .int .i64, .int .i64, .int .i64, .int .i64, .int .i64, .int .i64, .int .i64])], []⟩
def X_r01_times_0 : List (Ex × Ab.Spec) := [(.exit 0, ⟨[(2, .one (.ptr 32 0)), (3, .one (.ptr 48 0))], [(32, [.int .i64, .int .i64, .int .i64, .int .i64, .flt .f64, .flt .f64, .flt .f64, .ro 62]), (48, [.int .i64, .int .i64, .int .i64, .int .i64, .int .i64, .int .i64, .int .i64, .int .i64, .int .i64])], []⟩), (.ret, ⟨[(4, .one (.bool))], [], []⟩)]
noncomputable def P_r01_times : Nat → St G → M (Ex × St G) := fun n => bif Nat.beq n 0 then lpX S_r01_times_0 X_r01_times_0 L_r01_times_0 else fun _ => M.fail
theorem tT_r01_times : ∀ p ∈ T_r01_times, FnOK Tryd.prog G p.1 p.2 := List.forall_mem_cons.2 ⟨ok_r01_in, (fun _ h => absurd h (List.not_mem_nil))⟩
theorem r_r01_times_0 (x : S_r01_times_0.T G) : rndI (cfP T_r01_times) P_r01_times J_r01_times 56 1 (loopOf (bodyOf Tryd.f56) 0) S_r01_times_0 X_r01_times_0 x = R_r01_times_0 x.1.2.2.1 x.1.2.2.2.1 x.2.1.1 x.2.1.2.1 x.2.1.2.2.1 x.2.1.2.2.2.1 x.2.1.2.2.2.2.1 x.2.1.2.2.2.2.2.1 x.2.1.2.2.2.2.2.2.1 x.2.1.2.2.2.2.2.2.2.1 x.2.2.1.1 x.2.2.1.2.1 x.2.2.1.2.2.1 x.2.2.1.2.2.2.1 x.2.2.1.2.2.2.2.1 x.2.2.1.2.2.2.2.2.1 x.2.2.1.2.2.2.2.2.2.1 x.2.2.1.2.2.2.2.2.2.2.1 x.2.2.1.2.2.2.2.2.2.2.2.1 := by kernel_rfl
theorem lk_r01_times_0 : LoopOK Tryd.prog G 56 (P_r01_times 0) (loopOf (bodyOf Tryd.f56) 0) := loop_ok (lp := P_r01_times) (n := 1) (k := 0) sigOK eqOK hmix tT_r01_times S_r01_times_0 X_r01_times_0 (fun x => R_r01_times_0 x.1.2.2.1 x.1.2.2.2.1 x.2.1.1 x.2.1.2.1 x.2.1.2.2.1 x.2.1.2.2.2.1 x.2.1.2.2.2.2.1 x.2.1.2.2.2.2.2.1 x.2.1.2.2.2.2.2.2.1 x.2.1.2.2.2.2.2.2.2.1 x.2.2.1.1 x.2.2.1.2.1 x.2.2.1.2.2.1 x.2.2.1.2.2.2.1 x.2.2.1.2.2.2.2.1 x.2.2.1.2.2.2.2.2.1 x.2.2.1.2.2.2.2.2.2.1 x.2.2.1.2.2.2.2.2.2.2.1 x.2.2.1.2.2.2.2.2.2.2.2.1) (by kernel_rfl) (show AllAt (fun k c => LoopOK Tryd.prog G 56 (P_r01_times k) c) 1 _ from (allAt_of [] (by kernel_rfl) allAt_n)) r_r01_times_0
theorem q_r01_times (x : I_r01_times.T G) : endI (cfP T_r01_times) P_r01_times J_r01_times 56 (bodyOf Tryd.f56) I_r01_times E_r01_times x = F_r01_times x.1.1.1 x.1.1.2.1 x.1.1.2.2.1 x.1.1.2.2.2.1 x.1.1.2.2.2.2.1 x.1.1.2.2.2.2.2.1 x.1.1.2.2.2.2.2.2.1 x.1.1.2.2.2.2.2.2.2.1 x.1.2.1.1 x.1.2.1.2.1 x.1.2.1.2.2.1 x.1.2.1.2.2.2.1 x.1.2.1.2.2.2.2.1 x.1.2.1.2.2.2.2.2.1 x.1.2.1.2.2.2.2.2.2.1 x.1.2.1.2.2.2.2.2.2.2.1 x.1.2.1.2.2.2.2.2.2.2.2.1 := by kernel_rfl
noncomputable def e_r01_times : Fe G := ⟨I_r01_times, E_r01_times, fun x => F_r01_times x.1.1.1 x.1.1.2.1 x.1.1.2.2.1 x.1.1.2.2.2.1 x.1.1.2.2.2.2.1 x.1.1.2.2.2.2.2.1 x.1.1.2.2.2.2.2.2.1 x.1.1.2.2.2.2.2.2.2.1 x.1.2.1.1 x.1.2.1.2.1 x.1.2.1.2.2.1 x.1.2.1.2.2.2.1 x.1.2.1.2.2.2.2.1 x.1.2.1.2.2.2.2.2.1 x.1.2.1.2.2.2.2.2.2.1 x.1.2.1.2.2.2.2.2.2.2.1 x.1.2.1.2.2.2.2.2.2.2.2.1, Tryd.f56.results.toList⟩
theorem ok_r01_times : FnOK Tryd.prog G 56 e_r01_times := fn_ok (e := e_r01_times) sigOK eqOK hmix tT_r01_times Tryd.func56 (by kernel_rfl) (by kernel_rfl) rfl (by kernel_rfl) (allAt_zero (Q := fun k c => LoopOK Tryd.prog G 56 (P_r01_times k) c) (allAt_of [loopOf (bodyOf Tryd.f56) 0] (by kernel_rfl) (allAt_c lk_r01_times_0 allAt_n))) q_r01_times
/-! ### overlay/overlayref01.Valid -/
def I_r01_Valid : Ab.Spec := ⟨[(0, .agg [.int .i64, .int .i64, .int .i64, .int .i64, .flt .f64, .flt .f64, .flt .f64, .ro 62])], [], []⟩
def E_r01_Valid : List (Ex × Ab.Spec) := [(.ret, ⟨[(2, .one (.int .i64))], [], []⟩)]
def J_r01_Valid : Nat → Option (List (Ex × Ab.Spec)) := fun n => get [(1048581, [(.normal, ⟨[(1, .one (.ptr 16 0)), (3, .one (.bool))], [(16, [.int .i64, .int .i64, .int .i64, .int .i64, .flt .f64, .flt .f64, .flt .f64, .ro 62])], []⟩)]), (1048585, [(.normal, ⟨[(1, .one (.ptr 16 0)), (3, .one (.bool)), (4, .one (.int .i64))], [(16, [.int .i64, .int .i64, .int .i64, .int .i64, .flt .f64, .flt .f64, .flt .f64, .ro 62])], []⟩)])] n
noncomputable def T_r01_Valid : List (Nat × Fe G) := [(55, e_r01_in), (56, e_r01_times)]
def S_r01_Valid_0 : Ab.Spec := ⟨[(1, .one (.ptr 16 0)), (3, .one (.bool)), (4, .one (.int .i64))], [(16, [.int .i64, .int .i64, .int .i64, .int .i64, .flt .f64, .flt .f64, .flt .f64, .ro 62])], []⟩
def X_r01_Valid_0 : List (Ex × Ab.Spec) := [(.exit 0, ⟨[(1, .one (.ptr 16 0)), (3, .one (.bool))], [(16, [.int .i64, .int .i64, .int .i64, .int .i64, .flt .f64, .flt .f64, .flt .f64, .ro 62])], []⟩)]
noncomputable def P_r01_Valid : Nat → St G → M (Ex × St G) := fun n => bif Nat.beq n 0 then lpX S_r01_Valid_0 X_r01_Valid_0 L_r01_Valid_0 else fun _ => M.fail
theorem tT_r01_Valid : ∀ p ∈ T_r01_Valid, FnOK Tryd.prog G p.1 p.2 := List.forall_mem_cons.2 ⟨ok_r01_in, List.forall_mem_cons.2 ⟨ok_r01_times, (fun _ h => absurd h (List.not_mem_nil))⟩⟩
theorem r_r01_Valid_0 (x : S_r01_Valid_0.T G) : rndI (cfP T_r01_Valid) P_r01_Valid J_r01_Valid 73 1 (loopOf (bodyOf Tryd.f34) 0) S_r01_Valid_0 X_r01_Valid_0 x = R_r01_Valid_0 x.1.2.1 x.1.2.2.1 x.2.1.1 x.2.1.2.1 x.2.1.2.2.1 x.2.1.2.2.2.1 x.2.1.2.2.2.2.1 x.2.1.2.2.2.2.2.1 x.2.1.2.2.2.2.2.2.1 x.2.1.2.2.2.2.2.2.2.1 := by kernel_rfl
theorem lk_r01_Valid_0 : LoopOK Tryd.prog G 73 (P_r01_Valid 0) (loopOf (bodyOf Tryd.f34) 0) := loop_ok (lp := P_r01_Valid) (n := 1) (k := 0) sigOK eqOK hmix tT_r01_Valid S_r01_Valid_0 X_r01_Valid_0 (fun x => R_r01_Valid_0 x.1.2.1 x.1.2.2.1 x.2.1.1 x.2.1.2.1 x.2.1.2.2.1 x.2.1.2.2.2.1 x.2.1.2.2.2.2.1 x.2.1.2.2.2.2.2.1 x.2.1.2.2.2.2.2.2.1 x.2.1.2.2.2.2.2.2.2.1) (by kernel_rfl) (show AllAt (fun k c => LoopOK Tryd.prog G 73 (P_r01_Valid k) c) 1 _ from (allAt_of [] (by kernel_rfl) allAt_n)) r_r01_Valid_0
theorem q_r01_Valid (x : I_r01_Valid.T G) : endI (cfP T_r01_Valid) P_r01_Valid J_r01_Valid 73 (bodyOf Tryd.f34) I_r01_Valid E_r01_Valid x = F_r01_Valid x.1.1.1 x.1.1.2.1 x.1.1.2.2.1 x.1.1.2.2.2.1 x.1.1.2.2.2.2.1 x.1.1.2.2.2.2.2.1 x.1.1.2.2.2.2.2.2.1 x.1.1.2.2.2.2.2.2.2.1 := by kernel_rfl
noncomputable def e_r01_Valid : Fe G := ⟨I_r01_Valid, E_r01_Valid, fun x => F_r01_Valid x.1.1.1 x.1.1.2.1 x.1.1.2.2.1 x.1.1.2.2.2.1 x.1.1.2.2.2.2.1 x.1.1.2.2.2.2.2.1 x.1.1.2.2.2.2.2.2.1 x.1.1.2.2.2.2.2.2.2.1, Tryd.f34.results.toList⟩
theorem ok_r01_Valid : FnOK Tryd.prog G 34 e_r01_Valid := fn_ok (e := e_r01_Valid) sigOK eqOK hmix tT_r01_Valid Tryd.func34 (by kernel_rfl) (by kernel_rfl) rfl (by kernel_rfl) (allAt_zero (Q := fun k c => LoopOK Tryd.prog G 73 (P_r01_Valid k) c) (allAt_of [loopOf (bodyOf Tryd.f34) 0] (by kernel_rfl) (allAt_c lk_r01_Valid_0 allAt_n))) q_r01_Valid
/-! ### overlay/overlayref10.Initial -/
def I_r10_Initial : Ab.Spec := ⟨[(0, .agg [.int .i64, .int .i64, .int .i64, .int .i64, .flt .f64, .flt .f64, .flt .f64, .ro 62])], [], []⟩
def E_r10_Initial : List (Ex × Ab.Spec) := [(.ret, ⟨[(2, .one (.ptr 32 0))], [(32, [.own 32768 3, .own 32769 4, .own 32770 4, .own 32771 57])], []⟩)]
def J_r10_Initial : Nat → Option (List (Ex × Ab.Spec)) := fun n => get [] n
noncomputable def T_r10_Initial : List (Nat × Fe G) := [(34, e_r01_Valid)]
noncomputable def P_r10_Initial : Nat → St G → M (Ex × St G) := fun _ _ => M.fail
theorem tT_r10_Initial : ∀ p ∈ T_r10_Initial, FnOK Tryd.prog G p.1 p.2 := List.forall_mem_cons.2 ⟨ok_r01_Valid, (fun _ h => absurd h (List.not_mem_nil))⟩
theorem q_r10_Initial (x : I_r10_Initial.T G) : endI (cfP T_r10_Initial) P_r10_Initial J_r10_Initial 18 (bodyOf Tryd.f21) I_r10_Initial E_r10_Initial x = F_r10_Initial x.1.1.1 x.1.1.2.1 x.1.1.2.2.1 x.1.1.2.2.2.1 x.1.1.2.2.2.2.1 x.1.1.2.2.2.2.2.1 x.1.1.2.2.2.2.2.2.1 x.1.1.2.2.2.2.2.2.2.1 := by kernel_rfl
noncomputable def e_r10_Initial : Fe G := ⟨I_r10_Initial, E_r10_Initial, fun x => F_r10_Initial x.1.1.1 x.1.1.2.1 x.1.1.2.2.1 x.1.1.2.2.2.1 x.1.1.2.2.2.2.1 x.1.1.2.2.2.2.2.1 x.1.1.2.2.2.2.2.2.1 x.1.1.2.2.2.2.2.2.2.1, Tryd.f21.results.toList⟩
theorem ok_r10_Initial : FnOK Tryd.prog G 21 e_r10_Initial := fn_ok (e := e_r10_Initial) sigOK eqOK hmix tT_r10_Initial Tryd.func21 (by kernel_rfl) (by kernel_rfl) rfl (by kernel_rfl) (allAt_zero (Q := fun k c => LoopOK Tryd.prog G 18 (P_r10_Initial k) c) (allAt_of [] (by kernel_rfl) allAt_n)) q_r10_Initial
/-! ### overlay/building.within -/
def I_building_within : Ab.Spec := ⟨[(0, .one (.int .i64)), (1, .one (.int .i64)), (2, .one (.ro 3))], [], []⟩
def E_building_within : List (Ex × Ab.Spec) := [(.ret, ⟨[(6, .one (.bool))], [], []⟩)]
def J_building_within : Nat → Option (List (Ex × Ab.Spec)) := fun n => get [] n
noncomputable def T_building_within : List (Nat × Fe G) := []
def S_building_within_0 : Ab.Spec := ⟨[(0, .one (.int .i64)), (1, .one (.int .i64)), (9, .one (.ro 3)), (10, .one (.int .i64)), (11, .one (.int .i64))], [], []⟩
def X_building_within_0 : List (Ex × Ab.Spec) := [(.exit 0, ⟨[], [], []⟩), (.ret, ⟨[(6, .one (.bool))], [], []⟩)]
noncomputable def P_building_within : Nat → St G → M (Ex × St G) := fun n => bif Nat.beq n 0 then lpX S_building_within_0 X_building_within_0 L_building_within_0 else fun _ => M.fail
theorem tT_building_within : ∀ p ∈ T_building_within, FnOK Tryd.prog G p.1 p.2 := (fun _ h => absurd h (List.not_mem_nil))
theorem r_building_within_0 (x : S_building_within_0.T G) : rndI (cfP T_building_within) P_building_within J_building_within 24 1 (loopOf (bodyOf Tryd.f51) 0) S_building_within_0 X_building_within_0 x = R_building_within_0 x.1.1 x.1.2.1 x.1.2.2.1 x.1.2.2.2.1 x.1.2.2.2.2.1 := by kernel_rfl
theorem lk_building_within_0 : LoopOK Tryd.prog G 24 (P_building_within 0) (loopOf (bodyOf Tryd.f51) 0) := loop_ok (lp := P_building_within) (n := 1) (k := 0) sigOK eqOK hmix tT_building_within S_building_within_0 X_building_within_0 (fun x => R_building_within_0 x.1.1 x.1.2.1 x.1.2.2.1 x.1.2.2.2.1 x.1.2.2.2.2.1) (by kernel_rfl) (show AllAt (fun k c => LoopOK Tryd.prog G 24 (P_building_within k) c) 1 _ from (allAt_of [] (by kernel_rfl) allAt_n)) r_building_within_0
theorem q_building_within (x : I_building_within.T G) : endI (cfP T_building_within) P_building_within J_building_within 24 (bodyOf Tryd.f51) I_building_within E_building_within x = F_building_within x.1.1 x.1.2.1 x.1.2.2.1 := by kernel_rfl
noncomputable def e_building_within : Fe G := ⟨I_building_within, E_building_within, fun x => F_building_within x.1.1 x.1.2.1 x.1.2.2.1, Tryd.f51.results.toList⟩
theorem ok_building_within : FnOK Tryd.prog G 51 e_building_within := fn_ok (e := e_building_within) sigOK eqOK hmix tT_building_within Tryd.func51 (by kernel_rfl) (by kernel_rfl) rfl (by kernel_rfl) (allAt_zero (Q := fun k c => LoopOK Tryd.prog G 24 (P_building_within k) c) (allAt_of [loopOf (bodyOf Tryd.f51) 0] (by kernel_rfl) (allAt_c lk_building_within_0 allAt_n))) q_building_within
/-! ### overlay/building.times -/
def I_building_times : Ab.Spec := ⟨[(0, .agg [.int .i64, .int .i64, .int .i64, .int .i64, .int .i64, .int .i64, .int .i64, .int .i64, .int .i64]), (1, .one (.int .i64))], [], []⟩
def E_building_times : List (Ex × Ab.Spec) := [(.ret, ⟨[(4, .one (.bool))], [], []⟩)]
def J_building_times : Nat → Option (List (Ex × Ab.Spec)) := fun n => get [(1048577, [(.normal, ⟨[(4, .one (.bool))], [], []⟩)])] n
noncomputable def T_building_times : List (Nat × Fe G) := [(51, e_building_within)]
noncomputable def P_building_times : Nat → St G → M (Ex × St G) := fun _ _ => M.fail
theorem tT_building_times : ∀ p ∈ T_building_times, FnOK Tryd.prog G p.1 p.2 := List.forall_mem_cons.2 ⟨ok_building_within, (fun _ h => absurd h (List.not_mem_nil))⟩
theorem q_building_times (x : I_building_times.T G) : endI (cfP T_building_times) P_building_times J_building_times 42 (bodyOf Tryd.f52) I_building_times E_building_times x = F_building_times x.1.1.1 x.1.1.2.1 x.1.1.2.2.1 x.1.1.2.2.2.1 x.1.1.2.2.2.2.1 x.1.1.2.2.2.2.2.1 x.1.1.2.2.2.2.2.2.1 x.1.1.2.2.2.2.2.2.2.1 x.1.1.2.2.2.2.2.2.2.2.1 x.1.2.1 := by kernel_rfl
noncomputable def e_building_times : Fe G := ⟨I_building_times, E_building_times, fun x => F_building_times x.1.1.1 x.1.1.2.1 x.1.1.2.2.1 x.1.1.2.2.2.1 x.1.1.2.2.2.2.1 x.1.1.2.2.2.2.2.1 x.1.1.2.2.2.2.2.2.1 x.1.1.2.2.2.2.2.2.2.1 x.1.1.2.2.2.2.2.2.2.2.1 x.1.2.1, Tryd.f52.results.toList⟩
theorem ok_building_times : FnOK Tryd.prog G 52 e_building_times := fn_ok (e := e_building_times) sigOK eqOK hmix tT_building_times Tryd.func52 (by kernel_rfl) (by kernel_rfl) rfl (by kernel_rfl) (allAt_zero (Q := fun k c => LoopOK Tryd.prog G 42 (P_building_times k) c) (allAt_of [] (by kernel_rfl) allAt_n)) q_building_times
/-! ### overlay/building.loads -/
def I_building_loads : Ab.Spec := ⟨[(0, .agg [.int .i64, .int .i64, .int .i64, .int .i64, .flt .f64, .flt .f64, .flt .f64, .ro 62])], [], []⟩
def E_building_loads : List (Ex × Ab.Spec) := [(.ret, ⟨[(2, .one (.bool))], [], []⟩)]
def J_building_loads : Nat → Option (List (Ex × Ab.Spec)) := fun n => get [(1048577, [(.normal, ⟨[(2, .one (.bool))], [], []⟩)])] n
noncomputable def T_building_loads : List (Nat × Fe G) := []
noncomputable def P_building_loads : Nat → St G → M (Ex × St G) := fun _ _ => M.fail
theorem tT_building_loads : ∀ p ∈ T_building_loads, FnOK Tryd.prog G p.1 p.2 := (fun _ h => absurd h (List.not_mem_nil))
theorem q_building_loads (x : I_building_loads.T G) : endI (cfP T_building_loads) P_building_loads J_building_loads 25 (bodyOf Tryd.f53) I_building_loads E_building_loads x = F_building_loads x.1.1.1 x.1.1.2.1 x.1.1.2.2.1 x.1.1.2.2.2.1 x.1.1.2.2.2.2.1 x.1.1.2.2.2.2.2.1 x.1.1.2.2.2.2.2.2.1 x.1.1.2.2.2.2.2.2.2.1 := by kernel_rfl
noncomputable def e_building_loads : Fe G := ⟨I_building_loads, E_building_loads, fun x => F_building_loads x.1.1.1 x.1.1.2.1 x.1.1.2.2.1 x.1.1.2.2.2.1 x.1.1.2.2.2.2.1 x.1.1.2.2.2.2.2.1 x.1.1.2.2.2.2.2.2.1 x.1.1.2.2.2.2.2.2.2.1, Tryd.f53.results.toList⟩
theorem ok_building_loads : FnOK Tryd.prog G 53 e_building_loads := fn_ok (e := e_building_loads) sigOK eqOK hmix tT_building_loads Tryd.func53 (by kernel_rfl) (by kernel_rfl) rfl (by kernel_rfl) (allAt_zero (Q := fun k c => LoopOK Tryd.prog G 25 (P_building_loads k) c) (allAt_of [] (by kernel_rfl) allAt_n)) q_building_loads
/-! ### overlay/building.Valid -/
def I_building_Valid : Ab.Spec := ⟨[(0, .agg [.int .i64, .int .i64, .int .i64, .int .i64, .flt .f64, .flt .f64, .flt .f64, .ro 62])], [], []⟩
def E_building_Valid : List (Ex × Ab.Spec) := [(.ret, ⟨[(2, .one (.int .i64))], [], []⟩)]
def J_building_Valid : Nat → Option (List (Ex × Ab.Spec)) := fun n => get [(1048581, [(.normal, ⟨[(1, .one (.ptr 16 0)), (3, .one (.bool))], [(16, [.int .i64, .int .i64, .int .i64, .int .i64, .flt .f64, .flt .f64, .flt .f64, .ro 62])], []⟩)]), (1048585, [(.normal, ⟨[(1, .one (.ptr 16 0)), (3, .one (.bool)), (28, .one (.ro 62)), (29, .one (.int .i64)), (30, .one (.int .i64))], [(16, [.int .i64, .int .i64, .int .i64, .int .i64, .flt .f64, .flt .f64, .flt .f64, .ro 62])], []⟩)])] n
noncomputable def T_building_Valid : List (Nat × Fe G) := [(51, e_building_within), (52, e_building_times), (53, e_building_loads)]
def S_building_Valid_0 : Ab.Spec := ⟨[(1, .one (.ptr 16 0)), (3, .one (.bool)), (28, .one (.ro 62)), (29, .one (.int .i64)), (30, .one (.int .i64))], [(16, [.int .i64, .int .i64, .int .i64, .int .i64, .flt .f64, .flt .f64, .flt .f64, .ro 62])], []⟩
def X_building_Valid_0 : List (Ex × Ab.Spec) := [(.exit 0, ⟨[(1, .one (.ptr 16 0)), (3, .one (.bool))], [(16, [.int .i64, .int .i64, .int .i64, .int .i64, .flt .f64, .flt .f64, .flt .f64, .ro 62])], []⟩)]
noncomputable def P_building_Valid : Nat → St G → M (Ex × St G) := fun n => bif Nat.beq n 0 then lpX S_building_Valid_0 X_building_Valid_0 L_building_Valid_0 else fun _ => M.fail
theorem tT_building_Valid : ∀ p ∈ T_building_Valid, FnOK Tryd.prog G p.1 p.2 := List.forall_mem_cons.2 ⟨ok_building_within, List.forall_mem_cons.2 ⟨ok_building_times, List.forall_mem_cons.2 ⟨ok_building_loads, (fun _ h => absurd h (List.not_mem_nil))⟩⟩⟩
theorem r_building_Valid_0 (x : S_building_Valid_0.T G) : rndI (cfP T_building_Valid) P_building_Valid J_building_Valid 60 1 (loopOf (bodyOf Tryd.f32) 0) S_building_Valid_0 X_building_Valid_0 x = R_building_Valid_0 x.1.2.1 x.1.2.2.1 x.1.2.2.2.1 x.1.2.2.2.2.1 x.2.1.1 x.2.1.2.1 x.2.1.2.2.1 x.2.1.2.2.2.1 x.2.1.2.2.2.2.1 x.2.1.2.2.2.2.2.1 x.2.1.2.2.2.2.2.2.1 x.2.1.2.2.2.2.2.2.2.1 := by kernel_rfl
theorem lk_building_Valid_0 : LoopOK Tryd.prog G 60 (P_building_Valid 0) (loopOf (bodyOf Tryd.f32) 0) := loop_ok (lp := P_building_Valid) (n := 1) (k := 0) sigOK eqOK hmix tT_building_Valid S_building_Valid_0 X_building_Valid_0 (fun x => R_building_Valid_0 x.1.2.1 x.1.2.2.1 x.1.2.2.2.1 x.1.2.2.2.2.1 x.2.1.1 x.2.1.2.1 x.2.1.2.2.1 x.2.1.2.2.2.1 x.2.1.2.2.2.2.1 x.2.1.2.2.2.2.2.1 x.2.1.2.2.2.2.2.2.1 x.2.1.2.2.2.2.2.2.2.1) (by kernel_rfl) (show AllAt (fun k c => LoopOK Tryd.prog G 60 (P_building_Valid k) c) 1 _ from (allAt_of [] (by kernel_rfl) allAt_n)) r_building_Valid_0
theorem q_building_Valid (x : I_building_Valid.T G) : endI (cfP T_building_Valid) P_building_Valid J_building_Valid 60 (bodyOf Tryd.f32) I_building_Valid E_building_Valid x = F_building_Valid x.1.1.1 x.1.1.2.1 x.1.1.2.2.1 x.1.1.2.2.2.1 x.1.1.2.2.2.2.1 x.1.1.2.2.2.2.2.1 x.1.1.2.2.2.2.2.2.1 x.1.1.2.2.2.2.2.2.2.1 := by kernel_rfl
noncomputable def e_building_Valid : Fe G := ⟨I_building_Valid, E_building_Valid, fun x => F_building_Valid x.1.1.1 x.1.1.2.1 x.1.1.2.2.1 x.1.1.2.2.2.1 x.1.1.2.2.2.2.1 x.1.1.2.2.2.2.2.1 x.1.1.2.2.2.2.2.2.1 x.1.1.2.2.2.2.2.2.2.1, Tryd.f32.results.toList⟩
theorem ok_building_Valid : FnOK Tryd.prog G 32 e_building_Valid := fn_ok (e := e_building_Valid) sigOK eqOK hmix tT_building_Valid Tryd.func32 (by kernel_rfl) (by kernel_rfl) rfl (by kernel_rfl) (allAt_zero (Q := fun k c => LoopOK Tryd.prog G 60 (P_building_Valid k) c) (allAt_of [loopOf (bodyOf Tryd.f32) 0] (by kernel_rfl) (allAt_c lk_building_Valid_0 allAt_n))) q_building_Valid
/-! ### overlay/building.isCall -/
def I_building_isCall : Ab.Spec := ⟨[(0, .one (.int .i64)), (1, .one (.int .i64)), (2, .one (.int .i64))], [], []⟩
def E_building_isCall : List (Ex × Ab.Spec) := [(.ret, ⟨[(6, .one (.bool))], [], []⟩)]
def J_building_isCall : Nat → Option (List (Ex × Ab.Spec)) := fun n => get [(1048577, [(.normal, ⟨[(6, .one (.bool))], [], []⟩)])] n
noncomputable def T_building_isCall : List (Nat × Fe G) := [(51, e_building_within)]
noncomputable def P_building_isCall : Nat → St G → M (Ex × St G) := fun _ _ => M.fail
theorem tT_building_isCall : ∀ p ∈ T_building_isCall, FnOK Tryd.prog G p.1 p.2 := List.forall_mem_cons.2 ⟨ok_building_within, (fun _ h => absurd h (List.not_mem_nil))⟩
theorem q_building_isCall (x : I_building_isCall.T G) : endI (cfP T_building_isCall) P_building_isCall J_building_isCall 27 (bodyOf Tryd.f82) I_building_isCall E_building_isCall x = F_building_isCall x.1.1 x.1.2.1 x.1.2.2.1 := by kernel_rfl
noncomputable def e_building_isCall : Fe G := ⟨I_building_isCall, E_building_isCall, fun x => F_building_isCall x.1.1 x.1.2.1 x.1.2.2.1, Tryd.f82.results.toList⟩
theorem ok_building_isCall : FnOK Tryd.prog G 82 e_building_isCall := fn_ok (e := e_building_isCall) sigOK eqOK hmix tT_building_isCall Tryd.func82 (by kernel_rfl) (by kernel_rfl) rfl (by kernel_rfl) (allAt_zero (Q := fun k c => LoopOK Tryd.prog G 27 (P_building_isCall k) c) (allAt_of [] (by kernel_rfl) allAt_n)) q_building_isCall
/-! ### overlay/building.IsCall -/
def I_building_IsCall : Ab.Spec := ⟨[(0, .agg [.int .i64, .int .i64, .int .i64, .int .i64, .flt .f64, .flt .f64, .flt .f64, .ro 62]), (1, .one (.int .i64)), (2, .one (.int .i64))], [], []⟩
def E_building_IsCall : List (Ex × Ab.Spec) := [(.ret, ⟨[(6, .one (.bool))], [], []⟩)]
def J_building_IsCall : Nat → Option (List (Ex × Ab.Spec)) := fun n => get [(1048577, [(.normal, ⟨[(6, .one (.bool))], [], []⟩)])] n
noncomputable def T_building_IsCall : List (Nat × Fe G) := [(32, e_building_Valid), (82, e_building_isCall)]
noncomputable def P_building_IsCall : Nat → St G → M (Ex × St G) := fun _ _ => M.fail
theorem tT_building_IsCall : ∀ p ∈ T_building_IsCall, FnOK Tryd.prog G p.1 p.2 := List.forall_mem_cons.2 ⟨ok_building_Valid, List.forall_mem_cons.2 ⟨ok_building_isCall, (fun _ h => absurd h (List.not_mem_nil))⟩⟩
theorem q_building_IsCall (x : I_building_IsCall.T G) : endI (cfP T_building_IsCall) P_building_IsCall J_building_IsCall 17 (bodyOf Tryd.f71) I_building_IsCall E_building_IsCall x = F_building_IsCall x.1.1.1 x.1.1.2.1 x.1.1.2.2.1 x.1.1.2.2.2.1 x.1.1.2.2.2.2.1 x.1.1.2.2.2.2.2.1 x.1.1.2.2.2.2.2.2.1 x.1.1.2.2.2.2.2.2.2.1 x.1.2.1 x.1.2.2.1 := by kernel_rfl
noncomputable def e_building_IsCall : Fe G := ⟨I_building_IsCall, E_building_IsCall, fun x => F_building_IsCall x.1.1.1 x.1.1.2.1 x.1.1.2.2.1 x.1.1.2.2.2.1 x.1.1.2.2.2.2.1 x.1.1.2.2.2.2.2.1 x.1.1.2.2.2.2.2.2.1 x.1.1.2.2.2.2.2.2.2.1 x.1.2.1 x.1.2.2.1, Tryd.f71.results.toList⟩
theorem ok_building_IsCall : FnOK Tryd.prog G 71 e_building_IsCall := fn_ok (e := e_building_IsCall) sigOK eqOK hmix tT_building_IsCall Tryd.func71 (by kernel_rfl) (by kernel_rfl) rfl (by kernel_rfl) (allAt_zero (Q := fun k c => LoopOK Tryd.prog G 17 (P_building_IsCall k) c) (allAt_of [] (by kernel_rfl) allAt_n)) q_building_IsCall
/-! ### overlay/log.isEntry -/
def I_log_isEntry : Ab.Spec := ⟨[(0, .agg [.int .i64, .int .i64, .int .i64, .int .i64, .flt .f64, .flt .f64, .flt .f64, .ro 62]), (1, .agg [.int .i64, .int .i64, .int .i64, .int .i64, .bool])], [], []⟩
def E_log_isEntry : List (Ex × Ab.Spec) := [(.ret, ⟨[(4, .one (.bool))], [], []⟩)]
def J_log_isEntry : Nat → Option (List (Ex × Ab.Spec)) := fun n => get [(1048577, [(.normal, ⟨[(4, .one (.bool))], [], []⟩)])] n
noncomputable def T_log_isEntry : List (Nat × Fe G) := [(71, e_building_IsCall)]
noncomputable def P_log_isEntry : Nat → St G → M (Ex × St G) := fun _ _ => M.fail
theorem tT_log_isEntry : ∀ p ∈ T_log_isEntry, FnOK Tryd.prog G p.1 p.2 := List.forall_mem_cons.2 ⟨ok_building_IsCall, (fun _ h => absurd h (List.not_mem_nil))⟩
theorem q_log_isEntry (x : I_log_isEntry.T G) : endI (cfP T_log_isEntry) P_log_isEntry J_log_isEntry 34 (bodyOf Tryd.f61) I_log_isEntry E_log_isEntry x = F_log_isEntry x.1.1.1 x.1.1.2.1 x.1.1.2.2.1 x.1.1.2.2.2.1 x.1.1.2.2.2.2.1 x.1.1.2.2.2.2.2.1 x.1.1.2.2.2.2.2.2.1 x.1.1.2.2.2.2.2.2.2.1 x.1.2.1.1 x.1.2.1.2.1 x.1.2.1.2.2.1 x.1.2.1.2.2.2.1 x.1.2.1.2.2.2.2.1 := by kernel_rfl
noncomputable def e_log_isEntry : Fe G := ⟨I_log_isEntry, E_log_isEntry, fun x => F_log_isEntry x.1.1.1 x.1.1.2.1 x.1.1.2.2.1 x.1.1.2.2.2.1 x.1.1.2.2.2.2.1 x.1.1.2.2.2.2.2.1 x.1.1.2.2.2.2.2.2.1 x.1.1.2.2.2.2.2.2.2.1 x.1.2.1.1 x.1.2.1.2.1 x.1.2.1.2.2.1 x.1.2.1.2.2.2.1 x.1.2.1.2.2.2.2.1, Tryd.f61.results.toList⟩
theorem ok_log_isEntry : FnOK Tryd.prog G 61 e_log_isEntry := fn_ok (e := e_log_isEntry) sigOK eqOK hmix tT_log_isEntry Tryd.func61 (by kernel_rfl) (by kernel_rfl) rfl (by kernel_rfl) (allAt_zero (Q := fun k c => LoopOK Tryd.prog G 34 (P_log_isEntry k) c) (allAt_of [] (by kernel_rfl) allAt_n)) q_log_isEntry
/-! ### cmp.isNaN[int] -/
def I_cmp_isNaN_int : Ab.Spec := ⟨[(0, .one (.int .i64))], [], []⟩
def E_cmp_isNaN_int : List (Ex × Ab.Spec) := [(.ret, ⟨[(2, .one (.bool))], [], []⟩)]
def J_cmp_isNaN_int : Nat → Option (List (Ex × Ab.Spec)) := fun n => get [] n
noncomputable def T_cmp_isNaN_int : List (Nat × Fe G) := []
noncomputable def P_cmp_isNaN_int : Nat → St G → M (Ex × St G) := fun _ _ => M.fail
theorem tT_cmp_isNaN_int : ∀ p ∈ T_cmp_isNaN_int, FnOK Tryd.prog G p.1 p.2 := (fun _ h => absurd h (List.not_mem_nil))
theorem q_cmp_isNaN_int (x : I_cmp_isNaN_int.T G) : endI (cfP T_cmp_isNaN_int) P_cmp_isNaN_int J_cmp_isNaN_int 6 (bodyOf Tryd.f83) I_cmp_isNaN_int E_cmp_isNaN_int x = F_cmp_isNaN_int x.1.1 := by kernel_rfl
noncomputable def e_cmp_isNaN_int : Fe G := ⟨I_cmp_isNaN_int, E_cmp_isNaN_int, fun x => F_cmp_isNaN_int x.1.1, Tryd.f83.results.toList⟩
theorem ok_cmp_isNaN_int : FnOK Tryd.prog G 83 e_cmp_isNaN_int := fn_ok (e := e_cmp_isNaN_int) sigOK eqOK hmix tT_cmp_isNaN_int Tryd.func83 (by kernel_rfl) (by kernel_rfl) rfl (by kernel_rfl) (allAt_zero (Q := fun k c => LoopOK Tryd.prog G 6 (P_cmp_isNaN_int k) c) (allAt_of [] (by kernel_rfl) allAt_n)) q_cmp_isNaN_int
/-! ### cmp.Compare[int] -/
def I_cmp_Compare_int : Ab.Spec := ⟨[(0, .one (.int .i64)), (1, .one (.int .i64))], [], []⟩
def E_cmp_Compare_int : List (Ex × Ab.Spec) := [(.ret, ⟨[(4, .one (.int .i64))], [], []⟩)]
def J_cmp_Compare_int : Nat → Option (List (Ex × Ab.Spec)) := fun n => get [] n
noncomputable def T_cmp_Compare_int : List (Nat × Fe G) := [(83, e_cmp_isNaN_int)]
noncomputable def P_cmp_Compare_int : Nat → St G → M (Ex × St G) := fun _ _ => M.fail
theorem tT_cmp_Compare_int : ∀ p ∈ T_cmp_Compare_int, FnOK Tryd.prog G p.1 p.2 := List.forall_mem_cons.2 ⟨ok_cmp_isNaN_int, (fun _ h => absurd h (List.not_mem_nil))⟩
theorem q_cmp_Compare_int (x : I_cmp_Compare_int.T G) : endI (cfP T_cmp_Compare_int) P_cmp_Compare_int J_cmp_Compare_int 20 (bodyOf Tryd.f73) I_cmp_Compare_int E_cmp_Compare_int x = F_cmp_Compare_int x.1.1 x.1.2.1 := by kernel_rfl
noncomputable def e_cmp_Compare_int : Fe G := ⟨I_cmp_Compare_int, E_cmp_Compare_int, fun x => F_cmp_Compare_int x.1.1 x.1.2.1, Tryd.f73.results.toList⟩
theorem ok_cmp_Compare_int : FnOK Tryd.prog G 73 e_cmp_Compare_int := fn_ok (e := e_cmp_Compare_int) sigOK eqOK hmix tT_cmp_Compare_int Tryd.func73 (by kernel_rfl) (by kernel_rfl) rfl (by kernel_rfl) (allAt_zero (Q := fun k c => LoopOK Tryd.prog G 20 (P_cmp_Compare_int k) c) (allAt_of [] (by kernel_rfl) allAt_n)) q_cmp_Compare_int
/-! ### cmp.Or[int] -/
def I_cmp_Or_int : Ab.Spec := ⟨[(0, .one (.ro 3))], [], []⟩
def E_cmp_Or_int : List (Ex × Ab.Spec) := [(.ret, ⟨[(2, .one (.int .i64))], [], []⟩)]
def J_cmp_Or_int : Nat → Option (List (Ex × Ab.Spec)) := fun n => get [] n
noncomputable def T_cmp_Or_int : List (Nat × Fe G) := []
def S_cmp_Or_int_0 : Ab.Spec := ⟨[(3, .one (.int .i64)), (6, .one (.ro 3)), (7, .one (.int .i64)), (8, .one (.int .i64))], [], []⟩
def X_cmp_Or_int_0 : List (Ex × Ab.Spec) := [(.exit 0, ⟨[(3, .one (.int .i64))], [], []⟩), (.ret, ⟨[(2, .one (.int .i64))], [], []⟩)]
noncomputable def P_cmp_Or_int : Nat → St G → M (Ex × St G) := fun n => bif Nat.beq n 0 then lpX S_cmp_Or_int_0 X_cmp_Or_int_0 L_cmp_Or_int_0 else fun _ => M.fail
theorem tT_cmp_Or_int : ∀ p ∈ T_cmp_Or_int, FnOK Tryd.prog G p.1 p.2 := (fun _ h => absurd h (List.not_mem_nil))
theorem r_cmp_Or_int_0 (x : S_cmp_Or_int_0.T G) : rndI (cfP T_cmp_Or_int) P_cmp_Or_int J_cmp_Or_int 18 1 (loopOf (bodyOf Tryd.f72) 0) S_cmp_Or_int_0 X_cmp_Or_int_0 x = R_cmp_Or_int_0 x.1.1 x.1.2.1 x.1.2.2.1 x.1.2.2.2.1 := by kernel_rfl
theorem lk_cmp_Or_int_0 : LoopOK Tryd.prog G 18 (P_cmp_Or_int 0) (loopOf (bodyOf Tryd.f72) 0) := loop_ok (lp := P_cmp_Or_int) (n := 1) (k := 0) sigOK eqOK hmix tT_cmp_Or_int S_cmp_Or_int_0 X_cmp_Or_int_0 (fun x => R_cmp_Or_int_0 x.1.1 x.1.2.1 x.1.2.2.1 x.1.2.2.2.1) (by kernel_rfl) (show AllAt (fun k c => LoopOK Tryd.prog G 18 (P_cmp_Or_int k) c) 1 _ from (allAt_of [] (by kernel_rfl) allAt_n)) r_cmp_Or_int_0
theorem q_cmp_Or_int (x : I_cmp_Or_int.T G) : endI (cfP T_cmp_Or_int) P_cmp_Or_int J_cmp_Or_int 18 (bodyOf Tryd.f72) I_cmp_Or_int E_cmp_Or_int x = F_cmp_Or_int x.1.1 := by kernel_rfl
noncomputable def e_cmp_Or_int : Fe G := ⟨I_cmp_Or_int, E_cmp_Or_int, fun x => F_cmp_Or_int x.1.1, Tryd.f72.results.toList⟩
theorem ok_cmp_Or_int : FnOK Tryd.prog G 72 e_cmp_Or_int := fn_ok (e := e_cmp_Or_int) sigOK eqOK hmix tT_cmp_Or_int Tryd.func72 (by kernel_rfl) (by kernel_rfl) rfl (by kernel_rfl) (allAt_zero (Q := fun k c => LoopOK Tryd.prog G 18 (P_cmp_Or_int k) c) (allAt_of [loopOf (bodyOf Tryd.f72) 0] (by kernel_rfl) (allAt_c lk_cmp_Or_int_0 allAt_n))) q_cmp_Or_int
/-! ### overlay/log.compare -/
def I_log_compare : Ab.Spec := ⟨[(0, .agg [.int .i64, .int .i64, .int .i64, .int .i64, .bool]), (1, .agg [.int .i64, .int .i64, .int .i64, .int .i64, .bool])], [], []⟩
def E_log_compare : List (Ex × Ab.Spec) := [(.ret, ⟨[(4, .one (.int .i64))], [], []⟩)]
def J_log_compare : Nat → Option (List (Ex × Ab.Spec)) := fun n => get [] n
noncomputable def T_log_compare : List (Nat × Fe G) := [(73, e_cmp_Compare_int), (72, e_cmp_Or_int)]
noncomputable def P_log_compare : Nat → St G → M (Ex × St G) := fun _ _ => M.fail
theorem tT_log_compare : ∀ p ∈ T_log_compare, FnOK Tryd.prog G p.1 p.2 := List.forall_mem_cons.2 ⟨ok_cmp_Compare_int, List.forall_mem_cons.2 ⟨ok_cmp_Or_int, (fun _ h => absurd h (List.not_mem_nil))⟩⟩
theorem q_log_compare (x : I_log_compare.T G) : endI (cfP T_log_compare) P_log_compare J_log_compare 17 (bodyOf Tryd.f62) I_log_compare E_log_compare x = F_log_compare x.1.1.1 x.1.1.2.1 x.1.1.2.2.1 x.1.1.2.2.2.1 x.1.1.2.2.2.2.1 x.1.2.1.1 x.1.2.1.2.1 x.1.2.1.2.2.1 x.1.2.1.2.2.2.1 x.1.2.1.2.2.2.2.1 := by kernel_rfl
noncomputable def e_log_compare : Fe G := ⟨I_log_compare, E_log_compare, fun x => F_log_compare x.1.1.1 x.1.1.2.1 x.1.1.2.2.1 x.1.1.2.2.2.1 x.1.1.2.2.2.2.1 x.1.2.1.1 x.1.2.1.2.1 x.1.2.1.2.2.1 x.1.2.1.2.2.2.1 x.1.2.1.2.2.2.2.1, Tryd.f62.results.toList⟩
theorem ok_log_compare : FnOK Tryd.prog G 62 e_log_compare := fn_ok (e := e_log_compare) sigOK eqOK hmix tT_log_compare Tryd.func62 (by kernel_rfl) (by kernel_rfl) rfl (by kernel_rfl) (allAt_zero (Q := fun k c => LoopOK Tryd.prog G 17 (P_log_compare k) c) (allAt_of [] (by kernel_rfl) allAt_n)) q_log_compare
/-! ### overlay/log.IsImage -/
def I_log_IsImage : Ab.Spec := ⟨[(0, .agg [.int .i64, .int .i64, .int .i64, .int .i64, .flt .f64, .flt .f64, .flt .f64, .ro 62]), (1, .agg [.ro 3, .ro 4, .ro 4, .ro 57])], [], []⟩
def E_log_IsImage : List (Ex × Ab.Spec) := [(.ret, ⟨[(4, .one (.bool))], [], []⟩)]
def J_log_IsImage : Nat → Option (List (Ex × Ab.Spec)) := fun n => get [(1048589, [(.normal, ⟨[(2, .one (.ptr 32 0)), (3, .one (.ptr 48 0)), (52, .one (.ro 57)), (53, .one (.int .i64)), (54, .one (.int .i64)), (77, .one (.bool))], [(32, [.int .i64, .int .i64, .int .i64, .int .i64, .flt .f64, .flt .f64, .flt .f64, .ro 62]), (48, [.ro 3, .ro 4, .ro 4, .ro 57])], []⟩)])] n
noncomputable def T_log_IsImage : List (Nat × Fe G) := [(32, e_building_Valid), (61, e_log_isEntry), (62, e_log_compare)]
def S_log_IsImage_0 : Ab.Spec := ⟨[(2, .one (.ptr 32 0)), (3, .one (.ptr 48 0)), (38, .one (.ro 3)), (39, .one (.int .i64)), (40, .one (.int .i64))], [(32, [.int .i64, .int .i64, .int .i64, .int .i64, .flt .f64, .flt .f64, .flt .f64, .ro 62]), (48, [.ro 3, .ro 4, .ro 4, .ro 57])], []⟩
def X_log_IsImage_0 : List (Ex × Ab.Spec) := [(.exit 0, ⟨[(2, .one (.ptr 32 0)), (3, .one (.ptr 48 0))], [(32, [.int .i64, .int .i64, .int .i64, .int .i64, .flt .f64, .flt .f64, .flt .f64, .ro 62]), (48, [.ro 3, .ro 4, .ro 4, .ro 57])], []⟩), (.ret, ⟨[(4, .one (.bool))], [], []⟩)]
def S_log_IsImage_1 : Ab.Spec := ⟨[(2, .one (.ptr 32 0)), (3, .one (.ptr 48 0)), (52, .one (.ro 57)), (53, .one (.int .i64)), (54, .one (.int .i64))], [(32, [.int .i64, .int .i64, .int .i64, .int .i64, .flt .f64, .flt .f64, .flt .f64, .ro 62]), (48, [.ro 3, .ro 4, .ro 4, .ro 57])], []⟩
def X_log_IsImage_1 : List (Ex × Ab.Spec) := [(.exit 2, ⟨[], [], []⟩), (.ret, ⟨[(4, .one (.bool))], [], []⟩)]
noncomputable def P_log_IsImage : Nat → St G → M (Ex × St G) := fun n => bif Nat.beq n 0 then lpX S_log_IsImage_0 X_log_IsImage_0 L_log_IsImage_0 else bif Nat.beq n 1 then lpX S_log_IsImage_1 X_log_IsImage_1 L_log_IsImage_1 else fun _ => M.fail
theorem tT_log_IsImage : ∀ p ∈ T_log_IsImage, FnOK Tryd.prog G p.1 p.2 := List.forall_mem_cons.2 ⟨ok_building_Valid, List.forall_mem_cons.2 ⟨ok_log_isEntry, List.forall_mem_cons.2 ⟨ok_log_compare, (fun _ h => absurd h (List.not_mem_nil))⟩⟩⟩
theorem r_log_IsImage_1 (x : S_log_IsImage_1.T G) : rndI (cfP T_log_IsImage) P_log_IsImage J_log_IsImage 79 2 (loopOf (bodyOf Tryd.f38) 1) S_log_IsImage_1 X_log_IsImage_1 x = R_log_IsImage_1 x.1.2.2.1 x.1.2.2.2.1 x.1.2.2.2.2.1 x.2.1.1 x.2.1.2.1 x.2.1.2.2.1 x.2.1.2.2.2.1 x.2.1.2.2.2.2.1 x.2.1.2.2.2.2.2.1 x.2.1.2.2.2.2.2.2.1 x.2.1.2.2.2.2.2.2.2.1 x.2.2.1.1 x.2.2.1.2.1 x.2.2.1.2.2.1 x.2.2.1.2.2.2.1 := by kernel_rfl
theorem lk_log_IsImage_1 : LoopOK Tryd.prog G 79 (P_log_IsImage 1) (loopOf (bodyOf Tryd.f38) 1) := loop_ok (lp := P_log_IsImage) (n := 2) (k := 1) sigOK eqOK hmix tT_log_IsImage S_log_IsImage_1 X_log_IsImage_1 (fun x => R_log_IsImage_1 x.1.2.2.1 x.1.2.2.2.1 x.1.2.2.2.2.1 x.2.1.1 x.2.1.2.1 x.2.1.2.2.1 x.2.1.2.2.2.1 x.2.1.2.2.2.2.1 x.2.1.2.2.2.2.2.1 x.2.1.2.2.2.2.2.2.1 x.2.1.2.2.2.2.2.2.2.1 x.2.2.1.1 x.2.2.1.2.1 x.2.2.1.2.2.1 x.2.2.1.2.2.2.1) (by kernel_rfl) (show AllAt (fun k c => LoopOK Tryd.prog G 79 (P_log_IsImage k) c) 2 _ from (allAt_of [] (by kernel_rfl) allAt_n)) r_log_IsImage_1
theorem r_log_IsImage_0 (x : S_log_IsImage_0.T G) : rndI (cfP T_log_IsImage) P_log_IsImage J_log_IsImage 79 1 (loopOf (bodyOf Tryd.f38) 0) S_log_IsImage_0 X_log_IsImage_0 x = R_log_IsImage_0 x.1.2.2.1 x.1.2.2.2.1 x.1.2.2.2.2.1 x.2.1.1 x.2.1.2.1 x.2.1.2.2.1 x.2.1.2.2.2.1 x.2.1.2.2.2.2.1 x.2.1.2.2.2.2.2.1 x.2.1.2.2.2.2.2.2.1 x.2.1.2.2.2.2.2.2.2.1 x.2.2.1.1 x.2.2.1.2.1 x.2.2.1.2.2.1 x.2.2.1.2.2.2.1 := by kernel_rfl
theorem lk_log_IsImage_0 : LoopOK Tryd.prog G 79 (P_log_IsImage 0) (loopOf (bodyOf Tryd.f38) 0) := loop_ok (lp := P_log_IsImage) (n := 1) (k := 0) sigOK eqOK hmix tT_log_IsImage S_log_IsImage_0 X_log_IsImage_0 (fun x => R_log_IsImage_0 x.1.2.2.1 x.1.2.2.2.1 x.1.2.2.2.2.1 x.2.1.1 x.2.1.2.1 x.2.1.2.2.1 x.2.1.2.2.2.1 x.2.1.2.2.2.2.1 x.2.1.2.2.2.2.2.1 x.2.1.2.2.2.2.2.2.1 x.2.1.2.2.2.2.2.2.2.1 x.2.2.1.1 x.2.2.1.2.1 x.2.2.1.2.2.1 x.2.2.1.2.2.2.1) (by kernel_rfl) (show AllAt (fun k c => LoopOK Tryd.prog G 79 (P_log_IsImage k) c) 1 _ from (allAt_of [] (by kernel_rfl) allAt_n)) r_log_IsImage_0
theorem q_log_IsImage (x : I_log_IsImage.T G) : endI (cfP T_log_IsImage) P_log_IsImage J_log_IsImage 79 (bodyOf Tryd.f38) I_log_IsImage E_log_IsImage x = F_log_IsImage x.1.1.1 x.1.1.2.1 x.1.1.2.2.1 x.1.1.2.2.2.1 x.1.1.2.2.2.2.1 x.1.1.2.2.2.2.2.1 x.1.1.2.2.2.2.2.2.1 x.1.1.2.2.2.2.2.2.2.1 x.1.2.1.1 x.1.2.1.2.1 x.1.2.1.2.2.1 x.1.2.1.2.2.2.1 := by kernel_rfl
noncomputable def e_log_IsImage : Fe G := ⟨I_log_IsImage, E_log_IsImage, fun x => F_log_IsImage x.1.1.1 x.1.1.2.1 x.1.1.2.2.1 x.1.1.2.2.2.1 x.1.1.2.2.2.2.1 x.1.1.2.2.2.2.2.1 x.1.1.2.2.2.2.2.2.1 x.1.1.2.2.2.2.2.2.2.1 x.1.2.1.1 x.1.2.1.2.1 x.1.2.1.2.2.1 x.1.2.1.2.2.2.1, Tryd.f38.results.toList⟩
theorem ok_log_IsImage : FnOK Tryd.prog G 38 e_log_IsImage := fn_ok (e := e_log_IsImage) sigOK eqOK hmix tT_log_IsImage Tryd.func38 (by kernel_rfl) (by kernel_rfl) rfl (by kernel_rfl) (allAt_zero (Q := fun k c => LoopOK Tryd.prog G 79 (P_log_IsImage k) c) (allAt_of [loopOf (bodyOf Tryd.f38) 0, loopOf (bodyOf Tryd.f38) 1] (by kernel_rfl) (allAt_c lk_log_IsImage_0 (allAt_c lk_log_IsImage_1 allAt_n)))) q_log_IsImage
/-! ### overlay/assign.Plan$1 -/
def I_assign_Plan_1 : Ab.Spec := ⟨[(0, .one (.int .i64))], [], []⟩
def E_assign_Plan_1 : List (Ex × Ab.Spec) := [(.ret, ⟨[(2, .one (.bool))], [], []⟩)]
def J_assign_Plan_1 : Nat → Option (List (Ex × Ab.Spec)) := fun n => get [(1048577, [(.normal, ⟨[(2, .one (.bool))], [], []⟩)])] n
noncomputable def T_assign_Plan_1 : List (Nat × Fe G) := []
noncomputable def P_assign_Plan_1 : Nat → St G → M (Ex × St G) := fun _ _ => M.fail
theorem tT_assign_Plan_1 : ∀ p ∈ T_assign_Plan_1, FnOK Tryd.prog G p.1 p.2 := (fun _ h => absurd h (List.not_mem_nil))
theorem q_assign_Plan_1 (x : I_assign_Plan_1.T G) : endI (cfP T_assign_Plan_1) P_assign_Plan_1 J_assign_Plan_1 9 (bodyOf Tryd.f40) I_assign_Plan_1 E_assign_Plan_1 x = F_assign_Plan_1 x.1.1 := by kernel_rfl
noncomputable def e_assign_Plan_1 : Fe G := ⟨I_assign_Plan_1, E_assign_Plan_1, fun x => F_assign_Plan_1 x.1.1, Tryd.f40.results.toList⟩
theorem ok_assign_Plan_1 : FnOK Tryd.prog G 40 e_assign_Plan_1 := fn_ok (e := e_assign_Plan_1) sigOK eqOK hmix tT_assign_Plan_1 Tryd.func40 (by kernel_rfl) (by kernel_rfl) rfl (by kernel_rfl) (allAt_zero (Q := fun k c => LoopOK Tryd.prog G 9 (P_assign_Plan_1 k) c) (allAt_of [] (by kernel_rfl) allAt_n)) q_assign_Plan_1
/-! ### slices.IndexFunc[[]int,int] -/
def I_slices_IndexFunc_sl_int_int_assign_Plan_1 : Ab.Spec := ⟨[(0, .one (.ro 3)), (1, .one (.clo 40 [] []))], [], []⟩
def E_slices_IndexFunc_sl_int_int_assign_Plan_1 : List (Ex × Ab.Spec) := [(.ret, ⟨[(4, .one (.int .i64))], [], []⟩)]
def J_slices_IndexFunc_sl_int_int_assign_Plan_1 : Nat → Option (List (Ex × Ab.Spec)) := fun n => get [] n
noncomputable def T_slices_IndexFunc_sl_int_int_assign_Plan_1 : List (Nat × Fe G) := [(40, e_assign_Plan_1)]
def S_slices_IndexFunc_sl_int_int_assign_Plan_1_0 : Ab.Spec := ⟨[(0, .one (.ro 3)), (1, .one (.clo 40 [] [])), (7, .one (.int .i64)), (8, .one (.int .i64))], [], []⟩
def X_slices_IndexFunc_sl_int_int_assign_Plan_1_0 : List (Ex × Ab.Spec) := [(.exit 0, ⟨[], [], []⟩), (.ret, ⟨[(4, .one (.int .i64))], [], []⟩)]
noncomputable def P_slices_IndexFunc_sl_int_int_assign_Plan_1 : Nat → St G → M (Ex × St G) := fun n => bif Nat.beq n 0 then lpX S_slices_IndexFunc_sl_int_int_assign_Plan_1_0 X_slices_IndexFunc_sl_int_int_assign_Plan_1_0 L_slices_IndexFunc_sl_int_int_assign_Plan_1_0 else fun _ => M.fail
theorem tT_slices_IndexFunc_sl_int_int_assign_Plan_1 : ∀ p ∈ T_slices_IndexFunc_sl_int_int_assign_Plan_1, FnOK Tryd.prog G p.1 p.2 := List.forall_mem_cons.2 ⟨ok_assign_Plan_1, (fun _ h => absurd h (List.not_mem_nil))⟩
theorem r_slices_IndexFunc_sl_int_int_assign_Plan_1_0 (x : S_slices_IndexFunc_sl_int_int_assign_Plan_1_0.T G) : rndI (cfP T_slices_IndexFunc_sl_int_int_assign_Plan_1) P_slices_IndexFunc_sl_int_int_assign_Plan_1 J_slices_IndexFunc_sl_int_int_assign_Plan_1 19 1 (loopOf (bodyOf Tryd.f63) 0) S_slices_IndexFunc_sl_int_int_assign_Plan_1_0 X_slices_IndexFunc_sl_int_int_assign_Plan_1_0 x = R_slices_IndexFunc_sl_int_int_assign_Plan_1_0 x.1.1 x.1.2.2.1 x.1.2.2.2.1 := by kernel_rfl
theorem lk_slices_IndexFunc_sl_int_int_assign_Plan_1_0 : LoopOK Tryd.prog G 19 (P_slices_IndexFunc_sl_int_int_assign_Plan_1 0) (loopOf (bodyOf Tryd.f63) 0) := loop_ok (lp := P_slices_IndexFunc_sl_int_int_assign_Plan_1) (n := 1) (k := 0) sigOK eqOK hmix tT_slices_IndexFunc_sl_int_int_assign_Plan_1 S_slices_IndexFunc_sl_int_int_assign_Plan_1_0 X_slices_IndexFunc_sl_int_int_assign_Plan_1_0 (fun x => R_slices_IndexFunc_sl_int_int_assign_Plan_1_0 x.1.1 x.1.2.2.1 x.1.2.2.2.1) (by kernel_rfl) (show AllAt (fun k c => LoopOK Tryd.prog G 19 (P_slices_IndexFunc_sl_int_int_assign_Plan_1 k) c) 1 _ from (allAt_of [] (by kernel_rfl) allAt_n)) r_slices_IndexFunc_sl_int_int_assign_Plan_1_0
theorem q_slices_IndexFunc_sl_int_int_assign_Plan_1 (x : I_slices_IndexFunc_sl_int_int_assign_Plan_1.T G) : endI (cfP T_slices_IndexFunc_sl_int_int_assign_Plan_1) P_slices_IndexFunc_sl_int_int_assign_Plan_1 J_slices_IndexFunc_sl_int_int_assign_Plan_1 19 (bodyOf Tryd.f63) I_slices_IndexFunc_sl_int_int_assign_Plan_1 E_slices_IndexFunc_sl_int_int_assign_Plan_1 x = F_slices_IndexFunc_sl_int_int_assign_Plan_1 x.1.1 := by kernel_rfl
noncomputable def e_slices_IndexFunc_sl_int_int_assign_Plan_1 : Fe G := ⟨I_slices_IndexFunc_sl_int_int_assign_Plan_1, E_slices_IndexFunc_sl_int_int_assign_Plan_1, fun x => F_slices_IndexFunc_sl_int_int_assign_Plan_1 x.1.1, Tryd.f63.results.toList⟩
theorem ok_slices_IndexFunc_sl_int_int_assign_Plan_1 : FnOK Tryd.prog G 63 e_slices_IndexFunc_sl_int_int_assign_Plan_1 := fn_ok (e := e_slices_IndexFunc_sl_int_int_assign_Plan_1) sigOK eqOK hmix tT_slices_IndexFunc_sl_int_int_assign_Plan_1 Tryd.func63 (by kernel_rfl) (by kernel_rfl) rfl (by kernel_rfl) (allAt_zero (Q := fun k c => LoopOK Tryd.prog G 19 (P_slices_IndexFunc_sl_int_int_assign_Plan_1 k) c) (allAt_of [loopOf (bodyOf Tryd.f63) 0] (by kernel_rfl) (allAt_c lk_slices_IndexFunc_sl_int_int_assign_Plan_1_0 allAt_n))) q_slices_IndexFunc_sl_int_int_assign_Plan_1
/-! ### slices.ContainsFunc[[]int,int] -/
def I_slices_ContainsFunc_sl_int_int_assign_Plan_1 : Ab.Spec := ⟨[(0, .one (.ro 3)), (1, .one (.clo 40 [] []))], [], []⟩
def E_slices_ContainsFunc_sl_int_int_assign_Plan_1 : List (Ex × Ab.Spec) := [(.ret, ⟨[(4, .one (.bool))], [], []⟩)]
def J_slices_ContainsFunc_sl_int_int_assign_Plan_1 : Nat → Option (List (Ex × Ab.Spec)) := fun n => get [] n
noncomputable def T_slices_ContainsFunc_sl_int_int_assign_Plan_1 : List (Nat × Fe G) := [(63, e_slices_IndexFunc_sl_int_int_assign_Plan_1)]
noncomputable def P_slices_ContainsFunc_sl_int_int_assign_Plan_1 : Nat → St G → M (Ex × St G) := fun _ _ => M.fail
theorem tT_slices_ContainsFunc_sl_int_int_assign_Plan_1 : ∀ p ∈ T_slices_ContainsFunc_sl_int_int_assign_Plan_1, FnOK Tryd.prog G p.1 p.2 := List.forall_mem_cons.2 ⟨ok_slices_IndexFunc_sl_int_int_assign_Plan_1, (fun _ h => absurd h (List.not_mem_nil))⟩
theorem q_slices_ContainsFunc_sl_int_int_assign_Plan_1 (x : I_slices_ContainsFunc_sl_int_int_assign_Plan_1.T G) : endI (cfP T_slices_ContainsFunc_sl_int_int_assign_Plan_1) P_slices_ContainsFunc_sl_int_int_assign_Plan_1 J_slices_ContainsFunc_sl_int_int_assign_Plan_1 9 (bodyOf Tryd.f39) I_slices_ContainsFunc_sl_int_int_assign_Plan_1 E_slices_ContainsFunc_sl_int_int_assign_Plan_1 x = F_slices_ContainsFunc_sl_int_int_assign_Plan_1 x.1.1 := by kernel_rfl
noncomputable def e_slices_ContainsFunc_sl_int_int_assign_Plan_1 : Fe G := ⟨I_slices_ContainsFunc_sl_int_int_assign_Plan_1, E_slices_ContainsFunc_sl_int_int_assign_Plan_1, fun x => F_slices_ContainsFunc_sl_int_int_assign_Plan_1 x.1.1, Tryd.f39.results.toList⟩
theorem ok_slices_ContainsFunc_sl_int_int_assign_Plan_1 : FnOK Tryd.prog G 39 e_slices_ContainsFunc_sl_int_int_assign_Plan_1 := fn_ok (e := e_slices_ContainsFunc_sl_int_int_assign_Plan_1) sigOK eqOK hmix tT_slices_ContainsFunc_sl_int_int_assign_Plan_1 Tryd.func39 (by kernel_rfl) (by kernel_rfl) rfl (by kernel_rfl) (allAt_zero (Q := fun k c => LoopOK Tryd.prog G 9 (P_slices_ContainsFunc_sl_int_int_assign_Plan_1 k) c) (allAt_of [] (by kernel_rfl) allAt_n)) q_slices_ContainsFunc_sl_int_int_assign_Plan_1
/-! ### overlay/cost.isFloors -/
def I_cost_isFloors : Ab.Spec := ⟨[(0, .one (.int .i64))], [], []⟩
def E_cost_isFloors : List (Ex × Ab.Spec) := [(.ret, ⟨[(2, .one (.bool))], [], []⟩)]
def J_cost_isFloors : Nat → Option (List (Ex × Ab.Spec)) := fun n => get [(1048577, [(.normal, ⟨[(2, .one (.bool))], [], []⟩)])] n
noncomputable def T_cost_isFloors : List (Nat × Fe G) := []
noncomputable def P_cost_isFloors : Nat → St G → M (Ex × St G) := fun _ _ => M.fail
theorem tT_cost_isFloors : ∀ p ∈ T_cost_isFloors, FnOK Tryd.prog G p.1 p.2 := (fun _ h => absurd h (List.not_mem_nil))
theorem q_cost_isFloors (x : I_cost_isFloors.T G) : endI (cfP T_cost_isFloors) P_cost_isFloors J_cost_isFloors 9 (bodyOf Tryd.f74) I_cost_isFloors E_cost_isFloors x = F_cost_isFloors x.1.1 := by kernel_rfl
noncomputable def e_cost_isFloors : Fe G := ⟨I_cost_isFloors, E_cost_isFloors, fun x => F_cost_isFloors x.1.1, Tryd.f74.results.toList⟩
theorem ok_cost_isFloors : FnOK Tryd.prog G 74 e_cost_isFloors := fn_ok (e := e_cost_isFloors) sigOK eqOK hmix tT_cost_isFloors Tryd.func74 (by kernel_rfl) (by kernel_rfl) rfl (by kernel_rfl) (allAt_zero (Q := fun k c => LoopOK Tryd.prog G 9 (P_cost_isFloors k) c) (allAt_of [] (by kernel_rfl) allAt_n)) q_cost_isFloors
/-! ### overlay/cost.isCall -/
def I_cost_isCall : Ab.Spec := ⟨[(0, .one (.int .i64)), (1, .one (.int .i64)), (2, .one (.int .i64))], [], []⟩
def E_cost_isCall : List (Ex × Ab.Spec) := [(.ret, ⟨[(6, .one (.bool))], [], []⟩)]
def J_cost_isCall : Nat → Option (List (Ex × Ab.Spec)) := fun n => get [(1048577, [(.normal, ⟨[(6, .one (.bool))], [], []⟩)])] n
noncomputable def T_cost_isCall : List (Nat × Fe G) := []
noncomputable def P_cost_isCall : Nat → St G → M (Ex × St G) := fun _ _ => M.fail
theorem tT_cost_isCall : ∀ p ∈ T_cost_isCall, FnOK Tryd.prog G p.1 p.2 := (fun _ h => absurd h (List.not_mem_nil))
theorem q_cost_isCall (x : I_cost_isCall.T G) : endI (cfP T_cost_isCall) P_cost_isCall J_cost_isCall 32 (bodyOf Tryd.f75) I_cost_isCall E_cost_isCall x = F_cost_isCall x.1.1 x.1.2.1 x.1.2.2.1 := by kernel_rfl
noncomputable def e_cost_isCall : Fe G := ⟨I_cost_isCall, E_cost_isCall, fun x => F_cost_isCall x.1.1 x.1.2.1 x.1.2.2.1, Tryd.f75.results.toList⟩
theorem ok_cost_isCall : FnOK Tryd.prog G 75 e_cost_isCall := fn_ok (e := e_cost_isCall) sigOK eqOK hmix tT_cost_isCall Tryd.func75 (by kernel_rfl) (by kernel_rfl) rfl (by kernel_rfl) (allAt_zero (Q := fun k c => LoopOK Tryd.prog G 32 (P_cost_isCall k) c) (allAt_of [] (by kernel_rfl) allAt_n)) q_cost_isCall
/-! ### overlay/calls.Both -/
def I_calls_Both : Ab.Spec := ⟨[(0, .agg [.int .u32, .int .u32]), (1, .agg [.int .u32, .int .u32])], [], []⟩
def E_calls_Both : List (Ex × Ab.Spec) := [(.ret, ⟨[(4, .one (.ptr 64 0))], [(64, [.int .u32, .int .u32])], []⟩)]
def J_calls_Both : Nat → Option (List (Ex × Ab.Spec)) := fun n => get [] n
noncomputable def T_calls_Both : List (Nat × Fe G) := []
noncomputable def P_calls_Both : Nat → St G → M (Ex × St G) := fun _ _ => M.fail
theorem tT_calls_Both : ∀ p ∈ T_calls_Both, FnOK Tryd.prog G p.1 p.2 := (fun _ h => absurd h (List.not_mem_nil))
theorem q_calls_Both (x : I_calls_Both.T G) : endI (cfP T_calls_Both) P_calls_Both J_calls_Both 16 (bodyOf Tryd.f84) I_calls_Both E_calls_Both x = F_calls_Both x.1.1.1 x.1.1.2.1 x.1.2.1.1 x.1.2.1.2.1 := by kernel_rfl
noncomputable def e_calls_Both : Fe G := ⟨I_calls_Both, E_calls_Both, fun x => F_calls_Both x.1.1.1 x.1.1.2.1 x.1.2.1.1 x.1.2.1.2.1, Tryd.f84.results.toList⟩
theorem ok_calls_Both : FnOK Tryd.prog G 84 e_calls_Both := fn_ok (e := e_calls_Both) sigOK eqOK hmix tT_calls_Both Tryd.func84 (by kernel_rfl) (by kernel_rfl) rfl (by kernel_rfl) (allAt_zero (Q := fun k c => LoopOK Tryd.prog G 16 (P_calls_Both k) c) (allAt_of [] (by kernel_rfl) allAt_n)) q_calls_Both
/-! ### overlay/cost.counted -/
def I_cost_counted : Ab.Spec := ⟨[(0, .one (.int .i64)), (1, .agg [.int .u32, .int .u32, .int .u32])], [], []⟩
def E_cost_counted : List (Ex × Ab.Spec) := [(.ret, ⟨[(4, .one (.ptr 64 0))], [(64, [.int .u32, .int .u32, .int .u32])], []⟩)]
def J_cost_counted : Nat → Option (List (Ex × Ab.Spec)) := fun n => get [] n
noncomputable def T_cost_counted : List (Nat × Fe G) := [(84, e_calls_Both)]
noncomputable def P_cost_counted : Nat → St G → M (Ex × St G) := fun _ _ => M.fail
theorem tT_cost_counted : ∀ p ∈ T_cost_counted, FnOK Tryd.prog G p.1 p.2 := List.forall_mem_cons.2 ⟨ok_calls_Both, (fun _ h => absurd h (List.not_mem_nil))⟩
theorem q_cost_counted (x : I_cost_counted.T G) : endI (cfP T_cost_counted) P_cost_counted J_cost_counted 22 (bodyOf Tryd.f76) I_cost_counted E_cost_counted x = F_cost_counted x.1.1 x.1.2.1.1 x.1.2.1.2.1 x.1.2.1.2.2.1 := by kernel_rfl
noncomputable def e_cost_counted : Fe G := ⟨I_cost_counted, E_cost_counted, fun x => F_cost_counted x.1.1 x.1.2.1.1 x.1.2.1.2.1 x.1.2.1.2.2.1, Tryd.f76.results.toList⟩
theorem ok_cost_counted : FnOK Tryd.prog G 76 e_cost_counted := fn_ok (e := e_cost_counted) sigOK eqOK hmix tT_cost_counted Tryd.func76 (by kernel_rfl) (by kernel_rfl) rfl (by kernel_rfl) (allAt_zero (Q := fun k c => LoopOK Tryd.prog G 22 (P_cost_counted k) c) (allAt_of [] (by kernel_rfl) allAt_n)) q_cost_counted
/-! ### math/bits.TrailingZeros32 -/
def I_bits_TrailingZeros32 : Ab.Spec := ⟨[(0, .one (.int .u32))], [], []⟩
def E_bits_TrailingZeros32 : List (Ex × Ab.Spec) := [(.ret, ⟨[(2, .one (.int .i64))], [], []⟩)]
def J_bits_TrailingZeros32 : Nat → Option (List (Ex × Ab.Spec)) := fun n => get [] n
noncomputable def T_bits_TrailingZeros32 : List (Nat × Fe G) := []
noncomputable def P_bits_TrailingZeros32 : Nat → St G → M (Ex × St G) := fun _ _ => M.fail
theorem tT_bits_TrailingZeros32 : ∀ p ∈ T_bits_TrailingZeros32, FnOK Tryd.prog G p.1 p.2 := (fun _ h => absurd h (List.not_mem_nil))
theorem q_bits_TrailingZeros32 (x : I_bits_TrailingZeros32.T G) : endI (cfP T_bits_TrailingZeros32) P_bits_TrailingZeros32 J_bits_TrailingZeros32 14 (bodyOf Tryd.f77) I_bits_TrailingZeros32 E_bits_TrailingZeros32 x = F_bits_TrailingZeros32 x.1.1 := by kernel_rfl
noncomputable def e_bits_TrailingZeros32 : Fe G := ⟨I_bits_TrailingZeros32, E_bits_TrailingZeros32, fun x => F_bits_TrailingZeros32 x.1.1, Tryd.f77.results.toList⟩
theorem ok_bits_TrailingZeros32 : FnOK Tryd.prog G 77 e_bits_TrailingZeros32 := fn_ok (e := e_bits_TrailingZeros32) sigOK eqOK hmix tT_bits_TrailingZeros32 Tryd.func77 (by kernel_rfl) (by kernel_rfl) rfl (by kernel_rfl) (allAt_zero (Q := fun k c => LoopOK Tryd.prog G 14 (P_bits_TrailingZeros32 k) c) (allAt_of [] (by kernel_rfl) allAt_n)) q_bits_TrailingZeros32
/-! ### math/bits.Len32 -/
def I_bits_Len32 : Ab.Spec := ⟨[(0, .one (.int .u32))], [], []⟩
def E_bits_Len32 : List (Ex × Ab.Spec) := [(.ret, ⟨[(2, .one (.int .i64))], [], []⟩)]
def J_bits_Len32 : Nat → Option (List (Ex × Ab.Spec)) := fun n => get [(5, [(.normal, ⟨[(0, .one (.int .u32)), (2, .one (.int .i64))], [], []⟩)]), (8, [(.normal, ⟨[(0, .one (.int .u32)), (2, .one (.int .i64))], [], []⟩)])] n
noncomputable def T_bits_Len32 : List (Nat × Fe G) := []
noncomputable def P_bits_Len32 : Nat → St G → M (Ex × St G) := fun _ _ => M.fail
theorem tT_bits_Len32 : ∀ p ∈ T_bits_Len32, FnOK Tryd.prog G p.1 p.2 := (fun _ h => absurd h (List.not_mem_nil))
theorem q_bits_Len32 (x : I_bits_Len32.T G) : endI (cfP T_bits_Len32) P_bits_Len32 J_bits_Len32 19 (bodyOf Tryd.f78) I_bits_Len32 E_bits_Len32 x = F_bits_Len32 x.1.1 := by kernel_rfl
noncomputable def e_bits_Len32 : Fe G := ⟨I_bits_Len32, E_bits_Len32, fun x => F_bits_Len32 x.1.1, Tryd.f78.results.toList⟩
theorem ok_bits_Len32 : FnOK Tryd.prog G 78 e_bits_Len32 := fn_ok (e := e_bits_Len32) sigOK eqOK hmix tT_bits_Len32 Tryd.func78 (by kernel_rfl) (by kernel_rfl) rfl (by kernel_rfl) (allAt_zero (Q := fun k c => LoopOK Tryd.prog G 19 (P_bits_Len32 k) c) (allAt_of [] (by kernel_rfl) allAt_n)) q_bits_Len32
/-! ### overlay/cost.Path$1 -/
def I_cost_Path_1_h64a48 : Ab.Spec := ⟨[(0, .one (.own 32768 3)), (1, .one (.ptr 65536 0)), (2, .one (.ptr 65537 0))], [(65536, [.int .i64]), (65537, [.int .i64])], []⟩
def E_cost_Path_1_h64a48 : List (Ex × Ab.Spec) := [(.ret, ⟨[(4, .one (.int .i64))], [(65536, [.int .i64]), (65537, [.int .i64])], [65536, 65537]⟩)]
def J_cost_Path_1_h64a48 : Nat → Option (List (Ex × Ab.Spec)) := fun n => get [] n
noncomputable def T_cost_Path_1_h64a48 : List (Nat × Fe G) := []
def S_cost_Path_1_h64a48_0 : Ab.Spec := ⟨[(5, .one (.int .i64)), (6, .one (.int .i64)), (13, .one (.own 32768 3)), (14, .one (.int .i64)), (15, .one (.int .i64))], [(65536, [.int .i64]), (65537, [.int .i64])], [65536, 65537]⟩
def X_cost_Path_1_h64a48_0 : List (Ex × Ab.Spec) := [(.exit 0, ⟨[(5, .one (.int .i64))], [(65536, [.int .i64]), (65537, [.int .i64])], [65536, 65537]⟩)]
noncomputable def P_cost_Path_1_h64a48 : Nat → St G → M (Ex × St G) := fun n => bif Nat.beq n 0 then lpX S_cost_Path_1_h64a48_0 X_cost_Path_1_h64a48_0 L_cost_Path_1_h64a48_0 else fun _ => M.fail
theorem tT_cost_Path_1_h64a48 : ∀ p ∈ T_cost_Path_1_h64a48, FnOK Tryd.prog G p.1 p.2 := (fun _ h => absurd h (List.not_mem_nil))
theorem r_cost_Path_1_h64a48_0 (x : S_cost_Path_1_h64a48_0.T G) : rndI (cfP T_cost_Path_1_h64a48) P_cost_Path_1_h64a48 J_cost_Path_1_h64a48 31 1 (loopOf (bodyOf Tryd.f79) 0) S_cost_Path_1_h64a48_0 X_cost_Path_1_h64a48_0 x = R_cost_Path_1_h64a48_0 x.1.1 x.1.2.1 x.1.2.2.1 x.1.2.2.2.1 x.1.2.2.2.2.1 x.2.1.1 x.2.2.1.1 := by kernel_rfl
theorem lk_cost_Path_1_h64a48_0 : LoopOK Tryd.prog G 31 (P_cost_Path_1_h64a48 0) (loopOf (bodyOf Tryd.f79) 0) := loop_ok (lp := P_cost_Path_1_h64a48) (n := 1) (k := 0) sigOK eqOK hmix tT_cost_Path_1_h64a48 S_cost_Path_1_h64a48_0 X_cost_Path_1_h64a48_0 (fun x => R_cost_Path_1_h64a48_0 x.1.1 x.1.2.1 x.1.2.2.1 x.1.2.2.2.1 x.1.2.2.2.2.1 x.2.1.1 x.2.2.1.1) (by kernel_rfl) (show AllAt (fun k c => LoopOK Tryd.prog G 31 (P_cost_Path_1_h64a48 k) c) 1 _ from (allAt_of [] (by kernel_rfl) allAt_n)) r_cost_Path_1_h64a48_0
theorem q_cost_Path_1_h64a48 (x : I_cost_Path_1_h64a48.T G) : endI (cfP T_cost_Path_1_h64a48) P_cost_Path_1_h64a48 J_cost_Path_1_h64a48 31 (bodyOf Tryd.f79) I_cost_Path_1_h64a48 E_cost_Path_1_h64a48 x = F_cost_Path_1_h64a48 x.1.1 x.2.1.1 x.2.2.1.1 := by kernel_rfl
noncomputable def e_cost_Path_1_h64a48 : Fe G := ⟨I_cost_Path_1_h64a48, E_cost_Path_1_h64a48, fun x => F_cost_Path_1_h64a48 x.1.1 x.2.1.1 x.2.2.1.1, Tryd.f79.results.toList⟩
theorem ok_cost_Path_1_h64a48 : FnOK Tryd.prog G 79 e_cost_Path_1_h64a48 := fn_ok (e := e_cost_Path_1_h64a48) sigOK eqOK hmix tT_cost_Path_1_h64a48 Tryd.func79 (by kernel_rfl) (by kernel_rfl) rfl (by kernel_rfl) (allAt_zero (Q := fun k c => LoopOK Tryd.prog G 31 (P_cost_Path_1_h64a48 k) c) (allAt_of [loopOf (bodyOf Tryd.f79) 0] (by kernel_rfl) (allAt_c lk_cost_Path_1_h64a48_0 allAt_n))) q_cost_Path_1_h64a48
/-! ### overlay/cost.Path -/
def I_cost_Path : Ab.Spec := ⟨[(0, .one (.int .i64)), (1, .one (.int .i64)), (2, .one (.int .i64)), (3, .agg [.int .u32, .int .u32, .int .u32]), (4, .one (.int .i64)), (5, .one (.int .i64))], [], []⟩
def E_cost_Path : List (Ex × Ab.Spec) := [(.ret, ⟨[(12, .one (.int .i64))], [], []⟩)]
def J_cost_Path : Nat → Option (List (Ex × Ab.Spec)) := fun n => get [(1048583, [(.normal, ⟨[(2, .one (.int .i64)), (5, .one (.int .i64)), (15, .one (.int .i64)), (16, .one (.int .i64)), (17, .one (.clo 79 [] [(112, 0), (160, 0)])), (18, .one (.bool))], [(112, [.int .i64]), (160, [.int .i64])], []⟩)]), (1048584, [(.normal, ⟨[(2, .one (.int .i64)), (5, .one (.int .i64)), (15, .one (.int .i64)), (16, .one (.int .i64)), (17, .one (.clo 79 [] [(112, 0), (160, 0)])), (87, .one (.bool))], [(112, [.int .i64]), (160, [.int .i64])], []⟩)]), (1048586, [(.normal, ⟨[(2, .one (.int .i64)), (5, .one (.int .i64)), (15, .one (.int .i64)), (16, .one (.int .i64)), (17, .one (.clo 79 [] [(112, 0), (160, 0)])), (100, .one (.bool))], [(112, [.int .i64]), (160, [.int .i64])], []⟩)])] n
noncomputable def T_cost_Path : List (Nat × Fe G) := [(74, e_cost_isFloors), (75, e_cost_isCall), (76, e_cost_counted), (77, e_bits_TrailingZeros32), (78, e_bits_Len32), (79, e_cost_Path_1_h64a48)]
noncomputable def P_cost_Path : Nat → St G → M (Ex × St G) := fun _ _ => M.fail
theorem tT_cost_Path : ∀ p ∈ T_cost_Path, FnOK Tryd.prog G p.1 p.2 := List.forall_mem_cons.2 ⟨ok_cost_isFloors, List.forall_mem_cons.2 ⟨ok_cost_isCall, List.forall_mem_cons.2 ⟨ok_cost_counted, List.forall_mem_cons.2 ⟨ok_bits_TrailingZeros32, List.forall_mem_cons.2 ⟨ok_bits_Len32, List.forall_mem_cons.2 ⟨ok_cost_Path_1_h64a48, (fun _ h => absurd h (List.not_mem_nil))⟩⟩⟩⟩⟩⟩
theorem q_cost_Path (x : I_cost_Path.T G) : endI (cfP T_cost_Path) P_cost_Path J_cost_Path 133 (bodyOf Tryd.f65) I_cost_Path E_cost_Path x = F_cost_Path x.1.1 x.1.2.1 x.1.2.2.1 x.1.2.2.2.1.1 x.1.2.2.2.1.2.1 x.1.2.2.2.1.2.2.1 x.1.2.2.2.2.1 x.1.2.2.2.2.2.1 := by kernel_rfl
noncomputable def e_cost_Path : Fe G := ⟨I_cost_Path, E_cost_Path, fun x => F_cost_Path x.1.1 x.1.2.1 x.1.2.2.1 x.1.2.2.2.1.1 x.1.2.2.2.1.2.1 x.1.2.2.2.1.2.2.1 x.1.2.2.2.2.1 x.1.2.2.2.2.2.1, Tryd.f65.results.toList⟩
theorem ok_cost_Path : FnOK Tryd.prog G 65 e_cost_Path := fn_ok (e := e_cost_Path) sigOK eqOK hmix tT_cost_Path Tryd.func65 (by kernel_rfl) (by kernel_rfl) rfl (by kernel_rfl) (allAt_zero (Q := fun k c => LoopOK Tryd.prog G 133 (P_cost_Path k) c) (allAt_of [] (by kernel_rfl) allAt_n)) q_cost_Path
/-! ### math/bits.OnesCount32 -/
def I_bits_OnesCount32 : Ab.Spec := ⟨[(0, .one (.int .u32))], [], []⟩
def E_bits_OnesCount32 : List (Ex × Ab.Spec) := [(.ret, ⟨[(2, .one (.int .i64))], [], []⟩)]
def J_bits_OnesCount32 : Nat → Option (List (Ex × Ab.Spec)) := fun n => get [] n
noncomputable def T_bits_OnesCount32 : List (Nat × Fe G) := []
noncomputable def P_bits_OnesCount32 : Nat → St G → M (Ex × St G) := fun _ _ => M.fail
theorem tT_bits_OnesCount32 : ∀ p ∈ T_bits_OnesCount32, FnOK Tryd.prog G p.1 p.2 := (fun _ h => absurd h (List.not_mem_nil))
theorem q_bits_OnesCount32 (x : I_bits_OnesCount32.T G) : endI (cfP T_bits_OnesCount32) P_bits_OnesCount32 J_bits_OnesCount32 21 (bodyOf Tryd.f80) I_bits_OnesCount32 E_bits_OnesCount32 x = F_bits_OnesCount32 x.1.1 := by kernel_rfl
noncomputable def e_bits_OnesCount32 : Fe G := ⟨I_bits_OnesCount32, E_bits_OnesCount32, fun x => F_bits_OnesCount32 x.1.1, Tryd.f80.results.toList⟩
theorem ok_bits_OnesCount32 : FnOK Tryd.prog G 80 e_bits_OnesCount32 := fn_ok (e := e_bits_OnesCount32) sigOK eqOK hmix tT_bits_OnesCount32 Tryd.func80 (by kernel_rfl) (by kernel_rfl) rfl (by kernel_rfl) (allAt_zero (Q := fun k c => LoopOK Tryd.prog G 21 (P_bits_OnesCount32 k) c) (allAt_of [] (by kernel_rfl) allAt_n)) q_bits_OnesCount32
/-! ### overlay/calls.Count -/
def I_calls_Count : Ab.Spec := ⟨[(0, .agg [.int .u32, .int .u32])], [], []⟩
def E_calls_Count : List (Ex × Ab.Spec) := [(.ret, ⟨[(2, .one (.int .i64))], [], []⟩)]
def J_calls_Count : Nat → Option (List (Ex × Ab.Spec)) := fun n => get [] n
noncomputable def T_calls_Count : List (Nat × Fe G) := [(80, e_bits_OnesCount32)]
noncomputable def P_calls_Count : Nat → St G → M (Ex × St G) := fun _ _ => M.fail
theorem tT_calls_Count : ∀ p ∈ T_calls_Count, FnOK Tryd.prog G p.1 p.2 := List.forall_mem_cons.2 ⟨ok_bits_OnesCount32, (fun _ h => absurd h (List.not_mem_nil))⟩
theorem q_calls_Count (x : I_calls_Count.T G) : endI (cfP T_calls_Count) P_calls_Count J_calls_Count 10 (bodyOf Tryd.f81) I_calls_Count E_calls_Count x = F_calls_Count x.1.1.1 x.1.1.2.1 := by kernel_rfl
noncomputable def e_calls_Count : Fe G := ⟨I_calls_Count, E_calls_Count, fun x => F_calls_Count x.1.1.1 x.1.1.2.1, Tryd.f81.results.toList⟩
theorem ok_calls_Count : FnOK Tryd.prog G 81 e_calls_Count := fn_ok (e := e_calls_Count) sigOK eqOK hmix tT_calls_Count Tryd.func81 (by kernel_rfl) (by kernel_rfl) rfl (by kernel_rfl) (allAt_zero (Q := fun k c => LoopOK Tryd.prog G 10 (P_calls_Count k) c) (allAt_of [] (by kernel_rfl) allAt_n)) q_calls_Count
/-! ### overlay/cost.Count -/
def I_cost_Count : Ab.Spec := ⟨[(0, .one (.int .i64)), (1, .agg [.int .u32, .int .u32, .int .u32])], [], []⟩
def E_cost_Count : List (Ex × Ab.Spec) := [(.ret, ⟨[(4, .one (.int .i64))], [], []⟩)]
def J_cost_Count : Nat → Option (List (Ex × Ab.Spec)) := fun n => get [] n
noncomputable def T_cost_Count : List (Nat × Fe G) := [(74, e_cost_isFloors), (76, e_cost_counted), (80, e_bits_OnesCount32), (81, e_calls_Count)]
noncomputable def P_cost_Count : Nat → St G → M (Ex × St G) := fun _ _ => M.fail
theorem tT_cost_Count : ∀ p ∈ T_cost_Count, FnOK Tryd.prog G p.1 p.2 := List.forall_mem_cons.2 ⟨ok_cost_isFloors, List.forall_mem_cons.2 ⟨ok_cost_counted, List.forall_mem_cons.2 ⟨ok_bits_OnesCount32, List.forall_mem_cons.2 ⟨ok_calls_Count, (fun _ h => absurd h (List.not_mem_nil))⟩⟩⟩⟩
theorem q_cost_Count (x : I_cost_Count.T G) : endI (cfP T_cost_Count) P_cost_Count J_cost_Count 19 (bodyOf Tryd.f66) I_cost_Count E_cost_Count x = F_cost_Count x.1.1 x.1.2.1.1 x.1.2.1.2.1 x.1.2.1.2.2.1 := by kernel_rfl
noncomputable def e_cost_Count : Fe G := ⟨I_cost_Count, E_cost_Count, fun x => F_cost_Count x.1.1 x.1.2.1.1 x.1.2.1.2.1 x.1.2.1.2.2.1, Tryd.f66.results.toList⟩
theorem ok_cost_Count : FnOK Tryd.prog G 66 e_cost_Count := fn_ok (e := e_cost_Count) sigOK eqOK hmix tT_cost_Count Tryd.func66 (by kernel_rfl) (by kernel_rfl) rfl (by kernel_rfl) (allAt_zero (Q := fun k c => LoopOK Tryd.prog G 19 (P_cost_Count k) c) (allAt_of [] (by kernel_rfl) allAt_n)) q_cost_Count
/-! ### overlay/cost.Estimate -/
def I_cost_Estimate : Ab.Spec := ⟨[(0, .agg [.int .i64, .int .i64, .int .i64, .int .i64, .flt .f64, .flt .f64, .flt .f64, .ro 62]), (1, .one (.int .i64)), (2, .agg [.bool, .bool, .bool, .bool, .int .i64, .int .i64, .int .i64, .int .u32, .int .u32, .int .u32, .int .u32, .int .u32]), (3, .one (.int .i64)), (4, .one (.int .i64))], [], []⟩
def E_cost_Estimate : List (Ex × Ab.Spec) := [(.ret, ⟨[(10, .one (.int .i64))], [], []⟩)]
def J_cost_Estimate : Nat → Option (List (Ex × Ab.Spec)) := fun n => get [(7, [(.normal, ⟨[(1, .one (.int .i64)), (3, .one (.int .i64)), (4, .one (.int .i64)), (5, .one (.ptr 80 0)), (7, .one (.ptr 112 0)), (11, .one (.int .i64))], [(80, [.int .i64, .int .i64, .int .i64, .int .i64, .flt .f64, .flt .f64, .flt .f64, .ro 62]), (112, [.bool, .bool, .bool, .bool, .int .i64, .int .i64, .int .i64, .int .u32, .int .u32, .int .u32, .int .u32, .int .u32])], []⟩)])] n
noncomputable def T_cost_Estimate : List (Nat × Fe G) := [(32, e_building_Valid), (65, e_cost_Path), (66, e_cost_Count)]
noncomputable def P_cost_Estimate : Nat → St G → M (Ex × St G) := fun _ _ => M.fail
theorem tT_cost_Estimate : ∀ p ∈ T_cost_Estimate, FnOK Tryd.prog G p.1 p.2 := List.forall_mem_cons.2 ⟨ok_building_Valid, List.forall_mem_cons.2 ⟨ok_cost_Path, List.forall_mem_cons.2 ⟨ok_cost_Count, (fun _ h => absurd h (List.not_mem_nil))⟩⟩⟩
theorem q_cost_Estimate (x : I_cost_Estimate.T G) : endI (cfP T_cost_Estimate) P_cost_Estimate J_cost_Estimate 67 (bodyOf Tryd.f43) I_cost_Estimate E_cost_Estimate x = F_cost_Estimate x.1.1.1 x.1.1.2.1 x.1.1.2.2.1 x.1.1.2.2.2.1 x.1.1.2.2.2.2.1 x.1.1.2.2.2.2.2.1 x.1.1.2.2.2.2.2.2.1 x.1.1.2.2.2.2.2.2.2.1 x.1.2.1 x.1.2.2.1.1 x.1.2.2.1.2.1 x.1.2.2.1.2.2.1 x.1.2.2.1.2.2.2.1 x.1.2.2.1.2.2.2.2.1 x.1.2.2.1.2.2.2.2.2.1 x.1.2.2.1.2.2.2.2.2.2.1 x.1.2.2.1.2.2.2.2.2.2.2.1 x.1.2.2.1.2.2.2.2.2.2.2.2.1 x.1.2.2.1.2.2.2.2.2.2.2.2.2.1 x.1.2.2.1.2.2.2.2.2.2.2.2.2.2.1 x.1.2.2.1.2.2.2.2.2.2.2.2.2.2.2.1 x.1.2.2.2.1 x.1.2.2.2.2.1 := by kernel_rfl
noncomputable def e_cost_Estimate : Fe G := ⟨I_cost_Estimate, E_cost_Estimate, fun x => F_cost_Estimate x.1.1.1 x.1.1.2.1 x.1.1.2.2.1 x.1.1.2.2.2.1 x.1.1.2.2.2.2.1 x.1.1.2.2.2.2.2.1 x.1.1.2.2.2.2.2.2.1 x.1.1.2.2.2.2.2.2.2.1 x.1.2.1 x.1.2.2.1.1 x.1.2.2.1.2.1 x.1.2.2.1.2.2.1 x.1.2.2.1.2.2.2.1 x.1.2.2.1.2.2.2.2.1 x.1.2.2.1.2.2.2.2.2.1 x.1.2.2.1.2.2.2.2.2.2.1 x.1.2.2.1.2.2.2.2.2.2.2.1 x.1.2.2.1.2.2.2.2.2.2.2.2.1 x.1.2.2.1.2.2.2.2.2.2.2.2.2.1 x.1.2.2.1.2.2.2.2.2.2.2.2.2.2.1 x.1.2.2.1.2.2.2.2.2.2.2.2.2.2.2.1 x.1.2.2.2.1 x.1.2.2.2.2.1, Tryd.f43.results.toList⟩
theorem ok_cost_Estimate : FnOK Tryd.prog G 43 e_cost_Estimate := fn_ok (e := e_cost_Estimate) sigOK eqOK hmix tT_cost_Estimate Tryd.func43 (by kernel_rfl) (by kernel_rfl) rfl (by kernel_rfl) (allAt_zero (Q := fun k c => LoopOK Tryd.prog G 67 (P_cost_Estimate k) c) (allAt_of [] (by kernel_rfl) allAt_n)) q_cost_Estimate
/-! ### overlay/assign.full -/
def I_assign_full : Ab.Spec := ⟨[(0, .agg [.bool, .bool, .bool, .bool, .int .i64, .int .i64, .int .i64, .int .u32, .int .u32, .int .u32, .int .u32, .int .u32])], [], []⟩
def E_assign_full : List (Ex × Ab.Spec) := [(.ret, ⟨[(2, .one (.bool))], [], []⟩)]
def J_assign_full : Nat → Option (List (Ex × Ab.Spec)) := fun n => get [(1048577, [(.normal, ⟨[(2, .one (.bool))], [], []⟩)])] n
noncomputable def T_assign_full : List (Nat × Fe G) := []
noncomputable def P_assign_full : Nat → St G → M (Ex × St G) := fun _ _ => M.fail
theorem tT_assign_full : ∀ p ∈ T_assign_full, FnOK Tryd.prog G p.1 p.2 := (fun _ h => absurd h (List.not_mem_nil))
theorem q_assign_full (x : I_assign_full.T G) : endI (cfP T_assign_full) P_assign_full J_assign_full 11 (bodyOf Tryd.f54) I_assign_full E_assign_full x = F_assign_full x.1.1.1 x.1.1.2.1 x.1.1.2.2.1 x.1.1.2.2.2.1 x.1.1.2.2.2.2.1 x.1.1.2.2.2.2.2.1 x.1.1.2.2.2.2.2.2.1 x.1.1.2.2.2.2.2.2.2.1 x.1.1.2.2.2.2.2.2.2.2.1 x.1.1.2.2.2.2.2.2.2.2.2.1 x.1.1.2.2.2.2.2.2.2.2.2.2.1 x.1.1.2.2.2.2.2.2.2.2.2.2.2.1 := by kernel_rfl
noncomputable def e_assign_full : Fe G := ⟨I_assign_full, E_assign_full, fun x => F_assign_full x.1.1.1 x.1.1.2.1 x.1.1.2.2.1 x.1.1.2.2.2.1 x.1.1.2.2.2.2.1 x.1.1.2.2.2.2.2.1 x.1.1.2.2.2.2.2.2.1 x.1.1.2.2.2.2.2.2.2.1 x.1.1.2.2.2.2.2.2.2.2.1 x.1.1.2.2.2.2.2.2.2.2.2.1 x.1.1.2.2.2.2.2.2.2.2.2.2.1 x.1.1.2.2.2.2.2.2.2.2.2.2.2.1, Tryd.f54.results.toList⟩
theorem ok_assign_full : FnOK Tryd.prog G 54 e_assign_full := fn_ok (e := e_assign_full) sigOK eqOK hmix tT_assign_full Tryd.func54 (by kernel_rfl) (by kernel_rfl) rfl (by kernel_rfl) (allAt_zero (Q := fun k c => LoopOK Tryd.prog G 11 (P_assign_full k) c) (allAt_of [] (by kernel_rfl) allAt_n)) q_assign_full
/-! ### overlay/assign.rank -/
def I_assign_rank : Ab.Spec := ⟨[(0, .agg [.int .i64, .int .i64, .int .i64, .int .i64, .flt .f64, .flt .f64, .flt .f64, .ro 62]), (1, .one (.ro 55)), (2, .one (.int .i64)), (3, .one (.int .i64)), (4, .one (.int .i64))], [], []⟩
def E_assign_rank : List (Ex × Ab.Spec) := [(.ret, ⟨[(10, .one (.ptr 160 0))], [(160, [.int .i64, .int .i64])], []⟩)]
def J_assign_rank : Nat → Option (List (Ex × Ab.Spec)) := fun n => get [] n
noncomputable def T_assign_rank : List (Nat × Fe G) := [(43, e_cost_Estimate), (54, e_assign_full)]
noncomputable def P_assign_rank : Nat → St G → M (Ex × St G) := fun _ _ => M.fail
theorem tT_assign_rank : ∀ p ∈ T_assign_rank, FnOK Tryd.prog G p.1 p.2 := List.forall_mem_cons.2 ⟨ok_cost_Estimate, List.forall_mem_cons.2 ⟨ok_assign_full, (fun _ h => absurd h (List.not_mem_nil))⟩⟩
theorem q_assign_rank (x : I_assign_rank.T G) : endI (cfP T_assign_rank) P_assign_rank J_assign_rank 29 (bodyOf Tryd.f33) I_assign_rank E_assign_rank x = F_assign_rank x.1.1.1 x.1.1.2.1 x.1.1.2.2.1 x.1.1.2.2.2.1 x.1.1.2.2.2.2.1 x.1.1.2.2.2.2.2.1 x.1.1.2.2.2.2.2.2.1 x.1.1.2.2.2.2.2.2.2.1 x.1.2.1 x.1.2.2.1 x.1.2.2.2.1 x.1.2.2.2.2.1 := by kernel_rfl
noncomputable def e_assign_rank : Fe G := ⟨I_assign_rank, E_assign_rank, fun x => F_assign_rank x.1.1.1 x.1.1.2.1 x.1.1.2.2.1 x.1.1.2.2.2.1 x.1.1.2.2.2.2.1 x.1.1.2.2.2.2.2.1 x.1.1.2.2.2.2.2.2.1 x.1.1.2.2.2.2.2.2.2.1 x.1.2.1 x.1.2.2.1 x.1.2.2.2.1 x.1.2.2.2.2.1, Tryd.f33.results.toList⟩
theorem ok_assign_rank : FnOK Tryd.prog G 33 e_assign_rank := fn_ok (e := e_assign_rank) sigOK eqOK hmix tT_assign_rank Tryd.func33 (by kernel_rfl) (by kernel_rfl) rfl (by kernel_rfl) (allAt_zero (Q := fun k c => LoopOK Tryd.prog G 29 (P_assign_rank k) c) (allAt_of [] (by kernel_rfl) allAt_n)) q_assign_rank
/-! ### overlay/assign.Better -/
def I_assign_Better : Ab.Spec := ⟨[(0, .agg [.int .i64, .int .i64]), (1, .agg [.int .i64, .int .i64])], [], []⟩
def E_assign_Better : List (Ex × Ab.Spec) := [(.ret, ⟨[(4, .one (.bool))], [], []⟩)]
def J_assign_Better : Nat → Option (List (Ex × Ab.Spec)) := fun n => get [(1048579, [(.normal, ⟨[(4, .one (.bool))], [], []⟩)])] n
noncomputable def T_assign_Better : List (Nat × Fe G) := []
noncomputable def P_assign_Better : Nat → St G → M (Ex × St G) := fun _ _ => M.fail
theorem tT_assign_Better : ∀ p ∈ T_assign_Better, FnOK Tryd.prog G p.1 p.2 := (fun _ h => absurd h (List.not_mem_nil))
theorem q_assign_Better (x : I_assign_Better.T G) : endI (cfP T_assign_Better) P_assign_Better J_assign_Better 27 (bodyOf Tryd.f15) I_assign_Better E_assign_Better x = F_assign_Better x.1.1.1 x.1.1.2.1 x.1.2.1.1 x.1.2.1.2.1 := by kernel_rfl
noncomputable def e_assign_Better : Fe G := ⟨I_assign_Better, E_assign_Better, fun x => F_assign_Better x.1.1.1 x.1.1.2.1 x.1.2.1.1 x.1.2.1.2.1, Tryd.f15.results.toList⟩
theorem ok_assign_Better : FnOK Tryd.prog G 15 e_assign_Better := fn_ok (e := e_assign_Better) sigOK eqOK hmix tT_assign_Better Tryd.func15 (by kernel_rfl) (by kernel_rfl) rfl (by kernel_rfl) (allAt_zero (Q := fun k c => LoopOK Tryd.prog G 27 (P_assign_Better k) c) (allAt_of [] (by kernel_rfl) allAt_n)) q_assign_Better
/-! ### overlay/assign.Choose -/
def I_assign_Choose : Ab.Spec := ⟨[(0, .agg [.int .i64, .int .i64, .int .i64, .int .i64, .flt .f64, .flt .f64, .flt .f64, .ro 62]), (1, .one (.ro 55)), (2, .one (.int .i64)), (3, .one (.int .i64)), (4, .one (.int .i64))], [], []⟩
def E_assign_Choose : List (Ex × Ab.Spec) := [(.ret, ⟨[(10, .one (.int .i64))], [], []⟩)]
def J_assign_Choose : Nat → Option (List (Ex × Ab.Spec)) := fun n => get [(1048585, [(.normal, ⟨[(1, .one (.ro 55)), (2, .one (.int .i64)), (3, .one (.int .i64)), (4, .one (.int .i64)), (5, .one (.ptr 80 0)), (11, .one (.int .i64)), (12, .one (.ptr 192 0)), (13, .one (.int .i64)), (15, .one (.ptr 240 0)), (28, .one (.ro 55)), (29, .one (.int .i64)), (30, .one (.int .i64)), (55, .one (.bool))], [(80, [.int .i64, .int .i64, .int .i64, .int .i64, .flt .f64, .flt .f64, .flt .f64, .ro 62]), (192, [.int .i64, .int .i64]), (240, [.int .i64, .int .i64])], []⟩)])] n
noncomputable def T_assign_Choose : List (Nat × Fe G) := [(32, e_building_Valid), (33, e_assign_rank), (15, e_assign_Better)]
def S_assign_Choose_0 : Ab.Spec := ⟨[(1, .one (.ro 55)), (2, .one (.int .i64)), (3, .one (.int .i64)), (4, .one (.int .i64)), (5, .one (.ptr 80 0)), (11, .one (.int .i64)), (12, .one (.ptr 192 0)), (28, .one (.ro 55)), (29, .one (.int .i64)), (30, .one (.int .i64))], [(80, [.int .i64, .int .i64, .int .i64, .int .i64, .flt .f64, .flt .f64, .flt .f64, .ro 62]), (192, [.int .i64, .int .i64])], []⟩
def X_assign_Choose_0 : List (Ex × Ab.Spec) := [(.exit 0, ⟨[(11, .one (.int .i64))], [], []⟩)]
noncomputable def P_assign_Choose : Nat → St G → M (Ex × St G) := fun n => bif Nat.beq n 0 then lpX S_assign_Choose_0 X_assign_Choose_0 L_assign_Choose_0 else fun _ => M.fail
theorem tT_assign_Choose : ∀ p ∈ T_assign_Choose, FnOK Tryd.prog G p.1 p.2 := List.forall_mem_cons.2 ⟨ok_building_Valid, List.forall_mem_cons.2 ⟨ok_assign_rank, List.forall_mem_cons.2 ⟨ok_assign_Better, (fun _ h => absurd h (List.not_mem_nil))⟩⟩⟩
theorem r_assign_Choose_0 (x : S_assign_Choose_0.T G) : rndI (cfP T_assign_Choose) P_assign_Choose J_assign_Choose 60 1 (loopOf (bodyOf Tryd.f13) 0) S_assign_Choose_0 X_assign_Choose_0 x = R_assign_Choose_0 x.1.1 x.1.2.1 x.1.2.2.1 x.1.2.2.2.1 x.1.2.2.2.2.2.1 x.1.2.2.2.2.2.2.2.1 x.1.2.2.2.2.2.2.2.2.1 x.1.2.2.2.2.2.2.2.2.2.1 x.2.1.1 x.2.1.2.1 x.2.1.2.2.1 x.2.1.2.2.2.1 x.2.1.2.2.2.2.1 x.2.1.2.2.2.2.2.1 x.2.1.2.2.2.2.2.2.1 x.2.1.2.2.2.2.2.2.2.1 x.2.2.1.1 x.2.2.1.2.1 := by kernel_rfl
theorem lk_assign_Choose_0 : LoopOK Tryd.prog G 60 (P_assign_Choose 0) (loopOf (bodyOf Tryd.f13) 0) := loop_ok (lp := P_assign_Choose) (n := 1) (k := 0) sigOK eqOK hmix tT_assign_Choose S_assign_Choose_0 X_assign_Choose_0 (fun x => R_assign_Choose_0 x.1.1 x.1.2.1 x.1.2.2.1 x.1.2.2.2.1 x.1.2.2.2.2.2.1 x.1.2.2.2.2.2.2.2.1 x.1.2.2.2.2.2.2.2.2.1 x.1.2.2.2.2.2.2.2.2.2.1 x.2.1.1 x.2.1.2.1 x.2.1.2.2.1 x.2.1.2.2.2.1 x.2.1.2.2.2.2.1 x.2.1.2.2.2.2.2.1 x.2.1.2.2.2.2.2.2.1 x.2.1.2.2.2.2.2.2.2.1 x.2.2.1.1 x.2.2.1.2.1) (by kernel_rfl) (show AllAt (fun k c => LoopOK Tryd.prog G 60 (P_assign_Choose k) c) 1 _ from (allAt_of [] (by kernel_rfl) allAt_n)) r_assign_Choose_0
theorem q_assign_Choose (x : I_assign_Choose.T G) : endI (cfP T_assign_Choose) P_assign_Choose J_assign_Choose 60 (bodyOf Tryd.f13) I_assign_Choose E_assign_Choose x = F_assign_Choose x.1.1.1 x.1.1.2.1 x.1.1.2.2.1 x.1.1.2.2.2.1 x.1.1.2.2.2.2.1 x.1.1.2.2.2.2.2.1 x.1.1.2.2.2.2.2.2.1 x.1.1.2.2.2.2.2.2.2.1 x.1.2.1 x.1.2.2.1 x.1.2.2.2.1 x.1.2.2.2.2.1 := by kernel_rfl
noncomputable def e_assign_Choose : Fe G := ⟨I_assign_Choose, E_assign_Choose, fun x => F_assign_Choose x.1.1.1 x.1.1.2.1 x.1.1.2.2.1 x.1.1.2.2.2.1 x.1.1.2.2.2.2.1 x.1.1.2.2.2.2.2.1 x.1.1.2.2.2.2.2.2.1 x.1.1.2.2.2.2.2.2.2.1 x.1.2.1 x.1.2.2.1 x.1.2.2.2.1 x.1.2.2.2.2.1, Tryd.f13.results.toList⟩
theorem ok_assign_Choose : FnOK Tryd.prog G 13 e_assign_Choose := fn_ok (e := e_assign_Choose) sigOK eqOK hmix tT_assign_Choose Tryd.func13 (by kernel_rfl) (by kernel_rfl) rfl (by kernel_rfl) (allAt_zero (Q := fun k c => LoopOK Tryd.prog G 60 (P_assign_Choose k) c) (allAt_of [loopOf (bodyOf Tryd.f13) 0] (by kernel_rfl) (allAt_c lk_assign_Choose_0 allAt_n))) q_assign_Choose
/-! ### (overlay/assign.planner).other -/
def I_assign_planner_other : Ab.Spec := ⟨[(0, .agg [.int .i64, .int .i64, .int .i64, .int .i64, .flt .f64, .flt .f64, .flt .f64, .ro 62, .ro 55]), (1, .agg [.int .i64, .int .i64, .int .i64, .int .i64, .bool]), (2, .one (.int .i64))], [], []⟩
def E_assign_planner_other : List (Ex × Ab.Spec) := [(.ret, ⟨[(6, .one (.int .i64))], [], []⟩)]
def J_assign_planner_other : Nat → Option (List (Ex × Ab.Spec)) := fun n => get [(1048581, [(.normal, ⟨[(3, .one (.ptr 48 0)), (7, .one (.int .i64)), (8, .one (.ptr 128 0)), (9, .one (.bool))], [(48, [.int .i64, .int .i64, .int .i64, .int .i64, .flt .f64, .flt .f64, .flt .f64, .ro 62, .ro 55]), (128, [.bool, .bool, .bool, .bool, .int .i64, .int .i64, .int .i64, .int .u32, .int .u32, .int .u32, .int .u32, .int .u32])], []⟩)]), (1048582, [(.normal, ⟨[(7, .one (.int .i64)), (78, .one (.bool))], [], []⟩)])] n
noncomputable def T_assign_planner_other : List (Nat × Fe G) := [(13, e_assign_Choose), (33, e_assign_rank), (15, e_assign_Better), (54, e_assign_full)]
noncomputable def P_assign_planner_other : Nat → St G → M (Ex × St G) := fun _ _ => M.fail
theorem tT_assign_planner_other : ∀ p ∈ T_assign_planner_other, FnOK Tryd.prog G p.1 p.2 := List.forall_mem_cons.2 ⟨ok_assign_Choose, List.forall_mem_cons.2 ⟨ok_assign_rank, List.forall_mem_cons.2 ⟨ok_assign_Better, List.forall_mem_cons.2 ⟨ok_assign_full, (fun _ h => absurd h (List.not_mem_nil))⟩⟩⟩⟩
theorem q_assign_planner_other (x : I_assign_planner_other.T G) : endI (cfP T_assign_planner_other) P_assign_planner_other J_assign_planner_other 80 (bodyOf Tryd.f64) I_assign_planner_other E_assign_planner_other x = F_assign_planner_other x.1.1.1 x.1.1.2.1 x.1.1.2.2.1 x.1.1.2.2.2.1 x.1.1.2.2.2.2.1 x.1.1.2.2.2.2.2.1 x.1.1.2.2.2.2.2.2.1 x.1.1.2.2.2.2.2.2.2.1 x.1.1.2.2.2.2.2.2.2.2.1 x.1.2.1.1 x.1.2.1.2.1 x.1.2.1.2.2.1 x.1.2.1.2.2.2.1 x.1.2.1.2.2.2.2.1 x.1.2.2.1 := by kernel_rfl
noncomputable def e_assign_planner_other : Fe G := ⟨I_assign_planner_other, E_assign_planner_other, fun x => F_assign_planner_other x.1.1.1 x.1.1.2.1 x.1.1.2.2.1 x.1.1.2.2.2.1 x.1.1.2.2.2.2.1 x.1.1.2.2.2.2.2.1 x.1.1.2.2.2.2.2.2.1 x.1.1.2.2.2.2.2.2.2.1 x.1.1.2.2.2.2.2.2.2.2.1 x.1.2.1.1 x.1.2.1.2.1 x.1.2.1.2.2.1 x.1.2.1.2.2.2.1 x.1.2.1.2.2.2.2.1 x.1.2.2.1, Tryd.f64.results.toList⟩
theorem ok_assign_planner_other : FnOK Tryd.prog G 64 e_assign_planner_other := fn_ok (e := e_assign_planner_other) sigOK eqOK hmix tT_assign_planner_other Tryd.func64 (by kernel_rfl) (by kernel_rfl) rfl (by kernel_rfl) (allAt_zero (Q := fun k c => LoopOK Tryd.prog G 80 (P_assign_planner_other k) c) (allAt_of [] (by kernel_rfl) allAt_n)) q_assign_planner_other
/-! ### (overlay/assign.planner).decide -/
def I_assign_planner_decide : Ab.Spec := ⟨[(0, .agg [.int .i64, .int .i64, .int .i64, .int .i64, .flt .f64, .flt .f64, .flt .f64, .ro 62, .ro 55]), (1, .agg [.int .i64, .int .i64, .int .i64, .int .i64, .bool]), (2, .one (.int .i64))], [], []⟩
def E_assign_planner_decide : List (Ex × Ab.Spec) := [(.ret, ⟨[(6, .one (.ptr 96 0))], [(96, [.int .i64, .int .i64, .int .i64, .int .i64, .bool])], []⟩)]
def J_assign_planner_decide : Nat → Option (List (Ex × Ab.Spec)) := fun n => get [(1048581, [(.normal, ⟨[(2, .one (.int .i64)), (3, .one (.ptr 48 0)), (4, .one (.ptr 64 0)), (6, .one (.ptr 96 0)), (7, .one (.int .i64)), (31, .one (.bool))], [(48, [.int .i64, .int .i64, .int .i64, .int .i64, .flt .f64, .flt .f64, .flt .f64, .ro 62, .ro 55]), (64, [.int .i64, .int .i64, .int .i64, .int .i64, .bool]), (96, [.int .i64, .int .i64, .int .i64, .int .i64, .bool])], []⟩)]), (1048586, [(.normal, ⟨[(2, .one (.int .i64)), (3, .one (.ptr 48 0)), (4, .one (.ptr 64 0)), (6, .one (.ptr 96 0)), (70, .one (.bool))], [(48, [.int .i64, .int .i64, .int .i64, .int .i64, .flt .f64, .flt .f64, .flt .f64, .ro 62, .ro 55]), (64, [.int .i64, .int .i64, .int .i64, .int .i64, .bool]), (96, [.int .i64, .int .i64, .int .i64, .int .i64, .bool])], []⟩)])] n
noncomputable def T_assign_planner_decide : List (Nat × Fe G) := [(13, e_assign_Choose), (64, e_assign_planner_other)]
noncomputable def P_assign_planner_decide : Nat → St G → M (Ex × St G) := fun _ _ => M.fail
theorem tT_assign_planner_decide : ∀ p ∈ T_assign_planner_decide, FnOK Tryd.prog G p.1 p.2 := List.forall_mem_cons.2 ⟨ok_assign_Choose, List.forall_mem_cons.2 ⟨ok_assign_planner_other, (fun _ h => absurd h (List.not_mem_nil))⟩⟩
theorem q_assign_planner_decide (x : I_assign_planner_decide.T G) : endI (cfP T_assign_planner_decide) P_assign_planner_decide J_assign_planner_decide 94 (bodyOf Tryd.f41) I_assign_planner_decide E_assign_planner_decide x = F_assign_planner_decide x.1.1.1 x.1.1.2.1 x.1.1.2.2.1 x.1.1.2.2.2.1 x.1.1.2.2.2.2.1 x.1.1.2.2.2.2.2.1 x.1.1.2.2.2.2.2.2.1 x.1.1.2.2.2.2.2.2.2.1 x.1.1.2.2.2.2.2.2.2.2.1 x.1.2.1.1 x.1.2.1.2.1 x.1.2.1.2.2.1 x.1.2.1.2.2.2.1 x.1.2.1.2.2.2.2.1 x.1.2.2.1 := by kernel_rfl
noncomputable def e_assign_planner_decide : Fe G := ⟨I_assign_planner_decide, E_assign_planner_decide, fun x => F_assign_planner_decide x.1.1.1 x.1.1.2.1 x.1.1.2.2.1 x.1.1.2.2.2.1 x.1.1.2.2.2.2.1 x.1.1.2.2.2.2.2.1 x.1.1.2.2.2.2.2.2.1 x.1.1.2.2.2.2.2.2.2.1 x.1.1.2.2.2.2.2.2.2.2.1 x.1.2.1.1 x.1.2.1.2.1 x.1.2.1.2.2.1 x.1.2.1.2.2.2.1 x.1.2.1.2.2.2.2.1 x.1.2.2.1, Tryd.f41.results.toList⟩
theorem ok_assign_planner_decide : FnOK Tryd.prog G 41 e_assign_planner_decide := fn_ok (e := e_assign_planner_decide) sigOK eqOK hmix tT_assign_planner_decide Tryd.func41 (by kernel_rfl) (by kernel_rfl) rfl (by kernel_rfl) (allAt_zero (Q := fun k c => LoopOK Tryd.prog G 94 (P_assign_planner_decide k) c) (allAt_of [] (by kernel_rfl) allAt_n)) q_assign_planner_decide
/-! ### overlay/assign.records -/
def I_assign_records : Ab.Spec := ⟨[(0, .agg [.int .i64, .int .i64, .int .i64, .int .i64, .bool]), (1, .agg [.int .i64, .int .i64, .int .i64, .int .i64, .bool])], [], []⟩
def E_assign_records : List (Ex × Ab.Spec) := [(.ret, ⟨[(4, .one (.own 32768 72))], [], []⟩)]
def J_assign_records : Nat → Option (List (Ex × Ab.Spec)) := fun n => get [(8, [(.normal, ⟨[(2, .one (.ptr 32 0)), (3, .one (.ptr 48 0)), (5, .one (.own 32768 72))], [(32, [.int .i64, .int .i64, .int .i64, .int .i64, .bool]), (48, [.int .i64, .int .i64, .int .i64, .int .i64, .bool])], []⟩)]), (1048578, [(.normal, ⟨[(2, .one (.ptr 32 0)), (3, .one (.ptr 48 0)), (5, .one (.own 32768 72)), (18, .one (.bool))], [(32, [.int .i64, .int .i64, .int .i64, .int .i64, .bool]), (48, [.int .i64, .int .i64, .int .i64, .int .i64, .bool])], []⟩)])] n
noncomputable def T_assign_records : List (Nat × Fe G) := []
noncomputable def P_assign_records : Nat → St G → M (Ex × St G) := fun _ _ => M.fail
theorem tT_assign_records : ∀ p ∈ T_assign_records, FnOK Tryd.prog G p.1 p.2 := (fun _ h => absurd h (List.not_mem_nil))
theorem q_assign_records (x : I_assign_records.T G) : endI (cfP T_assign_records) P_assign_records J_assign_records 49 (bodyOf Tryd.f42) I_assign_records E_assign_records x = F_assign_records x.1.1.1 x.1.1.2.1 x.1.1.2.2.1 x.1.1.2.2.2.1 x.1.1.2.2.2.2.1 x.1.2.1.1 x.1.2.1.2.1 x.1.2.1.2.2.1 x.1.2.1.2.2.2.1 x.1.2.1.2.2.2.2.1 := by kernel_rfl
noncomputable def e_assign_records : Fe G := ⟨I_assign_records, E_assign_records, fun x => F_assign_records x.1.1.1 x.1.1.2.1 x.1.1.2.2.1 x.1.1.2.2.2.1 x.1.1.2.2.2.2.1 x.1.2.1.1 x.1.2.1.2.1 x.1.2.1.2.2.1 x.1.2.1.2.2.2.1 x.1.2.1.2.2.2.2.1, Tryd.f42.results.toList⟩
theorem ok_assign_records : FnOK Tryd.prog G 42 e_assign_records := fn_ok (e := e_assign_records) sigOK eqOK hmix tT_assign_records Tryd.func42 (by kernel_rfl) (by kernel_rfl) rfl (by kernel_rfl) (allAt_zero (Q := fun k c => LoopOK Tryd.prog G 49 (P_assign_records k) c) (allAt_of [] (by kernel_rfl) allAt_n)) q_assign_records
/-! ### overlay/assign.Plan -/
def I_assign_Plan : Ab.Spec := ⟨[(0, .agg [.int .i64, .int .i64, .int .i64, .int .i64, .flt .f64, .flt .f64, .flt .f64, .ro 62]), (1, .agg [.ro 3, .ro 4, .ro 4, .ro 57]), (2, .one (.ro 3)), (3, .one (.ro 55))], [], []⟩
def E_assign_Plan : List (Ex × Ab.Spec) := [(.ret, ⟨[(8, .one (.own 32768 72)), (9, .one (.own 32769 3)), (10, .one (.int .i64))], [], []⟩)]
def J_assign_Plan : Nat → Option (List (Ex × Ab.Spec)) := fun n => get [(1048588, [(.normal, ⟨[(2, .one (.ro 3)), (3, .one (.ro 55)), (4, .one (.ptr 64 0)), (11, .one (.ptr 176 0)), (12, .one (.own 32768 72)), (13, .one (.own 32769 3)), (14, .one (.int .i64)), (15, .one (.ptr 240 0)), (16, .one (.ptr 256 0)), (48, .one (.ro 57)), (49, .one (.int .i64)), (50, .one (.int .i64)), (85, .one (.bool))], [(64, [.int .i64, .int .i64, .int .i64, .int .i64, .flt .f64, .flt .f64, .flt .f64, .ro 62]), (176, [.int .i64, .int .i64, .int .i64, .int .i64, .flt .f64, .flt .f64, .flt .f64, .ro 62, .ro 55]), (240, [.int .i64, .int .i64, .int .i64, .int .i64, .bool]), (256, [.int .i64, .int .i64, .int .i64, .int .i64, .bool])], []⟩)])] n
noncomputable def T_assign_Plan : List (Nat × Fe G) := [(38, e_log_IsImage), (39, e_slices_ContainsFunc_sl_int_int_assign_Plan_1), (41, e_assign_planner_decide), (42, e_assign_records), (43, e_cost_Estimate)]
def S_assign_Plan_0 : Ab.Spec := ⟨[(2, .one (.ro 3)), (3, .one (.ro 55)), (4, .one (.ptr 64 0)), (11, .one (.ptr 176 0)), (12, .one (.own 32768 72)), (13, .one (.own 32769 3)), (48, .one (.ro 57)), (49, .one (.int .i64)), (50, .one (.int .i64))], [(64, [.int .i64, .int .i64, .int .i64, .int .i64, .flt .f64, .flt .f64, .flt .f64, .ro 62]), (176, [.int .i64, .int .i64, .int .i64, .int .i64, .flt .f64, .flt .f64, .flt .f64, .ro 62, .ro 55])], []⟩
def X_assign_Plan_0 : List (Ex × Ab.Spec) := [(.exit 0, ⟨[(12, .one (.own 32768 72)), (13, .one (.own 32769 3))], [], []⟩)]
noncomputable def P_assign_Plan : Nat → St G → M (Ex × St G) := fun n => bif Nat.beq n 0 then lpX S_assign_Plan_0 X_assign_Plan_0 L_assign_Plan_0 else fun _ => M.fail
theorem tT_assign_Plan : ∀ p ∈ T_assign_Plan, FnOK Tryd.prog G p.1 p.2 := List.forall_mem_cons.2 ⟨ok_log_IsImage, List.forall_mem_cons.2 ⟨ok_slices_ContainsFunc_sl_int_int_assign_Plan_1, List.forall_mem_cons.2 ⟨ok_assign_planner_decide, List.forall_mem_cons.2 ⟨ok_assign_records, List.forall_mem_cons.2 ⟨ok_cost_Estimate, (fun _ h => absurd h (List.not_mem_nil))⟩⟩⟩⟩⟩
theorem r_assign_Plan_0 (x : S_assign_Plan_0.T G) : rndI (cfP T_assign_Plan) P_assign_Plan J_assign_Plan 114 1 (loopOf (bodyOf Tryd.f18) 0) S_assign_Plan_0 X_assign_Plan_0 x = R_assign_Plan_0 x.1.1 x.1.2.1 x.1.2.2.2.2.1 x.1.2.2.2.2.2.1 x.1.2.2.2.2.2.2.1 x.1.2.2.2.2.2.2.2.1 x.1.2.2.2.2.2.2.2.2.1 x.2.1.1 x.2.1.2.1 x.2.1.2.2.1 x.2.1.2.2.2.1 x.2.1.2.2.2.2.1 x.2.1.2.2.2.2.2.1 x.2.1.2.2.2.2.2.2.1 x.2.1.2.2.2.2.2.2.2.1 x.2.2.1.1 x.2.2.1.2.1 x.2.2.1.2.2.1 x.2.2.1.2.2.2.1 x.2.2.1.2.2.2.2.1 x.2.2.1.2.2.2.2.2.1 x.2.2.1.2.2.2.2.2.2.1 x.2.2.1.2.2.2.2.2.2.2.1 x.2.2.1.2.2.2.2.2.2.2.2.1 := by kernel_rfl
theorem lk_assign_Plan_0 : LoopOK Tryd.prog G 114 (P_assign_Plan 0) (loopOf (bodyOf Tryd.f18) 0) := loop_ok (lp := P_assign_Plan) (n := 1) (k := 0) sigOK eqOK hmix tT_assign_Plan S_assign_Plan_0 X_assign_Plan_0 (fun x => R_assign_Plan_0 x.1.1 x.1.2.1 x.1.2.2.2.2.1 x.1.2.2.2.2.2.1 x.1.2.2.2.2.2.2.1 x.1.2.2.2.2.2.2.2.1 x.1.2.2.2.2.2.2.2.2.1 x.2.1.1 x.2.1.2.1 x.2.1.2.2.1 x.2.1.2.2.2.1 x.2.1.2.2.2.2.1 x.2.1.2.2.2.2.2.1 x.2.1.2.2.2.2.2.2.1 x.2.1.2.2.2.2.2.2.2.1 x.2.2.1.1 x.2.2.1.2.1 x.2.2.1.2.2.1 x.2.2.1.2.2.2.1 x.2.2.1.2.2.2.2.1 x.2.2.1.2.2.2.2.2.1 x.2.2.1.2.2.2.2.2.2.1 x.2.2.1.2.2.2.2.2.2.2.1 x.2.2.1.2.2.2.2.2.2.2.2.1) (by kernel_rfl) (show AllAt (fun k c => LoopOK Tryd.prog G 114 (P_assign_Plan k) c) 1 _ from (allAt_of [] (by kernel_rfl) allAt_n)) r_assign_Plan_0
theorem q_assign_Plan (x : I_assign_Plan.T G) : endI (cfP T_assign_Plan) P_assign_Plan J_assign_Plan 114 (bodyOf Tryd.f18) I_assign_Plan E_assign_Plan x = F_assign_Plan x.1.1.1 x.1.1.2.1 x.1.1.2.2.1 x.1.1.2.2.2.1 x.1.1.2.2.2.2.1 x.1.1.2.2.2.2.2.1 x.1.1.2.2.2.2.2.2.1 x.1.1.2.2.2.2.2.2.2.1 x.1.2.1.1 x.1.2.1.2.1 x.1.2.1.2.2.1 x.1.2.1.2.2.2.1 x.1.2.2.1 x.1.2.2.2.1 := by kernel_rfl
noncomputable def e_assign_Plan : Fe G := ⟨I_assign_Plan, E_assign_Plan, fun x => F_assign_Plan x.1.1.1 x.1.1.2.1 x.1.1.2.2.1 x.1.1.2.2.2.1 x.1.1.2.2.2.2.1 x.1.1.2.2.2.2.2.1 x.1.1.2.2.2.2.2.2.1 x.1.1.2.2.2.2.2.2.2.1 x.1.2.1.1 x.1.2.1.2.1 x.1.2.1.2.2.1 x.1.2.1.2.2.2.1 x.1.2.2.1 x.1.2.2.2.1, Tryd.f18.results.toList⟩
theorem ok_assign_Plan : FnOK Tryd.prog G 18 e_assign_Plan := fn_ok (e := e_assign_Plan) sigOK eqOK hmix tT_assign_Plan Tryd.func18 (by kernel_rfl) (by kernel_rfl) rfl (by kernel_rfl) (allAt_zero (Q := fun k c => LoopOK Tryd.prog G 114 (P_assign_Plan k) c) (allAt_of [loopOf (bodyOf Tryd.f18) 0] (by kernel_rfl) (allAt_c lk_assign_Plan_0 allAt_n))) q_assign_Plan
/-! ### overlay/overlaylaw22.sane -/
def I_l22_sane : Ab.Spec := ⟨[], [], []⟩
def E_l22_sane : List (Ex × Ab.Spec) := [(.ret, ⟨[(0, .one (.bool))], [], []⟩)]
def J_l22_sane : Nat → Option (List (Ex × Ab.Spec)) := fun n => get [(1048584, [(.normal, ⟨[(0, .one (.bool))], [], []⟩)])] n
noncomputable def T_l22_sane : List (Nat × Fe G) := [(11, e_l10_Building), (21, e_r10_Initial), (18, e_assign_Plan), (13, e_assign_Choose), (15, e_assign_Better)]
noncomputable def P_l22_sane : Nat → St G → M (Ex × St G) := fun _ _ => M.fail
theorem tT_l22_sane : ∀ p ∈ T_l22_sane, FnOK Tryd.prog G p.1 p.2 := List.forall_mem_cons.2 ⟨ok_l10_Building, List.forall_mem_cons.2 ⟨ok_r10_Initial, List.forall_mem_cons.2 ⟨ok_assign_Plan, List.forall_mem_cons.2 ⟨ok_assign_Choose, List.forall_mem_cons.2 ⟨ok_assign_Better, (fun _ h => absurd h (List.not_mem_nil))⟩⟩⟩⟩⟩
theorem q_l22_sane (x : I_l22_sane.T G) : endI (cfP T_l22_sane) P_l22_sane J_l22_sane 72 (bodyOf Tryd.f10) I_l22_sane E_l22_sane x = F_l22_sane := by kernel_rfl
noncomputable def e_l22_sane : Fe G := ⟨I_l22_sane, E_l22_sane, fun _ => F_l22_sane, Tryd.f10.results.toList⟩
theorem ok_l22_sane : FnOK Tryd.prog G 10 e_l22_sane := fn_ok (e := e_l22_sane) sigOK eqOK hmix tT_l22_sane Tryd.func10 (by kernel_rfl) (by kernel_rfl) rfl (by kernel_rfl) (allAt_zero (Q := fun k c => LoopOK Tryd.prog G 72 (P_l22_sane k) c) (allAt_of [] (by kernel_rfl) allAt_n)) q_l22_sane
/-! ### overlay/overlayref01.IsCall -/
def I_r01_IsCall : Ab.Spec := ⟨[(0, .agg [.int .i64, .int .i64, .int .i64, .int .i64, .flt .f64, .flt .f64, .flt .f64, .ro 62]), (1, .one (.int .i64)), (2, .one (.int .i64))], [], []⟩
def E_r01_IsCall : List (Ex × Ab.Spec) := [(.ret, ⟨[(6, .one (.bool))], [], []⟩)]
def J_r01_IsCall : Nat → Option (List (Ex × Ab.Spec)) := fun n => get [(1048579, [(.normal, ⟨[(6, .one (.bool))], [], []⟩)])] n
noncomputable def T_r01_IsCall : List (Nat × Fe G) := [(34, e_r01_Valid), (55, e_r01_in)]
noncomputable def P_r01_IsCall : Nat → St G → M (Ex × St G) := fun _ _ => M.fail
theorem tT_r01_IsCall : ∀ p ∈ T_r01_IsCall, FnOK Tryd.prog G p.1 p.2 := List.forall_mem_cons.2 ⟨ok_r01_Valid, List.forall_mem_cons.2 ⟨ok_r01_in, (fun _ h => absurd h (List.not_mem_nil))⟩⟩
theorem q_r01_IsCall (x : I_r01_IsCall.T G) : endI (cfP T_r01_IsCall) P_r01_IsCall J_r01_IsCall 30 (bodyOf Tryd.f68) I_r01_IsCall E_r01_IsCall x = F_r01_IsCall x.1.1.1 x.1.1.2.1 x.1.1.2.2.1 x.1.1.2.2.2.1 x.1.1.2.2.2.2.1 x.1.1.2.2.2.2.2.1 x.1.1.2.2.2.2.2.2.1 x.1.1.2.2.2.2.2.2.2.1 x.1.2.1 x.1.2.2.1 := by kernel_rfl
noncomputable def e_r01_IsCall : Fe G := ⟨I_r01_IsCall, E_r01_IsCall, fun x => F_r01_IsCall x.1.1.1 x.1.1.2.1 x.1.1.2.2.1 x.1.1.2.2.2.1 x.1.1.2.2.2.2.1 x.1.1.2.2.2.2.2.1 x.1.1.2.2.2.2.2.2.1 x.1.1.2.2.2.2.2.2.2.1 x.1.2.1 x.1.2.2.1, Tryd.f68.results.toList⟩
theorem ok_r01_IsCall : FnOK Tryd.prog G 68 e_r01_IsCall := fn_ok (e := e_r01_IsCall) sigOK eqOK hmix tT_r01_IsCall Tryd.func68 (by kernel_rfl) (by kernel_rfl) rfl (by kernel_rfl) (allAt_zero (Q := fun k c => LoopOK Tryd.prog G 30 (P_r01_IsCall k) c) (allAt_of [] (by kernel_rfl) allAt_n)) q_r01_IsCall
/-! ### overlay/overlayref10.less -/
def I_r10_less : Ab.Spec := ⟨[(0, .agg [.int .i64, .int .i64, .int .i64, .int .i64, .bool]), (1, .agg [.int .i64, .int .i64, .int .i64, .int .i64, .bool])], [], []⟩
def E_r10_less : List (Ex × Ab.Spec) := [(.ret, ⟨[(4, .one (.bool))], [], []⟩)]
def J_r10_less : Nat → Option (List (Ex × Ab.Spec)) := fun n => get [(1048577, [(.normal, ⟨[(4, .one (.bool))], [], []⟩)])] n
noncomputable def T_r10_less : List (Nat × Fe G) := []
noncomputable def P_r10_less : Nat → St G → M (Ex × St G) := fun _ _ => M.fail
theorem tT_r10_less : ∀ p ∈ T_r10_less, FnOK Tryd.prog G p.1 p.2 := (fun _ h => absurd h (List.not_mem_nil))
theorem q_r10_less (x : I_r10_less.T G) : endI (cfP T_r10_less) P_r10_less J_r10_less 24 (bodyOf Tryd.f69) I_r10_less E_r10_less x = F_r10_less x.1.1.1 x.1.1.2.1 x.1.1.2.2.1 x.1.1.2.2.2.1 x.1.1.2.2.2.2.1 x.1.2.1.1 x.1.2.1.2.1 x.1.2.1.2.2.1 x.1.2.1.2.2.2.1 x.1.2.1.2.2.2.2.1 := by kernel_rfl
noncomputable def e_r10_less : Fe G := ⟨I_r10_less, E_r10_less, fun x => F_r10_less x.1.1.1 x.1.1.2.1 x.1.1.2.2.1 x.1.1.2.2.2.1 x.1.1.2.2.2.2.1 x.1.2.1.1 x.1.2.1.2.1 x.1.2.1.2.2.1 x.1.2.1.2.2.2.1 x.1.2.1.2.2.2.2.1, Tryd.f69.results.toList⟩
theorem ok_r10_less : FnOK Tryd.prog G 69 e_r10_less := fn_ok (e := e_r10_less) sigOK eqOK hmix tT_r10_less Tryd.func69 (by kernel_rfl) (by kernel_rfl) rfl (by kernel_rfl) (allAt_zero (Q := fun k c => LoopOK Tryd.prog G 24 (P_r10_less k) c) (allAt_of [] (by kernel_rfl) allAt_n)) q_r10_less
/-! ### overlay/overlayref10.IsImage -/
def I_r10_IsImage : Ab.Spec := ⟨[(0, .agg [.int .i64, .int .i64, .int .i64, .int .i64, .flt .f64, .flt .f64, .flt .f64, .ro 62]), (1, .agg [.ro 3, .ro 4, .ro 4, .ro 57])], [], []⟩
def E_r10_IsImage : List (Ex × Ab.Spec) := [(.ret, ⟨[(4, .one (.bool))], [], []⟩)]
def J_r10_IsImage : Nat → Option (List (Ex × Ab.Spec)) := fun n => get [(1048589, [(.normal, ⟨[(2, .one (.ptr 32 0)), (3, .one (.ptr 48 0)), (5, .one (.int .i64)), (7, .one (.int .i64)), (109, .one (.bool))], [(32, [.int .i64, .int .i64, .int .i64, .int .i64, .flt .f64, .flt .f64, .flt .f64, .ro 62]), (48, [.ro 3, .ro 4, .ro 4, .ro 57])], []⟩)])] n
noncomputable def T_r10_IsImage : List (Nat × Fe G) := [(34, e_r01_Valid), (68, e_r01_IsCall), (69, e_r10_less)]
def S_r10_IsImage_0 : Ab.Spec := ⟨[(2, .one (.ptr 32 0)), (3, .one (.ptr 48 0)), (5, .one (.int .i64)), (6, .one (.int .i64))], [(32, [.int .i64, .int .i64, .int .i64, .int .i64, .flt .f64, .flt .f64, .flt .f64, .ro 62]), (48, [.ro 3, .ro 4, .ro 4, .ro 57])], []⟩
def X_r10_IsImage_0 : List (Ex × Ab.Spec) := [(.exit 0, ⟨[(2, .one (.ptr 32 0)), (3, .one (.ptr 48 0)), (5, .one (.int .i64))], [(32, [.int .i64, .int .i64, .int .i64, .int .i64, .flt .f64, .flt .f64, .flt .f64, .ro 62]), (48, [.ro 3, .ro 4, .ro 4, .ro 57])], []⟩), (.ret, ⟨[(4, .one (.bool))], [], []⟩)]
def S_r10_IsImage_1 : Ab.Spec := ⟨[(2, .one (.ptr 32 0)), (3, .one (.ptr 48 0)), (5, .one (.int .i64)), (7, .one (.int .i64))], [(32, [.int .i64, .int .i64, .int .i64, .int .i64, .flt .f64, .flt .f64, .flt .f64, .ro 62]), (48, [.ro 3, .ro 4, .ro 4, .ro 57])], []⟩
def X_r10_IsImage_1 : List (Ex × Ab.Spec) := [(.exit 2, ⟨[], [], []⟩), (.ret, ⟨[(4, .one (.bool))], [], []⟩)]
noncomputable def P_r10_IsImage : Nat → St G → M (Ex × St G) := fun n => bif Nat.beq n 0 then lpX S_r10_IsImage_0 X_r10_IsImage_0 L_r10_IsImage_0 else bif Nat.beq n 1 then lpX S_r10_IsImage_1 X_r10_IsImage_1 L_r10_IsImage_1 else fun _ => M.fail
theorem tT_r10_IsImage : ∀ p ∈ T_r10_IsImage, FnOK Tryd.prog G p.1 p.2 := List.forall_mem_cons.2 ⟨ok_r01_Valid, List.forall_mem_cons.2 ⟨ok_r01_IsCall, List.forall_mem_cons.2 ⟨ok_r10_less, (fun _ h => absurd h (List.not_mem_nil))⟩⟩⟩
theorem r_r10_IsImage_1 (x : S_r10_IsImage_1.T G) : rndI (cfP T_r10_IsImage) P_r10_IsImage J_r10_IsImage 110 2 (loopOf (bodyOf Tryd.f46) 1) S_r10_IsImage_1 X_r10_IsImage_1 x = R_r10_IsImage_1 x.1.2.2.1 x.1.2.2.2.1 x.2.1.1 x.2.1.2.1 x.2.1.2.2.1 x.2.1.2.2.2.1 x.2.1.2.2.2.2.1 x.2.1.2.2.2.2.2.1 x.2.1.2.2.2.2.2.2.1 x.2.1.2.2.2.2.2.2.2.1 x.2.2.1.1 x.2.2.1.2.1 x.2.2.1.2.2.1 x.2.2.1.2.2.2.1 := by kernel_rfl
theorem lk_r10_IsImage_1 : LoopOK Tryd.prog G 110 (P_r10_IsImage 1) (loopOf (bodyOf Tryd.f46) 1) := loop_ok (lp := P_r10_IsImage) (n := 2) (k := 1) sigOK eqOK hmix tT_r10_IsImage S_r10_IsImage_1 X_r10_IsImage_1 (fun x => R_r10_IsImage_1 x.1.2.2.1 x.1.2.2.2.1 x.2.1.1 x.2.1.2.1 x.2.1.2.2.1 x.2.1.2.2.2.1 x.2.1.2.2.2.2.1 x.2.1.2.2.2.2.2.1 x.2.1.2.2.2.2.2.2.1 x.2.1.2.2.2.2.2.2.2.1 x.2.2.1.1 x.2.2.1.2.1 x.2.2.1.2.2.1 x.2.2.1.2.2.2.1) (by kernel_rfl) (show AllAt (fun k c => LoopOK Tryd.prog G 110 (P_r10_IsImage k) c) 2 _ from (allAt_of [] (by kernel_rfl) allAt_n)) r_r10_IsImage_1
theorem r_r10_IsImage_0 (x : S_r10_IsImage_0.T G) : rndI (cfP T_r10_IsImage) P_r10_IsImage J_r10_IsImage 110 1 (loopOf (bodyOf Tryd.f46) 0) S_r10_IsImage_0 X_r10_IsImage_0 x = R_r10_IsImage_0 x.1.2.2.1 x.1.2.2.2.1 x.2.1.1 x.2.1.2.1 x.2.1.2.2.1 x.2.1.2.2.2.1 x.2.1.2.2.2.2.1 x.2.1.2.2.2.2.2.1 x.2.1.2.2.2.2.2.2.1 x.2.1.2.2.2.2.2.2.2.1 x.2.2.1.1 x.2.2.1.2.1 x.2.2.1.2.2.1 x.2.2.1.2.2.2.1 := by kernel_rfl
theorem lk_r10_IsImage_0 : LoopOK Tryd.prog G 110 (P_r10_IsImage 0) (loopOf (bodyOf Tryd.f46) 0) := loop_ok (lp := P_r10_IsImage) (n := 1) (k := 0) sigOK eqOK hmix tT_r10_IsImage S_r10_IsImage_0 X_r10_IsImage_0 (fun x => R_r10_IsImage_0 x.1.2.2.1 x.1.2.2.2.1 x.2.1.1 x.2.1.2.1 x.2.1.2.2.1 x.2.1.2.2.2.1 x.2.1.2.2.2.2.1 x.2.1.2.2.2.2.2.1 x.2.1.2.2.2.2.2.2.1 x.2.1.2.2.2.2.2.2.2.1 x.2.2.1.1 x.2.2.1.2.1 x.2.2.1.2.2.1 x.2.2.1.2.2.2.1) (by kernel_rfl) (show AllAt (fun k c => LoopOK Tryd.prog G 110 (P_r10_IsImage k) c) 1 _ from (allAt_of [] (by kernel_rfl) allAt_n)) r_r10_IsImage_0
theorem q_r10_IsImage (x : I_r10_IsImage.T G) : endI (cfP T_r10_IsImage) P_r10_IsImage J_r10_IsImage 110 (bodyOf Tryd.f46) I_r10_IsImage E_r10_IsImage x = F_r10_IsImage x.1.1.1 x.1.1.2.1 x.1.1.2.2.1 x.1.1.2.2.2.1 x.1.1.2.2.2.2.1 x.1.1.2.2.2.2.2.1 x.1.1.2.2.2.2.2.2.1 x.1.1.2.2.2.2.2.2.2.1 x.1.2.1.1 x.1.2.1.2.1 x.1.2.1.2.2.1 x.1.2.1.2.2.2.1 := by kernel_rfl
noncomputable def e_r10_IsImage : Fe G := ⟨I_r10_IsImage, E_r10_IsImage, fun x => F_r10_IsImage x.1.1.1 x.1.1.2.1 x.1.1.2.2.1 x.1.1.2.2.2.1 x.1.1.2.2.2.2.1 x.1.1.2.2.2.2.2.1 x.1.1.2.2.2.2.2.2.1 x.1.1.2.2.2.2.2.2.2.1 x.1.2.1.1 x.1.2.1.2.1 x.1.2.1.2.2.1 x.1.2.1.2.2.2.1, Tryd.f46.results.toList⟩
theorem ok_r10_IsImage : FnOK Tryd.prog G 46 e_r10_IsImage := fn_ok (e := e_r10_IsImage) sigOK eqOK hmix tT_r10_IsImage Tryd.func46 (by kernel_rfl) (by kernel_rfl) rfl (by kernel_rfl) (allAt_zero (Q := fun k c => LoopOK Tryd.prog G 110 (P_r10_IsImage k) c) (allAt_of [loopOf (bodyOf Tryd.f46) 0, loopOf (bodyOf Tryd.f46) 1] (by kernel_rfl) (allAt_c lk_r10_IsImage_0 (allAt_c lk_r10_IsImage_1 allAt_n)))) q_r10_IsImage
/-! ### overlay/overlayref22.IsExpect -/
def I_r22_IsExpect : Ab.Spec := ⟨[(0, .agg [.ro 3, .ro 4, .ro 4, .ro 57]), (1, .one (.ro 3))], [], []⟩
def E_r22_IsExpect : List (Ex × Ab.Spec) := [(.ret, ⟨[(4, .one (.bool))], [], []⟩)]
def J_r22_IsExpect : Nat → Option (List (Ex × Ab.Spec)) := fun n => get [] n
noncomputable def T_r22_IsExpect : List (Nat × Fe G) := []
def S_r22_IsExpect_0 : Ab.Spec := ⟨[(1, .one (.ro 3)), (2, .one (.ptr 32 0)), (5, .one (.int .i64))], [(32, [.ro 3, .ro 4, .ro 4, .ro 57])], []⟩
def X_r22_IsExpect_0 : List (Ex × Ab.Spec) := [(.exit 0, ⟨[(1, .one (.ro 3)), (2, .one (.ptr 32 0))], [(32, [.ro 3, .ro 4, .ro 4, .ro 57])], []⟩), (.ret, ⟨[(4, .one (.bool))], [], []⟩)]
noncomputable def P_r22_IsExpect : Nat → St G → M (Ex × St G) := fun n => bif Nat.beq n 0 then lpX S_r22_IsExpect_0 X_r22_IsExpect_0 L_r22_IsExpect_0 else fun _ => M.fail
theorem tT_r22_IsExpect : ∀ p ∈ T_r22_IsExpect, FnOK Tryd.prog G p.1 p.2 := (fun _ h => absurd h (List.not_mem_nil))
theorem r_r22_IsExpect_0 (x : S_r22_IsExpect_0.T G) : rndI (cfP T_r22_IsExpect) P_r22_IsExpect J_r22_IsExpect 30 1 (loopOf (bodyOf Tryd.f47) 0) S_r22_IsExpect_0 X_r22_IsExpect_0 x = R_r22_IsExpect_0 x.1.1 x.1.2.2.1 x.2.1.1 x.2.1.2.1 x.2.1.2.2.1 x.2.1.2.2.2.1 := by kernel_rfl
theorem lk_r22_IsExpect_0 : LoopOK Tryd.prog G 30 (P_r22_IsExpect 0) (loopOf (bodyOf Tryd.f47) 0) := loop_ok (lp := P_r22_IsExpect) (n := 1) (k := 0) sigOK eqOK hmix tT_r22_IsExpect S_r22_IsExpect_0 X_r22_IsExpect_0 (fun x => R_r22_IsExpect_0 x.1.1 x.1.2.2.1 x.2.1.1 x.2.1.2.1 x.2.1.2.2.1 x.2.1.2.2.2.1) (by kernel_rfl) (show AllAt (fun k c => LoopOK Tryd.prog G 30 (P_r22_IsExpect k) c) 1 _ from (allAt_of [] (by kernel_rfl) allAt_n)) r_r22_IsExpect_0
theorem q_r22_IsExpect (x : I_r22_IsExpect.T G) : endI (cfP T_r22_IsExpect) P_r22_IsExpect J_r22_IsExpect 30 (bodyOf Tryd.f47) I_r22_IsExpect E_r22_IsExpect x = F_r22_IsExpect x.1.1.1 x.1.1.2.1 x.1.1.2.2.1 x.1.1.2.2.2.1 x.1.2.1 := by kernel_rfl
noncomputable def e_r22_IsExpect : Fe G := ⟨I_r22_IsExpect, E_r22_IsExpect, fun x => F_r22_IsExpect x.1.1.1 x.1.1.2.1 x.1.1.2.2.1 x.1.1.2.2.2.1 x.1.2.1, Tryd.f47.results.toList⟩
theorem ok_r22_IsExpect : FnOK Tryd.prog G 47 e_r22_IsExpect := fn_ok (e := e_r22_IsExpect) sigOK eqOK hmix tT_r22_IsExpect Tryd.func47 (by kernel_rfl) (by kernel_rfl) rfl (by kernel_rfl) (allAt_zero (Q := fun k c => LoopOK Tryd.prog G 30 (P_r22_IsExpect k) c) (allAt_of [loopOf (bodyOf Tryd.f47) 0] (by kernel_rfl) (allAt_c lk_r22_IsExpect_0 allAt_n))) q_r22_IsExpect
/-! ### overlay/overlayref22.full -/
def I_r22_full : Ab.Spec := ⟨[(0, .agg [.bool, .bool, .bool, .bool, .int .i64, .int .i64, .int .i64, .int .u32, .int .u32, .int .u32, .int .u32, .int .u32])], [], []⟩
def E_r22_full : List (Ex × Ab.Spec) := [(.ret, ⟨[(2, .one (.bool))], [], []⟩)]
def J_r22_full : Nat → Option (List (Ex × Ab.Spec)) := fun n => get [(1048577, [(.normal, ⟨[(2, .one (.bool))], [], []⟩)])] n
noncomputable def T_r22_full : List (Nat × Fe G) := []
noncomputable def P_r22_full : Nat → St G → M (Ex × St G) := fun _ _ => M.fail
theorem tT_r22_full : ∀ p ∈ T_r22_full, FnOK Tryd.prog G p.1 p.2 := (fun _ h => absurd h (List.not_mem_nil))
theorem q_r22_full (x : I_r22_full.T G) : endI (cfP T_r22_full) P_r22_full J_r22_full 11 (bodyOf Tryd.f57) I_r22_full E_r22_full x = F_r22_full x.1.1.1 x.1.1.2.1 x.1.1.2.2.1 x.1.1.2.2.2.1 x.1.1.2.2.2.2.1 x.1.1.2.2.2.2.2.1 x.1.1.2.2.2.2.2.2.1 x.1.1.2.2.2.2.2.2.2.1 x.1.1.2.2.2.2.2.2.2.2.1 x.1.1.2.2.2.2.2.2.2.2.2.1 x.1.1.2.2.2.2.2.2.2.2.2.2.1 x.1.1.2.2.2.2.2.2.2.2.2.2.2.1 := by kernel_rfl
noncomputable def e_r22_full : Fe G := ⟨I_r22_full, E_r22_full, fun x => F_r22_full x.1.1.1 x.1.1.2.1 x.1.1.2.2.1 x.1.1.2.2.2.1 x.1.1.2.2.2.2.1 x.1.1.2.2.2.2.2.1 x.1.1.2.2.2.2.2.2.1 x.1.1.2.2.2.2.2.2.2.1 x.1.1.2.2.2.2.2.2.2.2.1 x.1.1.2.2.2.2.2.2.2.2.2.1 x.1.1.2.2.2.2.2.2.2.2.2.2.1 x.1.1.2.2.2.2.2.2.2.2.2.2.2.1, Tryd.f57.results.toList⟩
theorem ok_r22_full : FnOK Tryd.prog G 57 e_r22_full := fn_ok (e := e_r22_full) sigOK eqOK hmix tT_r22_full Tryd.func57 (by kernel_rfl) (by kernel_rfl) rfl (by kernel_rfl) (allAt_zero (Q := fun k c => LoopOK Tryd.prog G 11 (P_r22_full k) c) (allAt_of [] (by kernel_rfl) allAt_n)) q_r22_full
/-! ### overlay/overlayref21.is -/
def I_r21_is : Ab.Spec := ⟨[(0, .one (.int .i64)), (1, .agg [.int .u32, .int .u32, .int .u32]), (2, .one (.int .i64)), (3, .one (.int .i64))], [], []⟩
def E_r21_is : List (Ex × Ab.Spec) := [(.ret, ⟨[(8, .one (.bool))], [], []⟩)]
def J_r21_is : Nat → Option (List (Ex × Ab.Spec)) := fun n => get [(1048579, [(.normal, ⟨[(8, .one (.bool))], [], []⟩)]), (1048581, [(.normal, ⟨[(8, .one (.bool))], [], []⟩)])] n
noncomputable def T_r21_is : List (Nat × Fe G) := []
noncomputable def P_r21_is : Nat → St G → M (Ex × St G) := fun _ _ => M.fail
theorem tT_r21_is : ∀ p ∈ T_r21_is, FnOK Tryd.prog G p.1 p.2 := (fun _ h => absurd h (List.not_mem_nil))
theorem q_r21_is (x : I_r21_is.T G) : endI (cfP T_r21_is) P_r21_is J_r21_is 47 (bodyOf Tryd.f67) I_r21_is E_r21_is x = F_r21_is x.1.1 x.1.2.1.1 x.1.2.1.2.1 x.1.2.1.2.2.1 x.1.2.2.1 x.1.2.2.2.1 := by kernel_rfl
noncomputable def e_r21_is : Fe G := ⟨I_r21_is, E_r21_is, fun x => F_r21_is x.1.1 x.1.2.1.1 x.1.2.1.2.1 x.1.2.1.2.2.1 x.1.2.2.1 x.1.2.2.2.1, Tryd.f67.results.toList⟩
theorem ok_r21_is : FnOK Tryd.prog G 67 e_r21_is := fn_ok (e := e_r21_is) sigOK eqOK hmix tT_r21_is Tryd.func67 (by kernel_rfl) (by kernel_rfl) rfl (by kernel_rfl) (allAt_zero (Q := fun k c => LoopOK Tryd.prog G 47 (P_r21_is k) c) (allAt_of [] (by kernel_rfl) allAt_n)) q_r21_is
/-! ### overlay/overlayref21.Path -/
def I_r21_Path : Ab.Spec := ⟨[(0, .one (.int .i64)), (1, .one (.int .i64)), (2, .one (.int .i64)), (3, .agg [.int .u32, .int .u32, .int .u32]), (4, .one (.int .i64)), (5, .one (.int .i64))], [], []⟩
def E_r21_Path : List (Ex × Ab.Spec) := [(.ret, ⟨[(12, .one (.int .i64))], [], []⟩)]
def J_r21_Path : Nat → Option (List (Ex × Ab.Spec)) := fun n => get [(1048579, [(.normal, ⟨[(0, .one (.int .i64)), (1, .one (.int .i64)), (2, .one (.int .i64)), (4, .one (.int .i64)), (5, .one (.int .i64)), (9, .one (.ptr 144 0)), (64, .one (.bool))], [(144, [.int .u32, .int .u32, .int .u32])], []⟩)]), (1048585, [(.normal, ⟨[(0, .one (.int .i64)), (1, .one (.int .i64)), (2, .one (.int .i64)), (4, .one (.int .i64)), (5, .one (.int .i64)), (9, .one (.ptr 144 0)), (13, .one (.int .i64)), (14, .one (.int .i64)), (15, .one (.int .i64)), (91, .one (.bool))], [(144, [.int .u32, .int .u32, .int .u32])], []⟩)]), (1048589, [(.normal, ⟨[(1, .one (.int .i64)), (2, .one (.int .i64)), (4, .one (.int .i64)), (5, .one (.int .i64)), (13, .one (.int .i64)), (14, .one (.int .i64)), (108, .one (.bool))], [], []⟩)]), (1048591, [(.normal, ⟨[(1, .one (.int .i64)), (2, .one (.int .i64)), (4, .one (.int .i64)), (5, .one (.int .i64)), (13, .one (.int .i64)), (14, .one (.int .i64)), (123, .one (.bool))], [], []⟩)]), (1048595, [(.normal, ⟨[(1, .one (.int .i64)), (4, .one (.int .i64)), (5, .one (.int .i64)), (13, .one (.int .i64)), (14, .one (.int .i64)), (151, .one (.bool))], [], []⟩)])] n
noncomputable def T_r21_Path : List (Nat × Fe G) := [(67, e_r21_is)]
def S_r21_Path_0 : Ab.Spec := ⟨[(0, .one (.int .i64)), (1, .one (.int .i64)), (2, .one (.int .i64)), (4, .one (.int .i64)), (5, .one (.int .i64)), (9, .one (.ptr 144 0)), (13, .one (.int .i64)), (14, .one (.int .i64)), (15, .one (.int .i64))], [(144, [.int .u32, .int .u32, .int .u32])], []⟩
def X_r21_Path_0 : List (Ex × Ab.Spec) := [(.exit 0, ⟨[(1, .one (.int .i64)), (2, .one (.int .i64)), (4, .one (.int .i64)), (5, .one (.int .i64)), (13, .one (.int .i64)), (14, .one (.int .i64))], [], []⟩)]
noncomputable def P_r21_Path : Nat → St G → M (Ex × St G) := fun n => bif Nat.beq n 0 then lpX S_r21_Path_0 X_r21_Path_0 L_r21_Path_0 else fun _ => M.fail
theorem tT_r21_Path : ∀ p ∈ T_r21_Path, FnOK Tryd.prog G p.1 p.2 := List.forall_mem_cons.2 ⟨ok_r21_is, (fun _ h => absurd h (List.not_mem_nil))⟩
theorem r_r21_Path_0 (x : S_r21_Path_0.T G) : rndI (cfP T_r21_Path) P_r21_Path J_r21_Path 183 1 (loopOf (bodyOf Tryd.f44) 0) S_r21_Path_0 X_r21_Path_0 x = R_r21_Path_0 x.1.1 x.1.2.1 x.1.2.2.1 x.1.2.2.2.1 x.1.2.2.2.2.1 x.1.2.2.2.2.2.2.1 x.1.2.2.2.2.2.2.2.1 x.1.2.2.2.2.2.2.2.2.1 x.2.1.1 x.2.1.2.1 x.2.1.2.2.1 := by kernel_rfl
theorem lk_r21_Path_0 : LoopOK Tryd.prog G 183 (P_r21_Path 0) (loopOf (bodyOf Tryd.f44) 0) := loop_ok (lp := P_r21_Path) (n := 1) (k := 0) sigOK eqOK hmix tT_r21_Path S_r21_Path_0 X_r21_Path_0 (fun x => R_r21_Path_0 x.1.1 x.1.2.1 x.1.2.2.1 x.1.2.2.2.1 x.1.2.2.2.2.1 x.1.2.2.2.2.2.2.1 x.1.2.2.2.2.2.2.2.1 x.1.2.2.2.2.2.2.2.2.1 x.2.1.1 x.2.1.2.1 x.2.1.2.2.1) (by kernel_rfl) (show AllAt (fun k c => LoopOK Tryd.prog G 183 (P_r21_Path k) c) 1 _ from (allAt_of [] (by kernel_rfl) allAt_n)) r_r21_Path_0
theorem q_r21_Path (x : I_r21_Path.T G) : endI (cfP T_r21_Path) P_r21_Path J_r21_Path 183 (bodyOf Tryd.f44) I_r21_Path E_r21_Path x = F_r21_Path x.1.1 x.1.2.1 x.1.2.2.1 x.1.2.2.2.1.1 x.1.2.2.2.1.2.1 x.1.2.2.2.1.2.2.1 x.1.2.2.2.2.1 x.1.2.2.2.2.2.1 := by kernel_rfl
noncomputable def e_r21_Path : Fe G := ⟨I_r21_Path, E_r21_Path, fun x => F_r21_Path x.1.1 x.1.2.1 x.1.2.2.1 x.1.2.2.2.1.1 x.1.2.2.2.1.2.1 x.1.2.2.2.1.2.2.1 x.1.2.2.2.2.1 x.1.2.2.2.2.2.1, Tryd.f44.results.toList⟩
theorem ok_r21_Path : FnOK Tryd.prog G 44 e_r21_Path := fn_ok (e := e_r21_Path) sigOK eqOK hmix tT_r21_Path Tryd.func44 (by kernel_rfl) (by kernel_rfl) rfl (by kernel_rfl) (allAt_zero (Q := fun k c => LoopOK Tryd.prog G 183 (P_r21_Path k) c) (allAt_of [loopOf (bodyOf Tryd.f44) 0] (by kernel_rfl) (allAt_c lk_r21_Path_0 allAt_n))) q_r21_Path
/-! ### overlay/overlayref21.Count -/
def I_r21_Count : Ab.Spec := ⟨[(0, .one (.int .i64)), (1, .agg [.int .u32, .int .u32, .int .u32])], [], []⟩
def E_r21_Count : List (Ex × Ab.Spec) := [(.ret, ⟨[(4, .one (.int .i64))], [], []⟩)]
def J_r21_Count : Nat → Option (List (Ex × Ab.Spec)) := fun n => get [] n
noncomputable def T_r21_Count : List (Nat × Fe G) := [(67, e_r21_is)]
def S_r21_Count_0 : Ab.Spec := ⟨[(0, .one (.int .i64)), (3, .one (.ptr 48 0)), (5, .one (.int .i64)), (6, .one (.int .i64))], [(48, [.int .u32, .int .u32, .int .u32])], []⟩
def X_r21_Count_0 : List (Ex × Ab.Spec) := [(.exit 0, ⟨[(5, .one (.int .i64))], [], []⟩)]
def S_r21_Count_1 : Ab.Spec := ⟨[(0, .one (.int .i64)), (3, .one (.ptr 48 0)), (5, .one (.int .i64)), (6, .one (.int .i64)), (7, .one (.int .i64))], [(48, [.int .u32, .int .u32, .int .u32])], []⟩
def X_r21_Count_1 : List (Ex × Ab.Spec) := [(.exit 2, ⟨[(0, .one (.int .i64)), (3, .one (.ptr 48 0)), (5, .one (.int .i64)), (6, .one (.int .i64))], [(48, [.int .u32, .int .u32, .int .u32])], []⟩)]
noncomputable def P_r21_Count : Nat → St G → M (Ex × St G) := fun n => bif Nat.beq n 0 then lpX S_r21_Count_0 X_r21_Count_0 L_r21_Count_0 else bif Nat.beq n 1 then lpX S_r21_Count_1 X_r21_Count_1 L_r21_Count_1 else fun _ => M.fail
theorem tT_r21_Count : ∀ p ∈ T_r21_Count, FnOK Tryd.prog G p.1 p.2 := List.forall_mem_cons.2 ⟨ok_r21_is, (fun _ h => absurd h (List.not_mem_nil))⟩
theorem r_r21_Count_1 (x : S_r21_Count_1.T G) : rndI (cfP T_r21_Count) P_r21_Count J_r21_Count 31 2 (loopOf (bodyOf Tryd.f45) 1) S_r21_Count_1 X_r21_Count_1 x = R_r21_Count_1 x.1.1 x.1.2.2.1 x.1.2.2.2.1 x.1.2.2.2.2.1 x.2.1.1 x.2.1.2.1 x.2.1.2.2.1 := by kernel_rfl
theorem lk_r21_Count_1 : LoopOK Tryd.prog G 31 (P_r21_Count 1) (loopOf (bodyOf Tryd.f45) 1) := loop_ok (lp := P_r21_Count) (n := 2) (k := 1) sigOK eqOK hmix tT_r21_Count S_r21_Count_1 X_r21_Count_1 (fun x => R_r21_Count_1 x.1.1 x.1.2.2.1 x.1.2.2.2.1 x.1.2.2.2.2.1 x.2.1.1 x.2.1.2.1 x.2.1.2.2.1) (by kernel_rfl) (show AllAt (fun k c => LoopOK Tryd.prog G 31 (P_r21_Count k) c) 2 _ from (allAt_of [] (by kernel_rfl) allAt_n)) r_r21_Count_1
theorem r_r21_Count_0 (x : S_r21_Count_0.T G) : rndI (cfP T_r21_Count) P_r21_Count J_r21_Count 31 1 (loopOf (bodyOf Tryd.f45) 0) S_r21_Count_0 X_r21_Count_0 x = R_r21_Count_0 x.1.1 x.1.2.2.1 x.1.2.2.2.1 x.2.1.1 x.2.1.2.1 x.2.1.2.2.1 := by kernel_rfl
theorem lk_r21_Count_0 : LoopOK Tryd.prog G 31 (P_r21_Count 0) (loopOf (bodyOf Tryd.f45) 0) := loop_ok (lp := P_r21_Count) (n := 1) (k := 0) sigOK eqOK hmix tT_r21_Count S_r21_Count_0 X_r21_Count_0 (fun x => R_r21_Count_0 x.1.1 x.1.2.2.1 x.1.2.2.2.1 x.2.1.1 x.2.1.2.1 x.2.1.2.2.1) (by kernel_rfl) (show AllAt (fun k c => LoopOK Tryd.prog G 31 (P_r21_Count k) c) 1 _ from (allAt_of [loopOf (bodyOf Tryd.f45) 1] (by kernel_rfl) (allAt_c lk_r21_Count_1 allAt_n))) r_r21_Count_0
theorem q_r21_Count (x : I_r21_Count.T G) : endI (cfP T_r21_Count) P_r21_Count J_r21_Count 31 (bodyOf Tryd.f45) I_r21_Count E_r21_Count x = F_r21_Count x.1.1 x.1.2.1.1 x.1.2.1.2.1 x.1.2.1.2.2.1 := by kernel_rfl
noncomputable def e_r21_Count : Fe G := ⟨I_r21_Count, E_r21_Count, fun x => F_r21_Count x.1.1 x.1.2.1.1 x.1.2.1.2.1 x.1.2.1.2.2.1, Tryd.f45.results.toList⟩
theorem ok_r21_Count : FnOK Tryd.prog G 45 e_r21_Count := fn_ok (e := e_r21_Count) sigOK eqOK hmix tT_r21_Count Tryd.func45 (by kernel_rfl) (by kernel_rfl) rfl (by kernel_rfl) (allAt_zero (Q := fun k c => LoopOK Tryd.prog G 31 (P_r21_Count k) c) (allAt_of [loopOf (bodyOf Tryd.f45) 0, loopOf (bodyOf Tryd.f45) 1] (by kernel_rfl) (allAt_c lk_r21_Count_0 (allAt_c lk_r21_Count_1 allAt_n)))) q_r21_Count
/-! ### overlay/overlayref21.Estimate -/
def I_r21_Estimate : Ab.Spec := ⟨[(0, .agg [.int .i64, .int .i64, .int .i64, .int .i64, .flt .f64, .flt .f64, .flt .f64, .ro 62]), (1, .one (.int .i64)), (2, .agg [.bool, .bool, .bool, .bool, .int .i64, .int .i64, .int .i64, .int .u32, .int .u32, .int .u32, .int .u32, .int .u32]), (3, .one (.int .i64)), (4, .one (.int .i64))], [], []⟩
def E_r21_Estimate : List (Ex × Ab.Spec) := [(.ret, ⟨[(10, .one (.int .i64))], [], []⟩)]
def J_r21_Estimate : Nat → Option (List (Ex × Ab.Spec)) := fun n => get [(7, [(.normal, ⟨[(1, .one (.int .i64)), (3, .one (.int .i64)), (4, .one (.int .i64)), (5, .one (.ptr 80 0)), (7, .one (.ptr 112 0)), (11, .one (.int .i64))], [(80, [.int .i64, .int .i64, .int .i64, .int .i64, .flt .f64, .flt .f64, .flt .f64, .ro 62]), (112, [.bool, .bool, .bool, .bool, .int .i64, .int .i64, .int .i64, .int .u32, .int .u32, .int .u32, .int .u32, .int .u32])], []⟩)])] n
noncomputable def T_r21_Estimate : List (Nat × Fe G) := [(34, e_r01_Valid), (44, e_r21_Path), (45, e_r21_Count)]
noncomputable def P_r21_Estimate : Nat → St G → M (Ex × St G) := fun _ _ => M.fail
theorem tT_r21_Estimate : ∀ p ∈ T_r21_Estimate, FnOK Tryd.prog G p.1 p.2 := List.forall_mem_cons.2 ⟨ok_r01_Valid, List.forall_mem_cons.2 ⟨ok_r21_Path, List.forall_mem_cons.2 ⟨ok_r21_Count, (fun _ h => absurd h (List.not_mem_nil))⟩⟩⟩
theorem q_r21_Estimate (x : I_r21_Estimate.T G) : endI (cfP T_r21_Estimate) P_r21_Estimate J_r21_Estimate 72 (bodyOf Tryd.f22) I_r21_Estimate E_r21_Estimate x = F_r21_Estimate x.1.1.1 x.1.1.2.1 x.1.1.2.2.1 x.1.1.2.2.2.1 x.1.1.2.2.2.2.1 x.1.1.2.2.2.2.2.1 x.1.1.2.2.2.2.2.2.1 x.1.1.2.2.2.2.2.2.2.1 x.1.2.1 x.1.2.2.1.1 x.1.2.2.1.2.1 x.1.2.2.1.2.2.1 x.1.2.2.1.2.2.2.1 x.1.2.2.1.2.2.2.2.1 x.1.2.2.1.2.2.2.2.2.1 x.1.2.2.1.2.2.2.2.2.2.1 x.1.2.2.1.2.2.2.2.2.2.2.1 x.1.2.2.1.2.2.2.2.2.2.2.2.1 x.1.2.2.1.2.2.2.2.2.2.2.2.2.1 x.1.2.2.1.2.2.2.2.2.2.2.2.2.2.1 x.1.2.2.1.2.2.2.2.2.2.2.2.2.2.2.1 x.1.2.2.2.1 x.1.2.2.2.2.1 := by kernel_rfl
noncomputable def e_r21_Estimate : Fe G := ⟨I_r21_Estimate, E_r21_Estimate, fun x => F_r21_Estimate x.1.1.1 x.1.1.2.1 x.1.1.2.2.1 x.1.1.2.2.2.1 x.1.1.2.2.2.2.1 x.1.1.2.2.2.2.2.1 x.1.1.2.2.2.2.2.2.1 x.1.1.2.2.2.2.2.2.2.1 x.1.2.1 x.1.2.2.1.1 x.1.2.2.1.2.1 x.1.2.2.1.2.2.1 x.1.2.2.1.2.2.2.1 x.1.2.2.1.2.2.2.2.1 x.1.2.2.1.2.2.2.2.2.1 x.1.2.2.1.2.2.2.2.2.2.1 x.1.2.2.1.2.2.2.2.2.2.2.1 x.1.2.2.1.2.2.2.2.2.2.2.2.1 x.1.2.2.1.2.2.2.2.2.2.2.2.2.1 x.1.2.2.1.2.2.2.2.2.2.2.2.2.2.1 x.1.2.2.1.2.2.2.2.2.2.2.2.2.2.2.1 x.1.2.2.2.1 x.1.2.2.2.2.1, Tryd.f22.results.toList⟩
theorem ok_r21_Estimate : FnOK Tryd.prog G 22 e_r21_Estimate := fn_ok (e := e_r21_Estimate) sigOK eqOK hmix tT_r21_Estimate Tryd.func22 (by kernel_rfl) (by kernel_rfl) rfl (by kernel_rfl) (allAt_zero (Q := fun k c => LoopOK Tryd.prog G 72 (P_r21_Estimate k) c) (allAt_of [] (by kernel_rfl) allAt_n)) q_r21_Estimate
/-! ### overlay/overlayref22.rank -/
def I_r22_rank : Ab.Spec := ⟨[(0, .agg [.int .i64, .int .i64, .int .i64, .int .i64, .flt .f64, .flt .f64, .flt .f64, .ro 62]), (1, .one (.ro 55)), (2, .one (.int .i64)), (3, .one (.int .i64)), (4, .one (.int .i64))], [], []⟩
def E_r22_rank : List (Ex × Ab.Spec) := [(.ret, ⟨[(10, .one (.ptr 160 0))], [(160, [.int .i64, .int .i64])], []⟩)]
def J_r22_rank : Nat → Option (List (Ex × Ab.Spec)) := fun n => get [(5, [(.normal, ⟨[(1, .one (.ro 55)), (2, .one (.int .i64)), (3, .one (.int .i64)), (4, .one (.int .i64)), (5, .one (.ptr 80 0)), (10, .one (.ptr 160 0)), (11, .one (.int .i64))], [(80, [.int .i64, .int .i64, .int .i64, .int .i64, .flt .f64, .flt .f64, .flt .f64, .ro 62]), (160, [.int .i64, .int .i64])], []⟩)])] n
noncomputable def T_r22_rank : List (Nat × Fe G) := [(57, e_r22_full), (22, e_r21_Estimate)]
noncomputable def P_r22_rank : Nat → St G → M (Ex × St G) := fun _ _ => M.fail
theorem tT_r22_rank : ∀ p ∈ T_r22_rank, FnOK Tryd.prog G p.1 p.2 := List.forall_mem_cons.2 ⟨ok_r22_full, List.forall_mem_cons.2 ⟨ok_r21_Estimate, (fun _ h => absurd h (List.not_mem_nil))⟩⟩
theorem q_r22_rank (x : I_r22_rank.T G) : endI (cfP T_r22_rank) P_r22_rank J_r22_rank 28 (bodyOf Tryd.f35) I_r22_rank E_r22_rank x = F_r22_rank x.1.1.1 x.1.1.2.1 x.1.1.2.2.1 x.1.1.2.2.2.1 x.1.1.2.2.2.2.1 x.1.1.2.2.2.2.2.1 x.1.1.2.2.2.2.2.2.1 x.1.1.2.2.2.2.2.2.2.1 x.1.2.1 x.1.2.2.1 x.1.2.2.2.1 x.1.2.2.2.2.1 := by kernel_rfl
noncomputable def e_r22_rank : Fe G := ⟨I_r22_rank, E_r22_rank, fun x => F_r22_rank x.1.1.1 x.1.1.2.1 x.1.1.2.2.1 x.1.1.2.2.2.1 x.1.1.2.2.2.2.1 x.1.1.2.2.2.2.2.1 x.1.1.2.2.2.2.2.2.1 x.1.1.2.2.2.2.2.2.2.1 x.1.2.1 x.1.2.2.1 x.1.2.2.2.1 x.1.2.2.2.2.1, Tryd.f35.results.toList⟩
theorem ok_r22_rank : FnOK Tryd.prog G 35 e_r22_rank := fn_ok (e := e_r22_rank) sigOK eqOK hmix tT_r22_rank Tryd.func35 (by kernel_rfl) (by kernel_rfl) rfl (by kernel_rfl) (allAt_zero (Q := fun k c => LoopOK Tryd.prog G 28 (P_r22_rank k) c) (allAt_of [] (by kernel_rfl) allAt_n)) q_r22_rank
/-! ### overlay/overlayref22.Better -/
def I_r22_Better : Ab.Spec := ⟨[(0, .agg [.int .i64, .int .i64]), (1, .agg [.int .i64, .int .i64])], [], []⟩
def E_r22_Better : List (Ex × Ab.Spec) := [(.ret, ⟨[(4, .one (.bool))], [], []⟩)]
def J_r22_Better : Nat → Option (List (Ex × Ab.Spec)) := fun n => get [(1048577, [(.normal, ⟨[(4, .one (.bool))], [], []⟩)])] n
noncomputable def T_r22_Better : List (Nat × Fe G) := []
noncomputable def P_r22_Better : Nat → St G → M (Ex × St G) := fun _ _ => M.fail
theorem tT_r22_Better : ∀ p ∈ T_r22_Better, FnOK Tryd.prog G p.1 p.2 := (fun _ h => absurd h (List.not_mem_nil))
theorem q_r22_Better (x : I_r22_Better.T G) : endI (cfP T_r22_Better) P_r22_Better J_r22_Better 24 (bodyOf Tryd.f16) I_r22_Better E_r22_Better x = F_r22_Better x.1.1.1 x.1.1.2.1 x.1.2.1.1 x.1.2.1.2.1 := by kernel_rfl
noncomputable def e_r22_Better : Fe G := ⟨I_r22_Better, E_r22_Better, fun x => F_r22_Better x.1.1.1 x.1.1.2.1 x.1.2.1.1 x.1.2.1.2.1, Tryd.f16.results.toList⟩
theorem ok_r22_Better : FnOK Tryd.prog G 16 e_r22_Better := fn_ok (e := e_r22_Better) sigOK eqOK hmix tT_r22_Better Tryd.func16 (by kernel_rfl) (by kernel_rfl) rfl (by kernel_rfl) (allAt_zero (Q := fun k c => LoopOK Tryd.prog G 24 (P_r22_Better k) c) (allAt_of [] (by kernel_rfl) allAt_n)) q_r22_Better
/-! ### overlay/overlayref22.Choose -/
def I_r22_Choose : Ab.Spec := ⟨[(0, .agg [.int .i64, .int .i64, .int .i64, .int .i64, .flt .f64, .flt .f64, .flt .f64, .ro 62]), (1, .one (.ro 55)), (2, .one (.int .i64)), (3, .one (.int .i64)), (4, .one (.int .i64))], [], []⟩
def E_r22_Choose : List (Ex × Ab.Spec) := [(.ret, ⟨[(10, .one (.int .i64))], [], []⟩)]
def J_r22_Choose : Nat → Option (List (Ex × Ab.Spec)) := fun n => get [(1048584, [(.normal, ⟨[(1, .one (.ro 55)), (2, .one (.int .i64)), (3, .one (.int .i64)), (4, .one (.int .i64)), (5, .one (.ptr 80 0)), (11, .one (.int .i64)), (12, .one (.int .i64)), (57, .one (.bool))], [(80, [.int .i64, .int .i64, .int .i64, .int .i64, .flt .f64, .flt .f64, .flt .f64, .ro 62])], []⟩)])] n
noncomputable def T_r22_Choose : List (Nat × Fe G) := [(34, e_r01_Valid), (35, e_r22_rank), (16, e_r22_Better)]
def S_r22_Choose_0 : Ab.Spec := ⟨[(1, .one (.ro 55)), (2, .one (.int .i64)), (3, .one (.int .i64)), (4, .one (.int .i64)), (5, .one (.ptr 80 0)), (11, .one (.int .i64)), (12, .one (.int .i64))], [(80, [.int .i64, .int .i64, .int .i64, .int .i64, .flt .f64, .flt .f64, .flt .f64, .ro 62])], []⟩
def X_r22_Choose_0 : List (Ex × Ab.Spec) := [(.exit 0, ⟨[(11, .one (.int .i64))], [], []⟩)]
noncomputable def P_r22_Choose : Nat → St G → M (Ex × St G) := fun n => bif Nat.beq n 0 then lpX S_r22_Choose_0 X_r22_Choose_0 L_r22_Choose_0 else fun _ => M.fail
theorem tT_r22_Choose : ∀ p ∈ T_r22_Choose, FnOK Tryd.prog G p.1 p.2 := List.forall_mem_cons.2 ⟨ok_r01_Valid, List.forall_mem_cons.2 ⟨ok_r22_rank, List.forall_mem_cons.2 ⟨ok_r22_Better, (fun _ h => absurd h (List.not_mem_nil))⟩⟩⟩
theorem r_r22_Choose_0 (x : S_r22_Choose_0.T G) : rndI (cfP T_r22_Choose) P_r22_Choose J_r22_Choose 60 1 (loopOf (bodyOf Tryd.f14) 0) S_r22_Choose_0 X_r22_Choose_0 x = R_r22_Choose_0 x.1.1 x.1.2.1 x.1.2.2.1 x.1.2.2.2.1 x.1.2.2.2.2.2.1 x.1.2.2.2.2.2.2.1 x.2.1.1 x.2.1.2.1 x.2.1.2.2.1 x.2.1.2.2.2.1 x.2.1.2.2.2.2.1 x.2.1.2.2.2.2.2.1 x.2.1.2.2.2.2.2.2.1 x.2.1.2.2.2.2.2.2.2.1 := by kernel_rfl
theorem lk_r22_Choose_0 : LoopOK Tryd.prog G 60 (P_r22_Choose 0) (loopOf (bodyOf Tryd.f14) 0) := loop_ok (lp := P_r22_Choose) (n := 1) (k := 0) sigOK eqOK hmix tT_r22_Choose S_r22_Choose_0 X_r22_Choose_0 (fun x => R_r22_Choose_0 x.1.1 x.1.2.1 x.1.2.2.1 x.1.2.2.2.1 x.1.2.2.2.2.2.1 x.1.2.2.2.2.2.2.1 x.2.1.1 x.2.1.2.1 x.2.1.2.2.1 x.2.1.2.2.2.1 x.2.1.2.2.2.2.1 x.2.1.2.2.2.2.2.1 x.2.1.2.2.2.2.2.2.1 x.2.1.2.2.2.2.2.2.2.1) (by kernel_rfl) (show AllAt (fun k c => LoopOK Tryd.prog G 60 (P_r22_Choose k) c) 1 _ from (allAt_of [] (by kernel_rfl) allAt_n)) r_r22_Choose_0
theorem q_r22_Choose (x : I_r22_Choose.T G) : endI (cfP T_r22_Choose) P_r22_Choose J_r22_Choose 60 (bodyOf Tryd.f14) I_r22_Choose E_r22_Choose x = F_r22_Choose x.1.1.1 x.1.1.2.1 x.1.1.2.2.1 x.1.1.2.2.2.1 x.1.1.2.2.2.2.1 x.1.1.2.2.2.2.2.1 x.1.1.2.2.2.2.2.2.1 x.1.1.2.2.2.2.2.2.2.1 x.1.2.1 x.1.2.2.1 x.1.2.2.2.1 x.1.2.2.2.2.1 := by kernel_rfl
noncomputable def e_r22_Choose : Fe G := ⟨I_r22_Choose, E_r22_Choose, fun x => F_r22_Choose x.1.1.1 x.1.1.2.1 x.1.1.2.2.1 x.1.1.2.2.2.1 x.1.1.2.2.2.2.1 x.1.1.2.2.2.2.2.1 x.1.1.2.2.2.2.2.2.1 x.1.1.2.2.2.2.2.2.2.1 x.1.2.1 x.1.2.2.1 x.1.2.2.2.1 x.1.2.2.2.2.1, Tryd.f14.results.toList⟩
theorem ok_r22_Choose : FnOK Tryd.prog G 14 e_r22_Choose := fn_ok (e := e_r22_Choose) sigOK eqOK hmix tT_r22_Choose Tryd.func14 (by kernel_rfl) (by kernel_rfl) rfl (by kernel_rfl) (allAt_zero (Q := fun k c => LoopOK Tryd.prog G 60 (P_r22_Choose k) c) (allAt_of [loopOf (bodyOf Tryd.f14) 0] (by kernel_rfl) (allAt_c lk_r22_Choose_0 allAt_n))) q_r22_Choose
/-! ### overlay/overlayref22.changed -/
def I_r22_changed : Ab.Spec := ⟨[(0, .agg [.int .i64, .int .i64, .int .i64, .int .i64, .flt .f64, .flt .f64, .flt .f64, .ro 62]), (1, .agg [.int .i64, .int .i64, .int .i64, .int .i64, .bool]), (2, .one (.int .i64)), (3, .one (.ro 55))], [], []⟩
def E_r22_changed : List (Ex × Ab.Spec) := [(.ret, ⟨[(8, .one (.ptr 128 0))], [(128, [.int .i64, .int .i64, .int .i64, .int .i64, .bool])], []⟩)]
def J_r22_changed : Nat → Option (List (Ex × Ab.Spec)) := fun n => get [(1048583, [(.normal, ⟨[(2, .one (.int .i64)), (3, .one (.ro 55)), (4, .one (.ptr 64 0)), (5, .one (.ptr 80 0)), (8, .one (.ptr 128 0)), (9, .one (.int .i64)), (35, .one (.bool))], [(64, [.int .i64, .int .i64, .int .i64, .int .i64, .flt .f64, .flt .f64, .flt .f64, .ro 62]), (80, [.int .i64, .int .i64, .int .i64, .int .i64, .bool]), (128, [.int .i64, .int .i64, .int .i64, .int .i64, .bool])], []⟩)]), (1048594, [(.normal, ⟨[(3, .one (.ro 55)), (5, .one (.ptr 80 0)), (8, .one (.ptr 128 0)), (10, .one (.ptr 160 0)), (11, .one (.int .i64)), (12, .one (.bool))], [(80, [.int .i64, .int .i64, .int .i64, .int .i64, .bool]), (128, [.int .i64, .int .i64, .int .i64, .int .i64, .bool]), (160, [.bool, .bool, .bool, .bool, .int .i64, .int .i64, .int .i64, .int .u32, .int .u32, .int .u32, .int .u32, .int .u32])], []⟩)]), (1048595, [(.normal, ⟨[(5, .one (.ptr 80 0)), (8, .one (.ptr 128 0)), (11, .one (.int .i64)), (141, .one (.bool))], [(80, [.int .i64, .int .i64, .int .i64, .int .i64, .bool]), (128, [.int .i64, .int .i64, .int .i64, .int .i64, .bool])], []⟩)])] n
noncomputable def T_r22_changed : List (Nat × Fe G) := [(14, e_r22_Choose), (35, e_r22_rank), (16, e_r22_Better), (57, e_r22_full)]
noncomputable def P_r22_changed : Nat → St G → M (Ex × St G) := fun _ _ => M.fail
theorem tT_r22_changed : ∀ p ∈ T_r22_changed, FnOK Tryd.prog G p.1 p.2 := List.forall_mem_cons.2 ⟨ok_r22_Choose, List.forall_mem_cons.2 ⟨ok_r22_rank, List.forall_mem_cons.2 ⟨ok_r22_Better, List.forall_mem_cons.2 ⟨ok_r22_full, (fun _ h => absurd h (List.not_mem_nil))⟩⟩⟩⟩
theorem q_r22_changed (x : I_r22_changed.T G) : endI (cfP T_r22_changed) P_r22_changed J_r22_changed 150 (bodyOf Tryd.f48) I_r22_changed E_r22_changed x = F_r22_changed x.1.1.1 x.1.1.2.1 x.1.1.2.2.1 x.1.1.2.2.2.1 x.1.1.2.2.2.2.1 x.1.1.2.2.2.2.2.1 x.1.1.2.2.2.2.2.2.1 x.1.1.2.2.2.2.2.2.2.1 x.1.2.1.1 x.1.2.1.2.1 x.1.2.1.2.2.1 x.1.2.1.2.2.2.1 x.1.2.1.2.2.2.2.1 x.1.2.2.1 x.1.2.2.2.1 := by kernel_rfl
noncomputable def e_r22_changed : Fe G := ⟨I_r22_changed, E_r22_changed, fun x => F_r22_changed x.1.1.1 x.1.1.2.1 x.1.1.2.2.1 x.1.1.2.2.2.1 x.1.1.2.2.2.2.1 x.1.1.2.2.2.2.2.1 x.1.1.2.2.2.2.2.2.1 x.1.1.2.2.2.2.2.2.2.1 x.1.2.1.1 x.1.2.1.2.1 x.1.2.1.2.2.1 x.1.2.1.2.2.2.1 x.1.2.1.2.2.2.2.1 x.1.2.2.1 x.1.2.2.2.1, Tryd.f48.results.toList⟩
theorem ok_r22_changed : FnOK Tryd.prog G 48 e_r22_changed := fn_ok (e := e_r22_changed) sigOK eqOK hmix tT_r22_changed Tryd.func48 (by kernel_rfl) (by kernel_rfl) rfl (by kernel_rfl) (allAt_zero (Q := fun k c => LoopOK Tryd.prog G 150 (P_r22_changed k) c) (allAt_of [] (by kernel_rfl) allAt_n)) q_r22_changed
/-! ### overlay/overlayref22.Plan -/
def I_r22_Plan : Ab.Spec := ⟨[(0, .agg [.int .i64, .int .i64, .int .i64, .int .i64, .flt .f64, .flt .f64, .flt .f64, .ro 62]), (1, .agg [.ro 3, .ro 4, .ro 4, .ro 57]), (2, .one (.ro 3)), (3, .one (.ro 55))], [], []⟩
def E_r22_Plan : List (Ex × Ab.Spec) := [(.ret, ⟨[(8, .one (.own 32768 72)), (9, .one (.own 32769 3)), (10, .one (.int .i64))], [], []⟩)]
def J_r22_Plan : Nat → Option (List (Ex × Ab.Spec)) := fun n => get [(16, [(.normal, ⟨[(2, .one (.ro 3)), (3, .one (.ro 55)), (4, .one (.ptr 64 0)), (5, .one (.ptr 80 0)), (11, .one (.own 32768 72)), (12, .one (.own 32769 3)), (13, .one (.int .i64)), (14, .one (.ptr 224 0)), (15, .one (.ptr 240 0))], [(64, [.int .i64, .int .i64, .int .i64, .int .i64, .flt .f64, .flt .f64, .flt .f64, .ro 62]), (80, [.ro 3, .ro 4, .ro 4, .ro 57]), (224, [.int .i64, .int .i64, .int .i64, .int .i64, .bool]), (240, [.int .i64, .int .i64, .int .i64, .int .i64, .bool])], []⟩)]), (18, [(.normal, ⟨[(2, .one (.ro 3)), (3, .one (.ro 55)), (4, .one (.ptr 64 0)), (5, .one (.ptr 80 0)), (11, .one (.own 32768 72)), (12, .one (.own 32769 3)), (13, .one (.int .i64)), (14, .one (.ptr 224 0)), (15, .one (.ptr 240 0))], [(64, [.int .i64, .int .i64, .int .i64, .int .i64, .flt .f64, .flt .f64, .flt .f64, .ro 62]), (80, [.ro 3, .ro 4, .ro 4, .ro 57]), (224, [.int .i64, .int .i64, .int .i64, .int .i64, .bool]), (240, [.int .i64, .int .i64, .int .i64, .int .i64, .bool])], []⟩)]), (1048586, [(.normal, ⟨[(2, .one (.ro 3)), (3, .one (.ro 55)), (4, .one (.ptr 64 0)), (5, .one (.ptr 80 0)), (11, .one (.own 32768 72)), (12, .one (.own 32769 3)), (13, .one (.int .i64)), (14, .one (.ptr 224 0)), (15, .one (.ptr 240 0)), (66, .one (.bool))], [(64, [.int .i64, .int .i64, .int .i64, .int .i64, .flt .f64, .flt .f64, .flt .f64, .ro 62]), (80, [.ro 3, .ro 4, .ro 4, .ro 57]), (224, [.int .i64, .int .i64, .int .i64, .int .i64, .bool]), (240, [.int .i64, .int .i64, .int .i64, .int .i64, .bool])], []⟩)]), (1048593, [(.normal, ⟨[(2, .one (.ro 3)), (3, .one (.ro 55)), (4, .one (.ptr 64 0)), (5, .one (.ptr 80 0)), (11, .one (.own 32768 72)), (12, .one (.own 32769 3)), (13, .one (.int .i64)), (14, .one (.ptr 224 0)), (15, .one (.ptr 240 0)), (105, .one (.bool))], [(64, [.int .i64, .int .i64, .int .i64, .int .i64, .flt .f64, .flt .f64, .flt .f64, .ro 62]), (80, [.ro 3, .ro 4, .ro 4, .ro 57]), (224, [.int .i64, .int .i64, .int .i64, .int .i64, .bool]), (240, [.int .i64, .int .i64, .int .i64, .int .i64, .bool])], []⟩)])] n
noncomputable def T_r22_Plan : List (Nat × Fe G) := [(46, e_r10_IsImage), (47, e_r22_IsExpect), (48, e_r22_changed), (22, e_r21_Estimate)]
def S_r22_Plan_0 : Ab.Spec := ⟨[(2, .one (.ro 3)), (3, .one (.ro 55)), (4, .one (.ptr 64 0)), (5, .one (.ptr 80 0)), (11, .one (.own 32768 72)), (12, .one (.own 32769 3)), (13, .one (.int .i64))], [(64, [.int .i64, .int .i64, .int .i64, .int .i64, .flt .f64, .flt .f64, .flt .f64, .ro 62]), (80, [.ro 3, .ro 4, .ro 4, .ro 57])], []⟩
def X_r22_Plan_0 : List (Ex × Ab.Spec) := [(.exit 0, ⟨[(11, .one (.own 32768 72)), (12, .one (.own 32769 3))], [], []⟩)]
noncomputable def P_r22_Plan : Nat → St G → M (Ex × St G) := fun n => bif Nat.beq n 0 then lpX S_r22_Plan_0 X_r22_Plan_0 L_r22_Plan_0 else fun _ => M.fail
theorem tT_r22_Plan : ∀ p ∈ T_r22_Plan, FnOK Tryd.prog G p.1 p.2 := List.forall_mem_cons.2 ⟨ok_r10_IsImage, List.forall_mem_cons.2 ⟨ok_r22_IsExpect, List.forall_mem_cons.2 ⟨ok_r22_changed, List.forall_mem_cons.2 ⟨ok_r21_Estimate, (fun _ h => absurd h (List.not_mem_nil))⟩⟩⟩⟩
theorem r_r22_Plan_0 (x : S_r22_Plan_0.T G) : rndI (cfP T_r22_Plan) P_r22_Plan J_r22_Plan 142 1 (loopOf (bodyOf Tryd.f24) 0) S_r22_Plan_0 X_r22_Plan_0 x = R_r22_Plan_0 x.1.1 x.1.2.1 x.1.2.2.2.2.1 x.1.2.2.2.2.2.1 x.1.2.2.2.2.2.2.1 x.2.1.1 x.2.1.2.1 x.2.1.2.2.1 x.2.1.2.2.2.1 x.2.1.2.2.2.2.1 x.2.1.2.2.2.2.2.1 x.2.1.2.2.2.2.2.2.1 x.2.1.2.2.2.2.2.2.2.1 x.2.2.1.1 x.2.2.1.2.1 x.2.2.1.2.2.1 x.2.2.1.2.2.2.1 := by kernel_rfl
theorem lk_r22_Plan_0 : LoopOK Tryd.prog G 142 (P_r22_Plan 0) (loopOf (bodyOf Tryd.f24) 0) := loop_ok (lp := P_r22_Plan) (n := 1) (k := 0) sigOK eqOK hmix tT_r22_Plan S_r22_Plan_0 X_r22_Plan_0 (fun x => R_r22_Plan_0 x.1.1 x.1.2.1 x.1.2.2.2.2.1 x.1.2.2.2.2.2.1 x.1.2.2.2.2.2.2.1 x.2.1.1 x.2.1.2.1 x.2.1.2.2.1 x.2.1.2.2.2.1 x.2.1.2.2.2.2.1 x.2.1.2.2.2.2.2.1 x.2.1.2.2.2.2.2.2.1 x.2.1.2.2.2.2.2.2.2.1 x.2.2.1.1 x.2.2.1.2.1 x.2.2.1.2.2.1 x.2.2.1.2.2.2.1) (by kernel_rfl) (show AllAt (fun k c => LoopOK Tryd.prog G 142 (P_r22_Plan k) c) 1 _ from (allAt_of [] (by kernel_rfl) allAt_n)) r_r22_Plan_0
theorem q_r22_Plan (x : I_r22_Plan.T G) : endI (cfP T_r22_Plan) P_r22_Plan J_r22_Plan 142 (bodyOf Tryd.f24) I_r22_Plan E_r22_Plan x = F_r22_Plan x.1.1.1 x.1.1.2.1 x.1.1.2.2.1 x.1.1.2.2.2.1 x.1.1.2.2.2.2.1 x.1.1.2.2.2.2.2.1 x.1.1.2.2.2.2.2.2.1 x.1.1.2.2.2.2.2.2.2.1 x.1.2.1.1 x.1.2.1.2.1 x.1.2.1.2.2.1 x.1.2.1.2.2.2.1 x.1.2.2.1 x.1.2.2.2.1 := by kernel_rfl
noncomputable def e_r22_Plan : Fe G := ⟨I_r22_Plan, E_r22_Plan, fun x => F_r22_Plan x.1.1.1 x.1.1.2.1 x.1.1.2.2.1 x.1.1.2.2.2.1 x.1.1.2.2.2.2.1 x.1.1.2.2.2.2.2.1 x.1.1.2.2.2.2.2.2.1 x.1.1.2.2.2.2.2.2.2.1 x.1.2.1.1 x.1.2.1.2.1 x.1.2.1.2.2.1 x.1.2.1.2.2.2.1 x.1.2.2.1 x.1.2.2.2.1, Tryd.f24.results.toList⟩
theorem ok_r22_Plan : FnOK Tryd.prog G 24 e_r22_Plan := fn_ok (e := e_r22_Plan) sigOK eqOK hmix tT_r22_Plan Tryd.func24 (by kernel_rfl) (by kernel_rfl) rfl (by kernel_rfl) (allAt_zero (Q := fun k c => LoopOK Tryd.prog G 142 (P_r22_Plan k) c) (allAt_of [loopOf (bodyOf Tryd.f24) 0] (by kernel_rfl) (allAt_c lk_r22_Plan_0 allAt_n))) q_r22_Plan
/-! ### overlay/overlayref09.Same -/
def I_r09_Same : Ab.Spec := ⟨[(0, .one (.ro 72)), (1, .one (.ro 72))], [], []⟩
def E_r09_Same : List (Ex × Ab.Spec) := [(.ret, ⟨[(4, .one (.bool))], [], []⟩)]
def J_r09_Same : Nat → Option (List (Ex × Ab.Spec)) := fun n => get [] n
noncomputable def T_r09_Same : List (Nat × Fe G) := []
def S_r09_Same_0 : Ab.Spec := ⟨[(0, .one (.ro 72)), (1, .one (.ro 72)), (5, .one (.int .i64))], [], []⟩
def X_r09_Same_0 : List (Ex × Ab.Spec) := [(.exit 0, ⟨[], [], []⟩), (.ret, ⟨[(4, .one (.bool))], [], []⟩)]
noncomputable def P_r09_Same : Nat → St G → M (Ex × St G) := fun n => bif Nat.beq n 0 then lpX S_r09_Same_0 X_r09_Same_0 L_r09_Same_0 else fun _ => M.fail
theorem tT_r09_Same : ∀ p ∈ T_r09_Same, FnOK Tryd.prog G p.1 p.2 := (fun _ h => absurd h (List.not_mem_nil))
theorem r_r09_Same_0 (x : S_r09_Same_0.T G) : rndI (cfP T_r09_Same) P_r09_Same J_r09_Same 26 1 (loopOf (bodyOf Tryd.f25) 0) S_r09_Same_0 X_r09_Same_0 x = R_r09_Same_0 x.1.1 x.1.2.1 x.1.2.2.1 := by kernel_rfl
theorem lk_r09_Same_0 : LoopOK Tryd.prog G 26 (P_r09_Same 0) (loopOf (bodyOf Tryd.f25) 0) := loop_ok (lp := P_r09_Same) (n := 1) (k := 0) sigOK eqOK hmix tT_r09_Same S_r09_Same_0 X_r09_Same_0 (fun x => R_r09_Same_0 x.1.1 x.1.2.1 x.1.2.2.1) (by kernel_rfl) (show AllAt (fun k c => LoopOK Tryd.prog G 26 (P_r09_Same k) c) 1 _ from (allAt_of [] (by kernel_rfl) allAt_n)) r_r09_Same_0
theorem q_r09_Same (x : I_r09_Same.T G) : endI (cfP T_r09_Same) P_r09_Same J_r09_Same 26 (bodyOf Tryd.f25) I_r09_Same E_r09_Same x = F_r09_Same x.1.1 x.1.2.1 := by kernel_rfl
noncomputable def e_r09_Same : Fe G := ⟨I_r09_Same, E_r09_Same, fun x => F_r09_Same x.1.1 x.1.2.1, Tryd.f25.results.toList⟩
theorem ok_r09_Same : FnOK Tryd.prog G 25 e_r09_Same := fn_ok (e := e_r09_Same) sigOK eqOK hmix tT_r09_Same Tryd.func25 (by kernel_rfl) (by kernel_rfl) rfl (by kernel_rfl) (allAt_zero (Q := fun k c => LoopOK Tryd.prog G 26 (P_r09_Same k) c) (allAt_of [loopOf (bodyOf Tryd.f25) 0] (by kernel_rfl) (allAt_c lk_r09_Same_0 allAt_n))) q_r09_Same
/-! ### overlay/overlayref22.SameInts -/
def I_r22_SameInts : Ab.Spec := ⟨[(0, .one (.ro 3)), (1, .one (.ro 3))], [], []⟩
def E_r22_SameInts : List (Ex × Ab.Spec) := [(.ret, ⟨[(4, .one (.bool))], [], []⟩)]
def J_r22_SameInts : Nat → Option (List (Ex × Ab.Spec)) := fun n => get [] n
noncomputable def T_r22_SameInts : List (Nat × Fe G) := []
def S_r22_SameInts_0 : Ab.Spec := ⟨[(0, .one (.ro 3)), (1, .one (.ro 3)), (5, .one (.int .i64))], [], []⟩
def X_r22_SameInts_0 : List (Ex × Ab.Spec) := [(.exit 0, ⟨[], [], []⟩), (.ret, ⟨[(4, .one (.bool))], [], []⟩)]
noncomputable def P_r22_SameInts : Nat → St G → M (Ex × St G) := fun n => bif Nat.beq n 0 then lpX S_r22_SameInts_0 X_r22_SameInts_0 L_r22_SameInts_0 else fun _ => M.fail
theorem tT_r22_SameInts : ∀ p ∈ T_r22_SameInts, FnOK Tryd.prog G p.1 p.2 := (fun _ h => absurd h (List.not_mem_nil))
theorem r_r22_SameInts_0 (x : S_r22_SameInts_0.T G) : rndI (cfP T_r22_SameInts) P_r22_SameInts J_r22_SameInts 26 1 (loopOf (bodyOf Tryd.f26) 0) S_r22_SameInts_0 X_r22_SameInts_0 x = R_r22_SameInts_0 x.1.1 x.1.2.1 x.1.2.2.1 := by kernel_rfl
theorem lk_r22_SameInts_0 : LoopOK Tryd.prog G 26 (P_r22_SameInts 0) (loopOf (bodyOf Tryd.f26) 0) := loop_ok (lp := P_r22_SameInts) (n := 1) (k := 0) sigOK eqOK hmix tT_r22_SameInts S_r22_SameInts_0 X_r22_SameInts_0 (fun x => R_r22_SameInts_0 x.1.1 x.1.2.1 x.1.2.2.1) (by kernel_rfl) (show AllAt (fun k c => LoopOK Tryd.prog G 26 (P_r22_SameInts k) c) 1 _ from (allAt_of [] (by kernel_rfl) allAt_n)) r_r22_SameInts_0
theorem q_r22_SameInts (x : I_r22_SameInts.T G) : endI (cfP T_r22_SameInts) P_r22_SameInts J_r22_SameInts 26 (bodyOf Tryd.f26) I_r22_SameInts E_r22_SameInts x = F_r22_SameInts x.1.1 x.1.2.1 := by kernel_rfl
noncomputable def e_r22_SameInts : Fe G := ⟨I_r22_SameInts, E_r22_SameInts, fun x => F_r22_SameInts x.1.1 x.1.2.1, Tryd.f26.results.toList⟩
theorem ok_r22_SameInts : FnOK Tryd.prog G 26 e_r22_SameInts := fn_ok (e := e_r22_SameInts) sigOK eqOK hmix tT_r22_SameInts Tryd.func26 (by kernel_rfl) (by kernel_rfl) rfl (by kernel_rfl) (allAt_zero (Q := fun k c => LoopOK Tryd.prog G 26 (P_r22_SameInts k) c) (allAt_of [loopOf (bodyOf Tryd.f26) 0] (by kernel_rfl) (allAt_c lk_r22_SameInts_0 allAt_n))) q_r22_SameInts
/-! ### overlay/calls.One -/
def I_calls_One : Ab.Spec := ⟨[(0, .one (.int .i64)), (1, .one (.int .i64))], [], []⟩
def E_calls_One : List (Ex × Ab.Spec) := [(.ret, ⟨[(4, .one (.ptr 64 0))], [(64, [.int .u32, .int .u32])], []⟩)]
def J_calls_One : Nat → Option (List (Ex × Ab.Spec)) := fun n => get [(1048577, [(.normal, ⟨[(0, .one (.int .i64)), (1, .one (.int .i64)), (4, .one (.ptr 64 0)), (10, .one (.bool))], [(64, [.int .u32, .int .u32])], []⟩)])] n
noncomputable def T_calls_One : List (Nat × Fe G) := []
noncomputable def P_calls_One : Nat → St G → M (Ex × St G) := fun _ _ => M.fail
theorem tT_calls_One : ∀ p ∈ T_calls_One, FnOK Tryd.prog G p.1 p.2 := (fun _ h => absurd h (List.not_mem_nil))
theorem q_calls_One (x : I_calls_One.T G) : endI (cfP T_calls_One) P_calls_One J_calls_One 23 (bodyOf Tryd.f50) I_calls_One E_calls_One x = F_calls_One x.1.1 x.1.2.1 := by kernel_rfl
noncomputable def e_calls_One : Fe G := ⟨I_calls_One, E_calls_One, fun x => F_calls_One x.1.1 x.1.2.1, Tryd.f50.results.toList⟩
theorem ok_calls_One : FnOK Tryd.prog G 50 e_calls_One := fn_ok (e := e_calls_One) sigOK eqOK hmix tT_calls_One Tryd.func50 (by kernel_rfl) (by kernel_rfl) rfl (by kernel_rfl) (allAt_zero (Q := fun k c => LoopOK Tryd.prog G 23 (P_calls_One k) c) (allAt_of [] (by kernel_rfl) allAt_n)) q_calls_One
/-! ### overlay/calls.Union -/
def I_calls_Union : Ab.Spec := ⟨[(0, .agg [.int .u32, .int .u32]), (1, .agg [.int .u32, .int .u32])], [], []⟩
def E_calls_Union : List (Ex × Ab.Spec) := [(.ret, ⟨[(4, .one (.ptr 64 0))], [(64, [.int .u32, .int .u32])], []⟩)]
def J_calls_Union : Nat → Option (List (Ex × Ab.Spec)) := fun n => get [] n
noncomputable def T_calls_Union : List (Nat × Fe G) := []
noncomputable def P_calls_Union : Nat → St G → M (Ex × St G) := fun _ _ => M.fail
theorem tT_calls_Union : ∀ p ∈ T_calls_Union, FnOK Tryd.prog G p.1 p.2 := (fun _ h => absurd h (List.not_mem_nil))
theorem q_calls_Union (x : I_calls_Union.T G) : endI (cfP T_calls_Union) P_calls_Union J_calls_Union 16 (bodyOf Tryd.f49) I_calls_Union E_calls_Union x = F_calls_Union x.1.1.1 x.1.1.2.1 x.1.2.1.1 x.1.2.1.2.1 := by kernel_rfl
noncomputable def e_calls_Union : Fe G := ⟨I_calls_Union, E_calls_Union, fun x => F_calls_Union x.1.1.1 x.1.1.2.1 x.1.2.1.1 x.1.2.1.2.1, Tryd.f49.results.toList⟩
theorem ok_calls_Union : FnOK Tryd.prog G 49 e_calls_Union := fn_ok (e := e_calls_Union) sigOK eqOK hmix tT_calls_Union Tryd.func49 (by kernel_rfl) (by kernel_rfl) rfl (by kernel_rfl) (allAt_zero (Q := fun k c => LoopOK Tryd.prog G 16 (P_calls_Union k) c) (allAt_of [] (by kernel_rfl) allAt_n)) q_calls_Union
/-! ### overlay/assign.Stops -/
def I_assign_Stops : Ab.Spec := ⟨[(0, .agg [.int .i64, .int .i64, .int .i64, .int .i64, .flt .f64, .flt .f64, .flt .f64, .ro 62]), (1, .agg [.ro 3, .ro 4, .ro 4, .ro 57]), (2, .one (.ro 55)), (3, .one (.int .i64))], [], []⟩
def E_assign_Stops : List (Ex × Ab.Spec) := [(.ret, ⟨[(8, .one (.ptr 128 0))], [(128, [.int .u32, .int .u32])], []⟩)]
def J_assign_Stops : Nat → Option (List (Ex × Ab.Spec)) := fun n => get [(1048583, [(.normal, ⟨[(2, .one (.ro 55)), (3, .one (.int .i64)), (8, .one (.ptr 128 0)), (9, .one (.ptr 144 0)), (11, .one (.ptr 176 0)), (37, .one (.ro 57)), (38, .one (.int .i64)), (39, .one (.int .i64)), (58, .one (.bool))], [(128, [.int .u32, .int .u32]), (144, [.int .u32, .int .u32]), (176, [.int .i64, .int .i64, .int .i64, .int .i64, .bool])], []⟩)])] n
noncomputable def T_assign_Stops : List (Nat × Fe G) := [(38, e_log_IsImage), (50, e_calls_One), (49, e_calls_Union)]
def S_assign_Stops_0 : Ab.Spec := ⟨[(2, .one (.ro 55)), (3, .one (.int .i64)), (8, .one (.ptr 128 0)), (9, .one (.ptr 144 0)), (37, .one (.ro 57)), (38, .one (.int .i64)), (39, .one (.int .i64))], [(128, [.int .u32, .int .u32]), (144, [.int .u32, .int .u32])], []⟩
def X_assign_Stops_0 : List (Ex × Ab.Spec) := [(.exit 0, ⟨[(8, .one (.ptr 128 0)), (9, .one (.ptr 144 0))], [(128, [.int .u32, .int .u32]), (144, [.int .u32, .int .u32])], []⟩)]
noncomputable def P_assign_Stops : Nat → St G → M (Ex × St G) := fun n => bif Nat.beq n 0 then lpX S_assign_Stops_0 X_assign_Stops_0 L_assign_Stops_0 else fun _ => M.fail
theorem tT_assign_Stops : ∀ p ∈ T_assign_Stops, FnOK Tryd.prog G p.1 p.2 := List.forall_mem_cons.2 ⟨ok_log_IsImage, List.forall_mem_cons.2 ⟨ok_calls_One, List.forall_mem_cons.2 ⟨ok_calls_Union, (fun _ h => absurd h (List.not_mem_nil))⟩⟩⟩
theorem r_assign_Stops_0 (x : S_assign_Stops_0.T G) : rndI (cfP T_assign_Stops) P_assign_Stops J_assign_Stops 68 1 (loopOf (bodyOf Tryd.f27) 0) S_assign_Stops_0 X_assign_Stops_0 x = R_assign_Stops_0 x.1.1 x.1.2.1 x.1.2.2.2.2.1 x.1.2.2.2.2.2.1 x.1.2.2.2.2.2.2.1 x.2.1.1 x.2.1.2.1 x.2.2.1.1 x.2.2.1.2.1 := by kernel_rfl
theorem lk_assign_Stops_0 : LoopOK Tryd.prog G 68 (P_assign_Stops 0) (loopOf (bodyOf Tryd.f27) 0) := loop_ok (lp := P_assign_Stops) (n := 1) (k := 0) sigOK eqOK hmix tT_assign_Stops S_assign_Stops_0 X_assign_Stops_0 (fun x => R_assign_Stops_0 x.1.1 x.1.2.1 x.1.2.2.2.2.1 x.1.2.2.2.2.2.1 x.1.2.2.2.2.2.2.1 x.2.1.1 x.2.1.2.1 x.2.2.1.1 x.2.2.1.2.1) (by kernel_rfl) (show AllAt (fun k c => LoopOK Tryd.prog G 68 (P_assign_Stops k) c) 1 _ from (allAt_of [] (by kernel_rfl) allAt_n)) r_assign_Stops_0
theorem q_assign_Stops (x : I_assign_Stops.T G) : endI (cfP T_assign_Stops) P_assign_Stops J_assign_Stops 68 (bodyOf Tryd.f27) I_assign_Stops E_assign_Stops x = F_assign_Stops x.1.1.1 x.1.1.2.1 x.1.1.2.2.1 x.1.1.2.2.2.1 x.1.1.2.2.2.2.1 x.1.1.2.2.2.2.2.1 x.1.1.2.2.2.2.2.2.1 x.1.1.2.2.2.2.2.2.2.1 x.1.2.1.1 x.1.2.1.2.1 x.1.2.1.2.2.1 x.1.2.1.2.2.2.1 x.1.2.2.1 x.1.2.2.2.1 := by kernel_rfl
noncomputable def e_assign_Stops : Fe G := ⟨I_assign_Stops, E_assign_Stops, fun x => F_assign_Stops x.1.1.1 x.1.1.2.1 x.1.1.2.2.1 x.1.1.2.2.2.1 x.1.1.2.2.2.2.1 x.1.1.2.2.2.2.2.1 x.1.1.2.2.2.2.2.2.1 x.1.1.2.2.2.2.2.2.2.1 x.1.2.1.1 x.1.2.1.2.1 x.1.2.1.2.2.1 x.1.2.1.2.2.2.1 x.1.2.2.1 x.1.2.2.2.1, Tryd.f27.results.toList⟩
theorem ok_assign_Stops : FnOK Tryd.prog G 27 e_assign_Stops := fn_ok (e := e_assign_Stops) sigOK eqOK hmix tT_assign_Stops Tryd.func27 (by kernel_rfl) (by kernel_rfl) rfl (by kernel_rfl) (allAt_zero (Q := fun k c => LoopOK Tryd.prog G 68 (P_assign_Stops k) c) (allAt_of [loopOf (bodyOf Tryd.f27) 0] (by kernel_rfl) (allAt_c lk_assign_Stops_0 allAt_n))) q_assign_Stops
/-! ### overlay/overlayref07.One -/
def I_r07_One : Ab.Spec := ⟨[(0, .one (.int .i64)), (1, .one (.int .i64))], [], []⟩
def E_r07_One : List (Ex × Ab.Spec) := [(.ret, ⟨[(4, .one (.ptr 64 0))], [(64, [.int .u32, .int .u32])], []⟩)]
def J_r07_One : Nat → Option (List (Ex × Ab.Spec)) := fun n => get [] n
noncomputable def T_r07_One : List (Nat × Fe G) := []
noncomputable def P_r07_One : Nat → St G → M (Ex × St G) := fun _ _ => M.fail
theorem tT_r07_One : ∀ p ∈ T_r07_One, FnOK Tryd.prog G p.1 p.2 := (fun _ h => absurd h (List.not_mem_nil))
theorem q_r07_One (x : I_r07_One.T G) : endI (cfP T_r07_One) P_r07_One J_r07_One 28 (bodyOf Tryd.f30) I_r07_One E_r07_One x = F_r07_One x.1.1 x.1.2.1 := by kernel_rfl
noncomputable def e_r07_One : Fe G := ⟨I_r07_One, E_r07_One, fun x => F_r07_One x.1.1 x.1.2.1, Tryd.f30.results.toList⟩
theorem ok_r07_One : FnOK Tryd.prog G 30 e_r07_One := fn_ok (e := e_r07_One) sigOK eqOK hmix tT_r07_One Tryd.func30 (by kernel_rfl) (by kernel_rfl) rfl (by kernel_rfl) (allAt_zero (Q := fun k c => LoopOK Tryd.prog G 28 (P_r07_One k) c) (allAt_of [] (by kernel_rfl) allAt_n)) q_r07_One
/-! ### overlay/overlayref07.Union -/
def I_r07_Union : Ab.Spec := ⟨[(0, .agg [.int .u32, .int .u32]), (1, .agg [.int .u32, .int .u32])], [], []⟩
def E_r07_Union : List (Ex × Ab.Spec) := [(.ret, ⟨[(4, .one (.ptr 64 0))], [(64, [.int .u32, .int .u32])], []⟩)]
def J_r07_Union : Nat → Option (List (Ex × Ab.Spec)) := fun n => get [] n
noncomputable def T_r07_Union : List (Nat × Fe G) := []
noncomputable def P_r07_Union : Nat → St G → M (Ex × St G) := fun _ _ => M.fail
theorem tT_r07_Union : ∀ p ∈ T_r07_Union, FnOK Tryd.prog G p.1 p.2 := (fun _ h => absurd h (List.not_mem_nil))
theorem q_r07_Union (x : I_r07_Union.T G) : endI (cfP T_r07_Union) P_r07_Union J_r07_Union 16 (bodyOf Tryd.f29) I_r07_Union E_r07_Union x = F_r07_Union x.1.1.1 x.1.1.2.1 x.1.2.1.1 x.1.2.1.2.1 := by kernel_rfl
noncomputable def e_r07_Union : Fe G := ⟨I_r07_Union, E_r07_Union, fun x => F_r07_Union x.1.1.1 x.1.1.2.1 x.1.2.1.1 x.1.2.1.2.1, Tryd.f29.results.toList⟩
theorem ok_r07_Union : FnOK Tryd.prog G 29 e_r07_Union := fn_ok (e := e_r07_Union) sigOK eqOK hmix tT_r07_Union Tryd.func29 (by kernel_rfl) (by kernel_rfl) rfl (by kernel_rfl) (allAt_zero (Q := fun k c => LoopOK Tryd.prog G 16 (P_r07_Union k) c) (allAt_of [] (by kernel_rfl) allAt_n)) q_r07_Union
/-! ### overlay/overlayref22.Stops -/
def I_r22_Stops : Ab.Spec := ⟨[(0, .agg [.int .i64, .int .i64, .int .i64, .int .i64, .flt .f64, .flt .f64, .flt .f64, .ro 62]), (1, .agg [.ro 3, .ro 4, .ro 4, .ro 57]), (2, .one (.ro 55)), (3, .one (.int .i64))], [], []⟩
def E_r22_Stops : List (Ex × Ab.Spec) := [(.ret, ⟨[(8, .one (.ptr 128 0))], [(128, [.int .u32, .int .u32])], []⟩)]
def J_r22_Stops : Nat → Option (List (Ex × Ab.Spec)) := fun n => get [(1048584, [(.normal, ⟨[(2, .one (.ro 55)), (3, .one (.int .i64)), (5, .one (.ptr 80 0)), (8, .one (.ptr 128 0)), (9, .one (.ptr 144 0)), (10, .one (.int .i64)), (11, .one (.ptr 176 0)), (63, .one (.bool))], [(80, [.ro 3, .ro 4, .ro 4, .ro 57]), (128, [.int .u32, .int .u32]), (144, [.int .u32, .int .u32]), (176, [.int .i64, .int .i64, .int .i64, .int .i64, .bool])], []⟩)])] n
noncomputable def T_r22_Stops : List (Nat × Fe G) := [(46, e_r10_IsImage), (30, e_r07_One), (29, e_r07_Union)]
def S_r22_Stops_0 : Ab.Spec := ⟨[(2, .one (.ro 55)), (3, .one (.int .i64)), (5, .one (.ptr 80 0)), (8, .one (.ptr 128 0)), (9, .one (.ptr 144 0)), (10, .one (.int .i64))], [(80, [.ro 3, .ro 4, .ro 4, .ro 57]), (128, [.int .u32, .int .u32]), (144, [.int .u32, .int .u32])], []⟩
def X_r22_Stops_0 : List (Ex × Ab.Spec) := [(.exit 0, ⟨[(8, .one (.ptr 128 0)), (9, .one (.ptr 144 0))], [(128, [.int .u32, .int .u32]), (144, [.int .u32, .int .u32])], []⟩)]
noncomputable def P_r22_Stops : Nat → St G → M (Ex × St G) := fun n => bif Nat.beq n 0 then lpX S_r22_Stops_0 X_r22_Stops_0 L_r22_Stops_0 else fun _ => M.fail
theorem tT_r22_Stops : ∀ p ∈ T_r22_Stops, FnOK Tryd.prog G p.1 p.2 := List.forall_mem_cons.2 ⟨ok_r10_IsImage, List.forall_mem_cons.2 ⟨ok_r07_One, List.forall_mem_cons.2 ⟨ok_r07_Union, (fun _ h => absurd h (List.not_mem_nil))⟩⟩⟩
theorem r_r22_Stops_0 (x : S_r22_Stops_0.T G) : rndI (cfP T_r22_Stops) P_r22_Stops J_r22_Stops 72 1 (loopOf (bodyOf Tryd.f28) 0) S_r22_Stops_0 X_r22_Stops_0 x = R_r22_Stops_0 x.1.1 x.1.2.1 x.1.2.2.2.2.2.1 x.2.1.1 x.2.1.2.1 x.2.1.2.2.1 x.2.1.2.2.2.1 x.2.2.1.1 x.2.2.1.2.1 x.2.2.2.1.1 x.2.2.2.1.2.1 := by kernel_rfl
theorem lk_r22_Stops_0 : LoopOK Tryd.prog G 72 (P_r22_Stops 0) (loopOf (bodyOf Tryd.f28) 0) := loop_ok (lp := P_r22_Stops) (n := 1) (k := 0) sigOK eqOK hmix tT_r22_Stops S_r22_Stops_0 X_r22_Stops_0 (fun x => R_r22_Stops_0 x.1.1 x.1.2.1 x.1.2.2.2.2.2.1 x.2.1.1 x.2.1.2.1 x.2.1.2.2.1 x.2.1.2.2.2.1 x.2.2.1.1 x.2.2.1.2.1 x.2.2.2.1.1 x.2.2.2.1.2.1) (by kernel_rfl) (show AllAt (fun k c => LoopOK Tryd.prog G 72 (P_r22_Stops k) c) 1 _ from (allAt_of [] (by kernel_rfl) allAt_n)) r_r22_Stops_0
theorem q_r22_Stops (x : I_r22_Stops.T G) : endI (cfP T_r22_Stops) P_r22_Stops J_r22_Stops 72 (bodyOf Tryd.f28) I_r22_Stops E_r22_Stops x = F_r22_Stops x.1.1.1 x.1.1.2.1 x.1.1.2.2.1 x.1.1.2.2.2.1 x.1.1.2.2.2.2.1 x.1.1.2.2.2.2.2.1 x.1.1.2.2.2.2.2.2.1 x.1.1.2.2.2.2.2.2.2.1 x.1.2.1.1 x.1.2.1.2.1 x.1.2.1.2.2.1 x.1.2.1.2.2.2.1 x.1.2.2.1 x.1.2.2.2.1 := by kernel_rfl
noncomputable def e_r22_Stops : Fe G := ⟨I_r22_Stops, E_r22_Stops, fun x => F_r22_Stops x.1.1.1 x.1.1.2.1 x.1.1.2.2.1 x.1.1.2.2.2.1 x.1.1.2.2.2.2.1 x.1.1.2.2.2.2.2.1 x.1.1.2.2.2.2.2.2.1 x.1.1.2.2.2.2.2.2.2.1 x.1.2.1.1 x.1.2.1.2.1 x.1.2.1.2.2.1 x.1.2.1.2.2.2.1 x.1.2.2.1 x.1.2.2.2.1, Tryd.f28.results.toList⟩
theorem ok_r22_Stops : FnOK Tryd.prog G 28 e_r22_Stops := fn_ok (e := e_r22_Stops) sigOK eqOK hmix tT_r22_Stops Tryd.func28 (by kernel_rfl) (by kernel_rfl) rfl (by kernel_rfl) (allAt_zero (Q := fun k c => LoopOK Tryd.prog G 72 (P_r22_Stops k) c) (allAt_of [loopOf (bodyOf Tryd.f28) 0] (by kernel_rfl) (allAt_c lk_r22_Stops_0 allAt_n))) q_r22_Stops
/-! ### overlay/overlaylaw22.AssignRaw -/
def I_l22_AssignRaw : Ab.Spec := ⟨[(0, .one (.int .u8)), (1, .agg [.ro 3, .ro 4, .ro 4, .ro 57]), (2, .one (.ro 55))], [], []⟩
def E_l22_AssignRaw : List (Ex × Ab.Spec) := [(.ret, ⟨[(6, .one (.bool))], [], []⟩)]
def J_l22_AssignRaw : Nat → Option (List (Ex × Ab.Spec)) := fun n => get [(1048583, [(.normal, ⟨[(6, .one (.bool))], [], []⟩)])] n
noncomputable def T_l22_AssignRaw : List (Nat × Fe G) := [(10, e_l22_sane), (11, e_l10_Building), (18, e_assign_Plan), (24, e_r22_Plan), (25, e_r09_Same), (26, e_r22_SameInts), (27, e_assign_Stops), (28, e_r22_Stops)]
noncomputable def P_l22_AssignRaw : Nat → St G → M (Ex × St G) := fun _ _ => M.fail
theorem tT_l22_AssignRaw : ∀ p ∈ T_l22_AssignRaw, FnOK Tryd.prog G p.1 p.2 := List.forall_mem_cons.2 ⟨ok_l22_sane, List.forall_mem_cons.2 ⟨ok_l10_Building, List.forall_mem_cons.2 ⟨ok_assign_Plan, List.forall_mem_cons.2 ⟨ok_r22_Plan, List.forall_mem_cons.2 ⟨ok_r09_Same, List.forall_mem_cons.2 ⟨ok_r22_SameInts, List.forall_mem_cons.2 ⟨ok_assign_Stops, List.forall_mem_cons.2 ⟨ok_r22_Stops, (fun _ h => absurd h (List.not_mem_nil))⟩⟩⟩⟩⟩⟩⟩⟩
theorem q_l22_AssignRaw (x : I_l22_AssignRaw.T G) : endI (cfP T_l22_AssignRaw) P_l22_AssignRaw J_l22_AssignRaw 94 (bodyOf Tryd.f8) I_l22_AssignRaw E_l22_AssignRaw x = F_l22_AssignRaw x.1.1 x.1.2.1.1 x.1.2.1.2.1 x.1.2.1.2.2.1 x.1.2.1.2.2.2.1 x.1.2.2.1 := by kernel_rfl
noncomputable def e_l22_AssignRaw : Fe G := ⟨I_l22_AssignRaw, E_l22_AssignRaw, fun x => F_l22_AssignRaw x.1.1 x.1.2.1.1 x.1.2.1.2.1 x.1.2.1.2.2.1 x.1.2.1.2.2.2.1 x.1.2.2.1, Tryd.f8.results.toList⟩
theorem ok_l22_AssignRaw : FnOK Tryd.prog G 8 e_l22_AssignRaw := fn_ok (e := e_l22_AssignRaw) sigOK eqOK hmix tT_l22_AssignRaw Tryd.func8 (by kernel_rfl) (by kernel_rfl) rfl (by kernel_rfl) (allAt_zero (Q := fun k c => LoopOK Tryd.prog G 94 (P_l22_AssignRaw k) c) (allAt_of [] (by kernel_rfl) allAt_n)) q_l22_AssignRaw
end Go.Ovl
