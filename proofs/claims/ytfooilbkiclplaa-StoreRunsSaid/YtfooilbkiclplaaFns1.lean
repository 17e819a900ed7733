/- The contracts of the program's functions: part 1. -/
import Derived.Test.YtfooilbkiclplaaSig
import Derived.Test.YtfooilbkiclplaaDefs1
namespace Go.Ovl
open Go Go.Ab Go.Proofs
set_option maxRecDepth 100000
/-! ### overlay/store.IsStore -/
def I_store_IsStore : Ab.Spec := ⟨[(0, .one (.int .i64)), (1, .agg [.str, .str, .int .i64])], [], []⟩
def E_store_IsStore : List (Ex × Ab.Spec) := [(.ret, ⟨[(4, .one (.bool))], [], []⟩)]
def J_store_IsStore : Nat → Option (List (Ex × Ab.Spec)) := fun n => get [(1048577, [(.normal, ⟨[(4, .one (.bool))], [], []⟩)])] n
noncomputable def T_store_IsStore : List (Nat × Fe G) := []
noncomputable def P_store_IsStore : Nat → St G → M (Ex × St G) := fun _ _ => M.fail
theorem tT_store_IsStore : ∀ p ∈ T_store_IsStore, FnOK Try.prog G p.1 p.2 := (fun _ h => absurd h (List.not_mem_nil))
theorem q_store_IsStore (x : I_store_IsStore.T G) : endI (cfP T_store_IsStore) P_store_IsStore J_store_IsStore 37 (bodyOf Try.f23) I_store_IsStore E_store_IsStore x = F_store_IsStore x.1.1 x.1.2.1.1 x.1.2.1.2.1 x.1.2.1.2.2.1 := by kernel_rfl
noncomputable def e_store_IsStore : Fe G := ⟨I_store_IsStore, E_store_IsStore, fun x => F_store_IsStore x.1.1 x.1.2.1.1 x.1.2.1.2.1 x.1.2.1.2.2.1, Try.f23.results.toList⟩
theorem ok_store_IsStore : FnOK Try.prog G 23 e_store_IsStore := fn_ok (e := e_store_IsStore) sigOK eqOK hmix tT_store_IsStore Try.func23 (by kernel_rfl) (by kernel_rfl) rfl (by kernel_rfl) (allAt_zero (Q := fun k c => LoopOK Try.prog G 37 (P_store_IsStore k) c) (allAt_of [] (by kernel_rfl) allAt_n)) q_store_IsStore
/-! ### overlay/store.check -/
def I_store_check : Ab.Spec := ⟨[(0, .one (.int .i64)), (1, .agg [.str, .str, .int .i64]), (2, .one (.int .i64)), (3, .one (.int .i64))], [], []⟩
def E_store_check : List (Ex × Ab.Spec) := [(.ret, ⟨[(8, .one (.int .i64))], [], []⟩)]
def J_store_check : Nat → Option (List (Ex × Ab.Spec)) := fun n => get [(1048579, [(.normal, ⟨[(3, .one (.int .i64)), (14, .one (.bool))], [], []⟩)])] n
noncomputable def T_store_check : List (Nat × Fe G) := [(23, e_store_IsStore)]
noncomputable def P_store_check : Nat → St G → M (Ex × St G) := fun _ _ => M.fail
theorem tT_store_check : ∀ p ∈ T_store_check, FnOK Try.prog G p.1 p.2 := List.forall_mem_cons.2 ⟨ok_store_IsStore, (fun _ h => absurd h (List.not_mem_nil))⟩
theorem q_store_check (x : I_store_check.T G) : endI (cfP T_store_check) P_store_check J_store_check 23 (bodyOf Try.f37) I_store_check E_store_check x = F_store_check x.1.1 x.1.2.1.1 x.1.2.1.2.1 x.1.2.1.2.2.1 x.1.2.2.1 x.1.2.2.2.1 := by kernel_rfl
noncomputable def e_store_check : Fe G := ⟨I_store_check, E_store_check, fun x => F_store_check x.1.1 x.1.2.1.1 x.1.2.1.2.1 x.1.2.1.2.2.1 x.1.2.2.1 x.1.2.2.2.1, Try.f37.results.toList⟩
theorem ok_store_check : FnOK Try.prog G 37 e_store_check := fn_ok (e := e_store_check) sigOK eqOK hmix tT_store_check Try.func37 (by kernel_rfl) (by kernel_rfl) rfl (by kernel_rfl) (allAt_zero (Q := fun k c => LoopOK Try.prog G 23 (P_store_check k) c) (allAt_of [] (by kernel_rfl) allAt_n)) q_store_check
/-! ### overlay/store.Erase$1 -/
def I_store_Erase_1 : Ab.Spec := ⟨[(0, .one (.ptr 65536 0)), (1, .one (.ptr 65537 0))], [(65536, [.str, .str, .int .i64]), (65537, [.int .i64])], []⟩
def E_store_Erase_1 : List (Ex × Ab.Spec) := [(.normal, ⟨[], [(65536, [.str, .str, .int .i64]), (65537, [.int .i64])], [65536, 65537]⟩)]
def J_store_Erase_1 : Nat → Option (List (Ex × Ab.Spec)) := fun n => get [] n
noncomputable def T_store_Erase_1 : List (Nat × Fe G) := []
noncomputable def P_store_Erase_1 : Nat → St G → M (Ex × St G) := fun _ _ => M.fail
theorem tT_store_Erase_1 : ∀ p ∈ T_store_Erase_1, FnOK Try.prog G p.1 p.2 := (fun _ h => absurd h (List.not_mem_nil))
theorem q_store_Erase_1 (x : I_store_Erase_1.T G) : endI (cfP T_store_Erase_1) P_store_Erase_1 J_store_Erase_1 8 (bodyOf Try.f40) I_store_Erase_1 E_store_Erase_1 x = F_store_Erase_1 x.2.1.1 x.2.1.2.1 x.2.1.2.2.1 x.2.2.1.1 := by kernel_rfl
noncomputable def e_store_Erase_1 : Fe G := ⟨I_store_Erase_1, E_store_Erase_1, fun x => F_store_Erase_1 x.2.1.1 x.2.1.2.1 x.2.1.2.2.1 x.2.2.1.1, Try.f40.results.toList⟩
theorem ok_store_Erase_1 : FnOK Try.prog G 40 e_store_Erase_1 := fn_ok (e := e_store_Erase_1) sigOK eqOK hmix tT_store_Erase_1 Try.func40 (by kernel_rfl) (by kernel_rfl) rfl (by kernel_rfl) (allAt_zero (Q := fun k c => LoopOK Try.prog G 8 (P_store_Erase_1 k) c) (allAt_of [] (by kernel_rfl) allAt_n)) q_store_Erase_1
/-! ### overlay/store.unit -/
def I_store_unit_store_Erase_1 : Ab.Spec := ⟨[(0, .one (.int .i64)), (1, .agg [.str, .str, .int .i64]), (2, .one (.int .i64)), (3, .one (.int .i64)), (4, .one (.clo 40 [] [(65536, 0)]))], [(65536, [.int .i64])], []⟩
def E_store_unit_store_Erase_1 : List (Ex × Ab.Spec) := [(.ret, ⟨[(10, .one (.ptr 160 0)), (11, .one (.int .i64)), (12, .one (.int .i64))], [(160, [.str, .str, .int .i64]), (65536, [.int .i64])], [65536]⟩)]
def J_store_unit_store_Erase_1 : Nat → Option (List (Ex × Ab.Spec)) := fun n => get [] n
noncomputable def T_store_unit_store_Erase_1 : List (Nat × Fe G) := [(37, e_store_check), (40, e_store_Erase_1)]
noncomputable def P_store_unit_store_Erase_1 : Nat → St G → M (Ex × St G) := fun _ _ => M.fail
theorem tT_store_unit_store_Erase_1 : ∀ p ∈ T_store_unit_store_Erase_1, FnOK Try.prog G p.1 p.2 := List.forall_mem_cons.2 ⟨ok_store_check, List.forall_mem_cons.2 ⟨ok_store_Erase_1, (fun _ h => absurd h (List.not_mem_nil))⟩⟩
theorem q_store_unit_store_Erase_1 (x : I_store_unit_store_Erase_1.T G) : endI (cfP T_store_unit_store_Erase_1) P_store_unit_store_Erase_1 J_store_unit_store_Erase_1 31 (bodyOf Try.f39) I_store_unit_store_Erase_1 E_store_unit_store_Erase_1 x = F_store_unit_store_Erase_1 x.1.1 x.1.2.1.1 x.1.2.1.2.1 x.1.2.1.2.2.1 x.1.2.2.1 x.1.2.2.2.1 x.2.1.1 := by kernel_rfl
noncomputable def e_store_unit_store_Erase_1 : Fe G := ⟨I_store_unit_store_Erase_1, E_store_unit_store_Erase_1, fun x => F_store_unit_store_Erase_1 x.1.1 x.1.2.1.1 x.1.2.1.2.1 x.1.2.1.2.2.1 x.1.2.2.1 x.1.2.2.2.1 x.2.1.1, Try.f39.results.toList⟩
theorem ok_store_unit_store_Erase_1 : FnOK Try.prog G 39 e_store_unit_store_Erase_1 := fn_ok (e := e_store_unit_store_Erase_1) sigOK eqOK hmix tT_store_unit_store_Erase_1 Try.func39 (by kernel_rfl) (by kernel_rfl) rfl (by kernel_rfl) (allAt_zero (Q := fun k c => LoopOK Try.prog G 31 (P_store_unit_store_Erase_1 k) c) (allAt_of [] (by kernel_rfl) allAt_n)) q_store_unit_store_Erase_1
/-! ### overlay/store.Erase -/
def I_store_Erase : Ab.Spec := ⟨[(0, .one (.int .i64)), (1, .agg [.str, .str, .int .i64]), (2, .one (.int .i64)), (3, .one (.int .i64))], [], []⟩
def E_store_Erase : List (Ex × Ab.Spec) := [(.ret, ⟨[(8, .one (.ptr 128 0)), (9, .one (.int .i64)), (10, .one (.int .i64))], [(128, [.str, .str, .int .i64])], []⟩)]
def J_store_Erase : Nat → Option (List (Ex × Ab.Spec)) := fun n => get [] n
noncomputable def T_store_Erase : List (Nat × Fe G) := [(39, e_store_unit_store_Erase_1)]
noncomputable def P_store_Erase : Nat → St G → M (Ex × St G) := fun _ _ => M.fail
theorem tT_store_Erase : ∀ p ∈ T_store_Erase, FnOK Try.prog G p.1 p.2 := List.forall_mem_cons.2 ⟨ok_store_unit_store_Erase_1, (fun _ h => absurd h (List.not_mem_nil))⟩
theorem q_store_Erase (x : I_store_Erase.T G) : endI (cfP T_store_Erase) P_store_Erase J_store_Erase 20 (bodyOf Try.f17) I_store_Erase E_store_Erase x = F_store_Erase x.1.1 x.1.2.1.1 x.1.2.1.2.1 x.1.2.1.2.2.1 x.1.2.2.1 x.1.2.2.2.1 := by kernel_rfl
noncomputable def e_store_Erase : Fe G := ⟨I_store_Erase, E_store_Erase, fun x => F_store_Erase x.1.1 x.1.2.1.1 x.1.2.1.2.1 x.1.2.1.2.2.1 x.1.2.2.1 x.1.2.2.2.1, Try.f17.results.toList⟩
theorem ok_store_Erase : FnOK Try.prog G 17 e_store_Erase := fn_ok (e := e_store_Erase) sigOK eqOK hmix tT_store_Erase Try.func17 (by kernel_rfl) (by kernel_rfl) rfl (by kernel_rfl) (allAt_zero (Q := fun k c => LoopOK Try.prog G 20 (P_store_Erase k) c) (allAt_of [] (by kernel_rfl) allAt_n)) q_store_Erase
/-! ### overlay/store.Choose$1 -/
def I_store_Choose_1 : Ab.Spec := ⟨[(0, .one (.ptr 65536 0)), (1, .one (.ptr 65537 0))], [(65536, [.str, .str, .int .i64]), (65537, [.int .i64])], []⟩
def E_store_Choose_1 : List (Ex × Ab.Spec) := [(.normal, ⟨[], [(65536, [.str, .str, .int .i64]), (65537, [.int .i64])], [65536, 65537]⟩)]
def J_store_Choose_1 : Nat → Option (List (Ex × Ab.Spec)) := fun n => get [] n
noncomputable def T_store_Choose_1 : List (Nat × Fe G) := []
noncomputable def P_store_Choose_1 : Nat → St G → M (Ex × St G) := fun _ _ => M.fail
theorem tT_store_Choose_1 : ∀ p ∈ T_store_Choose_1, FnOK Try.prog G p.1 p.2 := (fun _ h => absurd h (List.not_mem_nil))
theorem q_store_Choose_1 (x : I_store_Choose_1.T G) : endI (cfP T_store_Choose_1) P_store_Choose_1 J_store_Choose_1 7 (bodyOf Try.f41) I_store_Choose_1 E_store_Choose_1 x = F_store_Choose_1 x.2.1.1 x.2.1.2.1 x.2.1.2.2.1 x.2.2.1.1 := by kernel_rfl
noncomputable def e_store_Choose_1 : Fe G := ⟨I_store_Choose_1, E_store_Choose_1, fun x => F_store_Choose_1 x.2.1.1 x.2.1.2.1 x.2.1.2.2.1 x.2.2.1.1, Try.f41.results.toList⟩
theorem ok_store_Choose_1 : FnOK Try.prog G 41 e_store_Choose_1 := fn_ok (e := e_store_Choose_1) sigOK eqOK hmix tT_store_Choose_1 Try.func41 (by kernel_rfl) (by kernel_rfl) rfl (by kernel_rfl) (allAt_zero (Q := fun k c => LoopOK Try.prog G 7 (P_store_Choose_1 k) c) (allAt_of [] (by kernel_rfl) allAt_n)) q_store_Choose_1
/-! ### overlay/store.unit -/
def I_store_unit_store_Choose_1 : Ab.Spec := ⟨[(0, .one (.int .i64)), (1, .agg [.str, .str, .int .i64]), (2, .one (.int .i64)), (3, .one (.int .i64)), (4, .one (.clo 41 [] [(65536, 0)]))], [(65536, [.int .i64])], []⟩
def E_store_unit_store_Choose_1 : List (Ex × Ab.Spec) := [(.ret, ⟨[(10, .one (.ptr 160 0)), (11, .one (.int .i64)), (12, .one (.int .i64))], [(160, [.str, .str, .int .i64]), (65536, [.int .i64])], [65536]⟩)]
def J_store_unit_store_Choose_1 : Nat → Option (List (Ex × Ab.Spec)) := fun n => get [] n
noncomputable def T_store_unit_store_Choose_1 : List (Nat × Fe G) := [(37, e_store_check), (41, e_store_Choose_1)]
noncomputable def P_store_unit_store_Choose_1 : Nat → St G → M (Ex × St G) := fun _ _ => M.fail
theorem tT_store_unit_store_Choose_1 : ∀ p ∈ T_store_unit_store_Choose_1, FnOK Try.prog G p.1 p.2 := List.forall_mem_cons.2 ⟨ok_store_check, List.forall_mem_cons.2 ⟨ok_store_Choose_1, (fun _ h => absurd h (List.not_mem_nil))⟩⟩
theorem q_store_unit_store_Choose_1 (x : I_store_unit_store_Choose_1.T G) : endI (cfP T_store_unit_store_Choose_1) P_store_unit_store_Choose_1 J_store_unit_store_Choose_1 31 (bodyOf Try.f39) I_store_unit_store_Choose_1 E_store_unit_store_Choose_1 x = F_store_unit_store_Choose_1 x.1.1 x.1.2.1.1 x.1.2.1.2.1 x.1.2.1.2.2.1 x.1.2.2.1 x.1.2.2.2.1 x.2.1.1 := by kernel_rfl
noncomputable def e_store_unit_store_Choose_1 : Fe G := ⟨I_store_unit_store_Choose_1, E_store_unit_store_Choose_1, fun x => F_store_unit_store_Choose_1 x.1.1 x.1.2.1.1 x.1.2.1.2.1 x.1.2.1.2.2.1 x.1.2.2.1 x.1.2.2.2.1 x.2.1.1, Try.f39.results.toList⟩
theorem ok_store_unit_store_Choose_1 : FnOK Try.prog G 39 e_store_unit_store_Choose_1 := fn_ok (e := e_store_unit_store_Choose_1) sigOK eqOK hmix tT_store_unit_store_Choose_1 Try.func39 (by kernel_rfl) (by kernel_rfl) rfl (by kernel_rfl) (allAt_zero (Q := fun k c => LoopOK Try.prog G 31 (P_store_unit_store_Choose_1 k) c) (allAt_of [] (by kernel_rfl) allAt_n)) q_store_unit_store_Choose_1
/-! ### overlay/store.Choose -/
def I_store_Choose : Ab.Spec := ⟨[(0, .one (.int .i64)), (1, .agg [.str, .str, .int .i64]), (2, .one (.int .i64)), (3, .one (.int .i64))], [], []⟩
def E_store_Choose : List (Ex × Ab.Spec) := [(.ret, ⟨[(8, .one (.ptr 128 0)), (9, .one (.int .i64)), (10, .one (.int .i64))], [(128, [.str, .str, .int .i64])], []⟩)]
def J_store_Choose : Nat → Option (List (Ex × Ab.Spec)) := fun n => get [] n
noncomputable def T_store_Choose : List (Nat × Fe G) := [(39, e_store_unit_store_Choose_1)]
noncomputable def P_store_Choose : Nat → St G → M (Ex × St G) := fun _ _ => M.fail
theorem tT_store_Choose : ∀ p ∈ T_store_Choose, FnOK Try.prog G p.1 p.2 := List.forall_mem_cons.2 ⟨ok_store_unit_store_Choose_1, (fun _ h => absurd h (List.not_mem_nil))⟩
theorem q_store_Choose (x : I_store_Choose.T G) : endI (cfP T_store_Choose) P_store_Choose J_store_Choose 20 (bodyOf Try.f19) I_store_Choose E_store_Choose x = F_store_Choose x.1.1 x.1.2.1.1 x.1.2.1.2.1 x.1.2.1.2.2.1 x.1.2.2.1 x.1.2.2.2.1 := by kernel_rfl
noncomputable def e_store_Choose : Fe G := ⟨I_store_Choose, E_store_Choose, fun x => F_store_Choose x.1.1 x.1.2.1.1 x.1.2.1.2.1 x.1.2.1.2.2.1 x.1.2.2.1 x.1.2.2.2.1, Try.f19.results.toList⟩
theorem ok_store_Choose : FnOK Try.prog G 19 e_store_Choose := fn_ok (e := e_store_Choose) sigOK eqOK hmix tT_store_Choose Try.func19 (by kernel_rfl) (by kernel_rfl) rfl (by kernel_rfl) (allAt_zero (Q := fun k c => LoopOK Try.prog G 20 (P_store_Choose k) c) (allAt_of [] (by kernel_rfl) allAt_n)) q_store_Choose
/-! ### overlay/store.Write -/
def I_store_Write : Ab.Spec := ⟨[(0, .one (.int .i64)), (1, .agg [.str, .str, .int .i64]), (2, .one (.int .i64)), (3, .one (.str)), (4, .one (.int .i64))], [], []⟩
def E_store_Write : List (Ex × Ab.Spec) := [(.ret, ⟨[(10, .one (.ptr 160 0)), (11, .one (.int .i64)), (12, .one (.int .i64))], [(160, [.str, .str, .int .i64])], []⟩)]
def J_store_Write : Nat → Option (List (Ex × Ab.Spec)) := fun n => get [] n
noncomputable def T_store_Write : List (Nat × Fe G) := [(37, e_store_check)]
noncomputable def P_store_Write : Nat → St G → M (Ex × St G) := fun _ _ => M.fail
theorem tT_store_Write : ∀ p ∈ T_store_Write, FnOK Try.prog G p.1 p.2 := List.forall_mem_cons.2 ⟨ok_store_check, (fun _ h => absurd h (List.not_mem_nil))⟩
theorem q_store_Write (x : I_store_Write.T G) : endI (cfP T_store_Write) P_store_Write J_store_Write 62 (bodyOf Try.f15) I_store_Write E_store_Write x = F_store_Write x.1.1 x.1.2.1.1 x.1.2.1.2.1 x.1.2.1.2.2.1 x.1.2.2.1 x.1.2.2.2.1 x.1.2.2.2.2.1 := by kernel_rfl
noncomputable def e_store_Write : Fe G := ⟨I_store_Write, E_store_Write, fun x => F_store_Write x.1.1 x.1.2.1.1 x.1.2.1.2.1 x.1.2.1.2.2.1 x.1.2.2.1 x.1.2.2.2.1 x.1.2.2.2.2.1, Try.f15.results.toList⟩
theorem ok_store_Write : FnOK Try.prog G 15 e_store_Write := fn_ok (e := e_store_Write) sigOK eqOK hmix tT_store_Write Try.func15 (by kernel_rfl) (by kernel_rfl) rfl (by kernel_rfl) (allAt_zero (Q := fun k c => LoopOK Try.prog G 62 (P_store_Write k) c) (allAt_of [] (by kernel_rfl) allAt_n)) q_store_Write
/-! ### overlay/store.Current -/
def I_store_Current : Ab.Spec := ⟨[(0, .agg [.str, .str, .int .i64])], [], []⟩
def E_store_Current : List (Ex × Ab.Spec) := [(.ret, ⟨[(2, .one (.str))], [], []⟩)]
def J_store_Current : Nat → Option (List (Ex × Ab.Spec)) := fun n => get [] n
noncomputable def T_store_Current : List (Nat × Fe G) := []
noncomputable def P_store_Current : Nat → St G → M (Ex × St G) := fun _ _ => M.fail
theorem tT_store_Current : ∀ p ∈ T_store_Current, FnOK Try.prog G p.1 p.2 := (fun _ h => absurd h (List.not_mem_nil))
theorem q_store_Current (x : I_store_Current.T G) : endI (cfP T_store_Current) P_store_Current J_store_Current 12 (bodyOf Try.f21) I_store_Current E_store_Current x = F_store_Current x.1.1.1 x.1.1.2.1 x.1.1.2.2.1 := by kernel_rfl
noncomputable def e_store_Current : Fe G := ⟨I_store_Current, E_store_Current, fun x => F_store_Current x.1.1.1 x.1.1.2.1 x.1.1.2.2.1, Try.f21.results.toList⟩
theorem ok_store_Current : FnOK Try.prog G 21 e_store_Current := fn_ok (e := e_store_Current) sigOK eqOK hmix tT_store_Current Try.func21 (by kernel_rfl) (by kernel_rfl) rfl (by kernel_rfl) (allAt_zero (Q := fun k c => LoopOK Try.prog G 12 (P_store_Current k) c) (allAt_of [] (by kernel_rfl) allAt_n)) q_store_Current
/-! ### overlay/overlaylaw08.sane -/
def I_l08_sane : Ab.Spec := ⟨[], [], []⟩
def E_l08_sane : List (Ex × Ab.Spec) := [(.ret, ⟨[(0, .one (.bool))], [], []⟩)]
def J_l08_sane : Nat → Option (List (Ex × Ab.Spec)) := fun n => get [(1048579, [(.normal, ⟨[(0, .one (.bool))], [], []⟩)])] n
noncomputable def T_l08_sane : List (Nat × Fe G) := [(15, e_store_Write), (21, e_store_Current)]
noncomputable def P_l08_sane : Nat → St G → M (Ex × St G) := fun _ _ => M.fail
theorem tT_l08_sane : ∀ p ∈ T_l08_sane, FnOK Try.prog G p.1 p.2 := List.forall_mem_cons.2 ⟨ok_store_Write, List.forall_mem_cons.2 ⟨ok_store_Current, (fun _ h => absurd h (List.not_mem_nil))⟩⟩
theorem q_l08_sane (x : I_l08_sane.T G) : endI (cfP T_l08_sane) P_l08_sane J_l08_sane 40 (bodyOf Try.f14) I_l08_sane E_l08_sane x = F_l08_sane := by kernel_rfl
noncomputable def e_l08_sane : Fe G := ⟨I_l08_sane, E_l08_sane, fun _ => F_l08_sane, Try.f14.results.toList⟩
theorem ok_l08_sane : FnOK Try.prog G 14 e_l08_sane := fn_ok (e := e_l08_sane) sigOK eqOK hmix tT_l08_sane Try.func14 (by kernel_rfl) (by kernel_rfl) rfl (by kernel_rfl) (allAt_zero (Q := fun k c => LoopOK Try.prog G 40 (P_l08_sane k) c) (allAt_of [] (by kernel_rfl) allAt_n)) q_l08_sane
/-! ### overlay/overlaylaw08.StoreRuns -/
def I_l08_StoreRuns : Ab.Spec := ⟨[(0, .one (.ro 9)), (1, .one (.ro 5)), (2, .one (.int .u8))], [], []⟩
def E_l08_StoreRuns : List (Ex × Ab.Spec) := [(.ret, ⟨[(6, .one (.bool))], [], []⟩)]
def J_l08_StoreRuns : Nat → Option (List (Ex × Ab.Spec)) := fun n => get [(28, [(.normal, ⟨[(0, .one (.ro 9)), (1, .one (.ro 5)), (7, .one (.ptr 112 0)), (8, .one (.ptr 128 0)), (9, .one (.int .i64)), (10, .one (.int .i64)), (11, .one (.int .i64)), (14, .one (.int .i64))], [(112, [.str, .str, .int .i64]), (128, [.str, .str, .int .i64])], []⟩)]), (1048606, [(.normal, ⟨[(6, .one (.bool))], [], []⟩)])] n
noncomputable def T_l08_StoreRuns : List (Nat × Fe G) := [(17, e_store_Erase), (19, e_store_Choose), (15, e_store_Write), (14, e_l08_sane)]
def S_l08_StoreRuns_0 : Ab.Spec := ⟨[(0, .one (.ro 9)), (1, .one (.ro 5)), (7, .one (.ptr 112 0)), (8, .one (.ptr 128 0)), (9, .one (.int .i64)), (10, .one (.int .i64)), (11, .one (.int .i64))], [(112, [.str, .str, .int .i64]), (128, [.str, .str, .int .i64])], []⟩
def X_l08_StoreRuns_0 : List (Ex × Ab.Spec) := [(.exit 0, ⟨[], [], []⟩), (.ret, ⟨[(6, .one (.bool))], [], []⟩)]
def S_l08_StoreRuns_1 : Ab.Spec := ⟨[(0, .one (.ro 9)), (1, .one (.ro 5)), (7, .one (.ptr 112 0)), (8, .one (.ptr 128 0)), (9, .one (.int .i64)), (10, .one (.int .i64)), (11, .one (.int .i64)), (12, .one (.int .i64)), (13, .one (.str)), (14, .one (.int .i64)), (15, .one (.int .i64))], [(112, [.str, .str, .int .i64]), (128, [.str, .str, .int .i64])], []⟩
def X_l08_StoreRuns_1 : List (Ex × Ab.Spec) := [(.exit 3, ⟨[(0, .one (.ro 9)), (1, .one (.ro 5)), (7, .one (.ptr 112 0)), (8, .one (.ptr 128 0)), (9, .one (.int .i64)), (10, .one (.int .i64)), (11, .one (.int .i64)), (14, .one (.int .i64))], [(112, [.str, .str, .int .i64]), (128, [.str, .str, .int .i64])], []⟩)]
noncomputable def P_l08_StoreRuns : Nat → St G → M (Ex × St G) := fun n => bif Nat.beq n 0 then lpX S_l08_StoreRuns_0 X_l08_StoreRuns_0 L_l08_StoreRuns_0 else bif Nat.beq n 1 then lpX S_l08_StoreRuns_1 X_l08_StoreRuns_1 L_l08_StoreRuns_1 else fun _ => M.fail
theorem tT_l08_StoreRuns : ∀ p ∈ T_l08_StoreRuns, FnOK Try.prog G p.1 p.2 := List.forall_mem_cons.2 ⟨ok_store_Erase, List.forall_mem_cons.2 ⟨ok_store_Choose, List.forall_mem_cons.2 ⟨ok_store_Write, List.forall_mem_cons.2 ⟨ok_l08_sane, (fun _ h => absurd h (List.not_mem_nil))⟩⟩⟩⟩
theorem r_l08_StoreRuns_1 (x : S_l08_StoreRuns_1.T G) : rndI (cfP T_l08_StoreRuns) P_l08_StoreRuns J_l08_StoreRuns 150 2 (loopOf (bodyOf Try.f6) 1) S_l08_StoreRuns_1 X_l08_StoreRuns_1 x = R_l08_StoreRuns_1 x.1.1 x.1.2.1 x.1.2.2.2.2.1 x.1.2.2.2.2.2.1 x.1.2.2.2.2.2.2.1 x.1.2.2.2.2.2.2.2.1 x.1.2.2.2.2.2.2.2.2.1 x.1.2.2.2.2.2.2.2.2.2.1 x.1.2.2.2.2.2.2.2.2.2.2.1 x.2.1.1 x.2.1.2.1 x.2.1.2.2.1 x.2.2.1.1 x.2.2.1.2.1 x.2.2.1.2.2.1 := by kernel_rfl
theorem lk_l08_StoreRuns_1 : LoopOK Try.prog G 150 (P_l08_StoreRuns 1) (loopOf (bodyOf Try.f6) 1) := loop_ok (lp := P_l08_StoreRuns) (n := 2) (k := 1) sigOK eqOK hmix tT_l08_StoreRuns S_l08_StoreRuns_1 X_l08_StoreRuns_1 (fun x => R_l08_StoreRuns_1 x.1.1 x.1.2.1 x.1.2.2.2.2.1 x.1.2.2.2.2.2.1 x.1.2.2.2.2.2.2.1 x.1.2.2.2.2.2.2.2.1 x.1.2.2.2.2.2.2.2.2.1 x.1.2.2.2.2.2.2.2.2.2.1 x.1.2.2.2.2.2.2.2.2.2.2.1 x.2.1.1 x.2.1.2.1 x.2.1.2.2.1 x.2.2.1.1 x.2.2.1.2.1 x.2.2.1.2.2.1) (by kernel_rfl) (show AllAt (fun k c => LoopOK Try.prog G 150 (P_l08_StoreRuns k) c) 2 _ from (allAt_of [] (by kernel_rfl) allAt_n)) r_l08_StoreRuns_1
theorem r_l08_StoreRuns_0 (x : S_l08_StoreRuns_0.T G) : rndI (cfP T_l08_StoreRuns) P_l08_StoreRuns J_l08_StoreRuns 150 1 (loopOf (bodyOf Try.f6) 0) S_l08_StoreRuns_0 X_l08_StoreRuns_0 x = R_l08_StoreRuns_0 x.1.1 x.1.2.1 x.1.2.2.2.2.1 x.1.2.2.2.2.2.1 x.1.2.2.2.2.2.2.1 x.2.1.1 x.2.1.2.1 x.2.1.2.2.1 x.2.2.1.1 x.2.2.1.2.1 x.2.2.1.2.2.1 := by kernel_rfl
theorem lk_l08_StoreRuns_0 : LoopOK Try.prog G 150 (P_l08_StoreRuns 0) (loopOf (bodyOf Try.f6) 0) := loop_ok (lp := P_l08_StoreRuns) (n := 1) (k := 0) sigOK eqOK hmix tT_l08_StoreRuns S_l08_StoreRuns_0 X_l08_StoreRuns_0 (fun x => R_l08_StoreRuns_0 x.1.1 x.1.2.1 x.1.2.2.2.2.1 x.1.2.2.2.2.2.1 x.1.2.2.2.2.2.2.1 x.2.1.1 x.2.1.2.1 x.2.1.2.2.1 x.2.2.1.1 x.2.2.1.2.1 x.2.2.1.2.2.1) (by kernel_rfl) (show AllAt (fun k c => LoopOK Try.prog G 150 (P_l08_StoreRuns k) c) 1 _ from (allAt_of [loopOf (bodyOf Try.f6) 1] (by kernel_rfl) (allAt_c lk_l08_StoreRuns_1 allAt_n))) r_l08_StoreRuns_0
theorem q_l08_StoreRuns (x : I_l08_StoreRuns.T G) : endI (cfP T_l08_StoreRuns) P_l08_StoreRuns J_l08_StoreRuns 150 (bodyOf Try.f6) I_l08_StoreRuns E_l08_StoreRuns x = F_l08_StoreRuns x.1.1 x.1.2.1 x.1.2.2.1 := by kernel_rfl
noncomputable def e_l08_StoreRuns : Fe G := ⟨I_l08_StoreRuns, E_l08_StoreRuns, fun x => F_l08_StoreRuns x.1.1 x.1.2.1 x.1.2.2.1, Try.f6.results.toList⟩
theorem ok_l08_StoreRuns : FnOK Try.prog G 6 e_l08_StoreRuns := fn_ok (e := e_l08_StoreRuns) sigOK eqOK hmix tT_l08_StoreRuns Try.func6 (by kernel_rfl) (by kernel_rfl) rfl (by kernel_rfl) (allAt_zero (Q := fun k c => LoopOK Try.prog G 150 (P_l08_StoreRuns k) c) (allAt_of [loopOf (bodyOf Try.f6) 0, loopOf (bodyOf Try.f6) 1] (by kernel_rfl) (allAt_c lk_l08_StoreRuns_0 (allAt_c lk_l08_StoreRuns_1 allAt_n)))) q_l08_StoreRuns
/-! ### overlay/overlayref08.IsStore -/
def I_r08_IsStore : Ab.Spec := ⟨[(0, .one (.int .i64)), (1, .agg [.str, .str, .int .i64])], [], []⟩
def E_r08_IsStore : List (Ex × Ab.Spec) := [(.ret, ⟨[(4, .one (.bool))], [], []⟩)]
def J_r08_IsStore : Nat → Option (List (Ex × Ab.Spec)) := fun n => get [(1048577, [(.normal, ⟨[(4, .one (.bool))], [], []⟩)])] n
noncomputable def T_r08_IsStore : List (Nat × Fe G) := []
noncomputable def P_r08_IsStore : Nat → St G → M (Ex × St G) := fun _ _ => M.fail
theorem tT_r08_IsStore : ∀ p ∈ T_r08_IsStore, FnOK Try.prog G p.1 p.2 := (fun _ h => absurd h (List.not_mem_nil))
theorem q_r08_IsStore (x : I_r08_IsStore.T G) : endI (cfP T_r08_IsStore) P_r08_IsStore J_r08_IsStore 37 (bodyOf Try.f24) I_r08_IsStore E_r08_IsStore x = F_r08_IsStore x.1.1 x.1.2.1.1 x.1.2.1.2.1 x.1.2.1.2.2.1 := by kernel_rfl
noncomputable def e_r08_IsStore : Fe G := ⟨I_r08_IsStore, E_r08_IsStore, fun x => F_r08_IsStore x.1.1 x.1.2.1.1 x.1.2.1.2.1 x.1.2.1.2.2.1, Try.f24.results.toList⟩
theorem ok_r08_IsStore : FnOK Try.prog G 24 e_r08_IsStore := fn_ok (e := e_r08_IsStore) sigOK eqOK hmix tT_r08_IsStore Try.func24 (by kernel_rfl) (by kernel_rfl) rfl (by kernel_rfl) (allAt_zero (Q := fun k c => LoopOK Try.prog G 37 (P_r08_IsStore k) c) (allAt_of [] (by kernel_rfl) allAt_n)) q_r08_IsStore
/-! ### overlay/overlayref08.check -/
def I_r08_check : Ab.Spec := ⟨[(0, .one (.int .i64)), (1, .agg [.str, .str, .int .i64]), (2, .one (.int .i64)), (3, .one (.int .i64))], [], []⟩
def E_r08_check : List (Ex × Ab.Spec) := [(.ret, ⟨[(8, .one (.int .i64))], [], []⟩)]
def J_r08_check : Nat → Option (List (Ex × Ab.Spec)) := fun n => get [(1048579, [(.normal, ⟨[(22, .one (.bool))], [], []⟩)])] n
noncomputable def T_r08_check : List (Nat × Fe G) := [(24, e_r08_IsStore)]
noncomputable def P_r08_check : Nat → St G → M (Ex × St G) := fun _ _ => M.fail
theorem tT_r08_check : ∀ p ∈ T_r08_check, FnOK Try.prog G p.1 p.2 := List.forall_mem_cons.2 ⟨ok_r08_IsStore, (fun _ h => absurd h (List.not_mem_nil))⟩
theorem q_r08_check (x : I_r08_check.T G) : endI (cfP T_r08_check) P_r08_check J_r08_check 23 (bodyOf Try.f38) I_r08_check E_r08_check x = F_r08_check x.1.1 x.1.2.1.1 x.1.2.1.2.1 x.1.2.1.2.2.1 x.1.2.2.1 x.1.2.2.2.1 := by kernel_rfl
noncomputable def e_r08_check : Fe G := ⟨I_r08_check, E_r08_check, fun x => F_r08_check x.1.1 x.1.2.1.1 x.1.2.1.2.1 x.1.2.1.2.2.1 x.1.2.2.1 x.1.2.2.2.1, Try.f38.results.toList⟩
theorem ok_r08_check : FnOK Try.prog G 38 e_r08_check := fn_ok (e := e_r08_check) sigOK eqOK hmix tT_r08_check Try.func38 (by kernel_rfl) (by kernel_rfl) rfl (by kernel_rfl) (allAt_zero (Q := fun k c => LoopOK Try.prog G 23 (P_r08_check k) c) (allAt_of [] (by kernel_rfl) allAt_n)) q_r08_check
/-! ### overlay/overlayref08.Choose -/
def I_r08_Choose : Ab.Spec := ⟨[(0, .one (.int .i64)), (1, .agg [.str, .str, .int .i64]), (2, .one (.int .i64)), (3, .one (.int .i64))], [], []⟩
def E_r08_Choose : List (Ex × Ab.Spec) := [(.ret, ⟨[(8, .one (.ptr 128 0)), (9, .one (.int .i64)), (10, .one (.int .i64))], [(128, [.str, .str, .int .i64])], []⟩)]
def J_r08_Choose : Nat → Option (List (Ex × Ab.Spec)) := fun n => get [] n
noncomputable def T_r08_Choose : List (Nat × Fe G) := [(38, e_r08_check)]
noncomputable def P_r08_Choose : Nat → St G → M (Ex × St G) := fun _ _ => M.fail
theorem tT_r08_Choose : ∀ p ∈ T_r08_Choose, FnOK Try.prog G p.1 p.2 := List.forall_mem_cons.2 ⟨ok_r08_check, (fun _ h => absurd h (List.not_mem_nil))⟩
theorem q_r08_Choose (x : I_r08_Choose.T G) : endI (cfP T_r08_Choose) P_r08_Choose J_r08_Choose 29 (bodyOf Try.f20) I_r08_Choose E_r08_Choose x = F_r08_Choose x.1.1 x.1.2.1.1 x.1.2.1.2.1 x.1.2.1.2.2.1 x.1.2.2.1 x.1.2.2.2.1 := by kernel_rfl
noncomputable def e_r08_Choose : Fe G := ⟨I_r08_Choose, E_r08_Choose, fun x => F_r08_Choose x.1.1 x.1.2.1.1 x.1.2.1.2.1 x.1.2.1.2.2.1 x.1.2.2.1 x.1.2.2.2.1, Try.f20.results.toList⟩
theorem ok_r08_Choose : FnOK Try.prog G 20 e_r08_Choose := fn_ok (e := e_r08_Choose) sigOK eqOK hmix tT_r08_Choose Try.func20 (by kernel_rfl) (by kernel_rfl) rfl (by kernel_rfl) (allAt_zero (Q := fun k c => LoopOK Try.prog G 29 (P_r08_Choose k) c) (allAt_of [] (by kernel_rfl) allAt_n)) q_r08_Choose
/-! ### overlay/overlayref08.Current -/
def I_r08_Current : Ab.Spec := ⟨[(0, .agg [.str, .str, .int .i64])], [], []⟩
def E_r08_Current : List (Ex × Ab.Spec) := [(.ret, ⟨[(2, .one (.str))], [], []⟩)]
def J_r08_Current : Nat → Option (List (Ex × Ab.Spec)) := fun n => get [] n
noncomputable def T_r08_Current : List (Nat × Fe G) := []
noncomputable def P_r08_Current : Nat → St G → M (Ex × St G) := fun _ _ => M.fail
theorem tT_r08_Current : ∀ p ∈ T_r08_Current, FnOK Try.prog G p.1 p.2 := (fun _ h => absurd h (List.not_mem_nil))
theorem q_r08_Current (x : I_r08_Current.T G) : endI (cfP T_r08_Current) P_r08_Current J_r08_Current 12 (bodyOf Try.f22) I_r08_Current E_r08_Current x = F_r08_Current x.1.1.1 x.1.1.2.1 x.1.1.2.2.1 := by kernel_rfl
noncomputable def e_r08_Current : Fe G := ⟨I_r08_Current, E_r08_Current, fun x => F_r08_Current x.1.1.1 x.1.1.2.1 x.1.1.2.2.1, Try.f22.results.toList⟩
theorem ok_r08_Current : FnOK Try.prog G 22 e_r08_Current := fn_ok (e := e_r08_Current) sigOK eqOK hmix tT_r08_Current Try.func22 (by kernel_rfl) (by kernel_rfl) rfl (by kernel_rfl) (allAt_zero (Q := fun k c => LoopOK Try.prog G 12 (P_r08_Current k) c) (allAt_of [] (by kernel_rfl) allAt_n)) q_r08_Current
/-! ### overlay/overlayref08.Erase -/
def I_r08_Erase : Ab.Spec := ⟨[(0, .one (.int .i64)), (1, .agg [.str, .str, .int .i64]), (2, .one (.int .i64)), (3, .one (.int .i64))], [], []⟩
def E_r08_Erase : List (Ex × Ab.Spec) := [(.ret, ⟨[(8, .one (.ptr 128 0)), (9, .one (.int .i64)), (10, .one (.int .i64))], [(128, [.str, .str, .int .i64])], []⟩)]
def J_r08_Erase : Nat → Option (List (Ex × Ab.Spec)) := fun n => get [] n
noncomputable def T_r08_Erase : List (Nat × Fe G) := [(38, e_r08_check)]
noncomputable def P_r08_Erase : Nat → St G → M (Ex × St G) := fun _ _ => M.fail
theorem tT_r08_Erase : ∀ p ∈ T_r08_Erase, FnOK Try.prog G p.1 p.2 := List.forall_mem_cons.2 ⟨ok_r08_check, (fun _ h => absurd h (List.not_mem_nil))⟩
theorem q_r08_Erase (x : I_r08_Erase.T G) : endI (cfP T_r08_Erase) P_r08_Erase J_r08_Erase 30 (bodyOf Try.f18) I_r08_Erase E_r08_Erase x = F_r08_Erase x.1.1 x.1.2.1.1 x.1.2.1.2.1 x.1.2.1.2.2.1 x.1.2.2.1 x.1.2.2.2.1 := by kernel_rfl
noncomputable def e_r08_Erase : Fe G := ⟨I_r08_Erase, E_r08_Erase, fun x => F_r08_Erase x.1.1 x.1.2.1.1 x.1.2.1.2.1 x.1.2.1.2.2.1 x.1.2.2.1 x.1.2.2.2.1, Try.f18.results.toList⟩
theorem ok_r08_Erase : FnOK Try.prog G 18 e_r08_Erase := fn_ok (e := e_r08_Erase) sigOK eqOK hmix tT_r08_Erase Try.func18 (by kernel_rfl) (by kernel_rfl) rfl (by kernel_rfl) (allAt_zero (Q := fun k c => LoopOK Try.prog G 30 (P_r08_Erase k) c) (allAt_of [] (by kernel_rfl) allAt_n)) q_r08_Erase
/-! ### overlay/overlayref08.Write -/
def I_r08_Write : Ab.Spec := ⟨[(0, .one (.int .i64)), (1, .agg [.str, .str, .int .i64]), (2, .one (.int .i64)), (3, .one (.str)), (4, .one (.int .i64))], [], []⟩
def E_r08_Write : List (Ex × Ab.Spec) := [(.ret, ⟨[(10, .one (.ptr 160 0)), (11, .one (.int .i64)), (12, .one (.int .i64))], [(160, [.str, .str, .int .i64])], []⟩)]
def J_r08_Write : Nat → Option (List (Ex × Ab.Spec)) := fun n => get [] n
noncomputable def T_r08_Write : List (Nat × Fe G) := [(38, e_r08_check)]
def S_r08_Write_0 : Ab.Spec := ⟨[(2, .one (.int .i64)), (3, .one (.str)), (4, .one (.int .i64)), (6, .one (.ptr 96 0)), (10, .one (.ptr 160 0)), (14, .one (.int .i64))], [(96, [.str, .str, .int .i64]), (160, [.str, .str, .int .i64])], []⟩
def X_r08_Write_0 : List (Ex × Ab.Spec) := [(.exit 0, ⟨[(4, .one (.int .i64)), (6, .one (.ptr 96 0)), (10, .one (.ptr 160 0))], [(96, [.str, .str, .int .i64]), (160, [.str, .str, .int .i64])], []⟩), (.ret, ⟨[(10, .one (.ptr 160 0)), (11, .one (.int .i64)), (12, .one (.int .i64))], [(160, [.str, .str, .int .i64])], []⟩)]
noncomputable def P_r08_Write : Nat → St G → M (Ex × St G) := fun n => bif Nat.beq n 0 then lpX S_r08_Write_0 X_r08_Write_0 L_r08_Write_0 else fun _ => M.fail
theorem tT_r08_Write : ∀ p ∈ T_r08_Write, FnOK Try.prog G p.1 p.2 := List.forall_mem_cons.2 ⟨ok_r08_check, (fun _ h => absurd h (List.not_mem_nil))⟩
theorem r_r08_Write_0 (x : S_r08_Write_0.T G) : rndI (cfP T_r08_Write) P_r08_Write J_r08_Write 61 1 (loopOf (bodyOf Try.f16) 0) S_r08_Write_0 X_r08_Write_0 x = R_r08_Write_0 x.1.1 x.1.2.1 x.1.2.2.1 x.1.2.2.2.2.2.1 x.2.1.1 x.2.1.2.1 x.2.1.2.2.1 x.2.2.1.1 x.2.2.1.2.1 x.2.2.1.2.2.1 := by kernel_rfl
theorem lk_r08_Write_0 : LoopOK Try.prog G 61 (P_r08_Write 0) (loopOf (bodyOf Try.f16) 0) := loop_ok (lp := P_r08_Write) (n := 1) (k := 0) sigOK eqOK hmix tT_r08_Write S_r08_Write_0 X_r08_Write_0 (fun x => R_r08_Write_0 x.1.1 x.1.2.1 x.1.2.2.1 x.1.2.2.2.2.2.1 x.2.1.1 x.2.1.2.1 x.2.1.2.2.1 x.2.2.1.1 x.2.2.1.2.1 x.2.2.1.2.2.1) (by kernel_rfl) (show AllAt (fun k c => LoopOK Try.prog G 61 (P_r08_Write k) c) 1 _ from (allAt_of [] (by kernel_rfl) allAt_n)) r_r08_Write_0
theorem q_r08_Write (x : I_r08_Write.T G) : endI (cfP T_r08_Write) P_r08_Write J_r08_Write 61 (bodyOf Try.f16) I_r08_Write E_r08_Write x = F_r08_Write x.1.1 x.1.2.1.1 x.1.2.1.2.1 x.1.2.1.2.2.1 x.1.2.2.1 x.1.2.2.2.1 x.1.2.2.2.2.1 := by kernel_rfl
noncomputable def e_r08_Write : Fe G := ⟨I_r08_Write, E_r08_Write, fun x => F_r08_Write x.1.1 x.1.2.1.1 x.1.2.1.2.1 x.1.2.1.2.2.1 x.1.2.2.1 x.1.2.2.2.1 x.1.2.2.2.2.1, Try.f16.results.toList⟩
theorem ok_r08_Write : FnOK Try.prog G 16 e_r08_Write := fn_ok (e := e_r08_Write) sigOK eqOK hmix tT_r08_Write Try.func16 (by kernel_rfl) (by kernel_rfl) rfl (by kernel_rfl) (allAt_zero (Q := fun k c => LoopOK Try.prog G 61 (P_r08_Write k) c) (allAt_of [loopOf (bodyOf Try.f16) 0] (by kernel_rfl) (allAt_c lk_r08_Write_0 allAt_n))) q_r08_Write
end Go.Ovl
