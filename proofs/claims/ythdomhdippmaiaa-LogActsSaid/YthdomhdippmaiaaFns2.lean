/- The contracts of the program's functions: part 2. -/
import Derived.Test.YthdomhdippmaiaaSig
import Derived.Test.YthdomhdippmaiaaDefs1
import Derived.Test.YthdomhdippmaiaaFns1
namespace Go.Ovl
open Go Go.Ab Go.Proofs
set_option maxRecDepth 100000
/-! ### overlay/log.Recover -/
def I_log_Recover : Ab.Spec := ⟨[(0, .agg [.int .i64, .int .i64, .int .i64, .int .i64, .flt .f64, .flt .f64, .flt .f64, .ro 100]), (1, .agg [.str, .str, .int .i64]), (2, .one (.int .i64))], [], []⟩
def E_log_Recover : List (Ex × Ab.Spec) := [(.ret, ⟨[(6, .one (.ptr 96 0)), (7, .one (.ptr 112 0)), (8, .one (.int .i64)), (9, .one (.int .i64))], [(96, [.str, .str, .int .i64]), (112, [.own 32768 3, .own 32769 4, .own 32770 4, .own 32771 98])], []⟩)]
def J_log_Recover : Nat → Option (List (Ex × Ab.Spec)) := fun n => get [] n
noncomputable def T_log_Recover : List (Nat × Fe G) := [(27, e_log_Replay), (23, e_log_Compact)]
noncomputable def P_log_Recover : Nat → St G → M (Ex × St G) := fun _ _ => M.fail
theorem tT_log_Recover : ∀ p ∈ T_log_Recover, FnOK Try.prog G p.1 p.2 := List.forall_mem_cons.2 ⟨ok_log_Replay, List.forall_mem_cons.2 ⟨ok_log_Compact, (fun _ h => absurd h (List.not_mem_nil))⟩⟩
theorem q_log_Recover (x : I_log_Recover.T G) : endI (cfP T_log_Recover) P_log_Recover J_log_Recover 32 (bodyOf Try.f25) I_log_Recover E_log_Recover x = F_log_Recover x.1.1.1 x.1.1.2.1 x.1.1.2.2.1 x.1.1.2.2.2.1 x.1.1.2.2.2.2.1 x.1.1.2.2.2.2.2.1 x.1.1.2.2.2.2.2.2.1 x.1.1.2.2.2.2.2.2.2.1 x.1.2.1.1 x.1.2.1.2.1 x.1.2.1.2.2.1 x.1.2.2.1 := by kernel_rfl
noncomputable def e_log_Recover : Fe G := ⟨I_log_Recover, E_log_Recover, fun x => F_log_Recover x.1.1.1 x.1.1.2.1 x.1.1.2.2.1 x.1.1.2.2.2.1 x.1.1.2.2.2.2.1 x.1.1.2.2.2.2.2.1 x.1.1.2.2.2.2.2.2.1 x.1.1.2.2.2.2.2.2.2.1 x.1.2.1.1 x.1.2.1.2.1 x.1.2.1.2.2.1 x.1.2.2.1, Try.f25.results.toList⟩
theorem ok_log_Recover : FnOK Try.prog G 25 e_log_Recover := fn_ok (e := e_log_Recover) sigOK eqOK hmix tT_log_Recover Try.func25 (by kernel_rfl) (by kernel_rfl) rfl (by kernel_rfl) (allAt_zero (Q := fun k c => LoopOK Try.prog G 32 (P_log_Recover k) c) (allAt_of [] (by kernel_rfl) allAt_n)) q_log_Recover
/-! ### overlay/overlayref09.Decode -/
def I_r09_Decode : Ab.Spec := ⟨[(0, .agg [.int .i64, .int .i64, .int .i64, .int .i64, .flt .f64, .flt .f64, .flt .f64, .ro 100]), (1, .one (.str))], [], []⟩
def E_r09_Decode : List (Ex × Ab.Spec) := [(.ret, ⟨[(4, .one (.ptr 64 0)), (5, .one (.int .i64))], [(64, [.int .i64, .int .i64, .int .i64, .int .i64, .int .i64])], []⟩)]
def J_r09_Decode : Nat → Option (List (Ex × Ab.Spec)) := fun n => get [] n
noncomputable def T_r09_Decode : List (Nat × Fe G) := [(93, e_r01_Valid), (99, e_r02_Sum8), (58, e_r09_Valid)]
noncomputable def P_r09_Decode : Nat → St G → M (Ex × St G) := fun _ _ => M.fail
theorem tT_r09_Decode : ∀ p ∈ T_r09_Decode, FnOK Try.prog G p.1 p.2 := List.forall_mem_cons.2 ⟨ok_r01_Valid, List.forall_mem_cons.2 ⟨ok_r02_Sum8, List.forall_mem_cons.2 ⟨ok_r09_Valid, (fun _ h => absurd h (List.not_mem_nil))⟩⟩⟩
theorem q_r09_Decode (x : I_r09_Decode.T G) : endI (cfP T_r09_Decode) P_r09_Decode J_r09_Decode 45 (bodyOf Try.f123) I_r09_Decode E_r09_Decode x = F_r09_Decode x.1.1.1 x.1.1.2.1 x.1.1.2.2.1 x.1.1.2.2.2.1 x.1.1.2.2.2.2.1 x.1.1.2.2.2.2.2.1 x.1.1.2.2.2.2.2.2.1 x.1.1.2.2.2.2.2.2.2.1 x.1.2.1 := by kernel_rfl
noncomputable def e_r09_Decode : Fe G := ⟨I_r09_Decode, E_r09_Decode, fun x => F_r09_Decode x.1.1.1 x.1.1.2.1 x.1.1.2.2.1 x.1.1.2.2.2.1 x.1.1.2.2.2.2.1 x.1.1.2.2.2.2.2.1 x.1.1.2.2.2.2.2.2.1 x.1.1.2.2.2.2.2.2.2.1 x.1.2.1, Try.f123.results.toList⟩
theorem ok_r09_Decode : FnOK Try.prog G 123 e_r09_Decode := fn_ok (e := e_r09_Decode) sigOK eqOK hmix tT_r09_Decode Try.func123 (by kernel_rfl) (by kernel_rfl) rfl (by kernel_rfl) (allAt_zero (Q := fun k c => LoopOK Try.prog G 45 (P_r09_Decode k) c) (allAt_of [] (by kernel_rfl) allAt_n)) q_r09_Decode
/-! ### overlay/overlayref09.Read -/
def I_r09_Read : Ab.Spec := ⟨[(0, .agg [.int .i64, .int .i64, .int .i64, .int .i64, .flt .f64, .flt .f64, .flt .f64, .ro 100]), (1, .one (.str))], [], []⟩
def E_r09_Read : List (Ex × Ab.Spec) := [(.ret, ⟨[(4, .one (.own 32768 56)), (5, .one (.int .i64))], [], []⟩)]
def J_r09_Read : Nat → Option (List (Ex × Ab.Spec)) := fun n => get [] n
noncomputable def T_r09_Read : List (Nat × Fe G) := [(123, e_r09_Decode)]
def S_r09_Read_0 : Ab.Spec := ⟨[(1, .one (.str)), (2, .one (.ptr 32 0)), (6, .one (.own 32768 56)), (7, .one (.int .i64))], [(32, [.int .i64, .int .i64, .int .i64, .int .i64, .flt .f64, .flt .f64, .flt .f64, .ro 100])], []⟩
def X_r09_Read_0 : List (Ex × Ab.Spec) := [(.exit 0, ⟨[(6, .one (.own 32768 56)), (7, .one (.int .i64))], [], []⟩)]
noncomputable def P_r09_Read : Nat → St G → M (Ex × St G) := fun n => bif Nat.beq n 0 then lpX S_r09_Read_0 X_r09_Read_0 L_r09_Read_0 else fun _ => M.fail
theorem tT_r09_Read : ∀ p ∈ T_r09_Read, FnOK Try.prog G p.1 p.2 := List.forall_mem_cons.2 ⟨ok_r09_Decode, (fun _ h => absurd h (List.not_mem_nil))⟩
theorem r_r09_Read_0 (x : S_r09_Read_0.T G) : rndI (cfP T_r09_Read) P_r09_Read J_r09_Read 35 1 (loopOf (bodyOf Try.f73) 0) S_r09_Read_0 X_r09_Read_0 x = R_r09_Read_0 x.1.1 x.1.2.2.1 x.1.2.2.2.1 x.2.1.1 x.2.1.2.1 x.2.1.2.2.1 x.2.1.2.2.2.1 x.2.1.2.2.2.2.1 x.2.1.2.2.2.2.2.1 x.2.1.2.2.2.2.2.2.1 x.2.1.2.2.2.2.2.2.2.1 := by kernel_rfl
theorem lk_r09_Read_0 : LoopOK Try.prog G 35 (P_r09_Read 0) (loopOf (bodyOf Try.f73) 0) := loop_ok (lp := P_r09_Read) (n := 1) (k := 0) sigOK eqOK hmix tT_r09_Read S_r09_Read_0 X_r09_Read_0 (fun x => R_r09_Read_0 x.1.1 x.1.2.2.1 x.1.2.2.2.1 x.2.1.1 x.2.1.2.1 x.2.1.2.2.1 x.2.1.2.2.2.1 x.2.1.2.2.2.2.1 x.2.1.2.2.2.2.2.1 x.2.1.2.2.2.2.2.2.1 x.2.1.2.2.2.2.2.2.2.1) (by kernel_rfl) (show AllAt (fun k c => LoopOK Try.prog G 35 (P_r09_Read k) c) 1 _ from (allAt_of [] (by kernel_rfl) allAt_n)) r_r09_Read_0
theorem q_r09_Read (x : I_r09_Read.T G) : endI (cfP T_r09_Read) P_r09_Read J_r09_Read 35 (bodyOf Try.f73) I_r09_Read E_r09_Read x = F_r09_Read x.1.1.1 x.1.1.2.1 x.1.1.2.2.1 x.1.1.2.2.2.1 x.1.1.2.2.2.2.1 x.1.1.2.2.2.2.2.1 x.1.1.2.2.2.2.2.2.1 x.1.1.2.2.2.2.2.2.2.1 x.1.2.1 := by kernel_rfl
noncomputable def e_r09_Read : Fe G := ⟨I_r09_Read, E_r09_Read, fun x => F_r09_Read x.1.1.1 x.1.1.2.1 x.1.1.2.2.1 x.1.1.2.2.2.1 x.1.1.2.2.2.2.1 x.1.1.2.2.2.2.2.1 x.1.1.2.2.2.2.2.2.1 x.1.1.2.2.2.2.2.2.2.1 x.1.2.1, Try.f73.results.toList⟩
theorem ok_r09_Read : FnOK Try.prog G 73 e_r09_Read := fn_ok (e := e_r09_Read) sigOK eqOK hmix tT_r09_Read Try.func73 (by kernel_rfl) (by kernel_rfl) rfl (by kernel_rfl) (allAt_zero (Q := fun k c => LoopOK Try.prog G 35 (P_r09_Read k) c) (allAt_of [loopOf (bodyOf Try.f73) 0] (by kernel_rfl) (allAt_c lk_r09_Read_0 allAt_n))) q_r09_Read
/-! ### overlay/overlayref10.Replay -/
def I_r10_Replay : Ab.Spec := ⟨[(0, .agg [.int .i64, .int .i64, .int .i64, .int .i64, .flt .f64, .flt .f64, .flt .f64, .ro 100]), (1, .agg [.str, .str, .int .i64])], [], []⟩
def E_r10_Replay : List (Ex × Ab.Spec) := [(.ret, ⟨[(4, .one (.ptr 64 0))], [(64, [.own 32768 3, .own 32769 4, .own 32770 4, .own 32771 98])], []⟩)]
def J_r10_Replay : Nat → Option (List (Ex × Ab.Spec)) := fun n => get [] n
noncomputable def T_r10_Replay : List (Nat × Fe G) := [(40, e_r10_Initial), (61, e_r08_Current), (73, e_r09_Read), (30, e_r10_Apply)]
def S_r10_Replay_0 : Ab.Spec := ⟨[(2, .one (.ptr 32 0)), (4, .one (.ptr 64 0)), (5, .one (.ptr 80 0)), (6, .one (.own 32768 56)), (8, .one (.int .i64))], [(32, [.int .i64, .int .i64, .int .i64, .int .i64, .flt .f64, .flt .f64, .flt .f64, .ro 100]), (64, [.own 32769 3, .own 32770 4, .own 32771 4, .own 32772 98]), (80, [.own 32773 3, .own 32774 4, .own 32775 4, .own 32776 98])], []⟩
def X_r10_Replay_0 : List (Ex × Ab.Spec) := [(.exit 0, ⟨[(4, .one (.ptr 64 0)), (5, .one (.ptr 80 0))], [(64, [.own 32768 3, .own 32769 4, .own 32770 4, .own 32771 98]), (80, [.own 32772 3, .own 32773 4, .own 32774 4, .own 32775 98])], []⟩)]
noncomputable def P_r10_Replay : Nat → St G → M (Ex × St G) := fun n => bif Nat.beq n 0 then lpX S_r10_Replay_0 X_r10_Replay_0 L_r10_Replay_0 else fun _ => M.fail
theorem tT_r10_Replay : ∀ p ∈ T_r10_Replay, FnOK Try.prog G p.1 p.2 := List.forall_mem_cons.2 ⟨ok_r10_Initial, List.forall_mem_cons.2 ⟨ok_r08_Current, List.forall_mem_cons.2 ⟨ok_r09_Read, List.forall_mem_cons.2 ⟨ok_r10_Apply, (fun _ h => absurd h (List.not_mem_nil))⟩⟩⟩⟩
theorem r_r10_Replay_0 (x : S_r10_Replay_0.T G) : rndI (cfP T_r10_Replay) P_r10_Replay J_r10_Replay 35 1 (loopOf (bodyOf Try.f28) 0) S_r10_Replay_0 X_r10_Replay_0 x = R_r10_Replay_0 x.1.2.2.2.1 x.1.2.2.2.2.1 x.2.1.1 x.2.1.2.1 x.2.1.2.2.1 x.2.1.2.2.2.1 x.2.1.2.2.2.2.1 x.2.1.2.2.2.2.2.1 x.2.1.2.2.2.2.2.2.1 x.2.1.2.2.2.2.2.2.2.1 x.2.2.1.1 x.2.2.1.2.1 x.2.2.1.2.2.1 x.2.2.1.2.2.2.1 x.2.2.2.1.1 x.2.2.2.1.2.1 x.2.2.2.1.2.2.1 x.2.2.2.1.2.2.2.1 := by kernel_rfl
theorem lk_r10_Replay_0 : LoopOK Try.prog G 35 (P_r10_Replay 0) (loopOf (bodyOf Try.f28) 0) := loop_ok (lp := P_r10_Replay) (n := 1) (k := 0) sigOK eqOK hmix tT_r10_Replay S_r10_Replay_0 X_r10_Replay_0 (fun x => R_r10_Replay_0 x.1.2.2.2.1 x.1.2.2.2.2.1 x.2.1.1 x.2.1.2.1 x.2.1.2.2.1 x.2.1.2.2.2.1 x.2.1.2.2.2.2.1 x.2.1.2.2.2.2.2.1 x.2.1.2.2.2.2.2.2.1 x.2.1.2.2.2.2.2.2.2.1 x.2.2.1.1 x.2.2.1.2.1 x.2.2.1.2.2.1 x.2.2.1.2.2.2.1 x.2.2.2.1.1 x.2.2.2.1.2.1 x.2.2.2.1.2.2.1 x.2.2.2.1.2.2.2.1) (by kernel_rfl) (show AllAt (fun k c => LoopOK Try.prog G 35 (P_r10_Replay k) c) 1 _ from (allAt_of [] (by kernel_rfl) allAt_n)) r_r10_Replay_0
theorem q_r10_Replay (x : I_r10_Replay.T G) : endI (cfP T_r10_Replay) P_r10_Replay J_r10_Replay 35 (bodyOf Try.f28) I_r10_Replay E_r10_Replay x = F_r10_Replay x.1.1.1 x.1.1.2.1 x.1.1.2.2.1 x.1.1.2.2.2.1 x.1.1.2.2.2.2.1 x.1.1.2.2.2.2.2.1 x.1.1.2.2.2.2.2.2.1 x.1.1.2.2.2.2.2.2.2.1 x.1.2.1.1 x.1.2.1.2.1 x.1.2.1.2.2.1 := by kernel_rfl
noncomputable def e_r10_Replay : Fe G := ⟨I_r10_Replay, E_r10_Replay, fun x => F_r10_Replay x.1.1.1 x.1.1.2.1 x.1.1.2.2.1 x.1.1.2.2.2.1 x.1.1.2.2.2.2.1 x.1.1.2.2.2.2.2.1 x.1.1.2.2.2.2.2.2.1 x.1.1.2.2.2.2.2.2.2.1 x.1.2.1.1 x.1.2.1.2.1 x.1.2.1.2.2.1, Try.f28.results.toList⟩
theorem ok_r10_Replay : FnOK Try.prog G 28 e_r10_Replay := fn_ok (e := e_r10_Replay) sigOK eqOK hmix tT_r10_Replay Try.func28 (by kernel_rfl) (by kernel_rfl) rfl (by kernel_rfl) (allAt_zero (Q := fun k c => LoopOK Try.prog G 35 (P_r10_Replay k) c) (allAt_of [loopOf (bodyOf Try.f28) 0] (by kernel_rfl) (allAt_c lk_r10_Replay_0 allAt_n))) q_r10_Replay
/-! ### overlay/overlayref10.Recover -/
def I_r10_Recover : Ab.Spec := ⟨[(0, .agg [.int .i64, .int .i64, .int .i64, .int .i64, .flt .f64, .flt .f64, .flt .f64, .ro 100]), (1, .agg [.str, .str, .int .i64]), (2, .one (.int .i64))], [], []⟩
def E_r10_Recover : List (Ex × Ab.Spec) := [(.ret, ⟨[(6, .one (.ptr 96 0)), (7, .one (.ptr 112 0)), (8, .one (.int .i64)), (9, .one (.int .i64))], [(96, [.str, .str, .int .i64]), (112, [.own 32768 3, .own 32769 4, .own 32770 4, .own 32771 98])], []⟩)]
def J_r10_Recover : Nat → Option (List (Ex × Ab.Spec)) := fun n => get [] n
noncomputable def T_r10_Recover : List (Nat × Fe G) := [(56, e_r10_ok), (28, e_r10_Replay), (24, e_r10_Compact)]
noncomputable def P_r10_Recover : Nat → St G → M (Ex × St G) := fun _ _ => M.fail
theorem tT_r10_Recover : ∀ p ∈ T_r10_Recover, FnOK Try.prog G p.1 p.2 := List.forall_mem_cons.2 ⟨ok_r10_ok, List.forall_mem_cons.2 ⟨ok_r10_Replay, List.forall_mem_cons.2 ⟨ok_r10_Compact, (fun _ h => absurd h (List.not_mem_nil))⟩⟩⟩
theorem q_r10_Recover (x : I_r10_Recover.T G) : endI (cfP T_r10_Recover) P_r10_Recover J_r10_Recover 40 (bodyOf Try.f26) I_r10_Recover E_r10_Recover x = F_r10_Recover x.1.1.1 x.1.1.2.1 x.1.1.2.2.1 x.1.1.2.2.2.1 x.1.1.2.2.2.2.1 x.1.1.2.2.2.2.2.1 x.1.1.2.2.2.2.2.2.1 x.1.1.2.2.2.2.2.2.2.1 x.1.2.1.1 x.1.2.1.2.1 x.1.2.1.2.2.1 x.1.2.2.1 := by kernel_rfl
noncomputable def e_r10_Recover : Fe G := ⟨I_r10_Recover, E_r10_Recover, fun x => F_r10_Recover x.1.1.1 x.1.1.2.1 x.1.1.2.2.1 x.1.1.2.2.2.1 x.1.1.2.2.2.2.1 x.1.1.2.2.2.2.2.1 x.1.1.2.2.2.2.2.2.1 x.1.1.2.2.2.2.2.2.2.1 x.1.2.1.1 x.1.2.1.2.1 x.1.2.1.2.2.1 x.1.2.2.1, Try.f26.results.toList⟩
theorem ok_r10_Recover : FnOK Try.prog G 26 e_r10_Recover := fn_ok (e := e_r10_Recover) sigOK eqOK hmix tT_r10_Recover Try.func26 (by kernel_rfl) (by kernel_rfl) rfl (by kernel_rfl) (allAt_zero (Q := fun k c => LoopOK Try.prog G 40 (P_r10_Recover k) c) (allAt_of [] (by kernel_rfl) allAt_n)) q_r10_Recover
/-! ### overlay/overlaylaw10.LogActs -/
def I_l10_LogActs : Ab.Spec := ⟨[(0, .one (.int .u8)), (1, .one (.ro 5)), (2, .agg [.str, .str, .int .i64, .int .i64, .int .i64, .int .i64, .int .i64, .int .i64, .int .i64])], [], []⟩
def E_l10_LogActs : List (Ex × Ab.Spec) := [(.ret, ⟨[(6, .one (.bool))], [], []⟩)]
def J_l10_LogActs : Nat → Option (List (Ex × Ab.Spec)) := fun n => get [(14, [(.normal, ⟨[(5, .one (.ptr 80 0)), (7, .one (.ptr 112 0)), (8, .one (.ptr 128 0)), (9, .one (.ro 56)), (10, .one (.int .i64)), (11, .one (.ptr 176 0)), (12, .one (.ptr 192 0)), (13, .one (.int .i64))], [(80, [.str, .str, .int .i64, .int .i64, .int .i64, .int .i64, .int .i64, .int .i64, .int .i64]), (112, [.int .i64, .int .i64, .int .i64, .int .i64, .flt .f64, .flt .f64, .flt .f64, .ro 100]), (128, [.ro 3, .ro 4, .ro 4, .ro 98]), (176, [.str, .str, .int .i64]), (192, [.int .i64, .int .i64, .int .i64, .int .i64, .int .i64])], []⟩)]), (16, [(.normal, ⟨[(5, .one (.ptr 80 0)), (7, .one (.ptr 112 0)), (8, .one (.ptr 128 0)), (9, .one (.ro 56)), (10, .one (.int .i64)), (11, .one (.ptr 176 0)), (12, .one (.ptr 192 0)), (13, .one (.int .i64))], [(80, [.str, .str, .int .i64, .int .i64, .int .i64, .int .i64, .int .i64, .int .i64, .int .i64]), (112, [.int .i64, .int .i64, .int .i64, .int .i64, .flt .f64, .flt .f64, .flt .f64, .ro 100]), (128, [.ro 3, .ro 4, .ro 4, .ro 98]), (176, [.str, .str, .int .i64]), (192, [.int .i64, .int .i64, .int .i64, .int .i64, .int .i64])], []⟩)]), (1048589, [(.normal, ⟨[(5, .one (.ptr 80 0)), (7, .one (.ptr 112 0)), (8, .one (.ptr 128 0)), (9, .one (.ro 56)), (10, .one (.int .i64)), (11, .one (.ptr 176 0)), (12, .one (.ptr 192 0)), (13, .one (.int .i64)), (105, .one (.bool))], [(80, [.str, .str, .int .i64, .int .i64, .int .i64, .int .i64, .int .i64, .int .i64, .int .i64]), (112, [.int .i64, .int .i64, .int .i64, .int .i64, .flt .f64, .flt .f64, .flt .f64, .ro 100]), (128, [.ro 3, .ro 4, .ro 4, .ro 98]), (176, [.str, .str, .int .i64]), (192, [.int .i64, .int .i64, .int .i64, .int .i64, .int .i64])], []⟩)])] n
noncomputable def T_l10_LogActs : List (Nat × Fe G) := [(17, e_l10_sane), (9, e_l10_Building), (10, e_l10_Image), (18, e_l09_Records), (19, e_r10_Bytes), (20, e_log_Append), (21, e_r10_Append), (22, e_r10_Same), (23, e_log_Compact), (24, e_r10_Compact), (25, e_log_Recover), (26, e_r10_Recover), (27, e_log_Replay), (28, e_r10_Replay)]
def S_l10_LogActs_0 : Ab.Spec := ⟨[(5, .one (.ptr 80 0)), (7, .one (.ptr 112 0)), (8, .one (.ptr 128 0)), (9, .one (.ro 56)), (10, .one (.int .i64))], [(80, [.str, .str, .int .i64, .int .i64, .int .i64, .int .i64, .int .i64, .int .i64, .int .i64]), (112, [.int .i64, .int .i64, .int .i64, .int .i64, .flt .f64, .flt .f64, .flt .f64, .ro 100]), (128, [.ro 3, .ro 4, .ro 4, .ro 98])], []⟩
def X_l10_LogActs_0 : List (Ex × Ab.Spec) := [(.exit 0, ⟨[], [], []⟩), (.ret, ⟨[(6, .one (.bool))], [], []⟩)]
noncomputable def P_l10_LogActs : Nat → St G → M (Ex × St G) := fun n => bif Nat.beq n 0 then lpX S_l10_LogActs_0 X_l10_LogActs_0 L_l10_LogActs_0 else fun _ => M.fail
theorem tT_l10_LogActs : ∀ p ∈ T_l10_LogActs, FnOK Try.prog G p.1 p.2 := List.forall_mem_cons.2 ⟨ok_l10_sane, List.forall_mem_cons.2 ⟨ok_l10_Building, List.forall_mem_cons.2 ⟨ok_l10_Image, List.forall_mem_cons.2 ⟨ok_l09_Records, List.forall_mem_cons.2 ⟨ok_r10_Bytes, List.forall_mem_cons.2 ⟨ok_log_Append, List.forall_mem_cons.2 ⟨ok_r10_Append, List.forall_mem_cons.2 ⟨ok_r10_Same, List.forall_mem_cons.2 ⟨ok_log_Compact, List.forall_mem_cons.2 ⟨ok_r10_Compact, List.forall_mem_cons.2 ⟨ok_log_Recover, List.forall_mem_cons.2 ⟨ok_r10_Recover, List.forall_mem_cons.2 ⟨ok_log_Replay, List.forall_mem_cons.2 ⟨ok_r10_Replay, (fun _ h => absurd h (List.not_mem_nil))⟩⟩⟩⟩⟩⟩⟩⟩⟩⟩⟩⟩⟩⟩
noncomputable def HR_l10_LogActs_0 (_h_l10_sane : (Unit × Unit) → Option ((Bool × Unit) × Unit)) (r : List (Record)) (k : Int) (x_Store_Halves_0 : ByteArray) (x_Store_Halves_1 : ByteArray) (x_Store_Select : Int) (x_Budget : Int) (x_Record_Kind : Int) (x_Record_Floor : Int) (x_Record_Dir : Int) (x_Record_Car : Int) (x_Record_Value : Int) (b_Floors : Int) (b_Debounce : Int) (b_Room : Int) (b_Park : Int) (b_Empty : Nat) (b_Full : Nat) (b_Over : Nat) (b_Cars : List (Car)) (m_Phases : List (Int)) (m_Flags : List (Bool)) (m_Leaving : List (Bool)) (m_Entries : List (Entry)) : Option (Sum ((Unit × Unit × Unit × List (Record) × Int × Unit) × ((ByteArray × ByteArray × Int × Int × Int × Int × Int × Int × Int × Unit) × (Int × Int × Int × Int × Nat × Nat × Nat × List (Car) × Unit) × (List (Int) × List (Bool) × List (Bool) × List (Entry) × Unit) × Unit)) ((Unit × Unit) ⊕ ((Bool × Unit) × Unit))) :=
  bif (decide (k < (4 : Int))) then
    Option.bind (bif (decide ((0 : Int) < k)) then
          let z0 : Int := (Go.IntKind.wrap Go.IntKind.i64 (Int.tdiv (Go.IntKind.wrap Go.IntKind.i64 (k * ((List.length r : Nat) : Int))) (4 : Int)))
          let z1 : Int := (Go.IntKind.wrap Go.IntKind.i64 (Int.tdiv b_Room (6 : Int)))
          let z2 : Int := (bif (decide (z1 < z0)) then z1 else z0)
          bif ((decide ((0 : Int) ≤ z2)) && (decide (z2 ≤ (((List.length r) : Nat) : Int)))) then
            (F_r10_Bytes b_Floors b_Debounce b_Room b_Park b_Empty b_Full b_Over b_Cars (List.drop 0 (List.take (Int.toNat z2) r))).bind fun y1 =>
            let z3 : Int := ((ByteArray.size x_Store_Halves_1 : Nat) : Int)
            let z4 : Int := (bif (decide (b_Room < z3)) then b_Room else z3)
            bif ((decide ((0 : Int) ≤ z4)) && (decide (z4 ≤ (((ByteArray.size x_Store_Halves_1) : Nat) : Int)))) then
              some (((), (), (), r, k, (), (), (Go.IntKind.wrap Go.IntKind.i64 (Int.tmod (Go.IntKind.wrap Go.IntKind.u64 x_Budget) (200 : Int))), ()), ((x_Store_Halves_0, x_Store_Halves_1, x_Store_Select, x_Budget, x_Record_Kind, x_Record_Floor, x_Record_Dir, x_Record_Car, x_Record_Value, ()), (b_Floors, b_Debounce, b_Room, b_Park, b_Empty, b_Full, b_Over, b_Cars, ()), (m_Phases, m_Flags, m_Leaving, m_Entries, ()), (y1.1.1, (ByteArray.extract x_Store_Halves_1 0 (Int.toNat z4)), (0 : Int), ()), (x_Record_Kind, x_Record_Floor, x_Record_Dir, x_Record_Car, x_Record_Value, ()), ()))
            else
              none
          else
            none
        else
          some (((), (), (), r, k, (), (), x_Budget, ()), ((x_Store_Halves_0, x_Store_Halves_1, x_Store_Select, x_Budget, x_Record_Kind, x_Record_Floor, x_Record_Dir, x_Record_Car, x_Record_Value, ()), (b_Floors, b_Debounce, b_Room, b_Park, b_Empty, b_Full, b_Over, b_Cars, ()), (m_Phases, m_Flags, m_Leaving, m_Entries, ()), (x_Store_Halves_0, x_Store_Halves_1, x_Store_Select, ()), (x_Record_Kind, x_Record_Floor, x_Record_Dir, x_Record_Car, x_Record_Value, ()), ()))) fun y2 =>
    Option.bind (Option.bind (bif (decide ((1 : Int) < y2.1.2.2.2.2.1)) then
              some (((), (), (), y2.1.2.2.2.1, y2.1.2.2.2.2.1, (), (), y2.1.2.2.2.2.2.2.2.1, (decide ((0 : Int) < ((List.length y2.1.2.2.2.1 : Nat) : Int))), ()), ((y2.2.1.1, y2.2.1.2.1, y2.2.1.2.2.1, y2.2.1.2.2.2.1, y2.2.1.2.2.2.2.1, y2.2.1.2.2.2.2.2.1, y2.2.1.2.2.2.2.2.2.1, y2.2.1.2.2.2.2.2.2.2.1, y2.2.1.2.2.2.2.2.2.2.2.1, ()), (y2.2.2.1.1, y2.2.2.1.2.1, y2.2.2.1.2.2.1, y2.2.2.1.2.2.2.1, y2.2.2.1.2.2.2.2.1, y2.2.2.1.2.2.2.2.2.1, y2.2.2.1.2.2.2.2.2.2.1, y2.2.2.1.2.2.2.2.2.2.2.1, ()), (y2.2.2.2.1.1, y2.2.2.2.1.2.1, y2.2.2.2.1.2.2.1, y2.2.2.2.1.2.2.2.1, ()), (y2.2.2.2.2.1.1, y2.2.2.2.2.1.2.1, y2.2.2.2.2.1.2.2.1, ()), (y2.2.2.2.2.2.1.1, y2.2.2.2.2.2.1.2.1, y2.2.2.2.2.2.1.2.2.1, y2.2.2.2.2.2.1.2.2.2.1, y2.2.2.2.2.2.1.2.2.2.2.1, ()), ()))
            else
              some (((), (), (), y2.1.2.2.2.1, y2.1.2.2.2.2.1, (), (), y2.1.2.2.2.2.2.2.2.1, false, ()), ((y2.2.1.1, y2.2.1.2.1, y2.2.1.2.2.1, y2.2.1.2.2.2.1, y2.2.1.2.2.2.2.1, y2.2.1.2.2.2.2.2.1, y2.2.1.2.2.2.2.2.2.1, y2.2.1.2.2.2.2.2.2.2.1, y2.2.1.2.2.2.2.2.2.2.2.1, ()), (y2.2.2.1.1, y2.2.2.1.2.1, y2.2.2.1.2.2.1, y2.2.2.1.2.2.2.1, y2.2.2.1.2.2.2.2.1, y2.2.2.1.2.2.2.2.2.1, y2.2.2.1.2.2.2.2.2.2.1, y2.2.2.1.2.2.2.2.2.2.2.1, ()), (y2.2.2.2.1.1, y2.2.2.2.1.2.1, y2.2.2.2.1.2.2.1, y2.2.2.2.1.2.2.2.1, ()), (y2.2.2.2.2.1.1, y2.2.2.2.2.1.2.1, y2.2.2.2.2.1.2.2.1, ()), (y2.2.2.2.2.2.1.1, y2.2.2.2.2.2.1.2.1, y2.2.2.2.2.2.1.2.2.1, y2.2.2.2.2.2.1.2.2.2.1, y2.2.2.2.2.2.1.2.2.2.2.1, ()), ()))) fun y3 =>
        bif y3.1.2.2.2.2.2.2.2.2.1 then
          let z5 : Int := ((List.length y3.1.2.2.2.1 : Nat) : Int)
          bif (z5 != (0 : Int)) then
            let z6 : Int := (Int.tmod (Go.IntKind.wrap Go.IntKind.i64 (y3.1.2.2.2.2.1 * (7 : Int))) z5)
            bif (Go.Ab.inB z6 (List.length y3.1.2.2.2.1)) then
              let z7 : Record := (List.getD y3.1.2.2.2.1 (Int.toNat z6) (Record.mk (0 : Int) (0 : Int) (0 : Int) (0 : Int) (0 : Int)))
              some (((), (), (), y3.1.2.2.2.1, y3.1.2.2.2.2.1, (), (), y3.1.2.2.2.2.2.2.2.1, ()), ((y3.2.1.1, y3.2.1.2.1, y3.2.1.2.2.1, y3.2.1.2.2.2.1, y3.2.1.2.2.2.2.1, y3.2.1.2.2.2.2.2.1, y3.2.1.2.2.2.2.2.2.1, y3.2.1.2.2.2.2.2.2.2.1, y3.2.1.2.2.2.2.2.2.2.2.1, ()), (y3.2.2.1.1, y3.2.2.1.2.1, y3.2.2.1.2.2.1, y3.2.2.1.2.2.2.1, y3.2.2.1.2.2.2.2.1, y3.2.2.1.2.2.2.2.2.1, y3.2.2.1.2.2.2.2.2.2.1, y3.2.2.1.2.2.2.2.2.2.2.1, ()), (y3.2.2.2.1.1, y3.2.2.2.1.2.1, y3.2.2.2.1.2.2.1, y3.2.2.2.1.2.2.2.1, ()), (y3.2.2.2.2.1.1, y3.2.2.2.2.1.2.1, y3.2.2.2.2.1.2.2.1, ()), (z7.Kind, z7.Floor, z7.Dir, z7.Car, z7.Value, ()), ()))
            else
              none
          else
            none
        else
          some (((), (), (), y3.1.2.2.2.1, y3.1.2.2.2.2.1, (), (), y3.1.2.2.2.2.2.2.2.1, ()), ((y3.2.1.1, y3.2.1.2.1, y3.2.1.2.2.1, y3.2.1.2.2.2.1, y3.2.1.2.2.2.2.1, y3.2.1.2.2.2.2.2.1, y3.2.1.2.2.2.2.2.2.1, y3.2.1.2.2.2.2.2.2.2.1, y3.2.1.2.2.2.2.2.2.2.2.1, ()), (y3.2.2.1.1, y3.2.2.1.2.1, y3.2.2.1.2.2.1, y3.2.2.1.2.2.2.1, y3.2.2.1.2.2.2.2.1, y3.2.2.1.2.2.2.2.2.1, y3.2.2.1.2.2.2.2.2.2.1, y3.2.2.1.2.2.2.2.2.2.2.1, ()), (y3.2.2.2.1.1, y3.2.2.2.1.2.1, y3.2.2.2.1.2.2.1, y3.2.2.2.1.2.2.2.1, ()), (y3.2.2.2.2.1.1, y3.2.2.2.2.1.2.1, y3.2.2.2.2.1.2.2.1, ()), (y3.2.2.2.2.2.1.1, y3.2.2.2.2.2.1.2.1, y3.2.2.2.2.2.1.2.2.1, y3.2.2.2.2.2.1.2.2.2.1, y3.2.2.2.2.2.1.2.2.2.2.1, ()), ()))) fun y4 =>
    (F_log_Append y4.2.2.1.1 y4.2.2.1.2.1 y4.2.2.1.2.2.1 y4.2.2.1.2.2.2.1 y4.2.2.1.2.2.2.2.1 y4.2.2.1.2.2.2.2.2.1 y4.2.2.1.2.2.2.2.2.2.1 y4.2.2.1.2.2.2.2.2.2.2.1 y4.2.2.2.2.1.1 y4.2.2.2.2.1.2.1 y4.2.2.2.2.1.2.2.1 y4.2.2.2.1.1 y4.2.2.2.1.2.1 y4.2.2.2.1.2.2.1 y4.2.2.2.1.2.2.2.1 y4.2.2.2.2.2.1.1 y4.2.2.2.2.2.1.2.1 y4.2.2.2.2.2.1.2.2.1 y4.2.2.2.2.2.1.2.2.2.1 y4.2.2.2.2.2.1.2.2.2.2.1 y4.1.2.2.2.2.2.2.2.1).bind fun y5 =>
    (F_r10_Append y4.2.2.1.1 y4.2.2.1.2.1 y4.2.2.1.2.2.1 y4.2.2.1.2.2.2.1 y4.2.2.1.2.2.2.2.1 y4.2.2.1.2.2.2.2.2.1 y4.2.2.1.2.2.2.2.2.2.1 y4.2.2.1.2.2.2.2.2.2.2.1 y4.2.2.2.2.1.1 y4.2.2.2.2.1.2.1 y4.2.2.2.2.1.2.2.1 y4.2.2.2.1.1 y4.2.2.2.1.2.1 y4.2.2.2.1.2.2.1 y4.2.2.2.1.2.2.2.1 y4.2.2.2.2.2.1.1 y4.2.2.2.2.2.1.2.1 y4.2.2.2.2.2.1.2.2.1 y4.2.2.2.2.2.1.2.2.2.1 y4.2.2.2.2.2.1.2.2.2.2.1 y4.1.2.2.2.2.2.2.2.1).bind fun y6 =>
    bif (!((Go.Ab.eqB y5.2.1.1 y6.2.1.1) && ((Go.Ab.eqB y5.2.1.2.1 y6.2.1.2.1) && ((y5.2.1.2.2.1 == y6.2.1.2.2.1) && true)))) then
      some (Sum.inr (Sum.inr ((false, ()), ())))
    else
      (F_r10_Same y5.2.2.1.1 y5.2.2.1.2.1 y5.2.2.1.2.2.1 y5.2.2.1.2.2.2.1 y6.2.2.1.1 y6.2.2.1.2.1 y6.2.2.1.2.2.1 y6.2.2.1.2.2.2.1).bind fun y7 =>
      bif (!y7.1.1) then
        some (Sum.inr (Sum.inr ((false, ()), ())))
      else
        bif (y5.1.2.2.1 != y6.1.2.2.1) then
          some (Sum.inr (Sum.inr ((false, ()), ())))
        else
          bif (y5.1.2.2.2.1 != y6.1.2.2.2.1) then
            some (Sum.inr (Sum.inr ((false, ()), ())))
          else
            (F_log_Compact y4.2.2.1.1 y4.2.2.1.2.1 y4.2.2.1.2.2.1 y4.2.2.1.2.2.2.1 y4.2.2.1.2.2.2.2.1 y4.2.2.1.2.2.2.2.2.1 y4.2.2.1.2.2.2.2.2.2.1 y4.2.2.1.2.2.2.2.2.2.2.1 y4.2.2.2.2.1.1 y4.2.2.2.2.1.2.1 y4.2.2.2.2.1.2.2.1 y4.2.2.2.1.1 y4.2.2.2.1.2.1 y4.2.2.2.1.2.2.1 y4.2.2.2.1.2.2.2.1 y4.1.2.2.2.2.2.2.2.1).bind fun y8 =>
            (F_r10_Compact y4.2.2.1.1 y4.2.2.1.2.1 y4.2.2.1.2.2.1 y4.2.2.1.2.2.2.1 y4.2.2.1.2.2.2.2.1 y4.2.2.1.2.2.2.2.2.1 y4.2.2.1.2.2.2.2.2.2.1 y4.2.2.1.2.2.2.2.2.2.2.1 y4.2.2.2.2.1.1 y4.2.2.2.2.1.2.1 y4.2.2.2.2.1.2.2.1 y4.2.2.2.1.1 y4.2.2.2.1.2.1 y4.2.2.2.1.2.2.1 y4.2.2.2.1.2.2.2.1 y4.1.2.2.2.2.2.2.2.1).bind fun y9 =>
            bif (!((Go.Ab.eqB y8.2.1.1 y9.2.1.1) && ((Go.Ab.eqB y8.2.1.2.1 y9.2.1.2.1) && ((y8.2.1.2.2.1 == y9.2.1.2.2.1) && true)))) then
              some (Sum.inr (Sum.inr ((false, ()), ())))
            else
              bif (y8.1.2.1 != y9.1.2.1) then
                some (Sum.inr (Sum.inr ((false, ()), ())))
              else
                bif (y8.1.2.2.1 != y9.1.2.2.1) then
                  some (Sum.inr (Sum.inr ((false, ()), ())))
                else
                  (F_log_Recover y4.2.2.1.1 y4.2.2.1.2.1 y4.2.2.1.2.2.1 y4.2.2.1.2.2.2.1 y4.2.2.1.2.2.2.2.1 y4.2.2.1.2.2.2.2.2.1 y4.2.2.1.2.2.2.2.2.2.1 y4.2.2.1.2.2.2.2.2.2.2.1 y4.2.2.2.2.1.1 y4.2.2.2.2.1.2.1 y4.2.2.2.2.1.2.2.1 y4.1.2.2.2.2.2.2.2.1).bind fun y10 =>
                  (F_r10_Recover y4.2.2.1.1 y4.2.2.1.2.1 y4.2.2.1.2.2.1 y4.2.2.1.2.2.2.1 y4.2.2.1.2.2.2.2.1 y4.2.2.1.2.2.2.2.2.1 y4.2.2.1.2.2.2.2.2.2.1 y4.2.2.1.2.2.2.2.2.2.2.1 y4.2.2.2.2.1.1 y4.2.2.2.2.1.2.1 y4.2.2.2.2.1.2.2.1 y4.1.2.2.2.2.2.2.2.1).bind fun y11 =>
                  bif (!((Go.Ab.eqB y10.2.1.1 y11.2.1.1) && ((Go.Ab.eqB y10.2.1.2.1 y11.2.1.2.1) && ((y10.2.1.2.2.1 == y11.2.1.2.2.1) && true)))) then
                    some (Sum.inr (Sum.inr ((false, ()), ())))
                  else
                    (F_r10_Same y10.2.2.1.1 y10.2.2.1.2.1 y10.2.2.1.2.2.1 y10.2.2.1.2.2.2.1 y11.2.2.1.1 y11.2.2.1.2.1 y11.2.2.1.2.2.1 y11.2.2.1.2.2.2.1).bind fun y12 =>
                    bif (!y12.1.1) then
                      some (Sum.inr (Sum.inr ((false, ()), ())))
                    else
                      bif (y10.1.2.2.1 != y11.1.2.2.1) then
                        some (Sum.inr (Sum.inr ((false, ()), ())))
                      else
                        bif (y10.1.2.2.2.1 != y11.1.2.2.2.1) then
                          some (Sum.inr (Sum.inr ((false, ()), ())))
                        else
                          (F_log_Replay y4.2.2.1.1 y4.2.2.1.2.1 y4.2.2.1.2.2.1 y4.2.2.1.2.2.2.1 y4.2.2.1.2.2.2.2.1 y4.2.2.1.2.2.2.2.2.1 y4.2.2.1.2.2.2.2.2.2.1 y4.2.2.1.2.2.2.2.2.2.2.1 y4.2.2.2.2.1.1 y4.2.2.2.2.1.2.1 y4.2.2.2.2.1.2.2.1).bind fun y13 =>
                          (F_r10_Replay y4.2.2.1.1 y4.2.2.1.2.1 y4.2.2.1.2.2.1 y4.2.2.1.2.2.2.1 y4.2.2.1.2.2.2.2.1 y4.2.2.1.2.2.2.2.2.1 y4.2.2.1.2.2.2.2.2.2.1 y4.2.2.1.2.2.2.2.2.2.2.1 y4.2.2.2.2.1.1 y4.2.2.2.2.1.2.1 y4.2.2.2.2.1.2.2.1).bind fun y14 =>
                          (F_r10_Same y13.2.1.1 y13.2.1.2.1 y13.2.1.2.2.1 y13.2.1.2.2.2.1 y14.2.1.1 y14.2.1.2.1 y14.2.1.2.2.1 y14.2.1.2.2.2.1).bind fun y15 =>
                          bif (!y15.1.1) then
                            some (Sum.inr (Sum.inr ((false, ()), ())))
                          else
                            some (Sum.inl (((), (), (), y4.1.2.2.2.1, (Go.IntKind.wrap Go.IntKind.i64 (y4.1.2.2.2.2.1 + (1 : Int))), ()), ((y4.2.1.1, y4.2.1.2.1, y4.2.1.2.2.1, y4.2.1.2.2.2.1, y4.2.1.2.2.2.2.1, y4.2.1.2.2.2.2.2.1, y4.2.1.2.2.2.2.2.2.1, y4.2.1.2.2.2.2.2.2.2.1, y4.2.1.2.2.2.2.2.2.2.2.1, ()), (y4.2.2.1.1, y4.2.2.1.2.1, y4.2.2.1.2.2.1, y4.2.2.1.2.2.2.1, y4.2.2.1.2.2.2.2.1, y4.2.2.1.2.2.2.2.2.1, y4.2.2.1.2.2.2.2.2.2.1, y4.2.2.1.2.2.2.2.2.2.2.1, ()), (y4.2.2.2.1.1, y4.2.2.2.1.2.1, y4.2.2.2.1.2.2.1, y4.2.2.2.1.2.2.2.1, ()), ())))
  else
    some (Sum.inr (Sum.inl ((), ())))
theorem rg_l10_LogActs_0 (h_l10_sane : (Unit × Unit) → Option ((Bool × Unit) × Unit)) (x : S_l10_LogActs_0.T G) : rndI (cfP [(17, Fe.mk (G := G) I_l10_sane E_l10_sane h_l10_sane Try.f17.results.toList), (9, e_l10_Building), (10, e_l10_Image), (18, e_l09_Records), (19, e_r10_Bytes), (20, e_log_Append), (21, e_r10_Append), (22, e_r10_Same), (23, e_log_Compact), (24, e_r10_Compact), (25, e_log_Recover), (26, e_r10_Recover), (27, e_log_Replay), (28, e_r10_Replay)]) P_l10_LogActs J_l10_LogActs 234 1 (loopOf (bodyOf Try.f4) 0) S_l10_LogActs_0 X_l10_LogActs_0 x = HR_l10_LogActs_0 h_l10_sane x.1.2.2.2.1 x.1.2.2.2.2.1 x.2.1.1 x.2.1.2.1 x.2.1.2.2.1 x.2.1.2.2.2.1 x.2.1.2.2.2.2.1 x.2.1.2.2.2.2.2.1 x.2.1.2.2.2.2.2.2.1 x.2.1.2.2.2.2.2.2.2.1 x.2.1.2.2.2.2.2.2.2.2.1 x.2.2.1.1 x.2.2.1.2.1 x.2.2.1.2.2.1 x.2.2.1.2.2.2.1 x.2.2.1.2.2.2.2.1 x.2.2.1.2.2.2.2.2.1 x.2.2.1.2.2.2.2.2.2.1 x.2.2.1.2.2.2.2.2.2.2.1 x.2.2.2.1.1 x.2.2.2.1.2.1 x.2.2.2.1.2.2.1 x.2.2.2.1.2.2.2.1 := by kernel_rfl
theorem r_l10_LogActs_0 (x : S_l10_LogActs_0.T G) : rndI (cfP T_l10_LogActs) P_l10_LogActs J_l10_LogActs 234 1 (loopOf (bodyOf Try.f4) 0) S_l10_LogActs_0 X_l10_LogActs_0 x = R_l10_LogActs_0 x.1.2.2.2.1 x.1.2.2.2.2.1 x.2.1.1 x.2.1.2.1 x.2.1.2.2.1 x.2.1.2.2.2.1 x.2.1.2.2.2.2.1 x.2.1.2.2.2.2.2.1 x.2.1.2.2.2.2.2.2.1 x.2.1.2.2.2.2.2.2.2.1 x.2.1.2.2.2.2.2.2.2.2.1 x.2.2.1.1 x.2.2.1.2.1 x.2.2.1.2.2.1 x.2.2.1.2.2.2.1 x.2.2.1.2.2.2.2.1 x.2.2.1.2.2.2.2.2.1 x.2.2.1.2.2.2.2.2.2.1 x.2.2.1.2.2.2.2.2.2.2.1 x.2.2.2.1.1 x.2.2.2.1.2.1 x.2.2.2.1.2.2.1 x.2.2.2.1.2.2.2.1 := (rg_l10_LogActs_0 (fun _ => F_l10_sane ) x).trans (by kernel_rfl)
theorem lk_l10_LogActs_0 : LoopOK Try.prog G 234 (P_l10_LogActs 0) (loopOf (bodyOf Try.f4) 0) := loop_ok (lp := P_l10_LogActs) (n := 1) (k := 0) sigOK eqOK hmix tT_l10_LogActs S_l10_LogActs_0 X_l10_LogActs_0 (fun x => R_l10_LogActs_0 x.1.2.2.2.1 x.1.2.2.2.2.1 x.2.1.1 x.2.1.2.1 x.2.1.2.2.1 x.2.1.2.2.2.1 x.2.1.2.2.2.2.1 x.2.1.2.2.2.2.2.1 x.2.1.2.2.2.2.2.2.1 x.2.1.2.2.2.2.2.2.2.1 x.2.1.2.2.2.2.2.2.2.2.1 x.2.2.1.1 x.2.2.1.2.1 x.2.2.1.2.2.1 x.2.2.1.2.2.2.1 x.2.2.1.2.2.2.2.1 x.2.2.1.2.2.2.2.2.1 x.2.2.1.2.2.2.2.2.2.1 x.2.2.1.2.2.2.2.2.2.2.1 x.2.2.2.1.1 x.2.2.2.1.2.1 x.2.2.2.1.2.2.1 x.2.2.2.1.2.2.2.1) (by kernel_rfl) (show AllAt (fun k c => LoopOK Try.prog G 234 (P_l10_LogActs k) c) 1 _ from (allAt_of [] (by kernel_rfl) allAt_n)) r_l10_LogActs_0
noncomputable def H_l10_LogActs (h_l10_sane : (Unit × Unit) → Option ((Bool × Unit) × Unit)) (n : Int) (l : List (Int)) (x_Store_Halves_0 : ByteArray) (x_Store_Halves_1 : ByteArray) (x_Store_Select : Int) (x_Budget : Int) (x_Record_Kind : Int) (x_Record_Floor : Int) (x_Record_Dir : Int) (x_Record_Car : Int) (x_Record_Value : Int) : Option ((Bool × Unit) × Unit) :=
  bif (decide ((500 : Int) < ((ByteArray.size x_Store_Halves_0 : Nat) : Int))) then
    (h_l10_sane ((), ())).bind fun y1 =>
    some ((y1.1.1, ()), ())
  else
    bif (decide ((500 : Int) < ((ByteArray.size x_Store_Halves_1 : Nat) : Int))) then
      (h_l10_sane ((), ())).bind fun y2 =>
      some ((y2.1.1, ()), ())
    else
      (F_l10_Building n (Go.IntKind.wrap Go.IntKind.u8 x_Budget)).bind fun y3 =>
      (F_l10_Image y3.2.1.1 y3.2.1.2.1 y3.2.1.2.2.1 y3.2.1.2.2.2.1 y3.2.1.2.2.2.2.1 y3.2.1.2.2.2.2.2.1 y3.2.1.2.2.2.2.2.2.1 y3.2.1.2.2.2.2.2.2.2.1 l).bind fun y4 =>
      (F_l09_Records y3.2.1.1 y3.2.1.2.1 y3.2.1.2.2.1 y3.2.1.2.2.2.1 y3.2.1.2.2.2.2.1 y3.2.1.2.2.2.2.2.1 y3.2.1.2.2.2.2.2.2.1 y3.2.1.2.2.2.2.2.2.2.1 l (60 : Int)).bind fun y5 =>
      (L_l10_LogActs_0 (((), (), (), y5.1.1, (0 : Int), ()), ((x_Store_Halves_0, x_Store_Halves_1, x_Store_Select, x_Budget, x_Record_Kind, x_Record_Floor, x_Record_Dir, x_Record_Car, x_Record_Value, ()), (y3.2.1.1, y3.2.1.2.1, y3.2.1.2.2.1, y3.2.1.2.2.2.1, y3.2.1.2.2.2.2.1, y3.2.1.2.2.2.2.2.1, y3.2.1.2.2.2.2.2.2.1, y3.2.1.2.2.2.2.2.2.2.1, ()), (y4.2.1.1, y4.2.1.2.1, y4.2.1.2.2.1, y4.2.1.2.2.2.1, ()), ()))).bind fun y6 =>
      (match y6 with
      | .inl y7 =>
        (h_l10_sane ((), ())).bind fun y8 =>
        some ((y8.1.1, ()), ())
      | .inr y7 =>
        some ((y7.1.1, ()), ()))
theorem qg_l10_LogActs (h_l10_sane : (Unit × Unit) → Option ((Bool × Unit) × Unit)) (x : I_l10_LogActs.T G) : endI (cfP [(17, Fe.mk (G := G) I_l10_sane E_l10_sane h_l10_sane Try.f17.results.toList), (9, e_l10_Building), (10, e_l10_Image), (18, e_l09_Records), (19, e_r10_Bytes), (20, e_log_Append), (21, e_r10_Append), (22, e_r10_Same), (23, e_log_Compact), (24, e_r10_Compact), (25, e_log_Recover), (26, e_r10_Recover), (27, e_log_Replay), (28, e_r10_Replay)]) P_l10_LogActs J_l10_LogActs 234 (bodyOf Try.f4) I_l10_LogActs E_l10_LogActs x = H_l10_LogActs h_l10_sane x.1.1 x.1.2.1 x.1.2.2.1.1 x.1.2.2.1.2.1 x.1.2.2.1.2.2.1 x.1.2.2.1.2.2.2.1 x.1.2.2.1.2.2.2.2.1 x.1.2.2.1.2.2.2.2.2.1 x.1.2.2.1.2.2.2.2.2.2.1 x.1.2.2.1.2.2.2.2.2.2.2.1 x.1.2.2.1.2.2.2.2.2.2.2.2.1 := by kernel_rfl
theorem q_l10_LogActs (x : I_l10_LogActs.T G) : endI (cfP T_l10_LogActs) P_l10_LogActs J_l10_LogActs 234 (bodyOf Try.f4) I_l10_LogActs E_l10_LogActs x = F_l10_LogActs x.1.1 x.1.2.1 x.1.2.2.1.1 x.1.2.2.1.2.1 x.1.2.2.1.2.2.1 x.1.2.2.1.2.2.2.1 x.1.2.2.1.2.2.2.2.1 x.1.2.2.1.2.2.2.2.2.1 x.1.2.2.1.2.2.2.2.2.2.1 x.1.2.2.1.2.2.2.2.2.2.2.1 x.1.2.2.1.2.2.2.2.2.2.2.2.1 := (qg_l10_LogActs (fun _ => F_l10_sane ) x).trans (by kernel_rfl)
noncomputable def e_l10_LogActs : Fe G := ⟨I_l10_LogActs, E_l10_LogActs, fun x => F_l10_LogActs x.1.1 x.1.2.1 x.1.2.2.1.1 x.1.2.2.1.2.1 x.1.2.2.1.2.2.1 x.1.2.2.1.2.2.2.1 x.1.2.2.1.2.2.2.2.1 x.1.2.2.1.2.2.2.2.2.1 x.1.2.2.1.2.2.2.2.2.2.1 x.1.2.2.1.2.2.2.2.2.2.2.1 x.1.2.2.1.2.2.2.2.2.2.2.2.1, Try.f4.results.toList⟩
theorem ok_l10_LogActs : FnOK Try.prog G 4 e_l10_LogActs := fn_ok (e := e_l10_LogActs) sigOK eqOK hmix tT_l10_LogActs Try.func4 (by kernel_rfl) (by kernel_rfl) rfl (by kernel_rfl) (allAt_zero (Q := fun k c => LoopOK Try.prog G 234 (P_l10_LogActs k) c) (allAt_of [loopOf (bodyOf Try.f4) 0] (by kernel_rfl) (allAt_c lk_l10_LogActs_0 allAt_n))) q_l10_LogActs
end Go.Ovl
