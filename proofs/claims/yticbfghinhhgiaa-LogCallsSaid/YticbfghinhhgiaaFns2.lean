/- The contracts of the program's functions: part 2. -/
import Derived.Test.YticbfghinhhgiaaSig
import Derived.Test.YticbfghinhhgiaaDefs1
import Derived.Test.YticbfghinhhgiaaFns1
namespace Go.Ovl
open Go Go.Ab Go.Proofs
set_option maxRecDepth 100000
/-! ### overlay/overlayref10.Snapshot -/
def I_r10_Snapshot : Ab.Spec := ⟨[(0, .agg [.int .i64, .int .i64, .int .i64, .int .i64, .flt .f64, .flt .f64, .flt .f64, .ro 100]), (1, .agg [.ro 3, .ro 4, .ro 4, .ro 69])], [], []⟩
def E_r10_Snapshot : List (Ex × Ab.Spec) := [(.ret, ⟨[(4, .one (.own 32768 47))], [], []⟩)]
def J_r10_Snapshot : Nat → Option (List (Ex × Ab.Spec)) := fun n => get [] n
noncomputable def T_r10_Snapshot : List (Nat × Fe G) := [(14, e_r10_IsImage), (46, e_r10_one)]
def S_r10_Snapshot_0 : Ab.Spec := ⟨[(3, .one (.ptr 48 0)), (5, .one (.own 32768 47)), (6, .one (.int .i64))], [(48, [.ro 3, .ro 4, .ro 4, .ro 69])], []⟩
def X_r10_Snapshot_0 : List (Ex × Ab.Spec) := [(.exit 0, ⟨[(3, .one (.ptr 48 0)), (5, .one (.own 32768 47))], [(48, [.ro 3, .ro 4, .ro 4, .ro 69])], []⟩)]
def S_r10_Snapshot_1 : Ab.Spec := ⟨[(3, .one (.ptr 48 0)), (5, .one (.own 32768 47)), (7, .one (.int .i64))], [(48, [.ro 3, .ro 4, .ro 4, .ro 69])], []⟩
def X_r10_Snapshot_1 : List (Ex × Ab.Spec) := [(.exit 2, ⟨[(5, .one (.own 32768 47))], [], []⟩)]
noncomputable def P_r10_Snapshot : Nat → St G → M (Ex × St G) := fun n => bif Nat.beq n 0 then lpX S_r10_Snapshot_0 X_r10_Snapshot_0 L_r10_Snapshot_0 else bif Nat.beq n 1 then lpX S_r10_Snapshot_1 X_r10_Snapshot_1 L_r10_Snapshot_1 else fun _ => M.fail
theorem tT_r10_Snapshot : ∀ p ∈ T_r10_Snapshot, FnOK Try.prog G p.1 p.2 := List.forall_mem_cons.2 ⟨ok_r10_IsImage, List.forall_mem_cons.2 ⟨ok_r10_one, (fun _ h => absurd h (List.not_mem_nil))⟩⟩
theorem r_r10_Snapshot_1 (x : S_r10_Snapshot_1.T G) : rndI (cfP T_r10_Snapshot) P_r10_Snapshot J_r10_Snapshot 84 2 (loopOf (bodyOf Try.f17) 1) S_r10_Snapshot_1 X_r10_Snapshot_1 x = R_r10_Snapshot_1 x.1.2.1 x.1.2.2.1 x.2.1.1 x.2.1.2.1 x.2.1.2.2.1 x.2.1.2.2.2.1 := by kernel_rfl
theorem lk_r10_Snapshot_1 : LoopOK Try.prog G 84 (P_r10_Snapshot 1) (loopOf (bodyOf Try.f17) 1) := loop_ok (lp := P_r10_Snapshot) (n := 2) (k := 1) sigOK eqOK hmix tT_r10_Snapshot S_r10_Snapshot_1 X_r10_Snapshot_1 (fun x => R_r10_Snapshot_1 x.1.2.1 x.1.2.2.1 x.2.1.1 x.2.1.2.1 x.2.1.2.2.1 x.2.1.2.2.2.1) (by kernel_rfl) (show AllAt (fun k c => LoopOK Try.prog G 84 (P_r10_Snapshot k) c) 2 _ from (allAt_of [] (by kernel_rfl) allAt_n)) r_r10_Snapshot_1
theorem r_r10_Snapshot_0 (x : S_r10_Snapshot_0.T G) : rndI (cfP T_r10_Snapshot) P_r10_Snapshot J_r10_Snapshot 84 1 (loopOf (bodyOf Try.f17) 0) S_r10_Snapshot_0 X_r10_Snapshot_0 x = R_r10_Snapshot_0 x.1.2.1 x.1.2.2.1 x.2.1.1 x.2.1.2.1 x.2.1.2.2.1 x.2.1.2.2.2.1 := by kernel_rfl
theorem lk_r10_Snapshot_0 : LoopOK Try.prog G 84 (P_r10_Snapshot 0) (loopOf (bodyOf Try.f17) 0) := loop_ok (lp := P_r10_Snapshot) (n := 1) (k := 0) sigOK eqOK hmix tT_r10_Snapshot S_r10_Snapshot_0 X_r10_Snapshot_0 (fun x => R_r10_Snapshot_0 x.1.2.1 x.1.2.2.1 x.2.1.1 x.2.1.2.1 x.2.1.2.2.1 x.2.1.2.2.2.1) (by kernel_rfl) (show AllAt (fun k c => LoopOK Try.prog G 84 (P_r10_Snapshot k) c) 1 _ from (allAt_of [] (by kernel_rfl) allAt_n)) r_r10_Snapshot_0
theorem q_r10_Snapshot (x : I_r10_Snapshot.T G) : endI (cfP T_r10_Snapshot) P_r10_Snapshot J_r10_Snapshot 84 (bodyOf Try.f17) I_r10_Snapshot E_r10_Snapshot x = F_r10_Snapshot x.1.1.1 x.1.1.2.1 x.1.1.2.2.1 x.1.1.2.2.2.1 x.1.1.2.2.2.2.1 x.1.1.2.2.2.2.2.1 x.1.1.2.2.2.2.2.2.1 x.1.1.2.2.2.2.2.2.2.1 x.1.2.1.1 x.1.2.1.2.1 x.1.2.1.2.2.1 x.1.2.1.2.2.2.1 := by kernel_rfl
noncomputable def e_r10_Snapshot : Fe G := ⟨I_r10_Snapshot, E_r10_Snapshot, fun x => F_r10_Snapshot x.1.1.1 x.1.1.2.1 x.1.1.2.2.1 x.1.1.2.2.2.1 x.1.1.2.2.2.2.1 x.1.1.2.2.2.2.2.1 x.1.1.2.2.2.2.2.2.1 x.1.1.2.2.2.2.2.2.2.1 x.1.2.1.1 x.1.2.1.2.1 x.1.2.1.2.2.1 x.1.2.1.2.2.2.1, Try.f17.results.toList⟩
theorem ok_r10_Snapshot : FnOK Try.prog G 17 e_r10_Snapshot := fn_ok (e := e_r10_Snapshot) sigOK eqOK hmix tT_r10_Snapshot Try.func17 (by kernel_rfl) (by kernel_rfl) rfl (by kernel_rfl) (allAt_zero (Q := fun k c => LoopOK Try.prog G 84 (P_r10_Snapshot k) c) (allAt_of [loopOf (bodyOf Try.f17) 0, loopOf (bodyOf Try.f17) 1] (by kernel_rfl) (allAt_c lk_r10_Snapshot_0 (allAt_c lk_r10_Snapshot_1 allAt_n)))) q_r10_Snapshot
end Go.Ovl
