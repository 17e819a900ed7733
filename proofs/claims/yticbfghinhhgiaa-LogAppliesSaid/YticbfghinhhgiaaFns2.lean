/- The contracts of the program's functions: part 2. -/
import Derived.Test.YticbfghinhhgiaaSig
import Derived.Test.YticbfghinhhgiaaDefs1
import Derived.Test.YticbfghinhhgiaaFns1
namespace Go.Ovl
open Go Go.Ab Go.Proofs
set_option maxRecDepth 100000
/-! ### overlay/overlayref02.Sum8 -/
def I_r02_Sum8 : Ab.Spec := ⟨[(0, .one (.str))], [], []⟩
def E_r02_Sum8 : List (Ex × Ab.Spec) := [(.ret, ⟨[(2, .one (.int .u8))], [], []⟩)]
def J_r02_Sum8 : Nat → Option (List (Ex × Ab.Spec)) := fun n => get [] n
noncomputable def T_r02_Sum8 : List (Nat × Fe G) := []
def S_r02_Sum8_0 : Ab.Spec := ⟨[(0, .one (.str)), (3, .one (.int .i64)), (4, .one (.int .i64))], [], []⟩
def X_r02_Sum8_0 : List (Ex × Ab.Spec) := [(.exit 0, ⟨[(3, .one (.int .i64))], [], []⟩)]
def S_r02_Sum8_1 : Ab.Spec := ⟨[(0, .one (.str)), (3, .one (.int .i64)), (4, .one (.int .i64)), (5, .one (.int .i64))], [], []⟩
def X_r02_Sum8_1 : List (Ex × Ab.Spec) := [(.exit 2, ⟨[(0, .one (.str)), (3, .one (.int .i64)), (4, .one (.int .i64))], [], []⟩)]
noncomputable def P_r02_Sum8 : Nat → St G → M (Ex × St G) := fun n => bif Nat.beq n 0 then lpX S_r02_Sum8_0 X_r02_Sum8_0 L_r02_Sum8_0 else bif Nat.beq n 1 then lpX S_r02_Sum8_1 X_r02_Sum8_1 L_r02_Sum8_1 else fun _ => M.fail
theorem tT_r02_Sum8 : ∀ p ∈ T_r02_Sum8, FnOK Try.prog G p.1 p.2 := (fun _ h => absurd h (List.not_mem_nil))
theorem r_r02_Sum8_1 (x : S_r02_Sum8_1.T G) : rndI (cfP T_r02_Sum8) P_r02_Sum8 J_r02_Sum8 33 2 (loopOf (bodyOf Try.f87) 1) S_r02_Sum8_1 X_r02_Sum8_1 x = R_r02_Sum8_1 x.1.1 x.1.2.1 x.1.2.2.1 x.1.2.2.2.1 := by kernel_rfl
theorem lk_r02_Sum8_1 : LoopOK Try.prog G 33 (P_r02_Sum8 1) (loopOf (bodyOf Try.f87) 1) := loop_ok (lp := P_r02_Sum8) (n := 2) (k := 1) sigOK eqOK hmix tT_r02_Sum8 S_r02_Sum8_1 X_r02_Sum8_1 (fun x => R_r02_Sum8_1 x.1.1 x.1.2.1 x.1.2.2.1 x.1.2.2.2.1) (by kernel_rfl) (show AllAt (fun k c => LoopOK Try.prog G 33 (P_r02_Sum8 k) c) 2 _ from (allAt_of [] (by kernel_rfl) allAt_n)) r_r02_Sum8_1
theorem r_r02_Sum8_0 (x : S_r02_Sum8_0.T G) : rndI (cfP T_r02_Sum8) P_r02_Sum8 J_r02_Sum8 33 1 (loopOf (bodyOf Try.f87) 0) S_r02_Sum8_0 X_r02_Sum8_0 x = R_r02_Sum8_0 x.1.1 x.1.2.1 x.1.2.2.1 := by kernel_rfl
theorem lk_r02_Sum8_0 : LoopOK Try.prog G 33 (P_r02_Sum8 0) (loopOf (bodyOf Try.f87) 0) := loop_ok (lp := P_r02_Sum8) (n := 1) (k := 0) sigOK eqOK hmix tT_r02_Sum8 S_r02_Sum8_0 X_r02_Sum8_0 (fun x => R_r02_Sum8_0 x.1.1 x.1.2.1 x.1.2.2.1) (by kernel_rfl) (show AllAt (fun k c => LoopOK Try.prog G 33 (P_r02_Sum8 k) c) 1 _ from (allAt_of [loopOf (bodyOf Try.f87) 1] (by kernel_rfl) (allAt_c lk_r02_Sum8_1 allAt_n))) r_r02_Sum8_0
theorem q_r02_Sum8 (x : I_r02_Sum8.T G) : endI (cfP T_r02_Sum8) P_r02_Sum8 J_r02_Sum8 33 (bodyOf Try.f87) I_r02_Sum8 E_r02_Sum8 x = F_r02_Sum8 x.1.1 := by kernel_rfl
noncomputable def e_r02_Sum8 : Fe G := ⟨I_r02_Sum8, E_r02_Sum8, fun x => F_r02_Sum8 x.1.1, Try.f87.results.toList⟩
theorem ok_r02_Sum8 : FnOK Try.prog G 87 e_r02_Sum8 := fn_ok (e := e_r02_Sum8) sigOK eqOK hmix tT_r02_Sum8 Try.func87 (by kernel_rfl) (by kernel_rfl) rfl (by kernel_rfl) (allAt_zero (Q := fun k c => LoopOK Try.prog G 33 (P_r02_Sum8 k) c) (allAt_of [loopOf (bodyOf Try.f87) 0, loopOf (bodyOf Try.f87) 1] (by kernel_rfl) (allAt_c lk_r02_Sum8_0 (allAt_c lk_r02_Sum8_1 allAt_n)))) q_r02_Sum8
/-! ### overlay/overlayref09.Encode -/
def I_r09_Encode : Ab.Spec := ⟨[(0, .agg [.int .i64, .int .i64, .int .i64, .int .i64, .flt .f64, .flt .f64, .flt .f64, .ro 100]), (1, .agg [.int .i64, .int .i64, .int .i64, .int .i64, .int .i64])], [], []⟩
def E_r09_Encode : List (Ex × Ab.Spec) := [(.ret, ⟨[(4, .one (.str)), (5, .one (.int .i64))], [], []⟩)]
def J_r09_Encode : Nat → Option (List (Ex × Ab.Spec)) := fun n => get [] n
noncomputable def T_r09_Encode : List (Nat × Fe G) := [(53, e_r09_Valid), (87, e_r02_Sum8)]
noncomputable def P_r09_Encode : Nat → St G → M (Ex × St G) := fun _ _ => M.fail
theorem tT_r09_Encode : ∀ p ∈ T_r09_Encode, FnOK Try.prog G p.1 p.2 := List.forall_mem_cons.2 ⟨ok_r09_Valid, List.forall_mem_cons.2 ⟨ok_r02_Sum8, (fun _ h => absurd h (List.not_mem_nil))⟩⟩
theorem q_r09_Encode (x : I_r09_Encode.T G) : endI (cfP T_r09_Encode) P_r09_Encode J_r09_Encode 35 (bodyOf Try.f62) I_r09_Encode E_r09_Encode x = F_r09_Encode x.1.1.1 x.1.1.2.1 x.1.1.2.2.1 x.1.1.2.2.2.1 x.1.1.2.2.2.2.1 x.1.1.2.2.2.2.2.1 x.1.1.2.2.2.2.2.2.1 x.1.1.2.2.2.2.2.2.2.1 x.1.2.1.1 x.1.2.1.2.1 x.1.2.1.2.2.1 x.1.2.1.2.2.2.1 x.1.2.1.2.2.2.2.1 := by kernel_rfl
noncomputable def e_r09_Encode : Fe G := ⟨I_r09_Encode, E_r09_Encode, fun x => F_r09_Encode x.1.1.1 x.1.1.2.1 x.1.1.2.2.1 x.1.1.2.2.2.1 x.1.1.2.2.2.2.1 x.1.1.2.2.2.2.2.1 x.1.1.2.2.2.2.2.2.1 x.1.1.2.2.2.2.2.2.2.1 x.1.2.1.1 x.1.2.1.2.1 x.1.2.1.2.2.1 x.1.2.1.2.2.2.1 x.1.2.1.2.2.2.2.1, Try.f62.results.toList⟩
theorem ok_r09_Encode : FnOK Try.prog G 62 e_r09_Encode := fn_ok (e := e_r09_Encode) sigOK eqOK hmix tT_r09_Encode Try.func62 (by kernel_rfl) (by kernel_rfl) rfl (by kernel_rfl) (allAt_zero (Q := fun k c => LoopOK Try.prog G 35 (P_r09_Encode k) c) (allAt_of [] (by kernel_rfl) allAt_n)) q_r09_Encode
end Go.Ovl
