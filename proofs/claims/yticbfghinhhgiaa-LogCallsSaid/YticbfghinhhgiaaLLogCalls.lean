/- LogCalls: whatever the input, the law returns true, and leaves its arguments as they were. No condition. -/
import Derived.Test.YticbfghinhhgiaaFns2
import Derived.Test.YticbfghinhhgiaaOvLogCalls
import Derived.Test.YticbfghinhhgiaaOvLift
import Derived.Test.YticbfghinhhgiaaRows
import Derived.Test.YticbfghinhhgiaaChecked
set_option maxRecDepth 100000
namespace Go.Proofs.Yticbfghinhhgiaa
open Go Go.Ab Go.Ovl Go.RowKit Go.WideShapes Go.ChangeShapes
theorem Try.own : ownKnob Try.prog.godebug = none := by kernel_rfl
theorem Try.laidOut : laidOutB Try.prog = true := by kernel_rfl
theorem logCalls_plain (x : (Int × List (Int) × Unit)) (hwf : WfA Go.Ovl.G [.one (.int .u8), .one (.ro 5)] x) : Go.Ovl.F_l10_LogCalls x.1 x.2.1 = some ((true, ()), ()) :=
  law_LogCalls x.1 x.2.1 (wf_u8 (wf_at hwf 0 0 (c := .sc (.int .u8 x.1)) (by kernel_rfl))) (wf_ro (G := Go.Ovl.G) (t := 5) (Q := fun (e : Int) => (0 ≤ e ∧ e < 256)) (wf_at hwf 1 0 (c := .ro 5 x.2.1) (by kernel_rfl)) (fun x hx => wf_u8 (hx 0 _ rfl)))
theorem logCalls_run (x : (Int × List (Int) × Unit)) : Go.Ovl.e_l10_LogCalls.F (toTm (G := Go.Ovl.G) 0 [.one (.int .u8), .one (.ro 5)] x, ()) = Go.Ovl.F_l10_LogCalls x.1 x.2.1 := by kernel_rfl
theorem logCalls_calls (x : (Int × List (Int) × Unit)) (hwf : WfA Go.Ovl.G [.one (.int .u8), .one (.ro 5)] x) {W : World} {vals : List Value} (hargs : F2 (Rp Go.Ovl.G (fun _ => none) (fun b => b < W.heap.size) W.heap) (giveA [.one (.int .u8), .one (.ro 5)] x) vals) :
    Calls Try.prog 7 vals.toArray W fun e' W' => e' = .returned (.bool true) ∧ RowKit.Below W.heap.size W W' :=
  law_calls (G := Go.Ovl.G) (g := 7) (sh := [.one (.int .u8), .one (.ro 5)]) (E := Go.Ovl.E_l10_LogCalls) (F := Go.Ovl.e_l10_LogCalls.F) (rs := Go.Ovl.e_l10_LogCalls.rs) Go.Ovl.ok_l10_LogCalls (by kernel_rfl) (x := x) (y := ((true, ()), ())) ((logCalls_run x).trans (logCalls_plain x hwf)) (b := true) rfl (by kernel_rfl) (fun _ _ h => by cases h) hargs
set_option maxRecDepth 100000 in
theorem logCalls_lifted (os : Os) (started : os.Started) (H : Type) (enc : TypeId × Value → H) :
    ReturnsInHanded {} Try.checked os 7 .any (Rows.logCallsSpec.pre6 enc Try.prog Try.f7 Rows.logCallsRow.domain false) (Rows.logCallsSpec.post enc Try.prog Try.f7 false true false false) := by
  refine returnsInHanded_of_change (C := Try.checked) Try.own started (by kernel_rfl) Try.func7
    (ChangeSpec.witness6 (enc := enc) (C := Try.checked) false ⟨#[], #[(.int .u8 0), (.slice none 0 0)], []⟩ 8 (by kernel_rfl) (by kernel_rfl) (by kernel_rfl) (by kernel_rfl)) ?_
  intro W base args ds gs before hval0 hW hcnd _
  have hval : ∀ (j : Nat) t v, Try.f7.params[j]? = some t → args[j]? = some v → Value.okWide Try.prog W .any base t v := hval0
  have hW' := hW
  obtain ⟨p, q, hA0, hV, rfl, hfz, hnd⟩ := hW
  have hA : DataW.TrodAll enc Try.prog W 0 (fun _ => true) true Try.f7.params.toList args.toList ds p := hA0
  obtain ⟨rfl, rfl⟩ := trodVars_none hV
  obtain ⟨x, hx, hwf⟩ := open_all Go.Ovl.sigOK Go.Ovl.decOK (r := .any) (base := base) _ _ _ _ [.one (.int .u8), .one (.ro 5)] (by kernel_rfl) hA fun j t v ht hv => hval j t v (by simpa using ht) (by simpa using hv)
  have hcall := logCalls_calls x hwf hx
  refine Calls.mono (show Calls Try.prog 7 args W (fun e W' => e = .returned (.bool true) ∧ Below W.heap.size W W') from by simpa using hcall) fun e W' ⟨he, hb⟩ => ?_
  subst he
  have hlt : ∀ y ∈ p ++ [], y.block < W.heap.size := fun y hy => hW'.lt y hy
  have hlt : ∀ y ∈ p, y.block < W.heap.size := fun y hy => hlt y (by simpa using hy)
  have hlen : ds.length = 2 := (trodAll_len _ _ _ _ hA).trans (by kernel_rfl)
  obtain ⟨d0, d1, rfl⟩ := list2 hlen
  refine ⟨_, rfl, post_below (pa := p) (pv := []) hW' (fun _ _ _ => ?_) (fun sp hsp => ?_) (fun _ _ => rfl) (by simp) hb (ok_one (t := 4) (by kernel_rfl) rfl ?_)⟩
  · exact trodAll_mk1 (shut_bool Try.underlying4 true)
  · exact trodAll_stays Try.laidOut _ _ _ _ (by kernel_rfl) hA hb hlt (fun y hy => hsp y (by simpa using hy))
  · show Value.okWide Try.prog W' .any 0 4 (.bool true)
    simp [Value.okWide, Cell.okWide, Cell.ok, Try.underlying4]
theorem logCalls_holds : Rows.LogCallsSaid :=
  OpenClaim.holds_of_wide 7 Try.f7 rfl rfl rfl rfl rfl rfl rfl ⟨rfl, rfl, rfl, rfl, rfl⟩ rfl rfl rfl rfl rfl (by kernel_rfl) Try.func7 (by kernel_rfl)
    (of_decide_eq_true (by kernel_rfl)) (by unfold Func.isWrapper; rw [if_neg (of_decide_eq_false (by kernel_rfl))]; exact ⟨rfl, rfl⟩)
    (fun os started H enc _ => logCalls_lifted os started H enc)
end Go.Proofs.Yticbfghinhhgiaa
