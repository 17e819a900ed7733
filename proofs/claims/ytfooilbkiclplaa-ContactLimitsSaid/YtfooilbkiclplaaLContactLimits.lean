/- ContactLimits: whatever the input, the law returns true, and leaves its arguments as they were. No condition. -/
import Derived.Test.YtfooilbkiclplaaFns1
import Derived.Test.YtfooilbkiclplaaOvContactLimits
import Derived.Test.YtfooilbkiclplaaOvLift
import Derived.Test.YtfooilbkiclplaaRows
import Derived.Test.YtfooilbkiclplaaChecked
namespace Go.Proofs.Ytfooilbkiclplaa
open Go Go.Ab Go.Ovl Go.RowKit Go.WideShapes Go.ChangeShapes
theorem Try.own : ownKnob Try.prog.godebug = none := by kernel_rfl
theorem Try.laidOut : laidOutB Try.prog = true := by kernel_rfl
theorem contactLimits_plain (x : ArgT Go.Ovl.G [.one (.int .u8)]) (hwf : WfA Go.Ovl.G [.one (.int .u8)] x) : Go.Ovl.F_l04_ContactLimits x.1 = some ((true, ()), ()) :=
  law_ContactLimits x.1 (wf_u8 (hwf _ (.head _) _ (.head _)))
set_option maxRecDepth 100000 in
theorem contactLimits_lifted (os : Os) (started : os.Started) (H : Type) (enc : TypeId × Value → H) :
    ReturnsInHanded {} Try.checked os 11 .any (Rows.contactLimitsSpec.pre6 enc Try.prog Try.f11 Rows.contactLimitsRow.domain false) (Rows.contactLimitsSpec.post enc Try.prog Try.f11 false true false false) := by
  refine returnsInHanded_of_change (C := Try.checked) Try.own started (by kernel_rfl) Try.func11
    (ChangeSpec.witness6 (enc := enc) (C := Try.checked) false ⟨#[], #[(.int .u8 0)], []⟩ 8 (by kernel_rfl) (by kernel_rfl) (by kernel_rfl) (by kernel_rfl)) ?_
  intro W base args ds gs before hval0 hW hcnd _
  have hval : ∀ (j : Nat) t v, Try.f11.params[j]? = some t → args[j]? = some v → Value.okWide Try.prog W .any base t v := hval0
  have hW' := hW
  obtain ⟨p, q, hA0, hV, rfl, hfz, hnd⟩ := hW
  have hA : DataW.TrodAll enc Try.prog W 0 (fun _ => true) true Try.f11.params.toList args.toList ds p := hA0
  obtain ⟨rfl, rfl⟩ := trodVars_none hV
  obtain ⟨x, hx, hwf⟩ := open_all Go.Ovl.sigOK Go.Ovl.decOK (r := .any) (base := base) _ _ _ _ [.one (.int .u8)] (by kernel_rfl) hA fun j t v ht hv => hval j t v (by simpa using ht) (by simpa using hv)
  have hcall := law_calls (G := Go.Ovl.G) (g := 11) (sh := [.one (.int .u8)]) (E := Go.Ovl.E_l04_ContactLimits) (F := fun x => Go.Ovl.F_l04_ContactLimits x.1.1) (rs := Try.f11.results.toList) Go.Ovl.ok_l04_ContactLimits (by kernel_rfl) (x := x) (y := ((true, ()), ())) (contactLimits_plain x hwf) (b := true) rfl (by kernel_rfl) hx
  refine Calls.mono (show Calls Try.prog 11 args W (fun e W' => e = .returned (.bool true) ∧ Below W.heap.size W W') from by simpa using hcall) fun e W' ⟨he, hb⟩ => ?_
  subst he
  have hlt : ∀ y ∈ p ++ [], y.block < W.heap.size := fun y hy => hW'.lt y hy
  have hlt : ∀ y ∈ p, y.block < W.heap.size := fun y hy => hlt y (by simpa using hy)
  have hlen : ds.length = 1 := (trodAll_len _ _ _ _ hA).trans (by kernel_rfl)
  obtain ⟨d0, rfl⟩ := list1 hlen
  refine ⟨_, rfl, post_below (pa := p) (pv := []) hW' (fun _ _ _ => ?_) (fun sp hsp => ?_) (fun _ _ => rfl) (by simp) hb (ok_one (t := 4) (by kernel_rfl) rfl ?_)⟩
  · exact trodAll_mk1 (shut_bool Try.underlying4 true)
  · exact trodAll_stays Try.laidOut _ _ _ _ (by kernel_rfl) hA hb hlt (fun y hy => hsp y (by simpa using hy))
  · show Value.okWide Try.prog W' .any 0 4 (.bool true)
    simp [Value.okWide, Cell.okWide, Cell.ok, Try.underlying4]
theorem contactLimits_holds : Rows.ContactLimitsSaid :=
  OpenClaim.holds_of_wide 11 Try.f11 rfl rfl rfl rfl rfl rfl rfl ⟨rfl, rfl, rfl, rfl, rfl⟩ rfl rfl rfl rfl rfl (by kernel_rfl) Try.func11 (by kernel_rfl)
    (of_decide_eq_true (by kernel_rfl)) (by unfold Func.isWrapper; rw [if_neg (of_decide_eq_false (by kernel_rfl))]; exact ⟨rfl, rfl⟩)
    (fun os started H enc _ => contactLimits_lifted os started H enc)
end Go.Proofs.Ytfooilbkiclplaa
