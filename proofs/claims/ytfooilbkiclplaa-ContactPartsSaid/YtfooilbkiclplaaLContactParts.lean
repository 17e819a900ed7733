/- ContactParts: whatever the input, the law returns true, and leaves its arguments as they were. No condition. -/
import Derived.Test.YtfooilbkiclplaaFns1
import Derived.Test.YtfooilbkiclplaaOvContactParts
import Derived.Test.YtfooilbkiclplaaOvLift
import Derived.Test.YtfooilbkiclplaaRows
import Derived.Test.YtfooilbkiclplaaChecked
namespace Go.Proofs.Ytfooilbkiclplaa
open Go Go.Ab Go.Ovl Go.RowKit Go.WideShapes Go.ChangeShapes
theorem Try.own : ownKnob Try.prog.godebug = none := by kernel_rfl
theorem Try.laidOut : laidOutB Try.prog = true := by kernel_rfl
theorem contactParts_plain (x : ArgT Go.Ovl.G [.agg [.int .u32, .bool, .bool, .bool, .bool], .one (.int .i64), .one (.bool)]) (hwf : WfA Go.Ovl.G [.agg [.int .u32, .bool, .bool, .bool, .bool], .one (.int .i64), .one (.bool)] x) : Go.Ovl.F_l04_ContactParts x.1.1 x.1.2.1 x.1.2.2.1 x.1.2.2.2.1 x.1.2.2.2.2.1 x.2.1 x.2.2.1 = some ((true, ()), ()) :=
  law_ContactParts x.1.1 x.1.2.1 x.1.2.2.1 x.1.2.2.2.1 x.1.2.2.2.2.1 x.2.1 x.2.2.1 (wf_u32 (hwf _ (.head _) _ (.head _))) (wf_i64 (hwf _ (.tail _ (.head _)) _ (.head _)))
set_option maxRecDepth 100000 in
theorem contactParts_lifted (os : Os) (started : os.Started) (H : Type) (enc : TypeId × Value → H) :
    ReturnsInHanded {} Try.checked os 7 .any (Rows.contactPartsSpec.pre6 enc Try.prog Try.f7 Rows.contactPartsRow.domain false) (Rows.contactPartsSpec.post enc Try.prog Try.f7 false true false false) := by
  refine returnsInHanded_of_change (C := Try.checked) Try.own started (by kernel_rfl) Try.func7
    (ChangeSpec.witness6 (enc := enc) (C := Try.checked) false ⟨#[], #[.agg #[(.int .u32 0), (.bool false), (.bool false), (.bool false), (.bool false)], (.int .i64 0), (.bool false)], []⟩ 8 (by kernel_rfl) (by kernel_rfl) (by kernel_rfl) (by kernel_rfl)) ?_
  intro W base args ds gs before hval0 hW hcnd _
  have hval : ∀ (j : Nat) t v, Try.f7.params[j]? = some t → args[j]? = some v → Value.okWide Try.prog W .any base t v := hval0
  have hW' := hW
  obtain ⟨p, q, hA0, hV, rfl, hfz, hnd⟩ := hW
  have hA : DataW.TrodAll enc Try.prog W 0 (fun _ => true) true Try.f7.params.toList args.toList ds p := hA0
  obtain ⟨rfl, rfl⟩ := trodVars_none hV
  obtain ⟨x, hx, hwf⟩ := open_all Go.Ovl.sigOK Go.Ovl.decOK (r := .any) (base := base) _ _ _ _ [.agg [.int .u32, .bool, .bool, .bool, .bool], .one (.int .i64), .one (.bool)] (by kernel_rfl) hA fun j t v ht hv => hval j t v (by simpa using ht) (by simpa using hv)
  have hcall := law_calls (G := Go.Ovl.G) (g := 7) (sh := [.agg [.int .u32, .bool, .bool, .bool, .bool], .one (.int .i64), .one (.bool)]) (E := Go.Ovl.E_l04_ContactParts) (F := fun x => Go.Ovl.F_l04_ContactParts x.1.1.1 x.1.1.2.1 x.1.1.2.2.1 x.1.1.2.2.2.1 x.1.1.2.2.2.2.1 x.1.2.1 x.1.2.2.1) (rs := Try.f7.results.toList) Go.Ovl.ok_l04_ContactParts (by kernel_rfl) (x := x) (y := ((true, ()), ())) (contactParts_plain x hwf) (b := true) rfl (by kernel_rfl) hx
  refine Calls.mono (show Calls Try.prog 7 args W (fun e W' => e = .returned (.bool true) ∧ Below W.heap.size W W') from by simpa using hcall) fun e W' ⟨he, hb⟩ => ?_
  subst he
  have hlt : ∀ y ∈ p ++ [], y.block < W.heap.size := fun y hy => hW'.lt y hy
  have hlt : ∀ y ∈ p, y.block < W.heap.size := fun y hy => hlt y (by simpa using hy)
  have hlen : ds.length = 3 := (trodAll_len _ _ _ _ hA).trans (by kernel_rfl)
  obtain ⟨d0, d1, d2, rfl⟩ := list3 hlen
  refine ⟨_, rfl, post_below (pa := p) (pv := []) hW' (fun _ _ _ => ?_) (fun sp hsp => ?_) (fun _ _ => rfl) (by simp) hb (ok_one (t := 4) (by kernel_rfl) rfl ?_)⟩
  · exact trodAll_mk1 (shut_bool Try.underlying4 true)
  · exact trodAll_stays Try.laidOut _ _ _ _ (by kernel_rfl) hA hb hlt (fun y hy => hsp y (by simpa using hy))
  · show Value.okWide Try.prog W' .any 0 4 (.bool true)
    simp [Value.okWide, Cell.okWide, Cell.ok, Try.underlying4]
theorem contactParts_holds : Rows.ContactPartsSaid :=
  OpenClaim.holds_of_wide 7 Try.f7 rfl rfl rfl rfl rfl rfl rfl ⟨rfl, rfl, rfl, rfl, rfl⟩ rfl rfl rfl rfl rfl (by kernel_rfl) Try.func7 (by kernel_rfl)
    (of_decide_eq_true (by kernel_rfl)) (by unfold Func.isWrapper; rw [if_neg (of_decide_eq_false (by kernel_rfl))]; exact ⟨rfl, rfl⟩)
    (fun os started H enc _ => contactParts_lifted os started H enc)
end Go.Proofs.Ytfooilbkiclplaa
