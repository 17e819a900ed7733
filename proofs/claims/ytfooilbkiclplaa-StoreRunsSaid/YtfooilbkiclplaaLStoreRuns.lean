/- StoreRuns: whatever the input, the law returns true, and leaves its arguments as they were. No condition. -/
import Derived.Test.YtfooilbkiclplaaFns1
import Derived.Test.YtfooilbkiclplaaOvStoreRuns
import Derived.Test.YtfooilbkiclplaaOvLift
import Derived.Test.YtfooilbkiclplaaRows
import Derived.Test.YtfooilbkiclplaaChecked
namespace Go.Proofs.Ytfooilbkiclplaa
open Go Go.Ab Go.Ovl Go.RowKit Go.WideShapes Go.ChangeShapes
theorem Try.own : ownKnob Try.prog.godebug = none := by kernel_rfl
theorem Try.laidOut : laidOutB Try.prog = true := by kernel_rfl
theorem storeRuns_plain (x : ArgT Go.Ovl.G [.one (.ro 9), .one (.ro 5), .one (.int .u8)]) (hwf : WfA Go.Ovl.G [.one (.ro 9), .one (.ro 5), .one (.int .u8)] x) : Go.Ovl.F_l08_StoreRuns x.1 x.2.1 x.2.2.1 = some ((true, ()), ()) :=
  law_StoreRuns x.1 x.2.1 x.2.2.1 (wf_ro (G := Go.Ovl.G) (t := 9) (Q := fun (e : ByteArray) => (e.size ≤ maxLen)) (hwf _ (.head _) _ (.head _)) (fun x hx => wf_str (hx 0 _ rfl))) (wf_ro (G := Go.Ovl.G) (t := 5) (Q := fun (e : Int) => (0 ≤ e ∧ e < 256)) (hwf _ (.tail _ (.head _)) _ (.head _)) (fun x hx => wf_u8 (hx 0 _ rfl))) (wf_u8 (hwf _ (.tail _ (.tail _ (.head _))) _ (.head _)))
set_option maxRecDepth 100000 in
theorem storeRuns_lifted (os : Os) (started : os.Started) (H : Type) (enc : TypeId × Value → H) :
    ReturnsInHanded {} Try.checked os 6 .any (Rows.storeRunsSpec.pre6 enc Try.prog Try.f6 Rows.storeRunsRow.domain false) (Rows.storeRunsSpec.post enc Try.prog Try.f6 false true false false) := by
  refine returnsInHanded_of_change (C := Try.checked) Try.own started (by kernel_rfl) Try.func6
    (ChangeSpec.witness6 (enc := enc) (C := Try.checked) false ⟨#[], #[(.slice none 0 0), (.slice none 0 0), (.int .u8 0)], []⟩ 8 (by kernel_rfl) (by kernel_rfl) (by kernel_rfl) (by kernel_rfl)) ?_
  intro W base args ds gs before hval0 hW hcnd _
  have hval : ∀ (j : Nat) t v, Try.f6.params[j]? = some t → args[j]? = some v → Value.okWide Try.prog W .any base t v := hval0
  have hW' := hW
  obtain ⟨p, q, hA0, hV, rfl, hfz, hnd⟩ := hW
  have hA : DataW.TrodAll enc Try.prog W 0 (fun _ => true) true Try.f6.params.toList args.toList ds p := hA0
  obtain ⟨rfl, rfl⟩ := trodVars_none hV
  obtain ⟨x, hx, hwf⟩ := open_all Go.Ovl.sigOK Go.Ovl.decOK (r := .any) (base := base) _ _ _ _ [.one (.ro 9), .one (.ro 5), .one (.int .u8)] (by kernel_rfl) hA fun j t v ht hv => hval j t v (by simpa using ht) (by simpa using hv)
  have hcall := law_calls (G := Go.Ovl.G) (g := 6) (sh := [.one (.ro 9), .one (.ro 5), .one (.int .u8)]) (E := Go.Ovl.E_l08_StoreRuns) (F := fun x => Go.Ovl.F_l08_StoreRuns x.1.1 x.1.2.1 x.1.2.2.1) (rs := Try.f6.results.toList) Go.Ovl.ok_l08_StoreRuns (by kernel_rfl) (x := x) (y := ((true, ()), ())) (storeRuns_plain x hwf) (b := true) rfl (by kernel_rfl) hx
  refine Calls.mono (show Calls Try.prog 6 args W (fun e W' => e = .returned (.bool true) ∧ Below W.heap.size W W') from by simpa using hcall) fun e W' ⟨he, hb⟩ => ?_
  subst he
  have hlt : ∀ y ∈ p ++ [], y.block < W.heap.size := fun y hy => hW'.lt y hy
  have hlt : ∀ y ∈ p, y.block < W.heap.size := fun y hy => hlt y (by simpa using hy)
  have hlen : ds.length = 3 := (trodAll_len _ _ _ _ hA).trans (by kernel_rfl)
  obtain ⟨d0, d1, d2, rfl⟩ := list3 hlen
  refine ⟨_, rfl, post_below (pa := p) (pv := []) hW' (fun _ _ _ => ?_) (fun sp hsp => ?_) (fun _ _ => rfl) (by simp) hb (ok_one (t := 4) (by kernel_rfl) rfl ?_)⟩
  · exact trodAll_mk1 (shut_bool Try.underlying4 true)
  · exact trodAll_stays Try.laidOut _ _ _ _ (by kernel_rfl) hA hb hlt (fun y hy => hsp y (by simpa using hy))
  · show Value.okWide Try.prog W' .any 0 4 (.bool true)
    simp [Value.okWide, Cell.okWide, Cell.ok, Try.underlying4]
theorem storeRuns_holds : Rows.StoreRunsSaid :=
  OpenClaim.holds_of_wide 6 Try.f6 rfl rfl rfl rfl rfl rfl rfl ⟨rfl, rfl, rfl, rfl, rfl⟩ rfl rfl rfl rfl rfl (by kernel_rfl) Try.func6 (by kernel_rfl)
    (of_decide_eq_true (by kernel_rfl)) (by unfold Func.isWrapper; rw [if_neg (of_decide_eq_false (by kernel_rfl))]; exact ⟨rfl, rfl⟩)
    (fun os started H enc _ => storeRuns_lifted os started H enc)
end Go.Proofs.Ytfooilbkiclplaa
