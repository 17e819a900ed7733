/- AuditImages: whatever the input, the law returns true, and leaves its arguments as they were. No condition. -/
import Derived.Test.YthdomhdippmaiaaFns1
import Derived.Test.YthdomhdippmaiaaOvE
import Derived.Test.YthdomhdippmaiaaOvLift
import Derived.Test.YthdomhdippmaiaaRows
import Derived.Test.YthdomhdippmaiaaChecked
set_option maxRecDepth 100000
namespace Go.Proofs.Ythdomhdippmaiaa
open Go Go.Ab Go.Ovl Go.RowKit Go.WideShapes Go.ChangeShapes
theorem Try.own : ownKnob Try.prog.godebug = none := by kernel_rfl
theorem Try.laidOut : laidOutB Try.prog = true := by kernel_rfl
theorem auditImages_plain (x : ((Int × Int × Unit) × List (Int) × (List (Int) × List (Bool) × List (Bool) × List (Entry) × Unit) × Unit)) (hwf : WfA Go.Ovl.G [.agg (.int .u8 :: .int .u8 :: []), .one (.ro 5), .agg (.ro 3 :: .ro 4 :: .ro 4 :: .ro 98 :: [])] x) : Go.Ovl.F_l30_AuditImages x.1.1 x.1.2.1 x.2.1 x.2.2.1.1 x.2.2.1.2.1 x.2.2.1.2.2.1 x.2.2.1.2.2.2.1 = some ((true, ()), ()) :=
  nrp' x.1.1 x.1.2.1 x.2.1 x.2.2.1.1 x.2.2.1.2.1 x.2.2.1.2.2.1 x.2.2.1.2.2.2.1 (wf_u8 (wf_at hwf 0 0 (c := .sc (.int .u8 x.1.1)) (by kernel_rfl))) (wf_u8 (wf_at hwf 0 1 (c := .sc (.int .u8 x.1.2.1)) (by kernel_rfl))) (wf_ro (G := Go.Ovl.G) (t := 5) (Q := fun (e : Int) => (0 ≤ e ∧ e < 256)) (wf_at hwf 1 0 (c := .ro 5 x.2.1) (by kernel_rfl)) (fun x hx => wf_u8 (hx 0 _ rfl))) (wf_ro (G := Go.Ovl.G) (t := 3) (Q := fun (e : Int) => (-9223372036854775808 ≤ e ∧ e < 9223372036854775808)) (wf_at hwf 2 0 (c := .ro 3 x.2.2.1.1) (by kernel_rfl)) (fun x hx => noi' (hx 0 _ rfl))) (wf_ro (G := Go.Ovl.G) (t := 4) (Q := fun (e : Bool) => True) (wf_at hwf 2 1 (c := .ro 4 x.2.2.1.2.1) (by kernel_rfl)) (fun x hx => trivial)) (wf_ro (G := Go.Ovl.G) (t := 4) (Q := fun (e : Bool) => True) (wf_at hwf 2 2 (c := .ro 4 x.2.2.1.2.2.1) (by kernel_rfl)) (fun x hx => trivial)) (wf_ro (G := Go.Ovl.G) (t := 98) (Q := fun (e : Entry) => (-9223372036854775808 ≤ e.Floor ∧ e.Floor < 9223372036854775808) ∧ (-9223372036854775808 ≤ e.Dir ∧ e.Dir < 9223372036854775808) ∧ (-9223372036854775808 ≤ e.Car ∧ e.Car < 9223372036854775808) ∧ (-9223372036854775808 ≤ e.Moves ∧ e.Moves < 9223372036854775808)) (wf_at hwf 2 3 (c := .ro 98 x.2.2.1.2.2.2.1) (by kernel_rfl)) (fun x hx => ⟨noi' (hx 0 _ rfl), noi' (hx 1 _ rfl), noi' (hx 2 _ rfl), noi' (hx 3 _ rfl)⟩))
theorem auditImages_run (x : ((Int × Int × Unit) × List (Int) × (List (Int) × List (Bool) × List (Bool) × List (Entry) × Unit) × Unit)) : Go.Ovl.e90.F (toTm (G := Go.Ovl.G) 0 [.agg (.int .u8 :: .int .u8 :: []), .one (.ro 5), .agg (.ro 3 :: .ro 4 :: .ro 4 :: .ro 98 :: [])] x, ()) = Go.Ovl.F_l30_AuditImages x.1.1 x.1.2.1 x.2.1 x.2.2.1.1 x.2.2.1.2.1 x.2.2.1.2.2.1 x.2.2.1.2.2.2.1 := by kernel_rfl
theorem auditImages_calls (x : ((Int × Int × Unit) × List (Int) × (List (Int) × List (Bool) × List (Bool) × List (Entry) × Unit) × Unit)) (hwf : WfA Go.Ovl.G [.agg (.int .u8 :: .int .u8 :: []), .one (.ro 5), .agg (.ro 3 :: .ro 4 :: .ro 4 :: .ro 98 :: [])] x) {W : World} {vals : List Value} (hargs : F2 (Rp Go.Ovl.G (fun _ => none) (fun b => b < W.heap.size) W.heap) (giveA [.agg (.int .u8 :: .int .u8 :: []), .one (.ro 5), .agg (.ro 3 :: .ro 4 :: .ro 4 :: .ro 98 :: [])] x) vals) :
    Calls Try.prog 3 vals.toArray W fun e' W' => e' = .returned (.bool true) ∧ RowKit.Below W.heap.size W W' :=
  n0m' (G := Go.Ovl.G) (g := 3) (sh := [.agg (.int .u8 :: .int .u8 :: []), .one (.ro 5), .agg (.ro 3 :: .ro 4 :: .ro 4 :: .ro 98 :: [])]) (E := Go.Ovl.E90) (F := Go.Ovl.e90.F) (rs := Go.Ovl.e90.rs) Go.Ovl.k90 (by kernel_rfl) (x := x) (y := ((true, ()), ())) ((auditImages_run x).trans (auditImages_plain x hwf)) (b := true) rfl (by kernel_rfl) (fun _ _ h => by cases h) hargs
set_option maxRecDepth 100000 in
theorem auditImages_lifted (os : Os) (started : os.Started) (H : Type) (enc : TypeId × Value → H) :
    ReturnsInHanded {} Try.checked os 3 .any (Rows.auditImagesSpec.pre6 enc Try.prog Try.f3 Rows.auditImagesRow.domain false) (Rows.auditImagesSpec.post enc Try.prog Try.f3 false true false false) := by
  refine returnsInHanded_of_change (C := Try.checked) Try.own started (by kernel_rfl) Try.func3
    (ChangeSpec.witness6 (enc := enc) (C := Try.checked) false ⟨#[], #[.agg #[(.int .u8 0), (.int .u8 0)], (.slice none 0 0), .agg #[(.slice none 0 0), (.slice none 0 0), (.slice none 0 0), (.slice none 0 0)]], []⟩ 8 (by kernel_rfl) (by kernel_rfl) (by kernel_rfl) (by kernel_rfl)) ?_
  intro W base args ds gs before hval0 hW hcnd _
  have hval : ∀ (j : Nat) t v, Try.f3.params[j]? = some t → args[j]? = some v → Value.okWide Try.prog W .any base t v := hval0
  have hW' := hW
  obtain ⟨p, q, hA0, hV, rfl, hfz, hnd⟩ := hW
  have hA : DataW.TrodAll enc Try.prog W 0 (fun _ => true) true Try.f3.params.toList args.toList ds p := hA0
  obtain ⟨rfl, rfl⟩ := trodVars_none hV
  obtain ⟨x, hx, hwf⟩ := nux' Go.Ovl.sigOK Go.Ovl.decOK (r := .any) (base := base) _ _ _ _ [.agg (.int .u8 :: .int .u8 :: []), .one (.ro 5), .agg (.ro 3 :: .ro 4 :: .ro 4 :: .ro 98 :: [])] (by kernel_rfl) hA fun j t v ht hv => hval j t v (by simpa using ht) (by simpa using hv)
  have hcall := auditImages_calls x hwf hx
  refine Calls.mono (show Calls Try.prog 3 args W (fun e W' => e = .returned (.bool true) ∧ Below W.heap.size W W') from by simpa using hcall) fun e W' ⟨he, hb⟩ => ?_
  subst he
  have hlt : ∀ y ∈ p ++ [], y.block < W.heap.size := fun y hy => hW'.lt y hy
  have hlt : ∀ y ∈ p, y.block < W.heap.size := fun y hy => hlt y (by simpa using hy)
  have hlen : ds.length = 3 := (npn' _ _ _ _ hA).trans (by kernel_rfl)
  obtain ⟨d0, d1, d2, rfl⟩ := list3 hlen
  refine ⟨_, rfl, nyz' (pa := p) (pv := []) hW' (fun _ _ _ => ?_) (fun sp hsp => ?_) (fun _ _ => rfl) (by simp) hb (ok_one (t := 4) (by kernel_rfl) rfl ?_)⟩
  · exact trodAll_mk1 (shut_bool Try.underlying4 true)
  · exact nnp' Try.laidOut _ _ _ _ (by kernel_rfl) hA hb hlt (fun y hy => hsp y (by simpa using hy))
  · show Value.okWide Try.prog W' .any 0 4 (.bool true)
    simp [Value.okWide, Cell.okWide, Cell.ok, Try.underlying4]
theorem auditImages_holds : Rows.AuditImagesSaid :=
  OpenClaim.holds_of_wide 3 Try.f3 rfl rfl rfl rfl rfl rfl rfl ⟨rfl, rfl, rfl, rfl, rfl⟩ rfl rfl rfl rfl rfl (by kernel_rfl) Try.func3 (by kernel_rfl)
    (of_decide_eq_true (by kernel_rfl)) (by unfold Func.isWrapper; rw [if_neg (of_decide_eq_false (by kernel_rfl))]; exact ⟨rfl, rfl⟩)
    (fun os started H enc _ => auditImages_lifted os started H enc)
end Go.Proofs.Ythdomhdippmaiaa
