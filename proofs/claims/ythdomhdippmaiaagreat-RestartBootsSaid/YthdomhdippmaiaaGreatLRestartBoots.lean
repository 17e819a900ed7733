/- RestartBoots: whatever the input, the law returns true, and leaves its arguments as they were. No condition. -/
import Derived.Test.YthdomhdippmaiaaGreatFns1
import Derived.Test.YthdomhdippmaiaaGreatOvRestartBoots
import Derived.Test.YthdomhdippmaiaaGreatOvLift
import Derived.Test.YthdomhdippmaiaaGreatRows
import Derived.Test.YthdomhdippmaiaaGreatChecked
set_option maxRecDepth 100000
namespace Go.Proofs.YthdomhdippmaiaaGreat
open Go Go.Ab Go.Ovl Go.RowKit Go.WideShapes Go.ChangeShapes
theorem Tryz.own : ownKnob Tryz.prog.godebug = none := by kernel_rfl
theorem Tryz.laidOut : laidOutB Tryz.prog = true := by kernel_rfl
theorem restartBoots_plain (x : ((Int × Int × Int × Unit) × List (Int) × (ByteArray × ByteArray × Int × Unit) × Unit)) (hwf : WfA Go.Ovl.G [.agg (.int .u8 :: .int .u8 :: .int .u8 :: []), .one (.ro 5), .agg (.str :: .str :: .int .i64 :: [])] x) : Go.Ovl.F_l26_RestartBoots x.1.1 x.1.2.1 x.1.2.2.1 x.2.1 x.2.2.1.1 x.2.2.1.2.1 x.2.2.1.2.2.1 = some ((true, ()), ()) :=
  nrs' x.1.1 x.1.2.1 x.1.2.2.1 x.2.1 x.2.2.1.1 x.2.2.1.2.1 x.2.2.1.2.2.1 (wf_u8 (wf_at hwf 0 0 (c := .sc (.int .u8 x.1.1)) (by kernel_rfl))) (wf_u8 (wf_at hwf 0 1 (c := .sc (.int .u8 x.1.2.1)) (by kernel_rfl))) (wf_u8 (wf_at hwf 0 2 (c := .sc (.int .u8 x.1.2.2.1)) (by kernel_rfl))) (wf_ro (G := Go.Ovl.G) (t := 5) (Q := fun (e : Int) => (0 ≤ e ∧ e < 256)) (wf_at hwf 1 0 (c := .ro 5 x.2.1) (by kernel_rfl)) (fun x hx => wf_u8 (hx 0 _ rfl))) (n2y' (wf_at hwf 2 0 (c := .sc (.string x.2.2.1.1)) (by kernel_rfl))) (n2y' (wf_at hwf 2 1 (c := .sc (.string x.2.2.1.2.1)) (by kernel_rfl))) (n5t' (wf_at hwf 2 2 (c := .sc (.int .i64 x.2.2.1.2.2.1)) (by kernel_rfl)))
theorem restartBoots_run (x : ((Int × Int × Int × Unit) × List (Int) × (ByteArray × ByteArray × Int × Unit) × Unit)) : Go.Ovl.e131.F (toTm (G := Go.Ovl.G) 0 [.agg (.int .u8 :: .int .u8 :: .int .u8 :: []), .one (.ro 5), .agg (.str :: .str :: .int .i64 :: [])] x, ()) = Go.Ovl.F_l26_RestartBoots x.1.1 x.1.2.1 x.1.2.2.1 x.2.1 x.2.2.1.1 x.2.2.1.2.1 x.2.2.1.2.2.1 := by kernel_rfl
theorem restartBoots_calls (x : ((Int × Int × Int × Unit) × List (Int) × (ByteArray × ByteArray × Int × Unit) × Unit)) (hwf : WfA Go.Ovl.G [.agg (.int .u8 :: .int .u8 :: .int .u8 :: []), .one (.ro 5), .agg (.str :: .str :: .int .i64 :: [])] x) {W : World} {vals : List Value} (hargs : F2 (Rp Go.Ovl.G (fun _ => none) (fun b => b < W.heap.size) W.heap) (giveA [.agg (.int .u8 :: .int .u8 :: .int .u8 :: []), .one (.ro 5), .agg (.str :: .str :: .int .i64 :: [])] x) vals) :
    Calls Tryz.prog 3 vals.toArray W fun e' W' => e' = .returned (.bool true) ∧ RowKit.Below W.heap.size W W' :=
  n2c' (G := Go.Ovl.G) (g := 3) (sh := [.agg (.int .u8 :: .int .u8 :: .int .u8 :: []), .one (.ro 5), .agg (.str :: .str :: .int .i64 :: [])]) (E := Go.Ovl.E131) (F := Go.Ovl.e131.F) (rs := Go.Ovl.e131.rs) Go.Ovl.k131 (by kernel_rfl) (x := x) (y := ((true, ()), ())) ((restartBoots_run x).trans (restartBoots_plain x hwf)) (b := true) rfl (by kernel_rfl) (fun _ _ h => by cases h) hargs
set_option maxRecDepth 100000 in
theorem restartBoots_lifted (os : Os) (started : os.Started) (H : Type) (enc : TypeId × Value → H) :
    ReturnsInHanded {} Tryz.checked os 3 .any (Rows.restartBootsSpec.pre6 enc Tryz.prog Tryz.f3 Rows.restartBootsRow.domain false) (Rows.restartBootsSpec.post enc Tryz.prog Tryz.f3 false true false false) := by
  refine returnsInHanded_of_change (C := Tryz.checked) Tryz.own started (by kernel_rfl) Tryz.func3
    (ChangeSpec.witness6 (enc := enc) (C := Tryz.checked) false ⟨#[], #[.agg #[(.int .u8 0), (.int .u8 0), (.int .u8 0)], (.slice none 0 0), .agg #[(.string ⟨#[]⟩), (.string ⟨#[]⟩), (.int .i64 0)]], []⟩ 8 (by kernel_rfl) (by kernel_rfl) (by kernel_rfl) (by kernel_rfl)) ?_
  intro W base args ds gs before hval0 hW hcnd _
  have hval : ∀ (j : Nat) t v, Tryz.f3.params[j]? = some t → args[j]? = some v → Value.okWide Tryz.prog W .any base t v := hval0
  have hW' := hW
  obtain ⟨p, q, hA0, hV, rfl, hfz, hnd⟩ := hW
  have hA : DataW.TrodAll enc Tryz.prog W 0 (fun _ => true) true Tryz.f3.params.toList args.toList ds p := hA0
  obtain ⟨rfl, rfl⟩ := trodVars_none hV
  obtain ⟨x, hx, hwf⟩ := nx5' Go.Ovl.sigOK Go.Ovl.decOK (r := .any) (base := base) _ _ _ _ [.agg (.int .u8 :: .int .u8 :: .int .u8 :: []), .one (.ro 5), .agg (.str :: .str :: .int .i64 :: [])] (by kernel_rfl) hA fun j t v ht hv => hval j t v (by simpa using ht) (by simpa using hv)
  have hcall := restartBoots_calls x hwf hx
  refine Calls.mono (show Calls Tryz.prog 3 args W (fun e W' => e = .returned (.bool true) ∧ Below W.heap.size W W') from by simpa using hcall) fun e W' ⟨he, hb⟩ => ?_
  subst he
  have hlt : ∀ y ∈ p ++ [], y.block < W.heap.size := fun y hy => hW'.lt y hy
  have hlt : ∀ y ∈ p, y.block < W.heap.size := fun y hy => hlt y (by simpa using hy)
  have hlen : ds.length = 3 := (nrc' _ _ _ _ hA).trans (by kernel_rfl)
  obtain ⟨d0, d1, d2, rfl⟩ := list3 hlen
  refine ⟨_, rfl, nz8' (pa := p) (pv := []) hW' (fun _ _ _ => ?_) (fun sp hsp => ?_) (fun _ _ => rfl) (by simp) hb (ok_one (t := 4) (by kernel_rfl) rfl ?_)⟩
  · exact trodAll_mk1 (shut_bool Tryz.underlying4 true)
  · exact npb' Tryz.laidOut _ _ _ _ (by kernel_rfl) hA hb hlt (fun y hy => hsp y (by simpa using hy))
  · show Value.okWide Tryz.prog W' .any 0 4 (.bool true)
    simp [Value.okWide, Cell.okWide, Cell.ok, Tryz.underlying4]
theorem restartBoots_holds : Rows.RestartBootsSaid :=
  OpenClaim.holds_of_wide 3 Tryz.f3 rfl rfl rfl rfl rfl rfl rfl ⟨rfl, rfl, rfl, rfl, rfl⟩ rfl rfl rfl rfl rfl (by kernel_rfl) Tryz.func3 (by kernel_rfl)
    (of_decide_eq_true (by kernel_rfl)) (by unfold Func.isWrapper; rw [if_neg (of_decide_eq_false (by kernel_rfl))]; exact ⟨rfl, rfl⟩)
    (fun os started H enc _ => restartBoots_lifted os started H enc)
end Go.Proofs.YthdomhdippmaiaaGreat
