/- AssignPlansUpto: whatever the input, the law returns true, and leaves its arguments as they were. Condition: the arguments hold together at most 1048576 values and letters. -/
import Derived.Test.YticbfghinhhgiaaDoorFns1
import Derived.Test.YticbfghinhhgiaaDoorOvAssignPlansUpto
import Derived.Test.YticbfghinhhgiaaDoorOvLift
import Derived.Test.YticbfghinhhgiaaDoorRows
import Derived.Test.YticbfghinhhgiaaDoorChecked
import Derived.Test.YticbfghinhhgiaaDoorCards
import Derived.Test.YticbfghinhhgiaaDoorTie
import Derived.Test.YticbfghinhhgiaaDoorAbG
import Derived.Lay
import Derived.SevenTiedAt
import Derived.Deep.DeepHandedRow
set_option maxRecDepth 100000
namespace Go.Proofs.YticbfghinhhgiaaDoor
open Go Go.Ab Go.Ovl Go.RowKit Go.WideShapes Go.ChangeShapes
theorem Tryd.own : ownKnob Tryd.prog.godebug = none := by kernel_rfl
theorem Tryd.laidOut : laidOutB Tryd.prog = true := by kernel_rfl
theorem gl_laid {W : World} (hL : laidMetH Tryd.prog [("math/bits.deBruijn32tab", Rows.laid_math_bits_deBruijn32tab)] W) : GlOK Go.Ovl.G (fun b => b < W.heap.size) W.heap := by
  rw [MakeChecks.laidMetH_plain _ _ _ (by kernel_rfl)] at hL
  obtain ⟨ps, ⟨g0, t0, cs0, fu0, p0, q0, hg0, ht0, hv0, hd0, _, _⟩, _, _⟩ := hL
  intro g p hp
  obtain rfl := Option.some.inj ((show Tryd.prog.globalNamed "math/bits.deBruijn32tab" = some 0 by kernel_rfl).symm.trans hg0)
  obtain rfl := Option.some.inj ((show (Tryd.prog.globals[0]?).map (·.type) = some 113 by kernel_rfl).symm.trans ht0)
  by_cases e0 : g = 0
  · subst e0
    obtain rfl := Option.some.inj (hp.symm.trans (show Go.Ovl.G.gl 0 = some ⟨113, ()⟩ by kernel_rfl))
    exact rd_of_laid (G := Go.Ovl.G) (gt := 113) (gx := ()) (ns := [0, 1, 28, 2, 29, 14, 24, 3, 30, 22, 20, 15, 25, 17, 4, 8, 31, 27, 13, 23, 21, 19, 16, 7, 26, 12, 18, 6, 11, 5, 10, 9]) (e := 5) (k := .u8) (show Tryd.prog.globalNamed "math/bits.deBruijn32tab" = some 0 by kernel_rfl) (by kernel_rfl) (by kernel_rfl) (by kernel_rfl) (by kernel_rfl) (by kernel_rfl) (by kernel_rfl) hv0 hd0
  · have hn : Go.Ovl.G.gl g = none := by
      show Go.Ovl.glv g = none
      unfold Go.Ovl.glv
      rw [show Nat.beq g 0 = false from Bool.eq_false_iff.2 fun h => e0 (Nat.eq_of_beq_eq_true h)]
      rfl
    rw [hn] at hp; cases hp
/-! ### How long arguments are that are small together -/
theorem up_one {H : Type} (d : DataW H) : 1 ≤ Rows.uptoBulk d := by
  cases d with
  | lit l => cases l <;> simp [Rows.uptoBulk]
  | nil => simp [Rows.uptoBulk]
  | ptr d => simp [Rows.uptoBulk]
  | slice elems spare => simp [Rows.uptoBulk]
  | agg parts => simp [Rows.uptoBulk]
  | iface t d => simp [Rows.uptoBulk]
  | map entries => simp [Rows.uptoBulk]
  | held h => simp [Rows.uptoBulk]
theorem up_len {H : Type} (l : List (DataW H)) : l.length ≤ Rows.uptoBulkAll l := by
  induction l with
  | nil => simp [Rows.uptoBulkAll]
  | cons x r ih => have := up_one x; simp only [Rows.uptoBulkAll, List.length_cons]; omega
theorem up_slice {H : Type} {d : DataW H} {n : Nat} (h : n = 0 ∨ ∃ el sp, d = .slice el sp ∧ el.length = n) : n ≤ Rows.uptoBulk d := by
  rcases h with rfl | ⟨el, sp, rfl, rfl⟩
  · exact Nat.zero_le _
  · have := up_len el
    simp only [Rows.uptoBulk]; omega
theorem assignPlansUpto_up {H : Type} {enc : TypeId × Value → H} {W : World} {vals : List Value} {ds : List (DataW H)} {ps : List MemPlace} (x : (Int × List (Int) × List (Int) × Unit)) (hA : DataW.TrodAll enc Tryd.prog W 0 (fun _ => true) true [5, 22, 22] vals ds ps)
    (hx : F2 (Rp Go.Ovl.G (fun _ => none) (fun b => b < W.heap.size) W.heap) (giveA [.one (.int .u8), .one (.ro 5), .one (.ro 5)] x) vals) (hk : Rows.uptoSmall H ds = true) : x.2.1.length ≤ 1048576 ∧ x.2.2.1.length ≤ 1048576 := by
  obtain ⟨v0, vs0, d0, ds0, p0, q0, rfl, rfl, _, h0, hA⟩ := trodAll_cons hA
  obtain ⟨v1, vs1, d1, ds1, p1, q1, rfl, rfl, _, h1, hA⟩ := trodAll_cons hA
  obtain ⟨v2, vs2, d2, ds2, p2, q2, rfl, rfl, _, h2, hA⟩ := trodAll_cons hA
  have hk := of_decide_eq_true hk
  have b1 := up_slice (slice_len (G := Go.Ovl.G) Tryd.underlying22 h1 (hx.2 1 _ v1 rfl rfl))
  have b2 := up_slice (slice_len (G := Go.Ovl.G) Tryd.underlying22 h2 (hx.2 2 _ v2 rfl rfl))
  simp only [Rows.uptoBulkAll] at hk
  exact ⟨Nat.le_trans b1 (by omega), Nat.le_trans b2 (by omega)⟩
theorem assignPlansUpto_plain (x : (Int × List (Int) × List (Int) × Unit)) (hwf : WfA Go.Ovl.G [.one (.int .u8), .one (.ro 5), .one (.ro 5)] x) (u : x.2.1.length ≤ 1048576 ∧ x.2.2.1.length ≤ 1048576) : Go.Ovl.F_l22_AssignPlans x.1 x.2.1 x.2.2.1 = some ((true, ()), ()) :=
  law_AssignPlansUpto x.1 x.2.1 x.2.2.1 (wf_u8 (wf_at hwf 0 0 (c := .sc (.int .u8 x.1)) (by kernel_rfl))) (wf_ro (G := Go.Ovl.G) (t := 5) (Q := fun (e : Int) => (0 ≤ e ∧ e < 256)) (wf_at hwf 1 0 (c := .ro 5 x.2.1) (by kernel_rfl)) (fun x hx => wf_u8 (hx 0 _ rfl))) (wf_ro (G := Go.Ovl.G) (t := 5) (Q := fun (e : Int) => (0 ≤ e ∧ e < 256)) (wf_at hwf 2 0 (c := .ro 5 x.2.2.1) (by kernel_rfl)) (fun x hx => wf_u8 (hx 0 _ rfl))) u.1 u.2
theorem assignPlansUpto_run (x : (Int × List (Int) × List (Int) × Unit)) : Go.Ovl.e_l22_AssignPlans.F (toTm (G := Go.Ovl.G) 0 [.one (.int .u8), .one (.ro 5), .one (.ro 5)] x, ()) = Go.Ovl.F_l22_AssignPlans x.1 x.2.1 x.2.2.1 := by kernel_rfl
theorem assignPlansUpto_calls (x : (Int × List (Int) × List (Int) × Unit)) (hwf : WfA Go.Ovl.G [.one (.int .u8), .one (.ro 5), .one (.ro 5)] x) (u : x.2.1.length ≤ 1048576 ∧ x.2.2.1.length ≤ 1048576) {W : World} {vals : List Value} (hargs : F2 (Rp Go.Ovl.G (fun _ => none) (fun b => b < W.heap.size) W.heap) (giveA [.one (.int .u8), .one (.ro 5), .one (.ro 5)] x) vals) (hgl : GlOK Go.Ovl.G (fun b => b < W.heap.size) W.heap) :
    Calls Tryd.prog 7 vals.toArray W fun e' W' => e' = .returned (.bool true) ∧ RowKit.Below W.heap.size W W' :=
  law_calls (G := Go.Ovl.G) (g := 7) (sh := [.one (.int .u8), .one (.ro 5), .one (.ro 5)]) (E := Go.Ovl.E_l22_AssignPlans) (F := Go.Ovl.e_l22_AssignPlans.F) (rs := Go.Ovl.e_l22_AssignPlans.rs) Go.Ovl.ok_l22_AssignPlans (by kernel_rfl) (x := x) (y := ((true, ()), ())) ((assignPlansUpto_run x).trans (assignPlansUpto_plain x hwf u)) (b := true) rfl (by kernel_rfl) hgl hargs
theorem assignPlansUpto_reads (os : Os) {H : Type} (enc : TypeId × Value → H) : ∃ places, DataW.whole enc Tryd.prog ((World.laidAll Tryd.prog os [("math/bits.deBruijn32tab", Rows.laid_math_bits_deBruijn32tab)]).forCall (fun _ _ => 0) ⟨#[], #[(.int .u8 0), (.slice none 0 0), (.slice none 0 0)], []⟩).memory Tryd.f7.params.toList Rows.assignPlansSpec.vars false #[(.int .u8 0), (.slice none 0 0), (.slice none 0 0)].toList 8 = some ([.lit (.int .u8 0), .nil, .nil], [], places) :=
  ⟨[], by kernel_rfl⟩
set_option maxRecDepth 100000 in
theorem assignPlansUpto_lifted (os : Os) (started : os.Started) (H : Type) (enc : TypeId × Value → H) (F : Stop.Interp) :
    ReturnsInHanded {} Tryd.checked os 7 .any ((Rows.OpenSpec.upto Rows.assignPlansSpec).preRow enc Tryd.prog Tryd.f7 Rows.assignPlansUptoRow.domain false Rows.assignPlansUptoRow.laid) (((Rows.OpenSpec.upto Rows.assignPlansSpec).at F).post enc Tryd.prog Tryd.f7 false true false false) := by
  obtain ⟨places, hx0⟩ := assignPlansUpto_reads os enc
  refine returnsInHanded_of_row (C := Tryd.checked) (s := Rows.OpenSpec.upto Rows.assignPlansSpec) Tryd.own started (by kernel_rfl) Tryd.func7
    (witness_row_at (enc := enc) (C := Tryd.checked) false (World.laidAll Tryd.prog os [("math/bits.deBruijn32tab", Rows.laid_math_bits_deBruijn32tab)]) #[(.int .u8 0), (.slice none 0 0), (.slice none 0 0)] (World.laidAll_os _ _ _) (by kernel_rfl) (by kernel_rfl) (by kernel_rfl)
      (OpenSpec.preRow_of_cond 8 hx0 (by kernel_rfl) (fun k hk => by cases hk; kernel_rfl) (by kernel_rfl) (show laidMetH Tryd.prog Rows.assignPlansUptoRow.laid _ by rw [show Rows.assignPlansUptoRow.laid = [("math/bits.deBruijn32tab", Rows.laid_math_bits_deBruijn32tab)] from rfl, MakeChecks.laidMetH_plain _ _ _ (by kernel_rfl)]; exact laidMet_laidAll _ (by kernel_rfl) (by kernel_rfl)))) ?_
  intro W base args ds gs before hval0 hW0 _ hcond _ hL _ _
  have hval : ∀ (j : Nat) t v, Tryd.f7.params[j]? = some t → args[j]? = some v → Value.okWide Tryd.prog W .any base t v := hval0
  have hW : DataW.Whole enc Tryd.prog Tryd.f7.params.toList Rows.assignPlansSpec.vars false W args.toList ds gs before := hW0
  have hW' := hW
  obtain ⟨p, q, hA0, hV, rfl, hfz, hnd⟩ := hW
  have hA : DataW.TrodAll enc Tryd.prog W 0 (fun _ => true) true Tryd.f7.params.toList args.toList ds p := hA0
  obtain ⟨rfl, rfl⟩ := trodVars_none hV
  obtain ⟨x, hx, hwf⟩ := open_all Go.Ovl.sigOK Go.Ovl.decOK (r := .any) (base := base) _ _ _ _ [.one (.int .u8), .one (.ro 5), .one (.ro 5)] (by kernel_rfl) hA fun j t v ht hv => hval j t v (by simpa using ht) (by simpa using hv)
  have hup := assignPlansUpto_up x hA hx (by simpa using hcond _ rfl)
  have hcall := assignPlansUpto_calls x hwf hup hx (gl_laid hL)
  refine Calls.mono (show Calls Tryd.prog 7 args W (fun e W' => e = .returned (.bool true) ∧ Below W.heap.size W W') from by simpa using hcall) fun e W' ⟨he, hb⟩ => ?_
  subst he
  have hlt : ∀ y ∈ p ++ [], y.block < W.heap.size := fun y hy => hW'.lt y hy
  have hlt : ∀ y ∈ p, y.block < W.heap.size := fun y hy => hlt y (by simpa using hy)
  have hlen : ds.length = 3 := (trodAll_len _ _ _ _ hA).trans (by kernel_rfl)
  obtain ⟨d0, d1, d2, rfl⟩ := list3 hlen
  refine ⟨_, rfl, post_below (s := Rows.assignPlansSpec) (pa := p) (pv := []) hW' (fun _ _ _ => ?_) (fun sp hsp => ?_) (fun _ _ => rfl) (by simp) hb (ok_one (t := 4) (by kernel_rfl) rfl ?_)⟩
  · exact trodAll_mk1 (shut_bool Tryd.underlying4 true)
  · exact trodAll_stays Tryd.laidOut _ _ _ _ (by kernel_rfl) hA hb hlt (fun y hy => hsp y (by simpa using hy))
  · show Value.okWide Tryd.prog W' .any 0 4 (.bool true)
    simp [Value.okWide, Cell.okWide, Cell.ok, Tryd.underlying4]
theorem assignPlansUpto_holds : Rows.AssignPlansUptoSaid :=
  OpenClaim.holds_of_cond 7 Tryd.f7 rfl rfl rfl rfl rfl rfl rfl ⟨rfl, rfl, rfl, rfl, rfl⟩ rfl rfl rfl rfl rfl (by kernel_rfl) Tryd.func7 (by kernel_rfl)
    (of_decide_eq_true (by kernel_rfl)) (by unfold Func.isWrapper; rw [if_neg (of_decide_eq_false (by kernel_rfl))]; exact ⟨rfl, rfl⟩)
    (fun os started H enc _ F => by rw [OpenClaim.pre_eq_preRow]; exact assignPlansUpto_lifted os started H enc F)
theorem assignPlansUpto_card : Rows.AssignPlansUptoCardSaid :=
  Claim7.holds_tied_plain_at .later [] [.data] true (true, "1233d92e3aea6bb4dd9d125c28f9f68825dfea48d29172fae9bee8380a9291ee") false assignPlansUpto_holds (fun _ h => by cases h) (by kernel_rfl) (fun _ h => by cases h) assignPlansUpto_row_tie rfl ⟨rfl, rfl⟩ (by kernel_rfl) rfl
    (fun f fn hf hfn => by
      obtain rfl : f = 7 := Option.some.inj ((show Tryd.prog.funcNamed "overlay/overlaylaw22.AssignPlans" = some 7 by kernel_rfl).symm.trans hf) |>.symm
      obtain rfl : fn = Tryd.f7 := (Option.some.inj (Tryd.func7.symm.trans hfn)).symm
      exact ⟨by kernel_rfl, fun j t ht => by
        have hm : t ∈ [5, 22, 22] := by
          have h := Array.mem_of_getElem? ht
          rw [show Tryd.f7.params = #[5, 22, 22] by kernel_rfl] at h
          simpa using h
        have hall : ([5, 22, 22].all fun u => !Tryd.prog.wantsStandIn u) = true := by kernel_rfl
        exact (show Tryd.prog.wantsStandIn t = false by simpa using List.all_eq_true.1 hall t hm)⟩)
    (by kernel_rfl)
end Go.Proofs.YticbfghinhhgiaaDoor
