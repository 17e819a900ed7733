/- AssignMoves: whatever the input, the law returns true, and leaves its arguments as they were. No condition. -/
import Derived.Test.YticbfghinhhgiaaDoorFns1
import Derived.Test.YticbfghinhhgiaaDoorOvAssignMoves
import Derived.Test.YticbfghinhhgiaaDoorOvLift
import Derived.Test.YticbfghinhhgiaaDoorRows
import Derived.Test.YticbfghinhhgiaaDoorChecked
import Derived.Test.YticbfghinhhgiaaDoorCards
import Derived.Test.YticbfghinhhgiaaDoorTie
import Derived.Test.YticbfghinhhgiaaDoorAbG
import Derived.Lay
import Derived.SevenTiedAt
set_option maxRecDepth 100000
namespace Go.Proofs.YticbfghinhhgiaaDoor
open Go Go.Ab Go.Ovl Go.RowKit Go.WideShapes Go.ChangeShapes
theorem Tryd.own : ownKnob Tryd.prog.godebug = none := by kernel_rfl
theorem Tryd.laidOut : laidOutB Tryd.prog = true := by kernel_rfl
theorem gl_laid {W : World} (hL : laidMetH Tryd.prog [("math/bits.deBruijn32tab", Rows.laid_math_bits_deBruijn32tab)] W) : GlOK Go.Ovl.G (fun b => b < W.heap.size) W.heap := by
  rw [MakeChecks.laidMetH_plain _ _ _ (by kernel_rfl)] at hL
  obtain ⟨ps, ⟨g0, t0, cs0, fu0, p0, q0, hg0, ht0, hv0, hd0, _, _⟩, _, _⟩ := hL
  intro g p hp
  obtain rfl := Option.some.inj ((show Tryd.prog.globalNamed "math/bits.deBruijn32tab" = some 0 by kernel_rfl).symm.trans hg0)
  obtain rfl := Option.some.inj ((show (Tryd.prog.globals[0]?).map (·.type) = some 113 by kernel_rfl).symm.trans ht0)
  by_cases e0 : g = 0
  · subst e0
    obtain rfl := Option.some.inj (hp.symm.trans (show Go.Ovl.G.gl 0 = some ⟨113, ()⟩ by kernel_rfl))
    exact rd_of_laid (G := Go.Ovl.G) (gt := 113) (gx := ()) (ns := [0, 1, 28, 2, 29, 14, 24, 3, 30, 22, 20, 15, 25, 17, 4, 8, 31, 27, 13, 23, 21, 19, 16, 7, 26, 12, 18, 6, 11, 5, 10, 9]) (e := 5) (k := .u8) (show Tryd.prog.globalNamed "math/bits.deBruijn32tab" = some 0 by kernel_rfl) (by kernel_rfl) (by kernel_rfl) (by kernel_rfl) (by kernel_rfl) (by kernel_rfl) (by kernel_rfl) hv0 hd0
  · have hn : Go.Ovl.G.gl g = none := by
      show Go.Ovl.glv g = none
      unfold Go.Ovl.glv
      rw [show Nat.beq g 0 = false from Bool.eq_false_iff.2 fun h => e0 (Nat.eq_of_beq_eq_true h)]
      rfl
    rw [hn] at hp; cases hp
theorem assignMoves_plain (x : (Int × List (Int) × List (Int) × Unit)) (hwf : WfA Go.Ovl.G [.one (.int .u8), .one (.ro 5), .one (.ro 5)] x) : Go.Ovl.F_l22_AssignMoves x.1 x.2.1 x.2.2.1 = some ((true, ()), ()) :=
  law_AssignMoves x.1 x.2.1 x.2.2.1 (wf_u8 (wf_at hwf 0 0 (c := .sc (.int .u8 x.1)) (by kernel_rfl))) (wf_ro (G := Go.Ovl.G) (t := 5) (Q := fun (e : Int) => (0 ≤ e ∧ e < 256)) (wf_at hwf 1 0 (c := .ro 5 x.2.1) (by kernel_rfl)) (fun x hx => wf_u8 (hx 0 _ rfl))) (wf_ro (G := Go.Ovl.G) (t := 5) (Q := fun (e : Int) => (0 ≤ e ∧ e < 256)) (wf_at hwf 2 0 (c := .ro 5 x.2.2.1) (by kernel_rfl)) (fun x hx => wf_u8 (hx 0 _ rfl)))
theorem assignMoves_run (x : (Int × List (Int) × List (Int) × Unit)) : Go.Ovl.e_l22_AssignMoves.F (toTm (G := Go.Ovl.G) 0 [.one (.int .u8), .one (.ro 5), .one (.ro 5)] x, ()) = Go.Ovl.F_l22_AssignMoves x.1 x.2.1 x.2.2.1 := by kernel_rfl
theorem assignMoves_calls (x : (Int × List (Int) × List (Int) × Unit)) (hwf : WfA Go.Ovl.G [.one (.int .u8), .one (.ro 5), .one (.ro 5)] x) {W : World} {vals : List Value} (hargs : F2 (Rp Go.Ovl.G (fun _ => none) (fun b => b < W.heap.size) W.heap) (giveA [.one (.int .u8), .one (.ro 5), .one (.ro 5)] x) vals) (hgl : GlOK Go.Ovl.G (fun b => b < W.heap.size) W.heap) :
    Calls Tryd.prog 5 vals.toArray W fun e' W' => e' = .returned (.bool true) ∧ RowKit.Below W.heap.size W W' :=
  law_calls (G := Go.Ovl.G) (g := 5) (sh := [.one (.int .u8), .one (.ro 5), .one (.ro 5)]) (E := Go.Ovl.E_l22_AssignMoves) (F := Go.Ovl.e_l22_AssignMoves.F) (rs := Go.Ovl.e_l22_AssignMoves.rs) Go.Ovl.ok_l22_AssignMoves (by kernel_rfl) (x := x) (y := ((true, ()), ())) ((assignMoves_run x).trans (assignMoves_plain x hwf)) (b := true) rfl (by kernel_rfl) hgl hargs
set_option maxRecDepth 100000 in
theorem assignMoves_lifted (os : Os) (started : os.Started) (H : Type) (enc : TypeId × Value → H) :
    ReturnsInHanded {} Tryd.checked os 5 .any (fun w args => (Rows.assignMovesSpec.pre enc Tryd.prog Tryd.f5 [] false w args ∧ laidMetH Tryd.prog [("math/bits.deBruijn32tab", Rows.laid_math_bits_deBruijn32tab)] w) ∧ sizedMet enc Tryd.prog Tryd.f5 (OpenSpec.ofChange Rows.assignMovesSpec) false w args) (Rows.assignMovesSpec.post enc Tryd.prog Tryd.f5 false true false false) := by
  refine returnsInHanded_of_change_and (C := Tryd.checked) (X := fun w _ => laidMetH Tryd.prog [("math/bits.deBruijn32tab", Rows.laid_math_bits_deBruijn32tab)] w) (fun _ _ _ hh h => h.of_heap hh) Tryd.own started (by kernel_rfl) Tryd.func5
    (ChangeSpec.witness_shaped (enc := enc) (C := Tryd.checked) (os := os) (X := fun w _ => laidMetH Tryd.prog [("math/bits.deBruijn32tab", Rows.laid_math_bits_deBruijn32tab)] w) false (World.laidAll Tryd.prog os [("math/bits.deBruijn32tab", Rows.laid_math_bits_deBruijn32tab)]) #[(.int .u8 0), (.slice none 0 0), (.slice none 0 0)] 8 (World.laidAll_os _ _ _)
      (World.shaped_of_ZipB (by kernel_rfl) (by kernel_rfl)) (by kernel_rfl) (by kernel_rfl) (by kernel_rfl)
      (by rw [MakeChecks.laidMetH_plain _ _ _ (by kernel_rfl)]; exact laidMet_laidAll _ (by kernel_rfl) (by kernel_rfl))) ?_
  intro W base args ds gs before hval0 hW hcnd _ hL _
  have hval : ∀ (j : Nat) t v, Tryd.f5.params[j]? = some t → args[j]? = some v → Value.okWide Tryd.prog W .any base t v := hval0
  have hW' := hW
  obtain ⟨p, q, hA0, hV, rfl, hfz, hnd⟩ := hW
  have hA : DataW.TrodAll enc Tryd.prog W 0 (fun _ => true) true Tryd.f5.params.toList args.toList ds p := hA0
  obtain ⟨rfl, rfl⟩ := trodVars_none hV
  obtain ⟨x, hx, hwf⟩ := open_all Go.Ovl.sigOK Go.Ovl.decOK (r := .any) (base := base) _ _ _ _ [.one (.int .u8), .one (.ro 5), .one (.ro 5)] (by kernel_rfl) hA fun j t v ht hv => hval j t v (by simpa using ht) (by simpa using hv)
  have hcall := assignMoves_calls x hwf hx (gl_laid hL)
  refine Calls.mono (show Calls Tryd.prog 5 args W (fun e W' => e = .returned (.bool true) ∧ Below W.heap.size W W') from by simpa using hcall) fun e W' ⟨he, hb⟩ => ?_
  subst he
  have hlt : ∀ y ∈ p ++ [], y.block < W.heap.size := fun y hy => hW'.lt y hy
  have hlt : ∀ y ∈ p, y.block < W.heap.size := fun y hy => hlt y (by simpa using hy)
  have hlen : ds.length = 3 := (trodAll_len _ _ _ _ hA).trans (by kernel_rfl)
  obtain ⟨d0, d1, d2, rfl⟩ := list3 hlen
  refine ⟨_, rfl, post_below (pa := p) (pv := []) hW' (fun _ _ _ => ?_) (fun sp hsp => ?_) (fun _ _ => rfl) (by simp) hb (ok_one (t := 4) (by kernel_rfl) rfl ?_)⟩
  · exact trodAll_mk1 (shut_bool Tryd.underlying4 true)
  · exact trodAll_stays Tryd.laidOut _ _ _ _ (by kernel_rfl) hA hb hlt (fun y hy => hsp y (by simpa using hy))
  · show Value.okWide Tryd.prog W' .any 0 4 (.bool true)
    simp [Value.okWide, Cell.okWide, Cell.ok, Tryd.underlying4]
theorem assignMoves_holds : Rows.AssignMovesSaid :=
  OpenClaim.holds_of_wide 5 Tryd.f5 rfl rfl rfl rfl rfl rfl rfl ⟨rfl, rfl, rfl, rfl, rfl⟩ rfl rfl rfl rfl rfl (by kernel_rfl) Tryd.func5 (by kernel_rfl)
    (of_decide_eq_true (by kernel_rfl)) (by unfold Func.isWrapper; rw [if_neg (of_decide_eq_false (by kernel_rfl))]; exact ⟨rfl, rfl⟩)
    (fun os started H enc _ => assignMoves_lifted os started H enc)
theorem assignMoves_card : Rows.AssignMovesCardSaid :=
  Claim7.holds_tied_plain_at .later [] [.data] true (true, "1233d92e3aea6bb4dd9d125c28f9f68825dfea48d29172fae9bee8380a9291ee") false assignMoves_holds (fun _ h => by cases h) (by kernel_rfl) (fun _ h => by cases h) assignMoves_row_tie rfl ⟨rfl, rfl⟩ (by kernel_rfl) rfl
    (fun f fn hf hfn => by
      obtain rfl : f = 5 := Option.some.inj ((show Tryd.prog.funcNamed "overlay/overlaylaw22.AssignMoves" = some 5 by kernel_rfl).symm.trans hf) |>.symm
      obtain rfl : fn = Tryd.f5 := (Option.some.inj (Tryd.func5.symm.trans hfn)).symm
      exact ⟨by kernel_rfl, fun j t ht => by
        have hm : t ∈ [5, 22, 22] := by
          have h := Array.mem_of_getElem? ht
          rw [show Tryd.f5.params = #[5, 22, 22] by kernel_rfl] at h
          simpa using h
        have hall : ([5, 22, 22].all fun u => !Tryd.prog.wantsStandIn u) = true := by kernel_rfl
        exact (show Tryd.prog.wantsStandIn t = false by simpa using List.all_eq_true.1 hall t hm)⟩)
    (by kernel_rfl)
end Go.Proofs.YticbfghinhhgiaaDoor
