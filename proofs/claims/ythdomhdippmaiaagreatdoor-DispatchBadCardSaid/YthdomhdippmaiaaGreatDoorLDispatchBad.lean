/- DispatchBad: whatever the input, the law returns true, and leaves its arguments as they were. No condition. -/
import Derived.Test.YthdomhdippmaiaaGreatDoorFns1
import Derived.Test.YthdomhdippmaiaaGreatDoorOvF
import Derived.Test.YthdomhdippmaiaaGreatDoorOvLift
import Derived.Test.YthdomhdippmaiaaGreatDoorRows
import Derived.Test.YthdomhdippmaiaaGreatDoorChecked
import Derived.Test.YthdomhdippmaiaaGreatDoorCards
import Derived.Test.YthdomhdippmaiaaGreatDoorTie
import Derived.Test.YthdomhdippmaiaaGreatDoorAbG
import Derived.Lay
import Derived.SevenTiedAt
set_option maxRecDepth 100000
namespace Go.Proofs.YthdomhdippmaiaaGreatDoor
open Go Go.Ab Go.Ovl Go.RowKit Go.WideShapes Go.ChangeShapes
theorem Tryz.own:ownKnob Tryz.prog.godebug=none:=by kernel_rfl
theorem Tryz.laidOut:laidOutB Tryz.prog=true:=by kernel_rfl
theorem gl_laid {W : World} (hL : laidMetH Tryz.prog [("math/bits.deBruijn32tab", Rows.laid_math_bits_deBruijn32tab)] W) : GlOK Go.Ovl.G (fun b => b < W.heap.size) W.heap := by
 rw [MakeChecks.laidMetH_plain _ _ _ (by kernel_rfl)] at hL
 obtain ⟨ps,⟨g0,t0,cs0,fu0,p0,q0,hg0,ht0,hv0,hd0,_,_⟩,_,_⟩:=hL
 intro g p hp
 obtain rfl := Option.some.inj ((show Tryz.prog.globalNamed "math/bits.deBruijn32tab" = some 0 by kernel_rfl).symm.trans hg0)
 obtain rfl:=Option.some.inj ((show (Tryz.prog.globals[0]?).map (·.type)=some 163 by kernel_rfl).symm.trans ht0)
 by_cases e0:g=0
 ·subst e0
  obtain rfl:=Option.some.inj (hp.symm.trans (show Go.Ovl.G.gl 0=some ⟨163,()⟩ by kernel_rfl))
  exact ny5' (G := Go.Ovl.G) (gt := 163) (gx := ()) (ns := [0, 1, 28, 2, 29, 14, 24, 3, 30, 22, 20, 15, 25, 17, 4, 8, 31, 27, 13, 23, 21, 19, 16, 7, 26, 12, 18, 6, 11, 5, 10, 9]) (e := 5) (k := .u8) (show Tryz.prog.globalNamed "math/bits.deBruijn32tab" = some 0 by kernel_rfl) (by kernel_rfl) (by kernel_rfl) (by kernel_rfl) (by kernel_rfl) (by kernel_rfl) (by kernel_rfl) hv0 hd0
 ·have hn:Go.Ovl.G.gl g=none:=by
   show Go.Ovl.glv g=none
   unfold Go.Ovl.glv
   rw [show Nat.beq g 0=false from Bool.eq_false_iff.2 fun h=>e0 (Nat.eq_of_beq_eq_true h)]
   rfl
  rw [hn] at hp; cases hp
theorem dispatchBad_plain (x:((Int×Int×List (Int)×List (Int)×Int×Int×Unit)×Unit)) (hwf:WfA Go.Ovl.G [.agg (.int .u8 :: .int .u8 :: .ro 5 :: .ro 5 :: .int .u32 :: .int .u32 :: [])] x):Go.Ovl.F_l24_DispatchBad x.1.1 x.1.2.1 x.1.2.2.1 x.1.2.2.2.1 x.1.2.2.2.2.1 x.1.2.2.2.2.2.1=some ((true,()),()):=
 nqv' x.1.1 x.1.2.1 x.1.2.2.1 x.1.2.2.2.1 x.1.2.2.2.2.1 x.1.2.2.2.2.2.1 (wf_u8 (wf_at hwf 0 0 (c:=.sc (.int .u8 x.1.1)) (by kernel_rfl))) (wf_u8 (wf_at hwf 0 1 (c:=.sc (.int .u8 x.1.2.1)) (by kernel_rfl))) (wf_ro (G:=Go.Ovl.G) (t:=5) (Q:=fun (e:Int)=>(0≤e∧e < 256)) (wf_at hwf 0 2 (c:=.ro 5 x.1.2.2.1) (by kernel_rfl)) (fun x hx=>wf_u8 (hx 0 _ rfl))) (wf_ro (G:=Go.Ovl.G) (t:=5) (Q:=fun (e:Int)=>(0≤e∧e < 256)) (wf_at hwf 0 3 (c:=.ro 5 x.1.2.2.2.1) (by kernel_rfl)) (fun x hx=>wf_u8 (hx 0 _ rfl))) (n00' (wf_at hwf 0 4 (c:=.sc (.int .u32 x.1.2.2.2.2.1)) (by kernel_rfl))) (n00' (wf_at hwf 0 5 (c:=.sc (.int .u32 x.1.2.2.2.2.2.1)) (by kernel_rfl)))
theorem dispatchBad_run (x:((Int×Int×List (Int)×List (Int)×Int×Int×Unit)×Unit)):Go.Ovl.e102.F (toTm (G:=Go.Ovl.G) 0 [.agg (.int .u8 :: .int .u8 :: .ro 5 :: .ro 5 :: .int .u32 :: .int .u32 :: [])] x,())=Go.Ovl.F_l24_DispatchBad x.1.1 x.1.2.1 x.1.2.2.1 x.1.2.2.2.1 x.1.2.2.2.2.1 x.1.2.2.2.2.2.1:=by kernel_rfl
theorem dispatchBad_calls (x:((Int×Int×List (Int)×List (Int)×Int×Int×Unit)×Unit)) (hwf:WfA Go.Ovl.G [.agg (.int .u8 :: .int .u8 :: .ro 5 :: .ro 5 :: .int .u32 :: .int .u32 :: [])] x) {W:World} {vals:List Value} (hargs:F2 (Rp Go.Ovl.G (fun _=>none) (fun b=>b < W.heap.size) W.heap) (giveA [.agg (.int .u8 :: .int .u8 :: .ro 5 :: .ro 5 :: .int .u32 :: .int .u32 :: [])] x) vals) (hgl:GlOK Go.Ovl.G (fun b=>b < W.heap.size) W.heap) :
  Calls Tryz.prog 6 vals.toArray W fun e' W'=>e'=.returned (.bool true)∧RowKit.Below W.heap.size W W':=
 n0a' (G:=Go.Ovl.G) (g:=6) (sh:=[.agg (.int .u8 :: .int .u8 :: .ro 5 :: .ro 5 :: .int .u32 :: .int .u32 :: [])]) (E:=Go.Ovl.E102) (F:=Go.Ovl.e102.F) (rs:=Go.Ovl.e102.rs) Go.Ovl.k102 (by kernel_rfl) (x:=x) (y:=((true,()),())) ((dispatchBad_run x).trans (dispatchBad_plain x hwf)) (b:=true) rfl (by kernel_rfl) hgl hargs
set_option maxRecDepth 100000 in
theorem dispatchBad_lifted (os:Os) (started:os.Started) (H:Type) (enc:TypeId×Value→H) :
  ReturnsInHanded {} Tryz.checked os 6 .any (fun w args => (Rows.dispatchBadSpec.pre enc Tryz.prog Tryz.f6 [] false w args ∧ laidMetH Tryz.prog [("math/bits.deBruijn32tab", Rows.laid_math_bits_deBruijn32tab)] w) ∧ sizedMet enc Tryz.prog Tryz.f6 (OpenSpec.ofChange Rows.dispatchBadSpec) false w args) (Rows.dispatchBadSpec.post enc Tryz.prog Tryz.f6 false true false false) := by
 refine returnsInHanded_of_change_and (C := Tryz.checked) (X := fun w _ => laidMetH Tryz.prog [("math/bits.deBruijn32tab", Rows.laid_math_bits_deBruijn32tab)] w) (fun _ _ _ hh h => h.of_heap hh) Tryz.own started (by kernel_rfl) Tryz.func6
  (ChangeSpec.witness_shaped (enc := enc) (C := Tryz.checked) (os := os) (X := fun w _ => laidMetH Tryz.prog [("math/bits.deBruijn32tab", Rows.laid_math_bits_deBruijn32tab)] w) false (World.laidAll Tryz.prog os [("math/bits.deBruijn32tab", Rows.laid_math_bits_deBruijn32tab)]) #[.agg #[(.int .u8 0), (.int .u8 0), (.slice none 0 0), (.slice none 0 0), (.int .u32 0), (.int .u32 0)]] 8 (World.laidAll_os _ _ _)
   (World.shaped_of_ZipB (by kernel_rfl) (by kernel_rfl)) (by kernel_rfl) (by kernel_rfl) (by kernel_rfl)
   (by rw [MakeChecks.laidMetH_plain _ _ _ (by kernel_rfl)]; exact laidMet_laidAll _ (by kernel_rfl) (by kernel_rfl))) ?_
 intro W base args ds gs before hval0 hW hcnd _ hL _
 have hval:∀ (j:Nat) t v,Tryz.f6.params[j]?=some t→args[j]?=some v→Value.okWide Tryz.prog W .any base t v:=hval0
 have hW':=hW
 obtain ⟨p,q,hA0,hV,rfl,hfz,hnd⟩:=hW
 have hA:DataW.TrodAll enc Tryz.prog W 0 (fun _=>true) true Tryz.f6.params.toList args.toList ds p:=hA0
 obtain ⟨rfl,rfl⟩:=trodVars_none hV
 obtain ⟨x,hx,hwf⟩:=nun' Go.Ovl.sigOK Go.Ovl.decOK (r:=.any) (base:=base) _ _ _ _ [.agg (.int .u8 :: .int .u8 :: .ro 5 :: .ro 5 :: .int .u32 :: .int .u32 :: [])] (by kernel_rfl) hA fun j t v ht hv=>hval j t v (by simpa using ht) (by simpa using hv)
 have hcall:=dispatchBad_calls x hwf hx (gl_laid hL)
 refine Calls.mono (show Calls Tryz.prog 6 args W (fun e W'=>e=.returned (.bool true)∧Below W.heap.size W W') from by simpa using hcall) fun e W' ⟨he,hb⟩=>?_
 subst he
 have hlt:∀ y ∈ p++[],y.block < W.heap.size:=fun y hy=>hW'.lt y hy
 have hlt:∀ y ∈ p,y.block < W.heap.size:=fun y hy=>hlt y (by simpa using hy)
 have hlen:ds.length=1:=(no8' _ _ _ _ hA).trans (by kernel_rfl)
 obtain ⟨d0,rfl⟩:=list1 hlen
 refine ⟨_,rfl,nx9' (pa:=p) (pv:=[]) hW' (fun _ _ _=>?_) (fun sp hsp=>?_) (fun _ _=>rfl) (by simp) hb (ok_one (t:=4) (by kernel_rfl) rfl ?_)⟩
 ·exact trodAll_mk1 (shut_bool Tryz.underlying4 true)
 ·exact nnc' Tryz.laidOut _ _ _ _ (by kernel_rfl) hA hb hlt (fun y hy=>hsp y (by simpa using hy))
 ·show Value.okWide Tryz.prog W' .any 0 4 (.bool true)
  simp [Value.okWide,Cell.okWide,Cell.ok,Tryz.underlying4]
theorem dispatchBad_holds:Rows.DispatchBadSaid:=
 OpenClaim.holds_of_wide 6 Tryz.f6 rfl rfl rfl rfl rfl rfl rfl ⟨rfl,rfl,rfl,rfl,rfl⟩ rfl rfl rfl rfl rfl (by kernel_rfl) Tryz.func6 (by kernel_rfl)
  (of_decide_eq_true (by kernel_rfl)) (by unfold Func.isWrapper; rw [if_neg (of_decide_eq_false (by kernel_rfl))]; exact ⟨rfl,rfl⟩)
  (fun os started H enc _=>dispatchBad_lifted os started H enc)
theorem dispatchBad_card:Rows.DispatchBadCardSaid:=
 Claim7.holds_tied_plain_at .later [] [.data] true (true, "1239c7a7b1b4f5bbb05882a5f93f3a81be816a552e068df990b22c91f228d4b9") false dispatchBad_holds (fun _ h => by cases h) (by kernel_rfl) (fun _ h => by cases h) dispatchBad_row_tie rfl ⟨rfl, rfl⟩ (by kernel_rfl) rfl
  (fun f fn hf hfn=>by
   obtain rfl : f = 6 := Option.some.inj ((show Tryz.prog.funcNamed "overlay/overlaylaw24.DispatchBad" = some 6 by kernel_rfl).symm.trans hf) |>.symm
   obtain rfl:fn=Tryz.f6:=(Option.some.inj (Tryz.func6.symm.trans hfn)).symm
   exact ⟨by kernel_rfl,fun j t ht=>by
    have hm:t ∈ [28]:=by
     have h:=Array.mem_of_getElem? ht
     rw [show Tryz.f6.params=#[28] by kernel_rfl] at h
     simpa using h
    have hall:([28].all fun u=>!Tryz.prog.wantsStandIn u)=true:=by kernel_rfl
    exact (show Tryz.prog.wantsStandIn t=false by simpa using List.all_eq_true.1 hall t hm)⟩)
  (by kernel_rfl)
end Go.Proofs.YthdomhdippmaiaaGreatDoor
