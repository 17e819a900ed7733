/- AuditWatches: whatever the input, the law returns true, and leaves its arguments as they were. No condition. -/
import Derived.Test.YtbliagnmhfobmaaGreatFns1
import Derived.Test.YtbliagnmhfobmaaGreatOvK
import Derived.Test.YtbliagnmhfobmaaGreatOvLift
import Derived.Test.YtbliagnmhfobmaaGreatRows
import Derived.Test.YtbliagnmhfobmaaGreatChecked
set_option maxRecDepth 100000
namespace Go.Proofs.YtbliagnmhfobmaaGreat
open Go Go.Ab Go.Ovl Go.RowKit Go.WideShapes Go.ChangeShapes
theorem Tryz.own:ownKnob Tryz.prog.godebug=none:=by kernel_rfl
theorem Tryz.laidOut:laidOutB Tryz.prog=true:=by kernel_rfl
theorem auditWatches_plain (x:((Int×Int×Int×Unit)×List Int×List Outputs×Unit)) (hwf:WfA Go.Ovl.G [.agg (c1 :: c1 :: c1 :: []),.one (cr 5),.one (cr 30)] x):Go.Ovl.F_l30_AuditWatches x.1.1 x.1.2.1 x.1.2.2.1 x.2.1 x.2.2.1=some ((true,()),()):=
 nxa' x.1.1 x.1.2.1 x.1.2.2.1 x.2.1 x.2.2.1 (wf_u8 (wf_at hwf 0 0 (c:=.sc (.int .u8 x.1.1)) (by kernel_rfl))) (wf_u8 (wf_at hwf 0 1 (c:=.sc (.int .u8 x.1.2.1)) (by kernel_rfl))) (wf_u8 (wf_at hwf 0 2 (c:=.sc (.int .u8 x.1.2.2.1)) (by kernel_rfl))) (wf_ro (G:=Go.Ovl.G) (t:=5) (Q:=fun (e:Int)=>(0≤e∧e < 256)) (wf_at hwf 1 0 (c:=.ro 5 x.2.1) (by kernel_rfl)) (fun x hx=>wf_u8 (hx 0 _ rfl))) (wf_ro (G:=Go.Ovl.G) (t:=30) (Q:=fun (e:Outputs)=>(0≤e.I1∧e.I1 < 4294967296)∧(0≤e.B1∧e.B1 < 4294967296)∧(0≤e.C1∧e.C1 < 4294967296)∧(0≤e.W0∧e.W0 < 4294967296)∧(-9223372036854775808≤e.Z1∧e.Z1 < 9223372036854775808)∧(e.A0.length≤maxLen∧∀ d ∈ e.A0,(0≤d.U0∧d.U0 < 4294967296)∧(0≤d.S0∧d.S0 < 4294967296)∧(0≤d.Y1∧d.Y1 < 4294967296)∧(0≤d.P1∧d.P1 < 4294967296)∧(-9223372036854775808≤d.I2∧d.I2 < 9223372036854775808)∧(-9223372036854775808≤d.Y0∧d.Y0 < 9223372036854775808))) (wf_at hwf 2 0 (c:=.ro 30 x.2.2.1) (by kernel_rfl)) (fun x hx=>⟨noh' (hx 0 _ rfl),noh' (hx 1 _ rfl),noh' (hx 2 _ rfl),noh' (hx 3 _ rfl),n3h' (hx 6 _ rfl),wf_ro (G:=Go.Ovl.G) (t:=68) (Q:=fun (d:CarOutput)=>(0≤d.U0∧d.U0 < 4294967296)∧(0≤d.S0∧d.S0 < 4294967296)∧(0≤d.Y1∧d.Y1 < 4294967296)∧(0≤d.P1∧d.P1 < 4294967296)∧(-9223372036854775808≤d.I2∧d.I2 < 9223372036854775808)∧(-9223372036854775808≤d.Y0∧d.Y0 < 9223372036854775808)) (hx 7 _ rfl) (fun y hy=>⟨noh' (hy 0 _ rfl),noh' (hy 1 _ rfl),noh' (hy 3 _ rfl),noh' (hy 4 _ rfl),n3h' (hy 6 _ rfl),n3h' (hy 7 _ rfl)⟩)⟩))
theorem auditWatches_run (x:((Int×Int×Int×Unit)×List Int×List Outputs×Unit)):Go.Ovl.e199.F (toTm (G:=Go.Ovl.G) 0 [.agg (c1 :: c1 :: c1 :: []),.one (cr 5),.one (cr 30)] x,())=Go.Ovl.F_l30_AuditWatches x.1.1 x.1.2.1 x.1.2.2.1 x.2.1 x.2.2.1:=by kernel_rfl
theorem auditWatches_calls (x:((Int×Int×Int×Unit)×List Int×List Outputs×Unit)) (hwf:WfA Go.Ovl.G [.agg (c1 :: c1 :: c1 :: []),.one (cr 5),.one (cr 30)] x) {W:World} {vals:List Value} (hargs:F2 (Rp Go.Ovl.G (fun _=>none) (fun b=>b < W.heap.size) W.heap) (giveA [.agg (c1 :: c1 :: c1 :: []),.one (cr 5),.one (cr 30)] x) vals) :
  Calls Tryz.prog 4 vals.toArray W fun e' W'=>e'=.returned (.bool true)∧RowKit.Below W.heap.size W W':=
 nbbv' (G:=Go.Ovl.G) (g:=4) (sh:=[.agg (c1 :: c1 :: c1 :: []),.one (cr 5),.one (cr 30)]) (E:=Go.Ovl.E199) (F:=Go.Ovl.e199.F) (rs:=Go.Ovl.e199.rs) Go.Ovl.k199 (by kernel_rfl) (x:=x) (y:=((true,()),())) ((auditWatches_run x).trans (auditWatches_plain x hwf)) (b:=true) rfl (by kernel_rfl) (fun _ _ h=>by cases h) hargs
set_option maxRecDepth 100000 in
theorem auditWatches_lifted (os:Os) (started:os.Started) (H:Type) (enc:TypeId×Value→H) :
  ReturnsInHanded {} Tryz.checked os 4 .any (Rows.auditWatchesSpec.pre6 enc Tryz.prog Tryz.f4 Rows.auditWatchesRow.domain false) (Rows.auditWatchesSpec.post enc Tryz.prog Tryz.f4 false true false false):=by
 refine returnsInHanded_of_change (C:=Tryz.checked) Tryz.own started (by kernel_rfl) Tryz.func4
  (ChangeSpec.witness6 (enc:=enc) (C:=Tryz.checked) false ⟨#[],#[.agg #[(.int .u8 0),(.int .u8 0),(.int .u8 0)],(.slice none 0 0),(.slice none 0 0)],[]⟩ 8 (by kernel_rfl) (by kernel_rfl) (by kernel_rfl) (by kernel_rfl)) ?_
 intro W base args ds gs before hval0 hW hcnd _;have hval:∀ (j:Nat) t v,Tryz.f4.params[j]?=some t→args[j]?=some v→Value.okWide Tryz.prog W .any base t v:=hval0;have hW':=hW;obtain ⟨p,q,hA0,hV,rfl,hfz,hnd⟩:=hW;have hA:DataW.TrodAll enc Tryz.prog W 0 (fun _=>true) true Tryz.f4.params.toList args.toList ds p:=hA0
 obtain ⟨rfl,rfl⟩:=trodVars_none hV;obtain ⟨x,hx,hwf⟩:=n4o' Go.Ovl.sigOK Go.Ovl.decOK (r:=.any) (base:=base) _ _ _ _ [.agg (c1 :: c1 :: c1 :: []),.one (cr 5),.one (cr 30)] (by kernel_rfl) hA fun j t v ht hv=>hval j t v (by simpa using ht) (by simpa using hv)
 have hcall:=auditWatches_calls x hwf hx;refine Calls.mono (show Calls Tryz.prog 4 args W (fun e W'=>e=.returned (.bool true)∧Below W.heap.size W W') from by simpa using hcall) fun e W' ⟨he,hb⟩=>?_
 subst he;have hlt:∀ y ∈ p++[],y.block < W.heap.size:=fun y hy=>hW'.lt y hy
 have hlt:∀ y ∈ p,y.block < W.heap.size:=fun y hy=>hlt y (by simpa using hy)
 have hlen:ds.length=3:=(nwb' _ _ _ _ hA).trans (by kernel_rfl)
 obtain ⟨d0,d1,d2,rfl⟩:=list3 hlen;refine ⟨_,rfl,n8p' (pa:=p) (pv:=[]) hW' (fun _ _ _=>?_) (fun sp hsp=>?_) (fun _ _=>rfl) (by simp) hb (ok_one (t:=4) (by kernel_rfl) rfl ?_)⟩
 ·exact trodAll_mk1 (shut_bool Tryz.underlying4 true)
 ·exact ntr' Tryz.laidOut _ _ _ _ (by kernel_rfl) hA hb hlt (fun y hy=>hsp y (by simpa using hy))
 ·show Value.okWide Tryz.prog W' .any 0 4 (.bool true)
  simp [Value.okWide,Cell.okWide,Cell.ok,Tryz.underlying4]
theorem auditWatches_holds:Rows.AuditWatchesSaid:=
 OpenClaim.holds_of_wide 4 Tryz.f4 rfl rfl rfl rfl rfl rfl rfl ⟨rfl,rfl,rfl,rfl,rfl⟩ rfl rfl rfl rfl rfl (by kernel_rfl) Tryz.func4 (by kernel_rfl)
  (of_decide_eq_true (by kernel_rfl)) (by unfold Func.isWrapper; rw [if_neg (of_decide_eq_false (by kernel_rfl))]; exact ⟨rfl,rfl⟩)
  (fun os started H enc _=>auditWatches_lifted os started H enc)
end Go.Proofs.YtbliagnmhfobmaaGreat
