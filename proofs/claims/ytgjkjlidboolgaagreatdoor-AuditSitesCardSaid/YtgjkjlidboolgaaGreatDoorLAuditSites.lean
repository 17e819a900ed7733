import Derived.Test.YtgjkjlidboolgaaGreatDoorFns1
import Derived.Test.YtgjkjlidboolgaaGreatDoorOvD
import Derived.Test.YtgjkjlidboolgaaGreatDoorOvLift
import Derived.Test.YtgjkjlidboolgaaGreatDoorRows
import Derived.Test.YtgjkjlidboolgaaGreatDoorChecked
import Derived.Test.YtgjkjlidboolgaaGreatDoorCards
import Derived.Test.YtgjkjlidboolgaaGreatDoorTie
import Derived.Test.YtgjkjlidboolgaaGreatDoorAbC
import Derived.Lay
import Derived.SevenTiedAt
set_option linter.all false
open Bool renaming true->A
set_option maxRecDepth 100000
namespace Go.Proofs.YtgjkjlidboolgaaGreatDoor
open Go Go.Ab Go.Ovl Go.RowKit Go.WideShapes Go.ChangeShapes
theorem Tryz.own:ownKnob Tryz.prog.godebug=none:=κ
theorem Tryz.laidOut:laidOutB Tryz.prog=A:=κ
theorem gl_laid {W : World} (hL : laidMetH Tryz.prog [("math/bits.deBruijn32tab", Rows.laid_math_bits_deBruijn32tab)] W) : GlOK Go.Ovl.G (λb => b < W.heap.size) W.heap := by
 rw[MakeChecks.laidMetH_plain _ _ _ κ]at hL;obtain⟨ps,⟨g0,t0,cs0,fu0,p0,q0,hg0,ht0,hv0,hd0,_,_⟩,_,_⟩:=hL;intro g p hp;obtain rfl := F_ ((show Tryz.prog.globalNamed "math/bits.deBruijn32tab" = some 1 by kernel_rfl).symm.trans hg0);obtain rfl:=F_ ((show(Tryz.prog.globals[1]?).map (·.type)=some 441 by kernel_rfl).symm.trans ht0);by_cases e0:g=1
 .subst e0;obtain rfl:=F_ (hp.symm.trans (show Go.Ovl.G.gl 1=some ⟨441,()⟩by kernel_rfl));exact Av8 (G := Go.Ovl.G) (gt := 441) (gx := ()) (ns := [0, 1, 28, 2, 29, 14, 24, 3, 30, 22, 20, 15, 25, 17, 4, 8, 31, 27, 13, 23, 21, 19, 16, 7, 26, 12, 18, 6, 11, 5, 10, 9]) (e := 5) (k := .u8) (show Tryz.prog.globalNamed "math/bits.deBruijn32tab" = some 1 by kernel_rfl) κ κ κ κ κ κ hv0 hd0
 .have hn:Go.Ovl.G.gl g=none:=by
   show Go.Ovl.glv g=none;unfold Go.Ovl.glv;rw[show Nat.beq g 1=false from Bool.eq_false_iff.2 λh=>e0 (d2_ h)];rfl
  rw[hn]at hp;cases hp
theorem auditSites_plain(x:((Int×Int×Int×Unit)×List Int×Unit))(hwf:WfA Go.Ovl.G [.agg (c1::c1::c1::[]),.one (cr 5)] x):Go.Ovl.F_l30_AuditSites x.1.1 x.1.2.1 x.1.2.2.1 x.2.1=some ((A,()),()):=Ah1 x.1.1 x.1.2.1 x.1.2.2.1 x.2.1 (Al7 (Al6 hwf 0 0 (c:=.sc (.int .u8 x.1.1)) κ)) (Al7 (Al6 hwf 0 1 (c:=.sc (.int .u8 x.1.2.1)) κ)) (Al7 (Al6 hwf 0 2 (c:=.sc (.int .u8 x.1.2.2.1)) κ)) (Bxd (G:=Go.Ovl.G) (t:=5) (Q:=λ(e:Int)=>(0<=e/\e<256)) (Al6 hwf 1 0 (c:=.ro 5 x.2.1) κ) (λx hx=>Al7 (hx 0 _ rfl)))
theorem auditSites_run(x:((Int×Int×Int×Unit)×List Int×Unit)):Go.Ovl.e323.F (Va (G:=Go.Ovl.G) 0 [.agg (c1::c1::c1::[]),.one (cr 5)] x,())=Go.Ovl.F_l30_AuditSites x.1.1 x.1.2.1 x.1.2.2.1 x.2.1:=κ
theorem auditSites_calls(x:((Int×Int×Int×Unit)×List Int×Unit))(hwf:WfA Go.Ovl.G [.agg (c1::c1::c1::[]),.one (cr 5)] x){W:World}{vals:List Value}(hargs:F2 (Rp Go.Ovl.G (λ_=>none) (λb=>b<W.heap.size) W.heap) (Nd [.agg (c1::c1::c1::[]),.one (cr 5)] x) vals)(hgl:GlOK Go.Ovl.G (λb=>b<W.heap.size) W.heap) :
  Calls Tryz.prog 3 vals.toArray W λe' W'=>e'=.returned (.bool A)/\RowKit.Below W.heap.size W W':=
 Bb4 (G:=Go.Ovl.G) (g:=3) (sh:=[.agg (c1::c1::c1::[]),.one (cr 5)]) (E:=Go.Ovl.E323) (F:=Go.Ovl.e323.F) (rs:=Go.Ovl.e323.rs) Go.Ovl.k323 κ (x:=x) (y:=((A,()),())) ((auditSites_run x).trans (auditSites_plain x hwf)) (b:=A) rfl κ hgl hargs
set_option maxRecDepth 100000 in
theorem auditSites_lifted(os:Os)(started:os.Started)(H:Type)(enc:TypeId×Value->H) :
  ReturnsInHanded {} Tryz.checked os 3 .any (λw args => (Rows.auditSitesSpec.pre enc Tryz.prog Tryz.f3 [] false w args /\ laidMetH Tryz.prog [("math/bits.deBruijn32tab", Rows.laid_math_bits_deBruijn32tab)] w) /\ sizedMet enc Tryz.prog Tryz.f3 (OpenSpec.ofChange Rows.auditSitesSpec) false w args) (Rows.auditSitesSpec.post enc Tryz.prog Tryz.f3 false A false false) := by
 refine returnsInHanded_of_change_and (C := Tryz.checked) (X := λw _ => laidMetH Tryz.prog [("math/bits.deBruijn32tab", Rows.laid_math_bits_deBruijn32tab)] w) (λ_ _ _ hh h => h.of_heap hh) Tryz.own started κ Tryz.func3
  (ChangeSpec.witness_shaped (enc := enc) (C := Tryz.checked) (os := os) (X := λw _ => laidMetH Tryz.prog [("math/bits.deBruijn32tab", Rows.laid_math_bits_deBruijn32tab)] w) false (World.laidAll Tryz.prog os [("math/bits.deBruijn32tab", Rows.laid_math_bits_deBruijn32tab)]) #[.agg #[(.int .u8 0), (.int .u8 0), (.int .u8 0)], (.slice none 0 0)] 8 (World.laidAll_os _ _ _)
   (World.shaped_of_ZipB κ κ) κ κ κ
   (by rw[MakeChecks.laidMetH_plain _ _ _ κ];exact laidMet_laidAll _ κ κ)) ?_
 intro W base args ds gs before hval0 hW hcnd _ hL _;have hval:∀(j:Nat) t v,Tryz.f3.params[j]?=some t->args[j]?=some v->Value.okWide Tryz.prog W .any base t v:=hval0;have hW':=hW;obtain⟨p,q,hA0,hV,rfl,hfz,hnd⟩:=hW;have hA:DataW.TrodAll enc Tryz.prog W 0 (λ_=>A) A Tryz.f3.params.toList args.toList ds p:=hA0;obtain⟨rfl,rfl⟩:=trodVars_none hV;obtain⟨x,hx,hwf⟩:=Ao8 Go.Ovl.sigOK Go.Ovl.decOK (r:=.any) (base:=base) _ _ _ _ [.agg (c1::c1::c1::[]),.one (cr 5)] κ hA λj t v ht hv=>hval j t v (by simpa using ht) (by simpa using hv);have hcall:=auditSites_calls x hwf hx (gl_laid hL);refine Calls.mono (show Calls Tryz.prog 3 args W (λe W'=>e=.returned (.bool A)/\Below W.heap.size W W')from by simpa using hcall) λe W' ⟨he,hb⟩=>?_;subst he;have hlt:∀y∈p++[],y.block<W.heap.size:=λy hy=>hW'.lt y hy;have hlt:∀y∈p,y.block<W.heap.size:=λy hy=>hlt y (by simpa using hy);have hlen:ds.length=2:=(Acg _ _ _ _ hA).trans κ;obtain⟨d0,d1,rfl⟩:=Bw1 hlen;refine⟨_,rfl,Av4 (pa:=p) (pv:=[]) hW' (λ_ _ _=>?_) (λsp hsp=>?_) (λ_ _=>rfl) σ hb (ok_one (t:=4) κ rfl ?_)⟩
 .exact trodAll_mk1 (shut_bool Tryz.underlying4 A)
 .exact YI Tryz.laidOut _ _ _ _ κ hA hb hlt (λy hy=>hsp y (by simpa using hy))
 .show Value.okWide Tryz.prog W' .any 0 4 (.bool A);simp[Value.okWide,Cell.okWide,Cell.ok,Tryz.underlying4]
theorem row0:mapsRowed Tryz.prog=A:=κ
theorem row1:(Rows.auditSitesRow.inPlace==Tryz.prog.inPlace 3)=A:=κ
theorem row2:(Rows.auditSitesRow.unfollowed==Tryz.prog.unfollowed 3)=A:=κ
theorem row3:(Rows.auditSitesRow.recurses==Tryz.prog.recurses 3)=A:=κ
theorem row4:(Rows.auditSitesRow.named==Tryz.prog.varsNamed 3)=A:=κ
theorem row5:(Rows.auditSitesRow.plainKeys==Tryz.prog.plainKeys)=A:=κ
theorem row6:Tryz.prog.stopsHeard=A:=κ
theorem row7:Tryz.prog.mayEnter=A:=κ
theorem closed:joinedFacts Tryz.prog 3 Tryz.f3 Rows.auditSitesSpec Rows.auditSitesRow=A:=by unfold joinedFacts;rw[Tryz.laidOut,row0,row1,row2,row3,row4,row5,row6,row7];kernel_rfl
theorem auditSites_holds:Rows.AuditSitesSaid:=
 OpenClaim.holds_of_wide 3 Tryz.f3 rfl rfl rfl rfl rfl rfl rfl ⟨rfl,rfl,rfl,rfl,rfl⟩ rfl rfl rfl rfl rfl κ Tryz.func3 closed
  (l_ κ) (by unfold Func.isWrapper;rw[if_neg (C_ κ)];exact⟨rfl,rfl⟩)
  (λos started H enc _=>auditSites_lifted os started H enc)
theorem auditSites_card:Rows.AuditSitesCardSaid:=
 Claim7.holds_tied_plain_at .later [] [.data] A (A, "1b76c7dfe07310ea5a2e17877761b5571adde80dcc92e22f8ee45c5e091ef768") A auditSites_holds (λ_ h => by cases h) κ (λ_ h => by cases h) auditSites_row_tie rfl ⟨rfl, rfl⟩ κ rfl
  (λf fn hf hfn=>by
   obtain rfl : f = 3 := F_ ((show Tryz.prog.funcNamed "overlay/overlaylaw30.AuditSites" = some 3 by kernel_rfl).symm.trans hf) |>.symm;obtain rfl:fn=Tryz.f3:=(F_ (Tryz.func3.symm.trans hfn)).symm;exact⟨κ,λj t ht=>by
    have hm:t∈[22,23]:=by have h:=Array.mem_of_getElem? ht;rw[show Tryz.f3.params=#[22,23]by kernel_rfl]at h;simpa using h
    have hall:([22,23].all λu=>!Tryz.prog.wantsStandIn u)=A:=κ;exact(show Tryz.prog.wantsStandIn t=false by simpa using L_.1 hall t hm)⟩)
  κ
end Go.Proofs.YtgjkjlidboolgaaGreatDoor
