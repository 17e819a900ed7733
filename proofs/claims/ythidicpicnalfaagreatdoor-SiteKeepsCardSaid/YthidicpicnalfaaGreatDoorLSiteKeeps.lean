import Derived.Test.YthidicpicnalfaaGreatDoorFns1
import Derived.Test.YthidicpicnalfaaGreatDoorOvD
import Derived.Test.YthidicpicnalfaaGreatDoorOvLift
import Derived.Test.YthidicpicnalfaaGreatDoorRows
import Derived.Test.YthidicpicnalfaaGreatDoorChecked
import Derived.Test.YthidicpicnalfaaGreatDoorCards
import Derived.Test.YthidicpicnalfaaGreatDoorTie
import Derived.Test.YthidicpicnalfaaGreatDoorAbC
import Derived.Lay
import Derived.SevenTiedAt
set_option linter.all false
open Bool renaming true->A,false->B
set_option maxRecDepth 100000
namespace Go.Proofs.YthidicpicnalfaaGreatDoor
open Go Go.Ab Go.Ovl Go.RowKit Go.WideShapes Go.ChangeShapes
theorem Tryz.own:ownKnob Tryz.prog.godebug=none:=κ
theorem Tryz.laidOut:laidOutB Tryz.prog=A:=κ
theorem gl_laid {W : World} (hL : laidMetH Tryz.prog [("math/bits.deBruijn32tab", Rows.laid_math_bits_deBruijn32tab)] W) : GlOK Go.Ovl.G (λb => b < W.heap.size) W.heap := by
 rw[MakeChecks.laidMetH_plain _ _ _ κ]at hL;obtain⟨ps,⟨g0,t0,cs0,fu0,p0,q0,hg0,ht0,hv0,hd0,_,_⟩,_,_⟩:=hL;intro g p hp;obtain rfl := s_ ((show Tryz.prog.globalNamed "math/bits.deBruijn32tab" = some 1 by kernel_rfl).symm.trans hg0);obtain rfl:=s_ ((show(Tryz.prog.globals[1]?).map (·.type)=some 426 by kernel_rfl).symm.trans ht0);by_cases e0:g=1
 .subst e0;obtain rfl:=s_ (hp.symm.trans (show Go.Ovl.G.gl 1=some ⟨426,()⟩by kernel_rfl));exact Auw (G := Go.Ovl.G) (gt := 426) (gx := ()) (ns := [0, 1, 28, 2, 29, 14, 24, 3, 30, 22, 20, 15, 25, 17, 4, 8, 31, 27, 13, 23, 21, 19, 16, 7, 26, 12, 18, 6, 11, 5, 10, 9]) (e := 5) (k := .u8) (show Tryz.prog.globalNamed "math/bits.deBruijn32tab" = some 1 by kernel_rfl) κ κ κ κ κ κ hv0 hd0
 .have hn:Go.Ovl.G.gl g=none:=by
   show Go.Ovl.glv g=none;unfold Go.Ovl.glv;rw[show Nat.beq g 1=B from Bool.eq_false_iff.2 λh=>e0 (c8_ h)];rfl
  rw[hn]at hp;cases hp
theorem siteKeeps_plain(x:((Int×Int×Int×Unit)×List Int×Int×Unit))(hwf:WfA Go.Ovl.G [.agg (c1::c1::c1::[]),.one (cr 5),.one (c1)] x):Go.Ovl.F_l28_SiteKeeps x.1.1 x.1.2.1 x.1.2.2.1 x.2.1 x.2.2.1=some ((A,()),()):=Akh x.1.1 x.1.2.1 x.1.2.2.1 x.2.1 x.2.2.1 (Af8 (Af7 hwf 0 0 (c:=.sc (.int .u8 x.1.1)) κ)) (Af8 (Af7 hwf 0 1 (c:=.sc (.int .u8 x.1.2.1)) κ)) (Af8 (Af7 hwf 0 2 (c:=.sc (.int .u8 x.1.2.2.1)) κ)) (Bm0 (G:=Go.Ovl.G) (t:=5) (Q:=λ(e:Int)=>(0<=e/\e<256)) (Af7 hwf 1 0 (c:=.ro 5 x.2.1) κ) (λx hx=>Af8 (hx 0 _ rfl))) (Af8 (Af7 hwf 2 0 (c:=.sc (.int .u8 x.2.2.1)) κ))
theorem siteKeeps_run(x:((Int×Int×Int×Unit)×List Int×Int×Unit)):Go.Ovl.e307.F (XL (G:=Go.Ovl.G) 0 [.agg (c1::c1::c1::[]),.one (cr 5),.one (c1)] x,())=Go.Ovl.F_l28_SiteKeeps x.1.1 x.1.2.1 x.1.2.2.1 x.2.1 x.2.2.1:=κ
theorem siteKeeps_calls(x:((Int×Int×Int×Unit)×List Int×Int×Unit))(hwf:WfA Go.Ovl.G [.agg (c1::c1::c1::[]),.one (cr 5),.one (c1)] x){W:World}{vals:List Value}(hargs:F2 (Rp Go.Ovl.G (λ_=>none) (λb=>b<W.heap.size) W.heap) (MG [.agg (c1::c1::c1::[]),.one (cr 5),.one (c1)] x) vals)(hgl:GlOK Go.Ovl.G (λb=>b<W.heap.size) W.heap) :
  Calls Tryz.prog 3 vals.toArray W λe' W'=>e'=.returned (.bool A)/\RowKit.Below W.heap.size W W':=
 Axx (G:=Go.Ovl.G) (g:=3) (sh:=[.agg (c1::c1::c1::[]),.one (cr 5),.one (c1)]) (E:=Go.Ovl.E307) (F:=Go.Ovl.e307.F) (rs:=Go.Ovl.e307.rs) Go.Ovl.k307 κ (x:=x) (y:=((A,()),())) ((siteKeeps_run x).trans (siteKeeps_plain x hwf)) (b:=A) rfl κ hgl hargs
set_option maxRecDepth 100000 in
theorem siteKeeps_lifted(os:Os)(started:os.Started)(H:Type)(enc:TypeId×Value->H) :
  ReturnsInHanded {} Tryz.checked os 3 .any (λw args => (Rows.siteKeepsSpec.pre enc Tryz.prog Tryz.f3 [] B w args /\ laidMetH Tryz.prog [("math/bits.deBruijn32tab", Rows.laid_math_bits_deBruijn32tab)] w) /\ sizedMet enc Tryz.prog Tryz.f3 (OpenSpec.ofChange Rows.siteKeepsSpec) B w args) (Rows.siteKeepsSpec.post enc Tryz.prog Tryz.f3 B A B B) := by
 refine returnsInHanded_of_change_and (C := Tryz.checked) (X := λw _ => laidMetH Tryz.prog [("math/bits.deBruijn32tab", Rows.laid_math_bits_deBruijn32tab)] w) (λ_ _ _ hh h => h.of_heap hh) Tryz.own started κ Tryz.func3
  (ChangeSpec.witness_shaped (enc := enc) (C := Tryz.checked) (os := os) (X := λw _ => laidMetH Tryz.prog [("math/bits.deBruijn32tab", Rows.laid_math_bits_deBruijn32tab)] w) B (World.laidAll Tryz.prog os [("math/bits.deBruijn32tab", Rows.laid_math_bits_deBruijn32tab)]) #[.agg #[(.int .u8 0), (.int .u8 0), (.int .u8 0)], (.slice none 0 0), (.int .u8 0)] 8 (World.laidAll_os _ _ _)
   (World.shaped_of_ZipB κ κ) κ κ κ
   (by rw[MakeChecks.laidMetH_plain _ _ _ κ];exact laidMet_laidAll _ κ κ)) ?_
 intro W base args ds gs before hval0 hW hcnd _ hL _;have hval:∀(j:Nat) t v,Tryz.f3.params[j]?=some t->args[j]?=some v->Value.okWide Tryz.prog W .any base t v:=hval0;have hW':=hW;obtain⟨p,q,hA0,hV,rfl,hfz,hnd⟩:=hW;have hA:DataW.TrodAll enc Tryz.prog W 0 (λ_=>A) A Tryz.f3.params.toList args.toList ds p:=hA0;obtain⟨rfl,rfl⟩:=trodVars_none hV;obtain⟨x,hx,hwf⟩:=Aoh Go.Ovl.sigOK Go.Ovl.decOK (r:=.any) (base:=base) _ _ _ _ [.agg (c1::c1::c1::[]),.one (cr 5),.one (c1)] κ hA λj t v ht hv=>hval j t v (by simpa using ht) (by simpa using hv);have hcall:=siteKeeps_calls x hwf hx (gl_laid hL);refine Calls.mono (show Calls Tryz.prog 3 args W (λe W'=>e=.returned (.bool A)/\Below W.heap.size W W')from by simpa using hcall) λe W' ⟨he,hb⟩=>?_;subst he;have hlt:∀y∈p++[],y.block<W.heap.size:=λy hy=>hW'.lt y hy;have hlt:∀y∈p,y.block<W.heap.size:=λy hy=>hlt y (by simpa using hy);have hlen:ds.length=3:=(Abt _ _ _ _ hA).trans κ;obtain⟨d0,d1,d2,rfl⟩:=Bmn hlen;refine⟨_,rfl,Aur (pa:=p) (pv:=[]) hW' (λ_ _ _=>?_) (λsp hsp=>?_) (λ_ _=>rfl) σ hb (ok_one (t:=4) κ rfl ?_)⟩
 .exact trodAll_mk1 (shut_bool Tryz.underlying4 A)
 .exact Ya Tryz.laidOut _ _ _ _ κ hA hb hlt (λy hy=>hsp y (by simpa using hy))
 .show Value.okWide Tryz.prog W' .any 0 4 (.bool A);simp[Value.okWide,Cell.okWide,Cell.ok,Tryz.underlying4]
theorem row0:mapsRowed Tryz.prog=A:=κ
theorem row1:(Rows.siteKeepsRow.inPlace==Tryz.prog.inPlace 3)=A:=κ
theorem row2:(Rows.siteKeepsRow.unfollowed==Tryz.prog.unfollowed 3)=A:=κ
theorem row3:(Rows.siteKeepsRow.recurses==Tryz.prog.recurses 3)=A:=κ
theorem row4:(Rows.siteKeepsRow.named==Tryz.prog.varsNamed 3)=A:=κ
theorem row5:(Rows.siteKeepsRow.plainKeys==Tryz.prog.plainKeys)=A:=κ
theorem row6:Tryz.prog.stopsHeard=A:=κ
theorem row7:Tryz.prog.mayEnter=A:=κ
theorem closed:joinedFacts Tryz.prog 3 Tryz.f3 Rows.siteKeepsSpec Rows.siteKeepsRow=A:=by unfold joinedFacts;rw[Tryz.laidOut,row0,row1,row2,row3,row4,row5,row6,row7];kernel_rfl
theorem siteKeeps_holds:Rows.SiteKeepsSaid:=
 OpenClaim.holds_of_wide 3 Tryz.f3 rfl rfl rfl rfl rfl rfl rfl ⟨rfl,rfl,rfl,rfl,rfl⟩ rfl rfl rfl rfl rfl κ Tryz.func3 closed
  (k_ κ) (by unfold Func.isWrapper;rw[if_neg (o_ κ)];exact⟨rfl,rfl⟩)
  (λos started H enc _=>siteKeeps_lifted os started H enc)
theorem goes_no{c:OpenClaim}{P:Program}(h:P.funcs.any Func.goes=B)(hs:c.start=.entering):B=c.goesBy P:=by
 have k:∀g:FuncId,Option.any Func.goes P.funcs[g]?=B:=λg=>by
  cases hg:P.funcs[g]? with
  |none=>rfl
  |some fn=>obtain⟨hi,rfl⟩:=J_.1 hg;exact Bool.eq_false_iff.2 λe=>by rw[Array.any_eq_false]at h;exact h g hi e
 have l:∀f:FuncId,P.goes f=B:=λf=>by unfold Program.goes;rw[h,d1_,Bool.or_false,List.any_eq_false];exact λg _=>by rw[k g];exact Bool.false_ne_true
 unfold OpenClaim.goesBy Program.goesAt Program.goesFrom;rw[hs];cases P.funcNamed c.func with
 |none=>rfl
 |some f=>exact(by rw[Option.any_some,l f];rfl)
theorem cd0:OpenClaim.wfByText (OpenSpec.ofChange Rows.siteKeepsSpec) Rows.siteKeepsRow=A:=κ
theorem cd1 : Tryz.prog.mainIs = some (A, "05628edb4b8e7bf0385b64fd596d5177181f4cf5add820a45233d34d2136d02a".toList) :=κ
theorem cd2:A=Tryz.prog.looks []:=κ
theorem cd3:B=Rows.siteKeepsRow.goesBy Tryz.prog:=goes_no κ rfl
theorem cd4 : Tryz.prog.funcNamed "overlay/overlaylaw28.SiteKeeps" = some 3 :=κ
theorem siteKeeps_card:Rows.SiteKeepsCardSaid:=
 Claim7.holds_tied_plain_at .later [] [.data] A (A, "05628edb4b8e7bf0385b64fd596d5177181f4cf5add820a45233d34d2136d02a") A siteKeeps_holds (λ_ h => by cases h) cd0 (λ_ h => by cases h) siteKeeps_row_tie rfl ⟨rfl, rfl⟩ cd1 rfl
  (λf fn hf hfn=>by
   obtain rfl : f = 3 := s_ ((show Tryz.prog.funcNamed "overlay/overlaylaw28.SiteKeeps" = some 3 from cd4).symm.trans hf) |>.symm;obtain rfl:fn=Tryz.f3:=(s_ (Tryz.func3.symm.trans hfn)).symm;exact⟨cd2,λj t ht=>by
    have hm:t∈[22,23,5]:=by have h:=Array.mem_of_getElem? ht;rw[show Tryz.f3.params=#[22,23,5]by kernel_rfl]at h;simpa using h
    have hall:([22,23,5].all λu=>!Tryz.prog.wantsStandIn u)=A:=κ;exact(show Tryz.prog.wantsStandIn t=B by simpa using G_.1 hall t hm)⟩)
  cd3
end Go.Proofs.YthidicpicnalfaaGreatDoor
