import Derived.Test.YtnfjkodplikhjaaGreatDoorFns1
import Derived.Test.YtnfjkodplikhjaaGreatDoorOvC
import Derived.Test.YtnfjkodplikhjaaGreatDoorOvLift
import Derived.Test.YtnfjkodplikhjaaGreatDoorRows
import Derived.Test.YtnfjkodplikhjaaGreatDoorChecked
import Derived.Test.YtnfjkodplikhjaaGreatDoorCards
import Derived.Test.YtnfjkodplikhjaaGreatDoorTie
import Derived.Test.YtnfjkodplikhjaaGreatDoorAbC
import Derived.Lay
import Derived.SevenTiedAt
set_option linter.all false
open Bool renaming true->A,false->D
open Option renaming some->B
set_option maxRecDepth 100000
namespace Go.Proofs.YtnfjkodplikhjaaGreatDoor
open Go Go.Ab Go.Ovl Go.RowKit Go.WideShapes Go.ChangeShapes
theorem Tryz.own:ownKnob Tryz.prog.godebug=none:=κ
theorem Tryz.laidOut:laidOutB Tryz.prog=A:=κ
theorem gl_laid {W : World} (hL : laidMetH Tryz.prog [("math/bits.deBruijn32tab", Rows.laid_math_bits_deBruijn32tab), ("math/bits.deBruijn64tab", Rows.laid_math_bits_deBruijn64tab), ("internal/strconv.uint64pow10", Rows.laid_internal_strconv_uint64pow10), ("unicode/utf8.acceptRanges", Rows.laid_unicode_utf8_acceptRanges), ("unicode.White_Space", Rows.laid_unicode_White_Space), ("strings.asciiSpace", Rows.laid_strings_asciiSpace), ("unicode/utf8.first", Rows.laid_unicode_utf8_first)] W) : GlOK Go.Ovl.G (λb => b < W.heap.size) W.heap := by
 rw[MakeChecks.laidMetH_plain _ _ _ κ]at hL;obtain⟨ps,⟨g0,t0,cs0,fu0,p0,q0,hg0,ht0,hv0,hd0,⟨g1,t1,cs1,fu1,p1,q1,hg1,ht1,hv1,hd1,⟨g2,t2,cs2,fu2,p2,q2,hg2,ht2,hv2,hd2,⟨g3,t3,cs3,fu3,p3,q3,hg3,ht3,hv3,hd3,⟨g4,t4,cs4,fu4,p4,q4,hg4,ht4,hv4,hd4,⟨g5,t5,cs5,fu5,p5,q5,hg5,ht5,hv5,hd5,⟨g6,t6,cs6,fu6,p6,q6,hg6,ht6,hv6,hd6,_,_⟩,_⟩,_⟩,_⟩,_⟩,_⟩,_⟩,_,_⟩:=hL;intro g p hp;obtain rfl := r_ ((show Tryz.prog.globalNamed "math/bits.deBruijn32tab" = B 7 by kernel_rfl).symm.trans hg0);obtain rfl:=r_ ((show(Tryz.prog.globals[7]?).map (·.type)=B 507 by kernel_rfl).symm.trans ht0);by_cases e0:g=7
 .subst e0;obtain rfl:=r_ (hp.symm.trans (show Go.Ovl.G.gl 7=B ⟨507,()⟩by kernel_rfl));exact YC (G := Go.Ovl.G) (gt := 507) (gx := ()) (ns := [0, 1, 28, 2, 29, 14, 24, 3, 30, 22, 20, 15, 25, 17, 4, 8, 31, 27, 13, 23, 21, 19, 16, 7, 26, 12, 18, 6, 11, 5, 10, 9]) (e := 5) (k := .u8) (show Tryz.prog.globalNamed "math/bits.deBruijn32tab" = B 7 by kernel_rfl) κ κ κ κ κ κ hv0 hd0
 obtain rfl := r_ ((show Tryz.prog.globalNamed "internal/strconv.uint64pow10" = B 4 by kernel_rfl).symm.trans hg2);obtain rfl:=r_ ((show(Tryz.prog.globals[4]?).map (·.type)=B 405 by kernel_rfl).symm.trans ht2);by_cases e2:g=4
 .subst e2;obtain rfl:=r_ (hp.symm.trans (show Go.Ovl.G.gl 4=B ⟨405,()⟩by kernel_rfl));exact YC (G := Go.Ovl.G) (gt := 405) (gx := ()) (ns := [1, 10, 100, 1000, 10000, 100000, 1000000, 10000000, 100000000, 1000000000, 10000000000, 100000000000, 1000000000000, 10000000000000, 100000000000000, 1000000000000000, 10000000000000000, 100000000000000000, 1000000000000000000, 10000000000000000000]) (e := 224) (k := .u64) (show Tryz.prog.globalNamed "internal/strconv.uint64pow10" = B 4 by kernel_rfl) κ κ κ κ κ κ hv2 hd2
 obtain rfl := r_ ((show Tryz.prog.globalNamed "strings.asciiSpace" = B 0 by kernel_rfl).symm.trans hg5);obtain rfl:=r_ ((show(Tryz.prog.globals[0]?).map (·.type)=B 251 by kernel_rfl).symm.trans ht5);by_cases e5:g=0
 .subst e5;obtain rfl:=r_ (hp.symm.trans (show Go.Ovl.G.gl 0=B ⟨251,()⟩by kernel_rfl));exact YC (G := Go.Ovl.G) (gt := 251) (gx := ()) (ns := [0, 0, 0, 0, 0, 0, 0, 0, 0, 1, 1, 1, 1, 1, 0, 0, 0, 0, 0, 0, 0, 0, 0, 0, 0, 0, 0, 0, 0, 0, 0, 0, 1, 0, 0, 0, 0, 0, 0, 0, 0, 0, 0, 0, 0, 0, 0, 0, 0, 0, 0, 0, 0, 0, 0, 0, 0, 0, 0, 0, 0, 0, 0, 0, 0, 0, 0, 0, 0, 0, 0, 0, 0, 0, 0, 0, 0, 0, 0, 0, 0, 0, 0, 0, 0, 0, 0, 0, 0, 0, 0, 0, 0, 0, 0, 0, 0, 0, 0, 0, 0, 0, 0, 0, 0, 0, 0, 0, 0, 0, 0, 0, 0, 0, 0, 0, 0, 0, 0, 0, 0, 0, 0, 0, 0, 0, 0, 0, 0, 0, 0, 0, 0, 0, 0, 0, 0, 0, 0, 0, 0, 0, 0, 0, 0, 0, 0, 0, 0, 0, 0, 0, 0, 0, 0, 0, 0, 0, 0, 0, 0, 0, 0, 0, 0, 0, 0, 0, 0, 0, 0, 0, 0, 0, 0, 0, 0, 0, 0, 0, 0, 0, 0, 0, 0, 0, 0, 0, 0, 0, 0, 0, 0, 0, 0, 0, 0, 0, 0, 0, 0, 0, 0, 0, 0, 0, 0, 0, 0, 0, 0, 0, 0, 0, 0, 0, 0, 0, 0, 0, 0, 0, 0, 0, 0, 0, 0, 0, 0, 0, 0, 0, 0, 0, 0, 0, 0, 0, 0, 0, 0, 0, 0, 0, 0, 0, 0, 0, 0, 0, 0, 0, 0, 0, 0, 0]) (e := 5) (k := .u8) (show Tryz.prog.globalNamed "strings.asciiSpace" = B 0 by kernel_rfl) κ κ κ κ κ κ hv5 hd5
 .have hn:Go.Ovl.G.gl g=none:=by
   show Go.Ovl.glv g=none;unfold Go.Ovl.glv;rw[show Nat.beq g 7=D from Bool.eq_false_iff.2 λh=>e0 (b9_ h)];rw[show Nat.beq g 4=D from Bool.eq_false_iff.2 λh=>e2 (b9_ h)];rw[show Nat.beq g 0=D from Bool.eq_false_iff.2 λh=>e5 (b9_ h)];rfl
  rw[hn]at hp;cases hp
theorem scriptWaits_plain(x:((Int×Int×Int×Unit)×List Int×(Int×Int×Unit)×Unit))(hwf:WfA Go.Ovl.G [.agg (c1::c1::c1::[]),.one (cr 5),.agg (c1::c1::[])] x):Go.Ovl.F_l29_ScriptWaits x.1.1 x.1.2.1 x.1.2.2.1 x.2.1 x.2.2.1.1 x.2.2.1.2.1=B ((A,()),()):=Ag4 x.1.1 x.1.2.1 x.1.2.2.1 x.2.1 x.2.2.1.1 x.2.2.1.2.1 (Ace (Acd hwf 0 0 (c:=.sc (.int .u8 x.1.1)) κ)) (Ace (Acd hwf 0 1 (c:=.sc (.int .u8 x.1.2.1)) κ)) (Ace (Acd hwf 0 2 (c:=.sc (.int .u8 x.1.2.2.1)) κ)) (Bth (G:=Go.Ovl.G) (t:=5) (Q:=λ(e:Int)=>(0<=e/\e<256)) (Acd hwf 1 0 (c:=.ro 5 x.2.1) κ) (λx hx=>Ace (hx 0 _ rfl))) (Ace (Acd hwf 2 0 (c:=.sc (.int .u8 x.2.2.1.1)) κ)) (Ace (Acd hwf 2 1 (c:=.sc (.int .u8 x.2.2.1.2.1)) κ))
theorem scriptWaits_run(x:((Int×Int×Int×Unit)×List Int×(Int×Int×Unit)×Unit)):Go.Ovl.e340.F (YO (G:=Go.Ovl.G) 0 [.agg (c1::c1::c1::[]),.one (cr 5),.agg (c1::c1::[])] x,())=Go.Ovl.F_l29_ScriptWaits x.1.1 x.1.2.1 x.1.2.2.1 x.2.1 x.2.2.1.1 x.2.2.1.2.1:=κ
theorem scriptWaits_calls(x:((Int×Int×Int×Unit)×List Int×(Int×Int×Unit)×Unit))(hwf:WfA Go.Ovl.G [.agg (c1::c1::c1::[]),.one (cr 5),.agg (c1::c1::[])] x){W:World}{vals:List Value}(hargs:F2 (Rp Go.Ovl.G (λ_=>none) (λb=>b<W.heap.size) W.heap) (MJ [.agg (c1::c1::c1::[]),.one (cr 5),.agg (c1::c1::[])] x) vals)(hgl:GlOK Go.Ovl.G (λb=>b<W.heap.size) W.heap) :
  Calls Tryz.prog 3 vals.toArray W λe' W'=>e'=.returned (.bool A)/\RowKit.Below W.heap.size W W':=
 Bbt (G:=Go.Ovl.G) (g:=3) (sh:=[.agg (c1::c1::c1::[]),.one (cr 5),.agg (c1::c1::[])]) (E:=Go.Ovl.E340) (F:=Go.Ovl.e340.F) (rs:=Go.Ovl.e340.rs) Go.Ovl.k340 κ (x:=x) (y:=((A,()),())) ((scriptWaits_run x).trans (scriptWaits_plain x hwf)) (b:=A) rfl κ hgl hargs
set_option maxRecDepth 100000 in
theorem scriptWaits_lifted(os:Os)(started:os.Started)(H:Type)(enc:TypeId×Value->H) :
  ReturnsInHanded {} Tryz.checked os 3 .any (λw args => (Rows.scriptWaitsSpec.pre enc Tryz.prog Tryz.f3 [] D w args /\ laidMetH Tryz.prog [("math/bits.deBruijn32tab", Rows.laid_math_bits_deBruijn32tab), ("math/bits.deBruijn64tab", Rows.laid_math_bits_deBruijn64tab), ("internal/strconv.uint64pow10", Rows.laid_internal_strconv_uint64pow10), ("unicode/utf8.acceptRanges", Rows.laid_unicode_utf8_acceptRanges), ("unicode.White_Space", Rows.laid_unicode_White_Space), ("strings.asciiSpace", Rows.laid_strings_asciiSpace), ("unicode/utf8.first", Rows.laid_unicode_utf8_first)] w) /\ sizedMet enc Tryz.prog Tryz.f3 (OpenSpec.ofChange Rows.scriptWaitsSpec) D w args) (Rows.scriptWaitsSpec.post enc Tryz.prog Tryz.f3 D A D D) := by
 refine returnsInHanded_of_change_and (C := Tryz.checked) (X := λw _ => laidMetH Tryz.prog [("math/bits.deBruijn32tab", Rows.laid_math_bits_deBruijn32tab), ("math/bits.deBruijn64tab", Rows.laid_math_bits_deBruijn64tab), ("internal/strconv.uint64pow10", Rows.laid_internal_strconv_uint64pow10), ("unicode/utf8.acceptRanges", Rows.laid_unicode_utf8_acceptRanges), ("unicode.White_Space", Rows.laid_unicode_White_Space), ("strings.asciiSpace", Rows.laid_strings_asciiSpace), ("unicode/utf8.first", Rows.laid_unicode_utf8_first)] w) (λ_ _ _ hh h => h.of_heap hh) Tryz.own started κ Tryz.func3
  (ChangeSpec.witness_shaped (enc := enc) (C := Tryz.checked) (os := os) (X := λw _ => laidMetH Tryz.prog [("math/bits.deBruijn32tab", Rows.laid_math_bits_deBruijn32tab), ("math/bits.deBruijn64tab", Rows.laid_math_bits_deBruijn64tab), ("internal/strconv.uint64pow10", Rows.laid_internal_strconv_uint64pow10), ("unicode/utf8.acceptRanges", Rows.laid_unicode_utf8_acceptRanges), ("unicode.White_Space", Rows.laid_unicode_White_Space), ("strings.asciiSpace", Rows.laid_strings_asciiSpace), ("unicode/utf8.first", Rows.laid_unicode_utf8_first)] w) D (World.laidAll Tryz.prog os [("math/bits.deBruijn32tab", Rows.laid_math_bits_deBruijn32tab), ("math/bits.deBruijn64tab", Rows.laid_math_bits_deBruijn64tab), ("internal/strconv.uint64pow10", Rows.laid_internal_strconv_uint64pow10), ("unicode/utf8.acceptRanges", Rows.laid_unicode_utf8_acceptRanges), ("unicode.White_Space", Rows.laid_unicode_White_Space), ("strings.asciiSpace", Rows.laid_strings_asciiSpace), ("unicode/utf8.first", Rows.laid_unicode_utf8_first)]) #[.agg #[(.int .u8 0), (.int .u8 0), (.int .u8 0)], (.slice none 0 0), .agg #[(.int .u8 0), (.int .u8 0)]] 8 (World.laidAll_os _ _ _)
   (World.shaped_of_ZipB κ κ) κ κ κ
   (by rw[MakeChecks.laidMetH_plain _ _ _ κ];exact laidMet_laidAll _ κ κ)) ?_
 intro W base args ds gs before hval0 hW hcnd _ hL _;have hval:∀(j:Nat) t v,Tryz.f3.params[j]?=B t->args[j]?=B v->Value.okWide Tryz.prog W .any base t v:=hval0;have hW':=hW;obtain⟨p,q,hA0,hV,rfl,hfz,hnd⟩:=hW;have hA:DataW.TrodAll enc Tryz.prog W 0 (λ_=>A) A Tryz.f3.params.toList args.toList ds p:=hA0;obtain⟨rfl,rfl⟩:=trodVars_none hV;obtain⟨x,hx,hwf⟩:=Arj Go.Ovl.sigOK Go.Ovl.decOK (r:=.any) (base:=base) _ _ _ _ [.agg (c1::c1::c1::[]),.one (cr 5),.agg (c1::c1::[])] κ hA λj t v ht hv=>hval j t v (by simpa using ht) (by simpa using hv);have hcall:=scriptWaits_calls x hwf hx (gl_laid hL);refine Calls.mono (show Calls Tryz.prog 3 args W (λe W'=>e=.returned (.bool A)/\Below W.heap.size W W')from by simpa using hcall) λe W' ⟨he,hb⟩=>?_;subst he;have hlt:∀y∈p++[],y.block<W.heap.size:=λy hy=>hW'.lt y hy;have hlt:∀y∈p,y.block<W.heap.size:=λy hy=>hlt y (by simpa using hy);have hlen:ds.length=3:=(Adi _ _ _ _ hA).trans κ;obtain⟨d0,d1,d2,rfl⟩:=Bsz hlen;refine⟨_,rfl,Axv (pa:=p) (pv:=[]) hW' (λ_ _ _=>?_) (λsp hsp=>?_) (λ_ _=>rfl) σ hb (ok_one (t:=4) κ rfl ?_)⟩
 .exact trodAll_mk1 (shut_bool Tryz.underlying4 A)
 .exact Zj Tryz.laidOut _ _ _ _ κ hA hb hlt (λy hy=>hsp y (by simpa using hy))
 .show Value.okWide Tryz.prog W' .any 0 4 (.bool A);simp[Value.okWide,Cell.okWide,Cell.ok,Tryz.underlying4]
theorem row0:mapsRowed Tryz.prog=A:=κ
theorem row1:(Rows.scriptWaitsRow.inPlace==Tryz.prog.inPlace 3)=A:=κ
theorem row2:(Rows.scriptWaitsRow.unfollowed==Tryz.prog.unfollowed 3)=A:=κ
theorem row3:(Rows.scriptWaitsRow.recurses==Tryz.prog.recurses 3)=A:=κ
theorem row4:(Rows.scriptWaitsRow.named==Tryz.prog.varsNamed 3)=A:=κ
theorem row5:(Rows.scriptWaitsRow.plainKeys==Tryz.prog.plainKeys)=A:=κ
theorem row6:Tryz.prog.stopsHeard=A:=κ
theorem row7:Tryz.prog.mayEnter=A:=κ
theorem closed:joinedFacts Tryz.prog 3 Tryz.f3 Rows.scriptWaitsSpec Rows.scriptWaitsRow=A:=by unfold joinedFacts;rw[Tryz.laidOut,row0,row1,row2,row3,row4,row5,row6,row7];kernel_rfl
theorem scriptWaits_holds:Rows.ScriptWaitsSaid:=
 OpenClaim.holds_of_wide 3 Tryz.f3 rfl rfl rfl rfl rfl rfl rfl ⟨rfl,rfl,rfl,rfl,rfl⟩ rfl rfl rfl rfl rfl κ Tryz.func3 closed
  (j_ κ) (by unfold Func.isWrapper;rw[if_neg (w_ κ)];exact⟨rfl,rfl⟩)
  (λos started H enc _=>scriptWaits_lifted os started H enc)
theorem goes_no{c:OpenClaim}{P:Program}(h:P.funcs.any Func.goes=D)(hs:c.start=.entering):D=c.goesBy P:=by
 have k:∀g:FuncId,Option.any Func.goes P.funcs[g]?=D:=λg=>by
  cases hg:P.funcs[g]? with
  |none=>rfl
  |some fn=>obtain⟨hi,rfl⟩:=I_.1 hg;exact Bool.eq_false_iff.2 λe=>by rw[Array.any_eq_false]at h;exact h g hi e
 have l:∀f:FuncId,P.goes f=D:=λf=>by unfold Program.goes;rw[h,d4_,Bool.or_false,List.any_eq_false];exact λg _=>by rw[k g];exact Bool.false_ne_true
 unfold OpenClaim.goesBy Program.goesAt Program.goesFrom;rw[hs];cases P.funcNamed c.func with
 |none=>rfl
 |some f=>exact(by rw[Option.any_some,l f];rfl)
theorem cd0:OpenClaim.wfByText (OpenSpec.ofChange Rows.scriptWaitsSpec) Rows.scriptWaitsRow=A:=κ
theorem cd1 : Tryz.prog.mainIs = B (A, "6c65ab31cfcd5f99f2f40266d4c861128dff0359db2ac5f76ef794b5c03e932e".toList) :=κ
theorem cd2:A=Tryz.prog.looks []:=κ
theorem cd3:D=Rows.scriptWaitsRow.goesBy Tryz.prog:=goes_no κ rfl
theorem cd4 : Tryz.prog.funcNamed "overlay/overlaylaw29.ScriptWaits" = B 3 :=κ
theorem scriptWaits_card:Rows.ScriptWaitsCardSaid:=
 Claim7.holds_tied_plain_at .later [] [.data, .data, .data, .data, .listed, .data, .pinned] A (A, "6c65ab31cfcd5f99f2f40266d4c861128dff0359db2ac5f76ef794b5c03e932e") A scriptWaits_holds (λ_ h => by cases h) cd0 (λ_ h => by cases h) scriptWaits_row_tie rfl ⟨rfl, rfl⟩ cd1 rfl
  (λf fn hf hfn=>by
   obtain rfl : f = 3 := r_ ((show Tryz.prog.funcNamed "overlay/overlaylaw29.ScriptWaits" = B 3 from cd4).symm.trans hf) |>.symm;obtain rfl:fn=Tryz.f3:=(r_ (Tryz.func3.symm.trans hfn)).symm;exact⟨cd2,λj t ht=>by
    have hm:t∈[22,23,24]:=by have h:=Array.mem_of_getElem? ht;rw[show Tryz.f3.params=#[22,23,24]by kernel_rfl]at h;simpa using h
    have hall:([22,23,24].all λu=>!Tryz.prog.wantsStandIn u)=A:=κ;exact(show Tryz.prog.wantsStandIn t=D by simpa using F_.1 hall t hm)⟩)
  cd3
end Go.Proofs.YtnfjkodplikhjaaGreatDoor
