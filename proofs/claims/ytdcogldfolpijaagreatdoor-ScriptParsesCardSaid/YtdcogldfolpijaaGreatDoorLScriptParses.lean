import Derived.Test.YtdcogldfolpijaaGreatDoorFns2
import Derived.Test.YtdcogldfolpijaaGreatDoorOvA
import Derived.Test.YtdcogldfolpijaaGreatDoorOvLift
import Derived.Test.YtdcogldfolpijaaGreatDoorRows
import Derived.Test.YtdcogldfolpijaaGreatDoorChecked
import Derived.Test.YtdcogldfolpijaaGreatDoorCards
import Derived.Test.YtdcogldfolpijaaGreatDoorTie
import Derived.Test.YtdcogldfolpijaaGreatDoorAbC
import Derived.Lay
import Derived.SevenTiedAt
set_option linter.all false
open Go.Ab renaming c1->A
open Bool renaming true->B,false->I
open Option renaming some->D
set_option maxRecDepth 100000
namespace Go.Proofs.YtdcogldfolpijaaGreatDoor
open Go Go.Ab Go.Ovl Go.RowKit Go.WideShapes Go.ChangeShapes
theorem Tryz.own:ownKnob Tryz.prog.godebug=none:=κ
theorem Tryz.laidOut:laidOutB Tryz.prog=B:=κ
theorem gl_laid {W : World} (hL : laidMetH Tryz.prog [("math/bits.deBruijn32tab", Rows.laid_math_bits_deBruijn32tab), ("math/bits.deBruijn64tab", Rows.laid_math_bits_deBruijn64tab), ("internal/strconv.uint64pow10", Rows.laid_internal_strconv_uint64pow10), ("unicode/utf8.acceptRanges", Rows.laid_unicode_utf8_acceptRanges), ("unicode.White_Space", Rows.laid_unicode_White_Space), ("strings.asciiSpace", Rows.laid_strings_asciiSpace), ("unicode/utf8.first", Rows.laid_unicode_utf8_first)] W) : GlOK Go.Ovl.G (λb => b < W.heap.size) W.heap := by
 rw[MakeChecks.laidMetH_plain _ _ _ κ]at hL;obtain⟨ps,⟨g0,t0,cs0,fu0,p0,q0,hg0,ht0,hv0,hd0,⟨g1,t1,cs1,fu1,p1,q1,hg1,ht1,hv1,hd1,⟨g2,t2,cs2,fu2,p2,q2,hg2,ht2,hv2,hd2,⟨g3,t3,cs3,fu3,p3,q3,hg3,ht3,hv3,hd3,⟨g4,t4,cs4,fu4,p4,q4,hg4,ht4,hv4,hd4,⟨g5,t5,cs5,fu5,p5,q5,hg5,ht5,hv5,hd5,⟨g6,t6,cs6,fu6,p6,q6,hg6,ht6,hv6,hd6,_,_⟩,_⟩,_⟩,_⟩,_⟩,_⟩,_⟩,_,_⟩:=hL;intro g p hp;obtain rfl := n_ ((show Tryz.prog.globalNamed "math/bits.deBruijn32tab" = D 7 by kernel_rfl).symm.trans hg0);obtain rfl:=n_ ((show(Tryz.prog.globals[7]?).map (·.type)=D 411 by kernel_rfl).symm.trans ht0);by_cases e0:g=7
 ·subst e0;obtain rfl:=n_ (hp.symm.trans (show Go.Ovl.G.gl 7=D ⟨411,()⟩by kernel_rfl));exact RW (G := Go.Ovl.G) (gt := 411) (gx := ()) (ns := [0, 1, 28, 2, 29, 14, 24, 3, 30, 22, 20, 15, 25, 17, 4, 8, 31, 27, 13, 23, 21, 19, 16, 7, 26, 12, 18, 6, 11, 5, 10, 9]) (e := 5) (k := .u8) (show Tryz.prog.globalNamed "math/bits.deBruijn32tab" = D 7 by kernel_rfl) κ κ κ κ κ κ hv0 hd0
 obtain rfl := n_ ((show Tryz.prog.globalNamed "internal/strconv.uint64pow10" = D 6 by kernel_rfl).symm.trans hg2);obtain rfl:=n_ ((show(Tryz.prog.globals[6]?).map (·.type)=D 327 by kernel_rfl).symm.trans ht2);by_cases e2:g=6
 ·subst e2;obtain rfl:=n_ (hp.symm.trans (show Go.Ovl.G.gl 6=D ⟨327,()⟩by kernel_rfl));exact RW (G := Go.Ovl.G) (gt := 327) (gx := ()) (ns := [1, 10, 100, 1000, 10000, 100000, 1000000, 10000000, 100000000, 1000000000, 10000000000, 100000000000, 1000000000000, 10000000000000, 100000000000000, 1000000000000000, 10000000000000000, 100000000000000000, 1000000000000000000, 10000000000000000000]) (e := 222) (k := .u64) (show Tryz.prog.globalNamed "internal/strconv.uint64pow10" = D 6 by kernel_rfl) κ κ κ κ κ κ hv2 hd2
 obtain rfl := n_ ((show Tryz.prog.globalNamed "strings.asciiSpace" = D 0 by kernel_rfl).symm.trans hg5);obtain rfl:=n_ ((show(Tryz.prog.globals[0]?).map (·.type)=D 167 by kernel_rfl).symm.trans ht5);by_cases e5:g=0
 ·subst e5;obtain rfl:=n_ (hp.symm.trans (show Go.Ovl.G.gl 0=D ⟨167,()⟩by kernel_rfl));exact RW (G := Go.Ovl.G) (gt := 167) (gx := ()) (ns := [0, 0, 0, 0, 0, 0, 0, 0, 0, 1, 1, 1, 1, 1, 0, 0, 0, 0, 0, 0, 0, 0, 0, 0, 0, 0, 0, 0, 0, 0, 0, 0, 1, 0, 0, 0, 0, 0, 0, 0, 0, 0, 0, 0, 0, 0, 0, 0, 0, 0, 0, 0, 0, 0, 0, 0, 0, 0, 0, 0, 0, 0, 0, 0, 0, 0, 0, 0, 0, 0, 0, 0, 0, 0, 0, 0, 0, 0, 0, 0, 0, 0, 0, 0, 0, 0, 0, 0, 0, 0, 0, 0, 0, 0, 0, 0, 0, 0, 0, 0, 0, 0, 0, 0, 0, 0, 0, 0, 0, 0, 0, 0, 0, 0, 0, 0, 0, 0, 0, 0, 0, 0, 0, 0, 0, 0, 0, 0, 0, 0, 0, 0, 0, 0, 0, 0, 0, 0, 0, 0, 0, 0, 0, 0, 0, 0, 0, 0, 0, 0, 0, 0, 0, 0, 0, 0, 0, 0, 0, 0, 0, 0, 0, 0, 0, 0, 0, 0, 0, 0, 0, 0, 0, 0, 0, 0, 0, 0, 0, 0, 0, 0, 0, 0, 0, 0, 0, 0, 0, 0, 0, 0, 0, 0, 0, 0, 0, 0, 0, 0, 0, 0, 0, 0, 0, 0, 0, 0, 0, 0, 0, 0, 0, 0, 0, 0, 0, 0, 0, 0, 0, 0, 0, 0, 0, 0, 0, 0, 0, 0, 0, 0, 0, 0, 0, 0, 0, 0, 0, 0, 0, 0, 0, 0, 0, 0, 0, 0, 0, 0, 0, 0, 0, 0, 0, 0]) (e := 5) (k := .u8) (show Tryz.prog.globalNamed "strings.asciiSpace" = D 0 by kernel_rfl) κ κ κ κ κ κ hv5 hd5
 ·have hn:Go.Ovl.G.gl g=none:=by
   show Go.Ovl.glv g=none;unfold Go.Ovl.glv;rw[show Nat.beq g 7=I from Bool.eq_false_iff.2 λh=>e0 (S_ h)];rw[show Nat.beq g 6=I from Bool.eq_false_iff.2 λh=>e2 (S_ h)];rw[show Nat.beq g 0=I from Bool.eq_false_iff.2 λh=>e5 (S_ h)];rfl
  rw[hn]at hp;cases hp
theorem scriptParses_plain(x:((Int×Int×Int×Unit)×List Int×(Int×Int×Int×Unit)×Unit))(hwf:WfA Go.Ovl.G [.agg (A::A::A::[]),.one (cr 5),.agg (A::A::A::[])] x):Go.Ovl.F_l29_ScriptParses x.1.1 x.1.2.1 x.1.2.2.1 x.2.1 x.2.2.1.1 x.2.2.1.2.1 x.2.2.1.2.2.1=D ((B,()),()):=VR x.1.1 x.1.2.1 x.1.2.2.1 x.2.1 x.2.2.1.1 x.2.2.1.2.1 x.2.2.1.2.2.1 (Sh (Sg hwf 0 0 (c:=.sc (.int .u8 x.1.1)) κ)) (Sh (Sg hwf 0 1 (c:=.sc (.int .u8 x.1.2.1)) κ)) (Sh (Sg hwf 0 2 (c:=.sc (.int .u8 x.1.2.2.1)) κ)) (Bhy (G:=Go.Ovl.G) (t:=5) (Q:=λ(e:Int)=>(0≤e∧e<256)) (Sg hwf 1 0 (c:=.ro 5 x.2.1) κ) (λx hx=>Sh (hx 0 _ rfl))) (Sh (Sg hwf 2 0 (c:=.sc (.int .u8 x.2.2.1.1)) κ)) (Sh (Sg hwf 2 1 (c:=.sc (.int .u8 x.2.2.1.2.1)) κ)) (Sh (Sg hwf 2 2 (c:=.sc (.int .u8 x.2.2.1.2.2.1)) κ))
theorem scriptParses_run(x:((Int×Int×Int×Unit)×List Int×(Int×Int×Int×Unit)×Unit)):Go.Ovl.e347.F (OZ (G:=Go.Ovl.G) 0 [.agg (A::A::A::[]),.one (cr 5),.agg (A::A::A::[])] x,())=Go.Ovl.F_l29_ScriptParses x.1.1 x.1.2.1 x.1.2.2.1 x.2.1 x.2.2.1.1 x.2.2.1.2.1 x.2.2.1.2.2.1:=κ
theorem scriptParses_calls(x:((Int×Int×Int×Unit)×List Int×(Int×Int×Int×Unit)×Unit))(hwf:WfA Go.Ovl.G [.agg (A::A::A::[]),.one (cr 5),.agg (A::A::A::[])] x){W:World}{vals:List Value}(hargs:F2 (Rp Go.Ovl.G (λ_=>none) (λb=>b<W.heap.size) W.heap) (Ic [.agg (A::A::A::[]),.one (cr 5),.agg (A::A::A::[])] x) vals)(hgl:GlOK Go.Ovl.G (λb=>b<W.heap.size) W.heap) :
  Calls Tryz.prog 3 vals.toArray W λe' W'=>e'=.returned (.bool B)∧RowKit.Below W.heap.size W W':=
 Al8 (G:=Go.Ovl.G) (g:=3) (sh:=[.agg (A::A::A::[]),.one (cr 5),.agg (A::A::A::[])]) (E:=Go.Ovl.E347) (F:=Go.Ovl.e347.F) (rs:=Go.Ovl.e347.rs) Go.Ovl.k347 κ (x:=x) (y:=((B,()),())) ((scriptParses_run x).trans (scriptParses_plain x hwf)) (b:=B) rfl κ hgl hargs
set_option maxRecDepth 100000 in
theorem scriptParses_lifted(os:Os)(started:os.Started)(H:Type)(enc:TypeId×Value→H) :
  ReturnsInHanded {} Tryz.checked os 3 .any (λw args => (Rows.scriptParsesSpec.pre enc Tryz.prog Tryz.f3 [] I w args ∧ laidMetH Tryz.prog [("math/bits.deBruijn32tab", Rows.laid_math_bits_deBruijn32tab), ("math/bits.deBruijn64tab", Rows.laid_math_bits_deBruijn64tab), ("internal/strconv.uint64pow10", Rows.laid_internal_strconv_uint64pow10), ("unicode/utf8.acceptRanges", Rows.laid_unicode_utf8_acceptRanges), ("unicode.White_Space", Rows.laid_unicode_White_Space), ("strings.asciiSpace", Rows.laid_strings_asciiSpace), ("unicode/utf8.first", Rows.laid_unicode_utf8_first)] w) ∧ sizedMet enc Tryz.prog Tryz.f3 (OpenSpec.ofChange Rows.scriptParsesSpec) I w args) (Rows.scriptParsesSpec.post enc Tryz.prog Tryz.f3 I B I I) := by
 refine returnsInHanded_of_change_and (C := Tryz.checked) (X := λw _ => laidMetH Tryz.prog [("math/bits.deBruijn32tab", Rows.laid_math_bits_deBruijn32tab), ("math/bits.deBruijn64tab", Rows.laid_math_bits_deBruijn64tab), ("internal/strconv.uint64pow10", Rows.laid_internal_strconv_uint64pow10), ("unicode/utf8.acceptRanges", Rows.laid_unicode_utf8_acceptRanges), ("unicode.White_Space", Rows.laid_unicode_White_Space), ("strings.asciiSpace", Rows.laid_strings_asciiSpace), ("unicode/utf8.first", Rows.laid_unicode_utf8_first)] w) (λ_ _ _ hh h => h.of_heap hh) Tryz.own started κ Tryz.func3
  (ChangeSpec.witness_shaped (enc := enc) (C := Tryz.checked) (os := os) (X := λw _ => laidMetH Tryz.prog [("math/bits.deBruijn32tab", Rows.laid_math_bits_deBruijn32tab), ("math/bits.deBruijn64tab", Rows.laid_math_bits_deBruijn64tab), ("internal/strconv.uint64pow10", Rows.laid_internal_strconv_uint64pow10), ("unicode/utf8.acceptRanges", Rows.laid_unicode_utf8_acceptRanges), ("unicode.White_Space", Rows.laid_unicode_White_Space), ("strings.asciiSpace", Rows.laid_strings_asciiSpace), ("unicode/utf8.first", Rows.laid_unicode_utf8_first)] w) I (World.laidAll Tryz.prog os [("math/bits.deBruijn32tab", Rows.laid_math_bits_deBruijn32tab), ("math/bits.deBruijn64tab", Rows.laid_math_bits_deBruijn64tab), ("internal/strconv.uint64pow10", Rows.laid_internal_strconv_uint64pow10), ("unicode/utf8.acceptRanges", Rows.laid_unicode_utf8_acceptRanges), ("unicode.White_Space", Rows.laid_unicode_White_Space), ("strings.asciiSpace", Rows.laid_strings_asciiSpace), ("unicode/utf8.first", Rows.laid_unicode_utf8_first)]) #[.agg #[(.int .u8 0), (.int .u8 0), (.int .u8 0)], (.slice none 0 0), .agg #[(.int .u8 0), (.int .u8 0), (.int .u8 0)]] 8 (World.laidAll_os _ _ _)
   (World.shaped_of_ZipB κ κ) κ κ κ
   (by rw[MakeChecks.laidMetH_plain _ _ _ κ];exact laidMet_laidAll _ κ κ)) ?_
 intro W base args ds gs before hval0 hW hcnd _ hL _;have hval:∀(j:Nat) t v,Tryz.f3.params[j]?=D t→args[j]?=D v→Value.okWide Tryz.prog W .any base t v:=hval0;have hW':=hW;obtain⟨p,q,hA0,hV,rfl,hfz,hnd⟩:=hW;have hA:DataW.TrodAll enc Tryz.prog W 0 (λ_=>B) B Tryz.f3.params.toList args.toList ds p:=hA0;obtain⟨rfl,rfl⟩:=trodVars_none hV;obtain⟨x,hx,hwf⟩:=Abx Go.Ovl.sigOK Go.Ovl.decOK (r:=.any) (base:=base) _ _ _ _ [.agg (A::A::A::[]),.one (cr 5),.agg (A::A::A::[])] κ hA λj t v ht hv=>hval j t v (by simpa using ht) (by simpa using hv);have hcall:=scriptParses_calls x hwf hx (gl_laid hL);refine Calls.mono (show Calls Tryz.prog 3 args W (λe W'=>e=.returned (.bool B)∧Below W.heap.size W W')from by simpa using hcall) λe W' ⟨he,hb⟩=>?_;subst he;have hlt:∀y∈p++[],y.block<W.heap.size:=λy hy=>hW'.lt y hy;have hlt:∀y∈p,y.block<W.heap.size:=λy hy=>hlt y (by simpa using hy);have hlen:ds.length=3:=(Vh _ _ _ _ hA).trans κ;obtain⟨d0,d1,d2,rfl⟩:=Bhp hlen;refine⟨_,rfl,Ag1 (pa:=p) (pv:=[]) hW' (λ_ _ _=>?_) (λsp hsp=>?_) (λ_ _=>rfl) (by simp) hb (ok_one (t:=4) κ rfl ?_)⟩
 ·exact trodAll_mk1 (shut_bool Tryz.underlying4 B)
 ·exact SJ Tryz.laidOut _ _ _ _ κ hA hb hlt (λy hy=>hsp y (by simpa using hy))
 ·show Value.okWide Tryz.prog W' .any 0 4 (.bool B);simp[Value.okWide,Cell.okWide,Cell.ok,Tryz.underlying4]
theorem row0:mapsRowed Tryz.prog=B:=κ
theorem row1:(Rows.scriptParsesRow.inPlace==Tryz.prog.inPlace 3)=B:=κ
theorem row2:(Rows.scriptParsesRow.unfollowed==Tryz.prog.unfollowed 3)=B:=κ
theorem row3:(Rows.scriptParsesRow.recurses==Tryz.prog.recurses 3)=B:=κ
theorem row4:(Rows.scriptParsesRow.named==Tryz.prog.varsNamed 3)=B:=κ
theorem row5:(Rows.scriptParsesRow.plainKeys==Tryz.prog.plainKeys)=B:=κ
theorem row6:Tryz.prog.stopsHeard=B:=κ
theorem row7:Tryz.prog.mayEnter=B:=κ
theorem closed:joinedFacts Tryz.prog 3 Tryz.f3 Rows.scriptParsesSpec Rows.scriptParsesRow=B:=by unfold joinedFacts;rw[Tryz.laidOut,row0,row1,row2,row3,row4,row5,row6,row7];kernel_rfl
theorem scriptParses_holds:Rows.ScriptParsesSaid:=
 OpenClaim.holds_of_wide 3 Tryz.f3 rfl rfl rfl rfl rfl rfl rfl ⟨rfl,rfl,rfl,rfl,rfl⟩ rfl rfl rfl rfl rfl κ Tryz.func3 closed
  (c0_ κ) (by unfold Func.isWrapper;rw[if_neg (of_decide_eq_false κ)];exact⟨rfl,rfl⟩)
  (λos started H enc _=>scriptParses_lifted os started H enc)
theorem goes_no{c:OpenClaim}{P:Program}(h:P.funcs.any Func.goes=I)(hs:c.start=.entering):I=c.goesBy P:=by
 have k:∀g:FuncId,Option.any Func.goes P.funcs[g]?=I:=λg=>by
  cases hg:P.funcs[g]? with
  |none=>rfl
  |some fn=>obtain⟨hi,rfl⟩:=t_.1 hg;exact Bool.eq_false_iff.2 λe=>by rw[Array.any_eq_false]at h;exact h g hi e
 have l:∀f:FuncId,P.goes f=I:=λf=>by unfold Program.goes;rw[h,Bool.and_false,Bool.or_false,List.any_eq_false];exact λg _=>by rw[k g];exact Bool.false_ne_true
 unfold OpenClaim.goesBy Program.goesAt Program.goesFrom;rw[hs];cases P.funcNamed c.func with
 |none=>rfl
 |some f=>exact(by rw[Option.any_some,l f];rfl)
theorem cd0:OpenClaim.wfByText (OpenSpec.ofChange Rows.scriptParsesSpec) Rows.scriptParsesRow=B:=κ
theorem cd1 : Tryz.prog.mainIs = D (B, "e20b4c69c922e9508a3e939fe8bcc4cb849032ae966d3aafeb5824121ccdaab3".toList) :=κ
theorem cd2:B=Tryz.prog.looks []:=κ
theorem cd3:I=Rows.scriptParsesRow.goesBy Tryz.prog:=goes_no κ rfl
theorem cd4 : Tryz.prog.funcNamed "overlay/overlaylaw29.ScriptParses" = D 3 :=κ
theorem scriptParses_card:Rows.ScriptParsesCardSaid:=
 Claim7.holds_tied_plain_at .later [] [.data, .data, .data, .data, .listed, .data, .pinned] B (B, "e20b4c69c922e9508a3e939fe8bcc4cb849032ae966d3aafeb5824121ccdaab3") B scriptParses_holds (λ_ h => by cases h) cd0 (λ_ h => by cases h) scriptParses_row_tie rfl ⟨rfl, rfl⟩ cd1 rfl
  (λf fn hf hfn=>by
   obtain rfl : f = 3 := n_ ((show Tryz.prog.funcNamed "overlay/overlaylaw29.ScriptParses" = D 3 from cd4).symm.trans hf) |>.symm;obtain rfl:fn=Tryz.f3:=(n_ (Tryz.func3.symm.trans hfn)).symm;exact⟨cd2,λj t ht=>by
    have hm:t∈[22,23,22]:=by have h:=Array.mem_of_getElem? ht;rw[show Tryz.f3.params=#[22,23,22]by kernel_rfl]at h;simpa using h
    have hall:([22,23,22].all λu=>!Tryz.prog.wantsStandIn u)=B:=κ;exact(show Tryz.prog.wantsStandIn t=I by simpa using F_.1 hall t hm)⟩)
  cd3
end Go.Proofs.YtdcogldfolpijaaGreatDoor
