import Derived.Test.YtnfjkodplikhjaaGreatDoorChecked
import Derived.Test.YtnfjkodplikhjaaGreatDoorAbH
import Derived.Test.YtnfjkodplikhjaaGreatDoorHand
import Derived.RangeFuncNested
import Derived.RangeFuncBound
import Derived.RangeFuncCalls
import Derived.RangeFuncLeaves
import Derived.Shelf.Abstract
import Derived.Shelf.RegionOpen
import Derived.OwnWalkIn
import Derived.TacticsInMore
import Derived.LoopNIn
import Derived.LoopIn
import Derived.Maps.AppendAt
set_option linter.all false
open Option renaming some->C,none->E
open Go.Ab renaming pairs64->aA
namespace Go.Ovl
open Go Go.Ab Go.Proofs Go.RowKit Go.Lib Go.Shelf
attribute [local go_sem] Oper.semAt_some
set_option maxHeartbeats 4000000
set_option maxRecDepth 100000
def Wo(hb:Int->Int->Bool)(m:Nat):List (Int×Int):=(pairs64.take m).filter λp=>hb p.1 p.2
theorem Bf0(hb:Int->Int->Bool)(m:Nat):(Wo hb m).length<=m:=b7_ (List.length_filter_le _ _) (by rw[v_];exact Nat.min_le_left _ _)
theorem Arm{k:Nat}(hk:k<32):aA[2*k]?=C ((k:Int),1)/\aA[2*k+1]?=C ((k:Int),2):=by
 have:∀k:Fin 32,aA[2*k.val]?=C ((k.val:Int),1)/\aA[2*k.val+1]?=C ((k.val:Int),2):=by decide
 exact this ⟨k,hk⟩
theorem Bb3(hb:Int->Int->Bool){m:Nat}{p:Int×Int}(hp:aA[m]?=C p):Wo hb (m+1)=Wo hb m++bif hb p.1 p.2 then [p]else []:=by unfold Wo;rw[List.take_add_one,hp,Option.toList_some,List.filter_append,List.filter_cons,List.filter_nil];cases hb p.1 p.2<;>rfl
theorem Bfz(hb:Int->Int->Bool):Wo hb 64=pairs64.filter λp=>hb p.1 p.2:=by unfold Wo;rw[a8_ τ]
theorem Bf1(hb:Int->Int->Bool)(m:Nat):Wo hb m<+:pairs64.filter λp=>hb p.1 p.2:=(List.take_prefix m aA).filter _
def KpB(n₀ Bn:Nat)(A B:World):Prop:=Below n₀ A B/\B.heap[Bn]?=A.heap[Bn]?
theorem Bf3(n:Nat)(hn1:1<=n)(W₀:World)(l Bn n₀:Nat)(u d:Int)(hb:Int->Int->Bool)
  (hH:∀(p:Int×Int),p∈aA->∀w:World,Below n₀ W₀ w->Calls Tryz.prog 171 #[.agg #[.int .u32 u,.int .u32 d],.int .i64 p.1,.int .i64 p.2] w λe w'=>e=.returned (.bool (hb p.1 p.2))/\Below w.heap.size w w')
  (J Jx:List (Int×Int)->World->Prop)
  (hY:∀pre x W,J pre W->pre.length<64->YieldAt Fence.wide (n-1) Tryz.prog l #[.int .i64 x.1,.int .i64 x.2] W λe W'=>(e=.returned (.bool true)/\J (pre++[x]) W'/\KpB n₀ Bn W W')\/(e=.returned (.bool false)/\Jx (pre++[x]) W'))
  (W:World) (hW:Below n₀ W₀ W) (hn:n₀<=W.heap.size) (hBn:W.heap[Bn]?=C (.cells #[.int .u32 u,.int .u32 d] 66 (0,0)))
  (hJb:∀pre A B,J pre A->A.grownBy B E->J pre B) (h0:J [] W) :
  CallsIn Fence.wide n Tryz.prog 170 #[.func (.yield l) #[] #[],.pointer (C ⟨Bn,0,E⟩)] W λe W'=>(∃v,e=.returned v)/\
   ((∃ys,(ys=pairs64.filter λp=>hb p.1 p.2)/\J ys W')\/(∃pre,(pre<+:pairs64.filter λp=>hb p.1 p.2)/\Jx pre W')):=by
 refine callsIn_of_wp Tryz.func170 rfl trivial ?_ rfl;simp only[Tryz.ntmps170,List.size_toArray,s_,c6_,Nat.reduceAdd,Nat.reduceSub,Array.replicate_succ,Array.replicate_zero,List.push_toArray,List.append_toArray,c5_,List.cons_append]
 gi_wp2
 gi_loopw [5] (λi wr=>∃k:Nat,k<=32/\i=.int .i64 k/\J (Wo hb (2*k)) wr/\Below n₀ W₀ wr/\n₀<=wr.heap.size/\wr.heap[Bn]?=C (.cells #[.int .u32 u,.int .u32 d] 66 (0,0)))
  (λi _=>32-(RowKit.intOf i).toNat)
 case atStart=>exact⟨0,ω,rfl,h0,hW,hn,hBn⟩
 case round=>
  obtain⟨k,hk,rfl,hJ,hB,hs,hbn⟩:=hrel;by_cases hlt:k<32
  .have hd:decide ((k:Int)<32)=true:=b_ ω
   gi_wp2
   gi_loopw [4] (λi wr=>∃j:Nat,j<=2/\i=.int .i64 ((j:Int)+1)/\J (Wo hb (2*k+j)) wr/\Below n₀ W₀ wr/\n₀<=wr.heap.size/\wr.heap[Bn]?=C (.cells #[.int .u32 u,.int .u32 d] 66 (0,0)))
    (λi _=>3-(RowKit.intOf i).toNat)
   case atStart=>exact⟨0,ω,rfl,hJ,hB,hs,hbn⟩
   case round=>
    obtain⟨j,hj,rfl,hJ2,hB2,hs2,hbn2⟩:=hrel;by_cases hlj:j<2
    .have hp:aA[2*k+j]?=C ((k:Int),(j:Int)+1):=by
      rcases(ω:j=0\/j=1)with rfl|rfl
      .exact(Arm hlt).1
      .exact(Arm hlt).2
     have hmem:=o_ hp;have hc0:wr.cell? ⟨Bn,0,E⟩=C (.int .u32 u):=by simp[World.cell?,hbn2]
     have hc1:wr.cell? ⟨Bn,1,E⟩=C (.int .u32 d):=by simp[World.cell?,hbn2]
     have hstep:=Bb3 hb hp;have hlen:(Wo hb (2*k+j)).length<64:=f3_ (Bf0 _ _) ω;cases hv:hb (k:Int) ((j:Int)+1)with
     |false=>
      gi_wp2_with (refine⟨trivial,?_⟩;gi_at_call 171;refine(callsIn_wide.2 (hH ((k:Int),(j:Int)+1) hmem wr hB2)).mono ?_;rintro e w' ⟨rfl,hb1⟩;rw[hv])
      refine⟨λ_ h=>(by cases h),?_⟩
      gi_wp2
      go_roundw
      case rel=>refine⟨j+1,ω,σ,?_,hB2.trans (hb1.mono hs2),b7_ hs2 hb1.size,(hb1.block Bn (I_.1 hbn2).1).trans hbn2⟩;rw[<-Z_,hstep,hv,g_,T_];exact hJb _ _ _ hJ2 ⟨hb1.os,hb1.tape,hb1.output,hb1.size,λk hk _=>hb1.block k hk⟩
      case measure=>simp[RowKit.intOf];omega
     |true=>
      gi_wp2_with (refine⟨trivial,?_⟩;gi_at_call 171;refine(callsIn_wide.2 (hH ((k:Int),(j:Int)+1) hmem wr hB2)).mono ?_;rintro e w' ⟨rfl,hb1⟩;rw[hv];have hJ3:=hJb _ _ _ hJ2 ⟨hb1.os,hb1.tape,hb1.output,hb1.size,λk hk _=>hb1.block k hk⟩;obtain⟨fn,tmps,assign,body,hy,hR⟩:=hY _ ((k:Int),(j:Int)+1) w' hJ3 hlen;dsimp only at hy)
      refine hR.mono ?_;rintro e W3 (⟨rfl,hJ4,hk3⟩|⟨rfl,hJx3⟩)
      .gi_wp2
       go_roundw
       case rel=>refine⟨j+1,ω,σ,?_,(hB2.trans (hb1.mono hs2)).trans hk3.1,b7_ (b7_ hs2 hb1.size) hk3.1.size,hk3.2.trans ((hb1.block Bn (I_.1 hbn2).1).trans hbn2)⟩;rw[<-Z_,hstep,hv,h_];exact hJ4
       case measure=>simp[RowKit.intOf];omega
      .gi_wp2
       refine bodyPost_ret (results_none rfl _ _ _) rfl ?_;refine⟨⟨_,rfl⟩,.inr ⟨_,?_,hJx3⟩⟩
       have:=Bf1 hb (2*k+j+1)
       rw[hstep,hv,h_]at this;exact this
    .obtain rfl:j=2:=ω
     gi_wp2
     go_roundw
     case rel=>exact⟨k+1,ω,σ,by rw[Nat.mul_add];exact hJ2,hB2,hs2,hbn2⟩
     case measure=>simp[RowKit.intOf];omega
  .obtain rfl:k=32:=ω
   gi_wp2
   go_end0
   exact⟨⟨_,rfl⟩,.inl ⟨_,Bfz hb,hJ⟩⟩
theorem Bf2(w:World)(u d:Int):Calls Tryz.prog 113 #[.agg #[.int .u32 u,.int .u32 d]] w λe w'=>e=.returned (.func (.func 170) #[] #[.pointer (C ⟨w.heap.size,0,E⟩)])/\w'=w.alloc (.cells #[.int .u32 u,.int .u32 d] 66):=by
 go_enter Tryz.func113,Tryz.ntmps113
 go_wp2
 go_ret
 exact⟨rfl,rfl⟩
theorem Bb4(W₀:World)(Bn n₀:Nat)(u d:Int)(hb:Int->Int->Bool)(hle:n₀<=W₀.heap.size)
  (hH:∀(p:Int×Int),p∈aA->∀w:World,Below n₀ W₀ w->Calls Tryz.prog 171 #[.agg #[.int .u32 u,.int .u32 d],.int .i64 p.1,.int .i64 p.2] w λe w'=>e=.returned (.bool (hb p.1 p.2))/\Below w.heap.size w w')
  (hBn:W₀.heap[Bn]?=C (.cells #[.int .u32 u,.int .u32 d] 66 (0,0))) :
  SeqStopsK Fence.wide 3 Tryz.prog 170 #[.pointer (C ⟨Bn,0,E⟩)] (λx:Int×Int=>#[Value.int .i64 x.1,.int .i64 x.2]) (KpB n₀ Bn) (λys=>ys=pairs64.filter λp=>hb p.1 p.2) (λpre=>pre<+:pairs64.filter λp=>hb p.1 p.2) 64 W₀:=λl J Jx W hW hJ _ hY h0=>
 Bf3 3 ω W₀ l Bn n₀ u d hb hH J Jx hY W (hW.mono hle) (b7_ hle hW.size) ((hW.block Bn (I_.1 hBn).1).trans hBn) (λpre A B h hg=>hJ pre A B E h hg (λr e=>by cases e)) h0
theorem Bsm:(Tryz.prog.info? 68).map (λi=>(i.zero,i.size,i.bytes))=C (C (.agg #[.int .i64 0,.int .i64 0,.int .i64 0,.int .i64 0,.bool false]),5,40):=κ
theorem Bjk{W:World}{b i:Nat}{c:Array Value}{t:TypeId}{fz:Nat×Nat}(h:W.heap[b]?=C (.cells c t fz)):W.cell? ⟨b,i,E⟩=c[i]?:=by simp[World.cell?,h]
theorem Aws(W:World)(p:Int×Int)(t:TypeId):∀j u,(Qn p)[j]?=C u->(W.alloc (.cells #[.int .i64 p.1,.int .i64 p.2,.int .i64 (-1),.int .i64 0,.bool false] t)).cell? ((⟨W.heap.size,0,E⟩:Addr).add j)=C u:=by
 intro j u hj;have hk:=World.alloc_heap_new W (.cells #[.int .i64 p.1,.int .i64 p.2,.int .i64 (-1),.int .i64 0,.bool false] t);have ha:(⟨W.heap.size,0,E⟩:Addr).add j=⟨W.heap.size,j,E⟩:=by cases j<;>simp[Addr.add]
 rw[ha,Bjk hk,<-hj];simp[Qn]
theorem Bkj{W:World}{B t e base size k:Nat}{c:Array Value}{v:Value}{xs:List Value}(h:W.heap[B]?=C (.cells c t (0,0)))(hte:t≠e)(hr:W.ownsRow base e size v k xs):v.ownBlock≠C B:=by
 obtain⟨_,⟨rfl,_⟩|⟨g,cap,cur,rfl,_,hgb,_⟩⟩:=hr
 .simp[Value.ownBlock]
 .intro e';obtain rfl:g=B:=by simpa[Value.ownBlock]using e'
  rw[h]at hgb;simp at hgb;exact hte hgb.2
theorem Bf4(w:World)(u d:Int)(hb:Int->Int->Bool)
  (hH:∀(p:Int×Int),p∈aA->∀w':World,Below w.heap.size w w'->Calls Tryz.prog 171 #[.agg #[.int .u32 u,.int .u32 d],.int .i64 p.1,.int .i64 p.2] w' λe w2=>e=.returned (.bool (hb p.1 p.2))/\Below w'.heap.size w' w2) :
  Calls Tryz.prog 72 #[.agg #[.int .u32 u,.int .u32 d]] w λe w'=>∃v',e=.returned v'/\w'.ownsRow w.heap.size 68 5 v' (pairs64.filter λp=>hb p.1 p.2).length ((pairs64.filter λp=>hb p.1 p.2).flatMap Qn)/\Below w.heap.size w w':=by
 obtain⟨i0,hi,hz0,hz1,hz2⟩:=info_parts Bsm;refine callsIn_wide (n:=4).1 ?_;refine callsIn_of_wp_marks Tryz.func72 rfl trivial ?_ rfl;simp only[Tryz.ntmps72,List.size_toArray,s_,c6_,Nat.reduceAdd,Nat.reduceSub,Array.replicate_succ,Array.replicate_zero,List.push_toArray,List.append_toArray,c5_,List.cons_append]
 gi_wp2_with (refine⟨trivial,?_⟩;gi_at_call 113;refine(callsIn_wide.2 (Bf2 _ u d)).mono ?_;rintro e w' ⟨rfl,rfl⟩)
 generalize hW1:w.alloc (.cells #[.int .u32 u,.int .u32 d] 66)=W1;have hs1:W1.heap.size=w.heap.size+1:=by rw[<-hW1];simp
 have bO:=Boxed.new W1 34 (.slice E 0 0);rw[hs1]at bO;generalize hW2:W1.alloc (.cells #[.slice E 0 0] 34)=W2 at bO|-;have hs2:W2.heap.size=w.heap.size+1+1:=by rw[<-hW2];simp[hs1]
 have bN:=World.alloc_heap_new W2 (.cells #[.int .u32 u,.int .u32 d] 66);rw[hs2]at bN;have bO3:=bO.alloc (.cells #[.int .u32 u,.int .u32 d] 66);have hB0:Below w.heap.size w (W2.alloc (.cells #[.int .u32 u,.int .u32 d] 66)):=by
  have h1:Below w.heap.size w W1:=by rw[<-hW1];exact(Below.refl _ w).alloc (q_ _) _
  have h2:Below w.heap.size w W2:=by rw[<-hW2];exact h1.alloc ω _
  exact h2.alloc ω _
 generalize hW3:W2.alloc (.cells #[.int .u32 u,.int .u32 d] 66)=W3 at bN bO3 hB0|-;have hs3:W3.heap.size=w.heap.size+1+1+1:=by rw[<-hW3];simp[hs2]
 refine wpIn_rangeFunc_ownG rfl ω (gf:=170) (lb:=#[.pointer (C ⟨w.heap.size+1+1,0,E⟩)]) rfl trivial (enters_of Tryz.func170 κ rfl)
  (Bb4 W3 (w.heap.size+1+1) w.heap.size u d hb ω (λp hp w' hw'=>hH p hp w' (hB0.trans hw')) bN)
  (λh1 h2=>⟨h1.1.trans h2.1,h2.2.trans h1.2⟩)
  (λW l o o' hl ho hc hk=>⟨belowK_b ω W l o o' hl ho hc hk,by
   have:l≠w.heap.size+1+1:=ω
   simp[World.putObj,f7_,this]⟩) (Below.refl _ _) (λ_=>rfl)
  (λpre W=>((∃v,Boxed W (w.heap.size+1) 34 v/\W.ownsRow w.heap.size 68 5 v pre.length (pre.flatMap Qn)/\True)/\Below w.heap.size w W)/\W.heap[w.heap.size+1+1]?=C (.cells #[.int .u32 u,.int .u32 d] 66 (0,0)))
  (λ_ _ _=>False)
  (OwnFrom.and (OwnFrom.and (Own.from (holdsRow_own w.heap.size (w.heap.size+1) 34 68 5 (λpre:List (Int×Int)=>pre.length) (λpre=>pre.flatMap Qn) (λ_ _=>True)) _) (ownFrom_below (q_ _) ω))
   (Own.from (λs A B row hs hg hr=>(hg.block _ (I_.1 hs).1 (λe=>by obtain⟨o,ho,hc⟩:=hr _ e.symm;rw[hs]at ho;cases ho;cases hc)).trans hs) _))
  (λ_ _ _ _ _ hs _ _=>hs)
  ⟨⟨⟨_,bO3,World.ownsRow_nil _ _ _ _,trivial⟩,hB0⟩,bN⟩
  (λx=>{ tmps:=#[.agg #[.int .u32 u,.int .u32 d],.pointer (C ⟨w.heap.size,0,E⟩),.slice E 0 0,.pointer (C ⟨w.heap.size+1,0,E⟩),.int .i64 x.1,.int .i64 x.2,.agg #[.int .u32 u,.int .u32 d],.func (.func 170) #[] #[.pointer (C ⟨w.heap.size+1+1,0,E⟩)],.int .i64 x.1,.int .i64 x.2,undef,undef,undef,undef,undef,undef,undef],defers:=[] }) ?assign ?body ?done ?stop
 case assign=>
  intro l x W K hK
  gi_wp2
  exact hK
 case body=>
  rintro l pre x W ⟨⟨⟨v,hv,hrow,_⟩,hB⟩,hbn⟩ hlt;have hc:=hv.cell;have hnr:=Bkj hbn τ hrow
  gi_wp2_with (gi_at_builtin;refine wpListIn_append_own _ rfl _ _ 34 rfl w.heap.size 68 i0 _ 5 40 Tryz.underlying34 hi hz0 hz1 hz2 rfl τ _ _ _ rfl (hrow.alloc _) ⟨W.heap.size,0,E⟩ 1 1 (Qn x) rfl rfl (Aws _ _ _) (by simp[Qn,Value.oneCell']) (by have:maxLen=9223372036854775807:=rfl;omega) ω (by have:=hB.size;simp;omega) ?_;intro v' w1 hown' hgrow _;obtain⟨g',cap',rfl⟩:=ownsRow_succ hown';obtain⟨hv1,hv2,hr2,hk2,hb2⟩:=hv.appended τ hrow hB.size ω hown' hgrow;have hc1:=hv1.cell;have hf1:=hv1.frozen;have hbn1:=(hgrow.block (w.heap.size+1+1) (by have:=(I_.1 hbn).1;simp;omega) (e4_ hnr)).trans ((heap_alloc_old W _ (I_.1 hbn).1).trans hbn))
  have hb3:=(Below.heap_setCell w1 ⟨w.heap.size+1,0,E⟩ (.slice (C ⟨g',0,E⟩) (pre.length+1) cap') (w.heap.size+1+1) σ).trans hbn1;exact⟨hk2.from _,⟨hb2,hb3.trans hbn.symm⟩,⟨⟨⟨_,hv2,by rw[e_,List.flatMap_append,List.flatMap_singleton];exact hr2,trivial⟩,hB.trans hb2⟩,hb3⟩⟩
 case done=>
  rintro D ys W hD rfl ⟨⟨⟨v,hv,hrow,_⟩,hB⟩,hbn⟩ hK;have hc:=hv.cell
  gi_wp2
  refine⟨σ,.inl ⟨_,_,rfl,run_takeDeferred hK,?_⟩⟩;exact⟨_,results_tmp rfl _ _ _,v,rfl,ownsRow_putObj hrow _ hK rfl,hB.trans (belowK_b (w:=w) (q_ _) W D _ _ ω hK rfl rfl)⟩
 case stop=>rintro D c pre W _ _ h _;exact h.elim
end Go.Ovl
