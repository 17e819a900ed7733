/- What a list of calls holds, by hand. -/
import Derived.Test.YthdomhdippmaiaaGreatDoorChecked
import Derived.Test.YthdomhdippmaiaaGreatDoorAbH
import Derived.Test.YthdomhdippmaiaaGreatDoorHand
import Derived.RangeFuncNested
import Derived.RangeFuncBound
import Derived.RangeFuncCalls
import Derived.RangeFuncLeaves
import Derived.Shelf.Abstract
import Derived.Shelf.RegionOpen
import Derived.OwnWalkIn
import Derived.TacticsInMore
import Derived.LoopNIn
import Derived.LoopIn
import Derived.Maps.AppendAt
namespace Go.Ovl
open Go Go.Ab Go.Proofs Go.RowKit Go.Lib Go.Shelf
attribute [local go_sem] Oper.semAt_some
set_option maxHeartbeats 4000000
set_option maxRecDepth 100000
def lsUp (hb:Int→Int→Bool) (m:Nat):List (Int×Int):=(pairs64.take m).filter fun p=>hb p.1 p.2
theorem n2v' (hb:Int→Int→Bool) (m:Nat):(lsUp hb m).length≤m:=Nat.le_trans (List.length_filter_le _ _) (by rw [List.length_take]; exact Nat.min_le_left _ _)
theorem nv7' {k:Nat} (hk:k < 32):pairs64[2 * k]?=some ((k:Int),1)∧pairs64[2 * k + 1]?=some ((k:Int),2):=by
 have:∀ k:Fin 32,pairs64[2 * k.val]?=some ((k.val:Int),1)∧pairs64[2 * k.val + 1]?=some ((k.val:Int),2):=by decide
 exact this ⟨k,hk⟩
theorem n07' (hb:Int→Int→Bool) {m:Nat} {p:Int×Int} (hp:pairs64[m]?=some p):lsUp hb (m + 1)=lsUp hb m++bif hb p.1 p.2 then [p] else []:=by
 unfold lsUp
 rw [List.take_add_one,hp,Option.toList_some,List.filter_append,List.filter_cons,List.filter_nil]
 cases hb p.1 p.2 <;> rfl
theorem n11' (hb:Int→Int→Bool):lsUp hb 64=pairs64.filter fun p=>hb p.1 p.2:=by
 unfold lsUp
 rw [List.take_of_length_le (by decide)]
theorem n2e' (hb:Int→Int→Bool) (m:Nat):lsUp hb m <+: pairs64.filter fun p=>hb p.1 p.2:=(List.take_prefix m pairs64).filter _
def KpB (n₀ Bn:Nat) (A B:World):Prop:=Below n₀ A B∧B.heap[Bn]?=A.heap[Bn]?
theorem n1w' (n:Nat) (hn1:1≤n) (W₀:World) (l Bn n₀:Nat) (u d:Int) (hb:Int→Int→Bool)
  (hH:∀ (p:Int×Int),p ∈ pairs64→∀ w:World,Below n₀ W₀ w→Calls Tryz.prog 76 #[.agg #[.int .u32 u,.int .u32 d],.int .i64 p.1,.int .i64 p.2] w fun e w'=>e=.returned (.bool (hb p.1 p.2))∧Below w.heap.size w w')
  (J Jx:List (Int×Int)→World→Prop)
  (hY:∀ pre x W,J pre W→pre.length < 64→YieldAt Fence.wide (n - 1) Tryz.prog l #[.int .i64 x.1,.int .i64 x.2] W fun e W'=>
   (e=.returned (.bool true)∧J (pre++[x]) W'∧KpB n₀ Bn W W')∨(e=.returned (.bool false)∧Jx (pre++[x]) W'))
  (W:World) (hW:Below n₀ W₀ W) (hn:n₀≤W.heap.size) (hBn:W.heap[Bn]?=some (.cells #[.int .u32 u,.int .u32 d] 26 (0,0)))
  (hJb:∀ pre A B,J pre A→A.grownBy B none→J pre B) (h0:J [] W) :
  CallsIn Fence.wide n Tryz.prog 132 #[.func (.yield l) #[] #[],.pointer (some ⟨Bn,0,none⟩)] W fun e W'=>(∃ v,e=.returned v) ∧
   ((∃ ys,(ys=pairs64.filter fun p=>hb p.1 p.2)∧J ys W')∨(∃ pre,(pre <+: pairs64.filter fun p=>hb p.1 p.2)∧Jx pre W')):=by
 refine callsIn_of_wp Tryz.func132 rfl trivial ?_ rfl
 simp only [Tryz.ntmps132,List.size_toArray,List.length_cons,List.length_nil,Nat.reduceAdd,Nat.reduceSub,Array.replicate_succ,Array.replicate_zero,List.push_toArray,List.append_toArray,List.nil_append,List.cons_append]
 gi_wp2
 gi_loopw [5] (fun i wr=>∃ k:Nat,k≤32∧i=.int .i64 k∧J (lsUp hb (2 * k)) wr∧Below n₀ W₀ wr∧n₀≤wr.heap.size∧wr.heap[Bn]?=some (.cells #[.int .u32 u,.int .u32 d] 26 (0,0)))
  (fun i _=>32 - (RowKit.intOf i).toNat)
 case atStart=>exact ⟨0,by omega,rfl,h0,hW,hn,hBn⟩
 case round=>
  obtain ⟨k,hk,rfl,hJ,hB,hs,hbn⟩:=hrel
  by_cases hlt:k < 32
  ·have hd:decide ((k:Int) < 32)=true:=decide_eq_true (by omega)
   gi_wp2
   gi_loopw [4] (fun i wr=>∃ j:Nat,j≤2∧i=.int .i64 ((j:Int) + 1)∧J (lsUp hb (2 * k + j)) wr∧Below n₀ W₀ wr∧n₀≤wr.heap.size∧wr.heap[Bn]?=some (.cells #[.int .u32 u,.int .u32 d] 26 (0,0)))
    (fun i _=>3 - (RowKit.intOf i).toNat)
   case atStart=>exact ⟨0,by omega,rfl,hJ,hB,hs,hbn⟩
   case round=>
    obtain ⟨j,hj,rfl,hJ2,hB2,hs2,hbn2⟩:=hrel
    by_cases hlj:j < 2
    ·have hp:pairs64[2 * k + j]?=some ((k:Int),(j:Int) + 1):=by
      rcases (show j=0∨j=1 by omega) with rfl | rfl
      ·exact (nv7' hlt).1
      ·exact (nv7' hlt).2
     have hmem:=List.mem_of_getElem? hp
     have hc0:wr.cell? ⟨Bn,0,none⟩=some (.int .u32 u):=by simp [World.cell?,hbn2]
     have hc1:wr.cell? ⟨Bn,1,none⟩=some (.int .u32 d):=by simp [World.cell?,hbn2]
     have hstep:=n07' hb hp
     have hlen:(lsUp hb (2 * k + j)).length < 64:=Nat.lt_of_le_of_lt (n2v' _ _) (by omega)
     cases hv:hb (k:Int) ((j:Int) + 1) with
     | false=>
      gi_wp2_with (refine ⟨trivial,?_⟩; gi_at_call 76; refine (callsIn_wide.2 (hH ((k:Int),(j:Int) + 1) hmem wr hB2)).mono ?_; rintro e w' ⟨rfl,hb1⟩; rw [hv])
      refine ⟨fun _ h=>(by cases h),?_⟩
      gi_wp2
      go_roundw
      case rel=>
       refine ⟨j + 1,by omega,by simp,?_,hB2.trans (hb1.mono hs2),Nat.le_trans hs2 hb1.size,(hb1.block Bn (Array.getElem?_eq_some_iff.1 hbn2).1).trans hbn2⟩
       rw [← Nat.add_assoc,hstep,hv,cond_false,List.append_nil]
       exact hJb _ _ _ hJ2 ⟨hb1.os,hb1.tape,hb1.output,hb1.size,fun k hk _=>hb1.block k hk⟩
      case measure=>simp [RowKit.intOf]; omega
     | true=>
      gi_wp2_with (refine ⟨trivial,?_⟩; gi_at_call 76; refine (callsIn_wide.2 (hH ((k:Int),(j:Int) + 1) hmem wr hB2)).mono ?_; rintro e w' ⟨rfl,hb1⟩; rw [hv]; have hJ3:=hJb _ _ _ hJ2 ⟨hb1.os,hb1.tape,hb1.output,hb1.size,fun k hk _=>hb1.block k hk⟩; obtain ⟨fn,tmps,assign,body,hy,hR⟩:=hY _ ((k:Int),(j:Int) + 1) w' hJ3 hlen; dsimp only at hy)
      refine hR.mono ?_
      rintro e W3 (⟨rfl,hJ4,hk3⟩ | ⟨rfl,hJx3⟩)
      ·gi_wp2
       go_roundw
       case rel=>
        refine ⟨j + 1,by omega,by simp,?_,(hB2.trans (hb1.mono hs2)).trans hk3.1,Nat.le_trans (Nat.le_trans hs2 hb1.size) hk3.1.size,hk3.2.trans ((hb1.block Bn (Array.getElem?_eq_some_iff.1 hbn2).1).trans hbn2)⟩
        rw [← Nat.add_assoc,hstep,hv,cond_true]
        exact hJ4
       case measure=>simp [RowKit.intOf]; omega
      ·gi_wp2
       refine bodyPost_ret (results_none rfl _ _ _) rfl ?_
       refine ⟨⟨_,rfl⟩,.inr ⟨_,?_,hJx3⟩⟩
       have:=n2e' hb (2 * k + j + 1)
       rw [hstep,hv,cond_true] at this
       exact this
    ·obtain rfl:j=2:=by omega
     gi_wp2
     go_roundw
     case rel=>exact ⟨k + 1,by omega,by simp,by rw [Nat.mul_add]; exact hJ2,hB2,hs2,hbn2⟩
     case measure=>simp [RowKit.intOf]; omega
  ·obtain rfl:k=32:=by omega
   gi_wp2
   go_end0
   exact ⟨⟨_,rfl⟩,.inl ⟨_,n11' hb,hJ⟩⟩
theorem n13' (w:World) (u d:Int):Calls Tryz.prog 113 #[.agg #[.int .u32 u,.int .u32 d]] w fun e w'=>e=.returned (.func (.func 132) #[] #[.pointer (some ⟨w.heap.size,0,none⟩)])∧w'=w.alloc (.cells #[.int .u32 u,.int .u32 d] 26):=by
 go_enter Tryz.func113,Tryz.ntmps113
 go_wp2
 go_ret
 exact ⟨rfl,rfl⟩
theorem n1j' (W₀:World) (Bn n₀:Nat) (u d:Int) (hb:Int→Int→Bool) (hle:n₀≤W₀.heap.size)
  (hH:∀ (p:Int×Int),p ∈ pairs64→∀ w:World,Below n₀ W₀ w→Calls Tryz.prog 76 #[.agg #[.int .u32 u,.int .u32 d],.int .i64 p.1,.int .i64 p.2] w fun e w'=>e=.returned (.bool (hb p.1 p.2))∧Below w.heap.size w w')
  (hBn:W₀.heap[Bn]?=some (.cells #[.int .u32 u,.int .u32 d] 26 (0,0))) :
  SeqStopsK Fence.wide 3 Tryz.prog 132 #[.pointer (some ⟨Bn,0,none⟩)] (fun x:Int×Int=>#[Value.int .i64 x.1,.int .i64 x.2]) (KpB n₀ Bn) (fun ys=>ys=pairs64.filter fun p=>hb p.1 p.2) (fun pre=>pre <+: pairs64.filter fun p=>hb p.1 p.2) 64 W₀:=fun l J Jx W hW hJ _ hY h0=>
 n1w' 3 (by omega) W₀ l Bn n₀ u d hb hH J Jx hY W (hW.mono hle) (Nat.le_trans hle hW.size) ((hW.block Bn (Array.getElem?_eq_some_iff.1 hBn).1).trans hBn) (fun pre A B h hg=>hJ pre A B none h hg (fun r e=>by cases e)) h0
theorem infoE:(Tryz.prog.info? 63).map (fun i=>(i.zero,i.size,i.bytes))=some (some (.agg #[.int .i64 0,.int .i64 0,.int .i64 0,.int .i64 0,.bool false]),5,40):=by kernel_rfl
theorem n3p' {W:World} {b i:Nat} {c:Array Value} {t:TypeId} {fz:Nat×Nat} (h:W.heap[b]?=some (.cells c t fz)):W.cell? ⟨b,i,none⟩=c[i]?:=by simp [World.cell?,h]
theorem ny0' (W:World) (p:Int×Int) (t:TypeId):∀ j u,(entV p)[j]?=some u→(W.alloc (.cells #[.int .i64 p.1,.int .i64 p.2,.int .i64 (-1),.int .i64 0,.bool false] t)).cell? ((⟨W.heap.size,0,none⟩:Addr).add j)=some u:=by
 intro j u hj
 have hk:=World.alloc_heap_new W (.cells #[.int .i64 p.1,.int .i64 p.2,.int .i64 (-1),.int .i64 0,.bool false] t)
 have ha:(⟨W.heap.size,0,none⟩:Addr).add j=⟨W.heap.size,j,none⟩:=by cases j <;> simp [Addr.add]
 rw [ha,n3p' hk,← hj]
 simp [entV]
theorem n3n' {W:World} {B t e base size k:Nat} {c:Array Value} {v:Value} {xs:List Value} (h:W.heap[B]?=some (.cells c t (0,0))) (hte:t ≠ e) (hr:W.ownsRow base e size v k xs):v.ownBlock ≠ some B:=by
 obtain ⟨_,⟨rfl,_⟩ | ⟨g,cap,cur,rfl,_,hgb,_⟩⟩:=hr
 ·simp [Value.ownBlock]
 ·intro e'
  obtain rfl:g=B:=by simpa [Value.ownBlock] using e'
  rw [h] at hgb
  simp at hgb
  exact hte hgb.2
theorem n2f' (w:World) (u d:Int) (hb:Int→Int→Bool)
  (hH:∀ (p:Int×Int),p ∈ pairs64→∀ w':World,Below w.heap.size w w'→Calls Tryz.prog 76 #[.agg #[.int .u32 u,.int .u32 d],.int .i64 p.1,.int .i64 p.2] w' fun e w2=>e=.returned (.bool (hb p.1 p.2))∧Below w'.heap.size w' w2) :
  Calls Tryz.prog 77 #[.agg #[.int .u32 u,.int .u32 d]] w fun e w'=>∃ v',e=.returned v'∧w'.ownsRow w.heap.size 63 5 v' (pairs64.filter fun p=>hb p.1 p.2).length ((pairs64.filter fun p=>hb p.1 p.2).flatMap entV)∧Below w.heap.size w w':=by
 obtain ⟨i0,hi,hz0,hz1,hz2⟩:=info_parts infoE
 refine callsIn_wide (n:=4).1 ?_
 refine callsIn_of_wp_marks Tryz.func77 rfl trivial ?_ rfl
 simp only [Tryz.ntmps77,List.size_toArray,List.length_cons,List.length_nil,Nat.reduceAdd,Nat.reduceSub,Array.replicate_succ,Array.replicate_zero,List.push_toArray,List.append_toArray,List.nil_append,List.cons_append]
 gi_wp2_with (refine ⟨trivial,?_⟩; gi_at_call 113; refine (callsIn_wide.2 (n13' _ u d)).mono ?_; rintro e w' ⟨rfl,rfl⟩)
 generalize hW1:w.alloc (.cells #[.int .u32 u,.int .u32 d] 26)=W1
 have hs1:W1.heap.size=w.heap.size + 1:=by rw [← hW1]; simp
 have bO:=Boxed.new W1 36 (.slice none 0 0)
 rw [hs1] at bO
 generalize hW2:W1.alloc (.cells #[.slice none 0 0] 36)=W2 at bO ⊢
 have hs2:W2.heap.size=w.heap.size + 1 + 1:=by rw [← hW2]; simp [hs1]
 have bN:=World.alloc_heap_new W2 (.cells #[.int .u32 u,.int .u32 d] 26)
 rw [hs2] at bN
 have bO3:=bO.alloc (.cells #[.int .u32 u,.int .u32 d] 26)
 have hB0:Below w.heap.size w (W2.alloc (.cells #[.int .u32 u,.int .u32 d] 26)):=by
  have h1:Below w.heap.size w W1:=by rw [← hW1]; exact (Below.refl _ w).alloc (Nat.le_refl _) _
  have h2:Below w.heap.size w W2:=by rw [← hW2]; exact h1.alloc (by omega) _
  exact h2.alloc (by omega) _
 generalize hW3:W2.alloc (.cells #[.int .u32 u,.int .u32 d] 26)=W3 at bN bO3 hB0 ⊢
 have hs3:W3.heap.size=w.heap.size + 1 + 1 + 1:=by rw [← hW3]; simp [hs2]
 refine wpIn_rangeFunc_ownG rfl (by omega) (gf:=132) (lb:=#[.pointer (some ⟨w.heap.size + 1 + 1,0,none⟩)]) rfl trivial (enters_of Tryz.func132 (by kernel_rfl) rfl)
  (n1j' W3 (w.heap.size + 1 + 1) w.heap.size u d hb (by omega) (fun p hp w' hw'=>hH p hp w' (hB0.trans hw')) bN)
  (fun h1 h2=>⟨h1.1.trans h2.1,h2.2.trans h1.2⟩)
  (fun W l o o' hl ho hc hk=>⟨belowK_b (by omega) W l o o' hl ho hc hk,by
   have:l ≠ w.heap.size + 1 + 1:=by omega
   simp [World.putObj,Array.getElem?_setIfInBounds,this]⟩) (Below.refl _ _) (fun _=>rfl)
  (fun pre W=>((∃ v,Boxed W (w.heap.size + 1) 36 v∧W.ownsRow w.heap.size 63 5 v pre.length (pre.flatMap entV)∧True)∧Below w.heap.size w W)∧W.heap[w.heap.size + 1 + 1]?=some (.cells #[.int .u32 u,.int .u32 d] 26 (0,0)))
  (fun _ _ _=>False)
  (OwnFrom.and (OwnFrom.and (Own.from (holdsRow_own w.heap.size (w.heap.size + 1) 36 63 5 (fun pre:List (Int×Int)=>pre.length) (fun pre=>pre.flatMap entV) (fun _ _=>True)) _) (ownFrom_below (Nat.le_refl _) (by omega)))
   (Own.from (fun s A B row hs hg hr=>(hg.block _ (Array.getElem?_eq_some_iff.1 hs).1 (fun e=>by
    obtain ⟨o,ho,hc⟩:=hr _ e.symm
    rw [hs] at ho; cases ho; cases hc)).trans hs) _))
  (fun _ _ _ _ _ hs _ _=>hs)
  ⟨⟨⟨_,bO3,World.ownsRow_nil _ _ _ _,trivial⟩,hB0⟩,bN⟩
  (fun x=>{ tmps:=#[.agg #[.int .u32 u,.int .u32 d],.pointer (some ⟨w.heap.size,0,none⟩),.slice none 0 0,.pointer (some ⟨w.heap.size + 1,0,none⟩),.int .i64 x.1,.int .i64 x.2,.agg #[.int .u32 u,.int .u32 d],.func (.func 132) #[] #[.pointer (some ⟨w.heap.size + 1 + 1,0,none⟩)],.int .i64 x.1,.int .i64 x.2,undef,undef,undef,undef,undef,undef,undef],defers:=[] }) ?assign ?body ?done ?stop
 case assign=>
  intro l x W K hK
  gi_wp2
  exact hK
 case body=>
  rintro l pre x W ⟨⟨⟨v,hv,hrow,_⟩,hB⟩,hbn⟩ hlt
  have hc:=hv.cell
  have hnr:=n3n' hbn (by decide) hrow
  gi_wp2_with (gi_at_builtin; refine wpListIn_append_own _ rfl _ _ 36 rfl w.heap.size 63 i0 _ 5 40 Tryz.underlying36 hi hz0 hz1 hz2 rfl (by decide) _ _ _ rfl (hrow.alloc _) ⟨W.heap.size,0,none⟩ 1 1 (entV x) rfl rfl (ny0' _ _ _) (by simp [entV,Value.oneCell']) (by have:maxLen=9223372036854775807:=rfl; omega) (by omega) (by have:=hB.size; simp; omega) ?_; intro v' w1 hown' hgrow _; obtain ⟨g',cap',rfl⟩:=ownsRow_succ hown'; obtain ⟨hv1,hv2,hr2,hk2,hb2⟩:=hv.appended (by decide) hrow hB.size (by omega) hown' hgrow; have hc1:=hv1.cell; have hf1:=hv1.frozen; have hbn1:=(hgrow.block (w.heap.size + 1 + 1) (by have:=(Array.getElem?_eq_some_iff.1 hbn).1; simp; omega) (Ne.symm hnr)).trans ((heap_alloc_old W _ (Array.getElem?_eq_some_iff.1 hbn).1).trans hbn))
  have hb3:=(Below.heap_setCell w1 ⟨w.heap.size + 1,0,none⟩ (.slice (some ⟨g',0,none⟩) (pre.length + 1) cap') (w.heap.size + 1 + 1) (by simp)).trans hbn1
  exact ⟨hk2.from _,⟨hb2,hb3.trans hbn.symm⟩,⟨⟨⟨_,hv2,by rw [List.length_append,List.flatMap_append,List.flatMap_singleton]; exact hr2,trivial⟩,hB.trans hb2⟩,hb3⟩⟩
 case done=>
  rintro D ys W hD rfl ⟨⟨⟨v,hv,hrow,_⟩,hB⟩,hbn⟩ hK
  have hc:=hv.cell
  gi_wp2
  refine ⟨by simp,.inl ⟨_,_,rfl,run_takeDeferred hK,?_⟩⟩
  exact ⟨_,results_tmp rfl _ _ _,v,rfl,ownsRow_putObj hrow _ hK rfl,hB.trans (belowK_b (w:=w) (Nat.le_refl _) W D _ _ (by omega) hK rfl rfl)⟩
 case stop=>
  rintro D c pre W _ _ h _
  exact h.elim
end Go.Ovl
