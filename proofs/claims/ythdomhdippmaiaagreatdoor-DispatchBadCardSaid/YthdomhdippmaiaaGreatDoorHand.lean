/- What functions of Go's library do, by hand. -/
import Derived.Test.YthdomhdippmaiaaGreatDoorChecked
import Derived.Test.YthdomhdippmaiaaGreatDoorAbH
namespace Go.Ovl
open Go Go.Ab Go.Proofs Go.RowKit Go.Lib
set_option maxHeartbeats 4000000
set_option maxRecDepth 100000
theorem nw3' (z:Value) (hz0:Tryz.t3.zero=some z) (hzs:z.cells.size=1) (w:World) (ad:Addr) (n c:Nat) (news:List Value) (hl:news.length=n * 1) (hn:n≤maxLen) (hbig:n * Tryz.t3.bytes≤140737488355328)
  (hc:∀ j u,news[j]?=some u→w.cell? (ad.add j)=some u) (h1:∀ u ∈ news,u.oneCell'=true) :
  Calls Tryz.prog 36 #[.slice (some ad) n c] w fun e w'=>∃ v',e=.returned v'∧w'.ownsRow w.heap.size 3 1 v' n news∧v' ≠ .slice none 0 0∧Below w.heap.size w w':=by
 have mixed:Tryz.prog.follows .mixedOrders=true:=by kernel_rfl
 have tu:=Tryz.underlying34
 have qu:∀ (w:World) (a:Option Addr) (n c n' c':Nat),(binOp .eql 34 (.slice a n c) (.slice none n' c')).run Tryz.prog w=.ok (.bool a.isNone) w:=fun w a n c n' c'=>Lib.run_eql_slice_nil w _ _ a n c n' c' tu
 have uu:∀ w,Sem.run Tryz.prog (underlying 34) w=.ok (TypeDesc.slice 3) w:=run_underlying tu
 have A:Aside (∀ j u,news[j]?=some u→w.cell? (ad.add j)=some u):=hc
 clear hc
 go_enter Tryz.func36,Tryz.ntmps36
 go_wp2_with (at_builtin; refine wpList_append_own _ rfl _ _ 34 rfl w.heap.size 3 Tryz.t3 z 1 Tryz.t3.bytes tu (by kernel_rfl) hz0 (by kernel_rfl) rfl hzs (by decide) _ _ _ rfl (World.ownsRow_made w #[] 0 (Nat.le_refl _) (Nat.zero_le _) (by simp)) ad n c news rfl ?qc1 ?qc2 ?qc3 ?qc4 ?qc5 ?qc6 ?_)
 case qc1=>exact hl
 case qc2=>
  intro j u hj
  exact Lib.cell?_alloc_some _ (A.out j u hj)
 case qc3=>exact h1
 case qc4=>rw [Nat.zero_add]; exact hn
 case qc5=>rw [Nat.zero_add]; exact hbig
 case qc6=>simp
 intro v' w1 hown hgrow hnil
 go_wp2
 go_ret
 refine ⟨v',rfl,by simpa using hown,?_,?_⟩
 ·exact hnil
 ·exact ((Below.refl _ w).alloc (Nat.le_refl _) _).grown hgrow (by simp) (by intro k hk; simp [Value.ownBlock] at hk; omega)
theorem nyp' (w:World) (n c:Nat) :
  Calls Tryz.prog 36 #[.slice none n c] w fun e w'=>e=.returned (.slice none 0 0)∧w'=w:=by
 have tu:=Tryz.underlying34
 have qu:∀ (w:World) (a:Option Addr) (n c n' c':Nat),(binOp .eql 34 (.slice a n c) (.slice none n' c')).run Tryz.prog w=.ok (.bool a.isNone) w:=fun w a n c n' c'=>Lib.run_eql_slice_nil w _ _ a n c n' c' tu
 go_enter Tryz.func36,Tryz.ntmps36
 go_wp2
 go_ret
 exact ⟨rfl,rfl⟩
theorem nwq' (z:Value) (hz0:Tryz.t4.zero=some z) (hzs:z.cells.size=1) (w:World) (ad:Addr) (n c:Nat) (news:List Value) (hl:news.length=n * 1) (hn:n≤maxLen) (hbig:n * Tryz.t4.bytes≤140737488355328)
  (hc:∀ j u,news[j]?=some u→w.cell? (ad.add j)=some u) (h1:∀ u ∈ news,u.oneCell'=true) :
  Calls Tryz.prog 71 #[.slice (some ad) n c] w fun e w'=>∃ v',e=.returned v'∧w'.ownsRow w.heap.size 4 1 v' n news∧v' ≠ .slice none 0 0∧Below w.heap.size w w':=by
 have mixed:Tryz.prog.follows .mixedOrders=true:=by kernel_rfl
 have tu:=Tryz.underlying35
 have qu:∀ (w:World) (a:Option Addr) (n c n' c':Nat),(binOp .eql 35 (.slice a n c) (.slice none n' c')).run Tryz.prog w=.ok (.bool a.isNone) w:=fun w a n c n' c'=>Lib.run_eql_slice_nil w _ _ a n c n' c' tu
 have uu:∀ w,Sem.run Tryz.prog (underlying 35) w=.ok (TypeDesc.slice 4) w:=run_underlying tu
 have A:Aside (∀ j u,news[j]?=some u→w.cell? (ad.add j)=some u):=hc
 clear hc
 go_enter Tryz.func71,Tryz.ntmps71
 go_wp2_with (at_builtin; refine wpList_append_own _ rfl _ _ 35 rfl w.heap.size 4 Tryz.t4 z 1 Tryz.t4.bytes tu (by kernel_rfl) hz0 (by kernel_rfl) rfl hzs (by decide) _ _ _ rfl (World.ownsRow_made w #[] 0 (Nat.le_refl _) (Nat.zero_le _) (by simp)) ad n c news rfl ?qc1 ?qc2 ?qc3 ?qc4 ?qc5 ?qc6 ?_)
 case qc1=>exact hl
 case qc2=>
  intro j u hj
  exact Lib.cell?_alloc_some _ (A.out j u hj)
 case qc3=>exact h1
 case qc4=>rw [Nat.zero_add]; exact hn
 case qc5=>rw [Nat.zero_add]; exact hbig
 case qc6=>simp
 intro v' w1 hown hgrow hnil
 go_wp2
 go_ret
 refine ⟨v',rfl,by simpa using hown,?_,?_⟩
 ·exact hnil
 ·exact ((Below.refl _ w).alloc (Nat.le_refl _) _).grown hgrow (by simp) (by intro k hk; simp [Value.ownBlock] at hk; omega)
theorem ny4' (w:World) (n c:Nat) :
  Calls Tryz.prog 71 #[.slice none n c] w fun e w'=>e=.returned (.slice none 0 0)∧w'=w:=by
 have tu:=Tryz.underlying35
 have qu:∀ (w:World) (a:Option Addr) (n c n' c':Nat),(binOp .eql 35 (.slice a n c) (.slice none n' c')).run Tryz.prog w=.ok (.bool a.isNone) w:=fun w a n c n' c'=>Lib.run_eql_slice_nil w _ _ a n c n' c' tu
 go_enter Tryz.func71,Tryz.ntmps71
 go_wp2
 go_ret
 exact ⟨rfl,rfl⟩
theorem nwt' (z:Value) (hz0:Tryz.t63.zero=some z) (hzs:z.cells.size=5) (w:World) (ad:Addr) (n c:Nat) (news:List Value) (hl:news.length=n * 5) (hn:n≤maxLen) (hbig:n * Tryz.t63.bytes≤140737488355328)
  (hc:∀ j u,news[j]?=some u→w.cell? (ad.add j)=some u) (h1:∀ u ∈ news,u.oneCell'=true) :
  Calls Tryz.prog 72 #[.slice (some ad) n c] w fun e w'=>∃ v',e=.returned v'∧w'.ownsRow w.heap.size 63 5 v' n news∧v' ≠ .slice none 0 0∧Below w.heap.size w w':=by
 have mixed:Tryz.prog.follows .mixedOrders=true:=by kernel_rfl
 have tu:=Tryz.underlying36
 have qu:∀ (w:World) (a:Option Addr) (n c n' c':Nat),(binOp .eql 36 (.slice a n c) (.slice none n' c')).run Tryz.prog w=.ok (.bool a.isNone) w:=fun w a n c n' c'=>Lib.run_eql_slice_nil w _ _ a n c n' c' tu
 have uu:∀ w,Sem.run Tryz.prog (underlying 36) w=.ok (TypeDesc.slice 63) w:=run_underlying tu
 have A:Aside (∀ j u,news[j]?=some u→w.cell? (ad.add j)=some u):=hc
 clear hc
 go_enter Tryz.func72,Tryz.ntmps72
 go_wp2_with (at_builtin; refine wpList_append_own _ rfl _ _ 36 rfl w.heap.size 63 Tryz.t63 z 5 Tryz.t63.bytes tu (by kernel_rfl) hz0 (by kernel_rfl) rfl hzs (by decide) _ _ _ rfl (World.ownsRow_made w #[] 0 (Nat.le_refl _) (Nat.zero_le _) (by simp)) ad n c news rfl ?qc1 ?qc2 ?qc3 ?qc4 ?qc5 ?qc6 ?_)
 case qc1=>exact hl
 case qc2=>
  intro j u hj
  exact Lib.cell?_alloc_some _ (A.out j u hj)
 case qc3=>exact h1
 case qc4=>rw [Nat.zero_add]; exact hn
 case qc5=>rw [Nat.zero_add]; exact hbig
 case qc6=>simp
 intro v' w1 hown hgrow hnil
 go_wp2
 go_ret
 refine ⟨v',rfl,by simpa using hown,?_,?_⟩
 ·exact hnil
 ·exact ((Below.refl _ w).alloc (Nat.le_refl _) _).grown hgrow (by simp) (by intro k hk; simp [Value.ownBlock] at hk; omega)
theorem nyh' (w:World) (n c:Nat) :
  Calls Tryz.prog 72 #[.slice none n c] w fun e w'=>e=.returned (.slice none 0 0)∧w'=w:=by
 have tu:=Tryz.underlying36
 have qu:∀ (w:World) (a:Option Addr) (n c n' c':Nat),(binOp .eql 36 (.slice a n c) (.slice none n' c')).run Tryz.prog w=.ok (.bool a.isNone) w:=fun w a n c n' c'=>Lib.run_eql_slice_nil w _ _ a n c n' c' tu
 go_enter Tryz.func72,Tryz.ntmps72
 go_wp2
 go_ret
 exact ⟨rfl,rfl⟩
theorem nwj' (w:World) (b n c i j:Nat) (xs zs:List Value) (z:Value) (curA A1 A2:Array Value) (hij:i < j) (hj:j≤n) (hnc:n≤c) (hc63:c≤9223372036854775807)
  (hzv:∀ w,(zeroValue 3).run Tryz.prog w=.ok z w) (hzs:zs=(Builtin.zeroCells z.cells (j - i)).toList) (hzl:zs.length=(j - i) * 1) (hz1:∀ u ∈ zs,u.oneCell'=true)
  (hg:w.heap[b]?=some (.cells curA 3 (0,0))) (hsz:curA.size=c * 1) (hxl:xs.length=n * 1) (hxs:curA.toList.take (n * 1)=xs) (h1c:∀ v ∈ xs,v.oneCell'=true)
  (hA1:A1=(curA.toList.take (i * 1)++xs.drop (j * 1)++curA.toList.drop (i * 1 + (xs.drop (j * 1)).length)).toArray)
  (hA2:A2=(A1.toList.take ((i + (n - j)) * 1)++zs++A1.toList.drop ((i + (n - j)) * 1 + zs.length)).toArray) :
  Calls Tryz.prog 74 #[.slice (some ⟨b,0,none⟩) n c,.int .i64 i,.int .i64 j] w fun e w'=>
   e=.returned (.slice (some ⟨b,0,none⟩) (i + (n - j)) c)∧w'=(w.drew.setRow b A1).setRow b A2:=by
 have mixed:Tryz.prog.follows .mixedOrders=true:=by kernel_rfl
 have hdl:(xs.drop (j * 1)).length=(n - j) * 1:=by rw [List.length_drop,hxl,Nat.sub_mul]
 have hap:∀ ty (ad:Addr) sc,ad=⟨b,j * 1,none⟩∨n=j→(Builtin.append_ #[34,34] ty #[.slice (some ⟨b,0,none⟩) i c,.slice (some ad) (n - j) sc]).run Tryz.prog w.drew=.ok (.slice (some ⟨b,0,none⟩) (i + (n - j)) c) (w.drew.setRow b A1):=fun ty ad sc had=>by
  rw [hA1]
  refine run_append_room w.drew 34 ty 3 Tryz.t3 Tryz.underlying34 (by kernel_rfl) b i c curA hg ad (n - j) sc (xs.drop (j * 1)) hdl (fun q u hq=>?_) (fun v hv=>h1c v (List.mem_of_mem_drop hv)) (by omega) ?_
  ·rcases had with rfl | had
   ·rw [Addr.add_lit]
    rw [List.getElem?_drop,← hxs] at hq
    have hlt:j * 1 + q < n * 1:=by
     have:=(List.getElem?_eq_some_iff.1 hq).1
     simp at this; omega
    rw [List.getElem?_take_of_lt hlt] at hq
    show w.cell? _=_
    rw [cell_of_row w b _ curA 3 (0,0) hg]
    simpa using hq
   ·have:=(List.getElem?_eq_some_iff.1 hq).1
    omega
  ·rw [hdl,hsz]; show i * 1 + (n - j) * 1≤c * 1; omega
 have hg1:(w.drew.setRow b A1).heap[b]?=some (.cells A1 3 (0,0)):=Go.Ab.setRow_heap hg
 have hA1s:A1.size=c * 1:=by rw [hA1]; simp [hdl,hsz]; omega
 obtain ⟨W1,hW1⟩:∃ W1,W1=w.drew.setRow b A1:=⟨_,rfl⟩
 rw [← hW1] at hap hg1 ⊢
 have hcl:∀ ty,(Builtin.clear_ #[34] ty #[.slice (some ⟨b,(i + (n - j)) * 1,none⟩) (n - (i + (n - j))) (c - (i + (n - j)))]).run Tryz.prog W1=.ok (.tuple #[]) (W1.setRow b A2):=fun ty=>by
  rw [hA2]
  rw [show n - (i + (n - j))=j - i by omega]
  exact ntk' W1 34 3 ty z Tryz.underlying34 hzv b _ (j - i) _ (by omega) A1 3 zs hzs hg1 (by rw [hzl,hA1s]; omega) hz1
 have hic:i≤c:=by omega
 have hjc:j≤c:=by omega
 have hne:¬ ((i:Int)=(j:Int)):=by omega
 have hle:(i:Int)≤(j:Int):=by omega
 have hX:Hid (W1=w.drew.setRow b A1):=hW1
 clear hzs hzl hz1 hg hsz hxl hxs h1c hA1 hA2 hdl hg1 hA1s hzv hW1
 by_cases hcj:c=j
 ·subst hcj
  obtain rfl:n=c:=by omega
  have hap0:=hap 34 ⟨b,0,none⟩ 0 (.inr rfl)
  clear hap
  simp only [Nat.sub_self,Nat.add_zero] at hap0 hcl ⊢
  try simp only [Nat.mul_one] at *
  go_enter Tryz.func74,Tryz.ntmps74
  go_wp2_with fail
  go_region_law_o (refine nfz' rfl _ _ 34 34 rfl (.slice (some ⟨b,0,none⟩) i n) (.slice (some ⟨b,0,none⟩) 0 0) (by simp [Act.eval,Act.put]) (by simp [Act.eval,Act.put]) hap0 ?_)
  go_wp2
  go_ret
  exact ⟨rfl,rfl⟩
 try simp only [Nat.mul_one] at *
 go_enter Tryz.func74,Tryz.ntmps74
 go_wp2_with fail
 go_region_law_o (refine nfz' rfl _ _ 34 34 rfl (.slice (some ⟨b,0,none⟩) i c) (.slice (some ⟨b,j,none⟩) (n - j) (c - j)) (by simp [Act.eval,Act.put]) (by simp [Act.eval,Act.put]) (hap 34 ⟨b,j,none⟩ (c - j) (.inl rfl)) ?_)
 go_wp2
 go_ret
 exact ⟨rfl,rfl⟩
theorem nqk' (w:World) (n i j:Nat) (xs:List Value) (vS:Value) (o1:w.ownsRow 0 3 1 vS n xs) (h1c:∀ u ∈ xs,u.oneCell'=true) (hij:i < j) (hj:j≤n) :
  Calls Tryz.prog 74 #[vS,.int .i64 i,.int .i64 j] w fun e w'=>∃ v',e=.returned v'∧RowOut w w' 3 1 vS v' (n - (j - i)) (xs.take (i * 1)++xs.drop (j * 1)):=by
 obtain ⟨z,hzv,hzs⟩:∃ z,(∀ w,(zeroValue 3).run Tryz.prog w=.ok z w)∧z.cells.size=1:=⟨_,Tryz.zeroValue3,rfl⟩
 have hz1:∀ u ∈ (Builtin.zeroCells z.cells (j - i)).toList,u.oneCell'=true:=by
  have hz:(zeroValue 3).run Tryz.prog w=.ok z w:=hzv w
  rw [Tryz.zeroValue3 w] at hz
  cases hz
  exact nng' _ (by kernel_rfl) (by rw [hzs]; omega) _
 obtain ⟨hxl,⟨rfl,rfl⟩ | ⟨b,c,cur,rfl,_,hg,hnc,hcm,hcs,hct⟩⟩:=o1
 ·omega
 have hcm':c≤9223372036854775807:=by unfold maxLen at hcm; omega
 have hzl:(Builtin.zeroCells z.cells (j - i)).toList.length=(j - i) * 1:=by simp [Builtin.zeroCells,hzs]
 have hdl:(xs.drop (j * 1)).length=(n - j) * 1:=by rw [List.length_drop,hxl,Nat.sub_mul]
 refine (nwj' w b n c i j xs _ z cur _ _ hij hj hnc hcm' hzv rfl hzl hz1 hg hcs hxl hct h1c rfl rfl).mono ?_
 rintro e w' ⟨rfl,rfl⟩
 have hn:n - (j - i)=i + (n - j):=by omega
 rw [hn]
 refine ⟨_,rfl,⟨by simp [hxl,hdl]; omega,.inr ⟨b,c,_,rfl,Nat.zero_le _,Go.Ab.setRow_heap (Go.Ab.setRow_heap (w:=w.drew) hg),by omega,hcm,?_,?_⟩⟩,fun b' hb'=>.inl hb',⟨rfl,rfl,rfl,by rw [Go.Ab.setRow_size,Go.Ab.setRow_size]; exact Nat.le_refl _,fun k hk hne=>by
  have hkb:k ≠ b:=fun e=>hne (by rw [e]; rfl)
  rw [Go.Ab.setRow_other hkb,Go.Ab.setRow_other hkb]; rfl⟩⟩
 ·simp [hdl,hcs,hzl]; omega
 ·have e1:cur.toList.take (i * 1)=xs.take (i * 1):=by rw [← hct,List.take_take,Nat.min_eq_left (by omega)]
  have hlen:(xs.take (i * 1)++xs.drop (j * 1)).length=(i + (n - j)) * 1:=by rw [List.length_append,hdl,List.length_take,hxl]; omega
  have hlen':=hlen
  rw [List.length_append] at hlen'
  rw [List.toList_toArray,List.toList_toArray,e1,List.append_assoc (List.take _ _)]
  rw [List.take_append_of_le_length (by simp only [List.length_take,List.length_append] at hlen' ⊢; omega),List.take_take,Nat.min_self,List.take_left' hlen]
theorem nqm' (w:World) (b n c m vb vc:Nat) (vs:List Value) (curA:Array Value) (hm:0 < m) (hroom:n + m≤c)
  (hg:w.heap[b]?=some (.cells curA 3 (0,0))) (hsz:curA.size=c * 1) (hvl:vs.length=m * 1) (hvs:∀ j v,vs[j]?=some v→w.cell? ⟨vb,j,none⟩=some v) (h1v:∀ v ∈ vs,v.oneCell'=true) :
  Calls Tryz.prog 75 #[.slice (some ⟨b,0,none⟩) n c,.int .i64 n,.slice (some ⟨vb,0,none⟩) m vc] w fun e w'=>
   e=.returned (.slice (some ⟨b,0,none⟩) (n + m) c)∧w'=w.setRow b (curA.toList.take (n * 1)++vs++curA.toList.drop (n * 1 + vs.length)).toArray:=by
 have hz1:¬ ((m:Int)=0):=by omega
 have hr:∀ ty,(Builtin.append_ #[34,34] ty #[.slice (some ⟨b,0,none⟩) n c,.slice (some ⟨vb,0,none⟩) m vc]).run Tryz.prog w=.ok (.slice (some ⟨b,0,none⟩) (n + m) c) (w.setRow b (curA.toList.take (n * 1)++vs++curA.toList.drop (n * 1 + vs.length)).toArray):=fun ty=>
  run_append_room w 34 ty 3 Tryz.t3 Tryz.underlying34 (by kernel_rfl) b n c curA hg ⟨vb,0,none⟩ m vc vs hvl (fun j u hj=>by rw [Addr.add_lit,Nat.zero_add]; exact hvs j u hj) h1v hroom (by rw [hvl,hsz]; show n * 1 + m * 1≤c * 1; omega)
 clear hg hsz hvl hvs h1v
 generalize w.setRow b (curA.toList.take (n * 1)++vs++curA.toList.drop (n * 1 + vs.length)).toArray=W at hr ⊢
 try simp only [Nat.mul_one] at *
 go_enter Tryz.func75,Tryz.ntmps75
 go_wp2_with (at_builtin; refine Lib.wpList_append_run _ rfl _ _ _ _ rfl _ _ rfl rfl _ _ (hr _) ?_)
 go_ret
 exact ⟨rfl,rfl⟩
theorem nvr' (w:World) (b n c i m vb vc:Nat) (vs xs:List Value) (curA A1 A2:Array Value) (hi:i < n) (hm:0 < m) (hroom:n + m≤c) (hc63:c≤9223372036854775807) (hvb:vb ≠ b)
  (hg:w.heap[b]?=some (.cells curA 3 (0,0))) (hsz:curA.size=c * 1) (hxl:xs.length=n * 1) (hxs:curA.toList.take (n * 1)=xs) (hvl:vs.length=m * 1) (hvs:∀ j v,vs[j]?=some v→w.cell? ⟨vb,j,none⟩=some v) (h1c:∀ v ∈ xs,v.oneCell'=true) (h1v:∀ v ∈ vs,v.oneCell'=true)
  (hA1:A1=(curA.toList.take ((i + m) * 1)++xs.drop (i * 1)++curA.toList.drop ((i + m) * 1 + (xs.drop (i * 1)).length)).toArray) (hA2:A2=(A1.toList.take (i * 1)++vs++A1.toList.drop (i * 1 + vs.length)).toArray)
  (tA tB:TypeId) (kA kB:Nat) (hsa:w.shape? vb=some (tA,kA)) (hsb:w.shape? b=some (tB,kB)) (hkB:kB ≠ 0) (hfa:w.frozen? ⟨vb,0,none⟩=false) (hfe:w.frozen? ⟨vb,kA,none⟩=false) :
  Calls Tryz.prog 75 #[.slice (some ⟨b,0,none⟩) n c,.int .i64 i,.slice (some ⟨vb,0,none⟩) m vc] w fun e w'=>
   e=.returned (.slice (some ⟨b,0,none⟩) (n + m) c)∧w'=(w.drew.setRow b A1).setRow b A2:=by
 have mixed:Tryz.prog.follows .mixedOrders=true:=by kernel_rfl
 have hz1:¬ ((m:Int)=0):=by omega
 have hz2:¬ ((i:Int)=(n:Int)):=by omega
 have hov:∀ lb cb,(callFunc 111 #[.slice (some ⟨vb,0,none⟩) m vc,.slice (some ⟨b,(i + m) * 1,none⟩) lb cb]).run Tryz.prog w=.ok (.value (.bool false)) w:=fun lb cb=>by
  rw [run_callFunc_extern Tryz.func111 (by kernel_rfl) (by kernel_rfl) (by kernel_rfl) (e:=Extern.SlicesOverlaps.overlaps #[34,34] #[4]) (by kernel_rfl),
   Lib.run_overlaps_apart w 34 4 3 Tryz.underlying34 1 Tryz.sizeOf3 ⟨vb,0,none⟩ ⟨b,(i + m) * 1,none⟩ m vc lb cb hvb tA tB kA kB hsa hsb hkB hfa hfe]
  rfl
 have hdl:(xs.drop (i * 1)).length=(n - i) * 1:=by rw [List.length_drop,hxl,Nat.sub_mul]
 have hw1:IntKind.i64.wrap ((i:Int) + (m:Int))=(i:Int) + (m:Int):=by rw [IntKind.wrap_i64]; omega
 have hb1:(0:Int)≤(i:Int) + (m:Int):=by omega
 have hin:i≤n:=by omega
 have htn:((i:Int) + (m:Int)).toNat=i + m:=by omega
 have hb2:¬ (c=i + m):=by omega
 have hb3:(i:Int)≤(n:Int) + (m:Int):=by omega
 have hb4:¬ (c=i):=by omega
 have hcp1:∀ ty dc sc,(Builtin.copy_ #[34,34] ty #[.slice (some ⟨b,(i + m) * 1,none⟩) (n + m - (i + m)) dc,.slice (some ⟨b,i * 1,none⟩) (n + m - i) sc]).run Tryz.prog w.drew=.ok (goInt (Nat.min (n + m - i) (n + m - (i + m)))) (w.drew.setRow b A1):=fun ty dc sc=>by
  rw [hA1]
  refine ng2' w.drew 34 34 ty 3 Tryz.t3 b ((i + m) * 1) (n + m - (i + m)) dc ⟨b,i * 1,none⟩ (n + m - i) sc curA 3 (xs.drop (i * 1)) Tryz.underlying34 (by kernel_rfl) hg ?_ ?_ ?_ ?_
  ·rw [hdl]; show (n - i) * 1=Nat.min (n + m - i) (n + m - (i + m)) * 1
   rw [show Nat.min (n + m - i) (n + m - (i + m))=n - i by simp only [Nat.min_def]; split <;> omega]
  ·intro j v hj
   rw [Addr.add_lit]
   rw [List.getElem?_drop,← hxs] at hj
   have hlt:i * 1 + j < n * 1:=by
    have:=(List.getElem?_eq_some_iff.1 hj).1
    simp at this; omega
   rw [List.getElem?_take_of_lt hlt] at hj
   show w.cell? _=_
   rw [cell_of_row w b _ curA 3 (0,0) hg]
   simpa using hj
  ·rw [hdl,hsz]; omega
  ·exact fun v hv=>h1c v (List.mem_of_mem_drop hv)
 have hg1:(w.drew.setRow b A1).heap[b]?=some (.cells A1 3 (0,0)):=Go.Ab.setRow_heap hg
 have hA1s:A1.size=c * 1:=by rw [hA1]; simp [hdl,hsz]; omega
 have hcp2:∀ (W:World),W.heap=(w.drew.setRow b A1).heap→∀ ty dc,(Builtin.copy_ #[34,34] ty #[.slice (some ⟨b,i * 1,none⟩) (n + m - i) dc,.slice (some ⟨vb,0,none⟩) m vc]).run Tryz.prog W=.ok (goInt (Nat.min m (n + m - i))) (W.setRow b A2):=fun W hW ty dc=>by
  rw [hA2]
  refine ng2' W 34 34 ty 3 Tryz.t3 b (i * 1) (n + m - i) dc ⟨vb,0,none⟩ m vc A1 3 vs Tryz.underlying34 (by kernel_rfl) (by rw [hW]; exact hg1) ?_ ?_ ?_ h1v
  ·rw [hvl]; show m * 1=Nat.min m (n + m - i) * 1
   rw [show Nat.min m (n + m - i)=m by simp only [Nat.min_def]; split <;> omega]
  ·intro j v hj
   rw [Addr.add_lit,Nat.zero_add]
   have:=hvs j v hj
   unfold World.cell? at this ⊢
   rw [hW]
   rw [Go.Ab.setRow_other (w:=w.drew) hvb]
   exact this
  ·rw [hvl,hA1s]; omega
 clear hA1 hA2 hg hsz hxl hxs hvl hvs h1c h1v hdl hg1 hA1s
 try simp only [Nat.mul_one] at *
 go_enter Tryz.func75,Tryz.ntmps75
 go_wp2_with (simp only [hov])
 go_region_law_o (refine step_copy_runI rfl _ _ 34 34 rfl _ _ (by simp [Act.eval,Act.put]) (by simp [Act.eval,Act.put]) (hcp1 _ _ _) ?_)
 go_wp2_with (at_builtin; refine wpList_copy_runI _ rfl _ _ 34 34 rfl _ _ rfl rfl (hcp2 _ rfl _ _) ?_)
 go_ret
 exact ⟨rfl,rfl⟩
theorem nqz' (w:World) (base:Option Addr) (n c m vb vc:Nat) (vs xs:List Value) (z:Value) (hz:Tryz.t3.zero=some z) (hm:0 < m) (hnc:n≤c) (hroom:c < n + m) (hbig:(n + m) * Tryz.t3.bytes≤140737488355328) (h63:n + m≤2147483648)
  (hnil:base=none→n=0∧c=0) (hxl:xs.length=n * 1) (hxs:∀ a,base=some a→∀ j v,xs[j]?=some v→w.cell? (a.add j)=some v)
  (hvl:vs.length=m * 1) (hvs:∀ j v,vs[j]?=some v→w.cell? ⟨vb,j,none⟩=some v) :
  Calls Tryz.prog 75 #[.slice base n c,.int .i64 n,.slice (some ⟨vb,0,none⟩) m vc] w fun e w'=>
   e=.returned (.slice (some ⟨w.heap.size,0,none⟩) (n + m) (grownCap w (n + m) c 3))∧w'=w.drew.alloc (.cells ((xs++vs).toArray++Builtin.zeroCells z.cells (grownCap w (n + m) c 3 - (n + m))) 3):=by
 have hz1:¬ ((m:Int)=0):=by omega
 have hr:∀ ty,(Builtin.append_ #[34,34] ty #[.slice base n c,.slice (some ⟨vb,0,none⟩) m vc]).run Tryz.prog w=.ok (.slice (some ⟨w.heap.size,0,none⟩) (n + m) (grownCap w (n + m) c 3)) (w.drew.alloc (.cells ((xs++vs).toArray++Builtin.zeroCells z.cells (grownCap w (n + m) c 3 - (n + m))) 3)):=fun ty=>by
  cases base with
  | none=>
   obtain ⟨rfl,rfl⟩:=hnil rfl
   have hx0:xs=[]:=List.eq_nil_of_length_eq_zero (by omega)
   subst hx0
   have:=run_append_nil w 34 ty 3 Tryz.t3 z Tryz.underlying34 (by kernel_rfl) hz ⟨vb,0,none⟩ m vc vs hvl (fun j u hj=>by rw [Addr.add_lit,Nat.zero_add]; exact hvs j u hj) hm (by omega) (by rw [Nat.zero_add] at hbig; omega)
   simpa using this
  | some a=>
   have:=run_append_grow w 34 ty 3 Tryz.t3 z Tryz.underlying34 (by kernel_rfl) hz a n c xs hxl (hxs a rfl) ⟨vb,0,none⟩ m vc vs hvl (fun j u hj=>by rw [Addr.add_lit,Nat.zero_add]; exact hvs j u hj) hroom (by omega) (growslice_fits hroom hbig)
   rw [this]
   congr 3
   simp
 clear hxl hxs hvl hvs hz hbig
 generalize w.drew.alloc (.cells ((xs++vs).toArray++Builtin.zeroCells z.cells (grownCap w (n + m) c 3 - (n + m))) 3)=W at hr ⊢
 generalize Value.slice (some ⟨w.heap.size,0,none⟩) (n + m) (grownCap w (n + m) c 3)=V at hr ⊢
 try simp only [Nat.mul_one] at *
 go_enter Tryz.func75,Tryz.ntmps75
 go_wp2_with (at_builtin; refine Lib.wpList_append_run _ rfl _ _ _ _ rfl _ _ rfl rfl _ _ (hr _) ?_)
 all_goals (go_ret; exact ⟨rfl,rfl⟩)
theorem nws' (w:World) (b n c i m vb vc:Nat) (vs xs:List Value) (z:Value) (hz:Tryz.t3.zero=some z) (hzs:z.cells.size=1) (hi:i < n) (hm:0 < m) (hnc:n≤c) (hroom:c < n + m) (hc63:c≤9223372036854775807) (hbig:(n + m) * Tryz.t3.bytes≤140737488355328) (h63:n + m≤2147483648)
  (curA R A1 A2:Array Value) (hg:w.heap[b]?=some (.cells curA 3 (0,0))) (hxl:xs.length=n * 1) (hxs:curA.toList.take (n * 1)=xs) (hvbw:vb < w.heap.size) (hvl:vs.length=m * 1) (hvs:∀ j v,vs[j]?=some v→w.cell? ⟨vb,j,none⟩=some v) (h1c:∀ v ∈ xs,v.oneCell'=true) (h1v:∀ v ∈ vs,v.oneCell'=true)
  (hR:R=(xs.take (i * 1)).toArray++Builtin.zeroCells z.cells (n + m - i)++Builtin.zeroCells z.cells (grownCap w (n + m) c 3 - (n + m)))
  (hA1:A1=(R.toList.take (i * 1)++vs++R.toList.drop (i * 1 + vs.length)).toArray) (hA2:A2=(A1.toList.take ((i + m) * 1)++xs.drop (i * 1)++A1.toList.drop ((i + m) * 1 + (xs.drop (i * 1)).length)).toArray) :
  Calls Tryz.prog 75 #[.slice (some ⟨b,0,none⟩) n c,.int .i64 i,.slice (some ⟨vb,0,none⟩) m vc] w fun e w'=>
   e=.returned (.slice (some ⟨w.heap.size,0,none⟩) (n + m) (grownCap w (n + m) c 3))∧w'=(((w.alloc (.cells R 3)).drew.setRow w.heap.size A1).drew).setRow w.heap.size A2:=by
 have mixed:Tryz.prog.follows .mixedOrders=true:=by kernel_rfl
 have hz1:¬ ((m:Int)=0):=by omega
 have hz2:¬ ((i:Int)=(n:Int)):=by omega
 have hz3:(c:Int) < (n:Int) + (m:Int):=by omega
 have hbw:b < w.heap.size:=(Array.getElem?_eq_some_iff.1 hg).1
 have hkk:(n:Int) + (m:Int) - (i:Int)=((n + m - i:Nat):Int):=by omega
 have hik:i + (n + m - i)=n + m:=by omega
 have hcell:∀ j v,xs[j]?=some v→w.cell? ⟨b,j,none⟩=some v:=fun j v hj=>by
  rw [← hxs] at hj
  have hlt:j < n * 1:=by
   have:=(List.getElem?_eq_some_iff.1 hj).1
   simp at this; omega
  rw [List.getElem?_take_of_lt hlt] at hj
  rw [cell_of_row w b _ curA 3 (0,0) hg]
  simpa using hj
 have hold:(Builtin.firstCells Tryz.t3.size i (.slice (some ⟨b,0,none⟩) i c)).run Tryz.prog w.drew=.ok (xs.take (i * 1)).toArray w.drew:=by
  refine run_firstCells_some w.drew 1 i ⟨b,0,none⟩ i c (xs.take (i * 1)) (by rw [List.length_take,hxl]; omega) (fun j v hj=>?_)
  rw [Addr.add_lit,Nat.zero_add]
  rw [List.getElem?_take] at hj
  split at hj
  ·exact hcell j v hj
  ·cases hj
 have hrz:∀ ty,(Builtin.append_ #[34,3] ty #[.slice (some ⟨b,0,none⟩) i c,.int .i64 ((n:Int) + (m:Int) - (i:Int))]).run Tryz.prog w =
   .ok (.slice (some ⟨w.heap.size,0,none⟩) (n + m) (grownCap w (n + m) c 3)) (w.drew.alloc (.cells R 3)):=fun ty=>by
  have hbn:(n + m - i) * Tryz.t3.bytes≤281474976710656:=by
   have:(n + m - i) * Tryz.t3.bytes≤(n + m) * Tryz.t3.bytes:=Nat.mul_le_mul_right _ (by omega)
   omega
  have h:=Lib.run_append_grow_zeros w 34 3 ty 3 Tryz.t3 z .i64 .i64 Tryz.underlying34 Tryz.underlying3 (by kernel_rfl) hz (some ⟨b,0,none⟩) i c (xs.take (i * 1)) hold (n + m - i) (by omega) (by decide) (by omega) (by omega) hbn (by rw [hik]; exact growslice_fits hroom hbig)
  rw [hik] at h
  rw [hkk,hR]
  exact h
 obtain ⟨Gc,hG⟩:∃ Gc,Gc=grownCap w (n + m) c 3:=⟨_,rfl⟩
 rw [← hG] at hrz hR ⊢
 have hGn:n + m≤Gc:=by rw [hG]; exact grownCap_ge w _ _ _
 have hG63:Gc≤9223372036854775807:=by
  have:=grownCap_le_maxLen w (n + m) c 3 (by unfold maxLen; omega)
  rw [← hG] at this
  unfold maxLen at this
  omega
 have hdl:(xs.drop (i * 1)).length=(n - i) * 1:=by rw [List.length_drop,hxl,Nat.sub_mul]
 have hRs:R.size=Gc * 1:=by
  rw [hR]
  simp [Builtin.zeroCells,hzs,hxl]
  omega
 obtain ⟨W1,hW1⟩:∃ W1,W1=w.drew.alloc (.cells R 3):=⟨_,rfl⟩
 have hN:(w.alloc (.cells R 3)).heap[w.heap.size]?=some (.cells R 3 (0,0)):=by
  unfold World.alloc
  simp only
  rw [Array.getElem?_push,if_pos rfl]
 have hO:∀ k,k < w.heap.size→(w.alloc (.cells R 3)).heap[k]?=w.heap[k]?:=fun k hk=>by
  unfold World.alloc
  simp only
  rw [Array.getElem?_push_lt hk,Array.getElem?_eq_getElem hk]
 have hcpA:∀ (W:World),W.heap=(w.alloc (.cells R 3)).heap→∀ ty dc,(Builtin.copy_ #[34,34] ty #[.slice (some ⟨w.heap.size,i * 1,none⟩) (n + m - i) dc,.slice (some ⟨vb,0,none⟩) m vc]).run Tryz.prog W=.ok (goInt (Nat.min m (n + m - i))) (W.setRow w.heap.size A1):=fun W hW ty dc=>by
  rw [hA1]
  refine ng2' W 34 34 ty 3 Tryz.t3 w.heap.size (i * 1) (n + m - i) dc ⟨vb,0,none⟩ m vc R 3 vs Tryz.underlying34 (by kernel_rfl) (by rw [hW]; exact hN) ?_ ?_ ?_ h1v
  ·rw [hvl]; show m * 1=Nat.min m (n + m - i) * 1
   rw [show Nat.min m (n + m - i)=m by simp only [Nat.min_def]; split <;> omega]
  ·intro j v hj
   rw [Addr.add_lit,Nat.zero_add]
   have:=hvs j v hj
   unfold World.cell? at this ⊢
   rw [hW,hO vb hvbw]
   exact this
  ·rw [hvl,hRs]; omega
 have hA1s:A1.size=Gc * 1:=by rw [hA1]; simp [hvl,hRs]; omega
 have hcpB:∀ (W:World),W.heap=((w.alloc (.cells R 3)).drew.setRow w.heap.size A1).heap→∀ ty dc sc,(Builtin.copy_ #[34,34] ty #[.slice (some ⟨w.heap.size,(i + m) * 1,none⟩) (n + m - (i + m)) dc,.slice (some ⟨b,i * 1,none⟩) (n - i) sc]).run Tryz.prog W=.ok (goInt (Nat.min (n - i) (n + m - (i + m)))) (W.setRow w.heap.size A2):=fun W hW ty dc sc=>by
  rw [hA2]
  refine ng2' W 34 34 ty 3 Tryz.t3 w.heap.size ((i + m) * 1) (n + m - (i + m)) dc ⟨b,i * 1,none⟩ (n - i) sc A1 3 (xs.drop (i * 1)) Tryz.underlying34 (by kernel_rfl) (by rw [hW]; exact Go.Ab.setRow_heap hN) ?_ ?_ ?_ (fun v hv=>h1c v (List.mem_of_mem_drop hv))
  ·rw [hdl]; show (n - i) * 1=Nat.min (n - i) (n + m - (i + m)) * 1
   rw [show Nat.min (n - i) (n + m - (i + m))=n - i by simp only [Nat.min_def]; split <;> omega]
  ·intro j v hj
   rw [Addr.add_lit]
   rw [List.getElem?_drop] at hj
   have:=hcell _ v hj
   unfold World.cell? at this ⊢
   rw [hW,Go.Ab.setRow_other (w:=(w.alloc (.cells R 3)).drew) (show b ≠ w.heap.size by omega)]
   rw [show (w.alloc (.cells R 3)).drew.heap[b]?=w.heap[b]? from hO b hbw]
   exact this
  ·rw [hdl,hA1s]; omega
 have hGi:¬ (Gc=i):=by omega
 have hGim:¬ (Gc=i + m):=by omega
 have hci:¬ (c=i):=by omega
 have hw1:IntKind.i64.wrap ((i:Int) + (m:Int))=(i:Int) + (m:Int):=by rw [IntKind.wrap_i64]; omega
 have hb1:(0:Int)≤(i:Int) + (m:Int):=by omega
 have hin:i≤n:=by omega
 have htn:((i:Int) + (m:Int)).toNat=i + m:=by omega
 have hb3:(i:Int)≤(n:Int):=by omega
 clear hkk hik hold hR hG hA1 hA2 hg hxl hxs hvl hvs h1c h1v hdl hRs hA1s hN hO hcell hW1 hz hzs hbig
 try simp only [Nat.mul_one] at *
 go_enter Tryz.func75,Tryz.ntmps75
 go_wp2_with (first
  | (at_builtin; refine Lib.wpList_append_run _ rfl _ _ _ _ rfl _ _ rfl rfl _ _ (hrz _) ?_)
  | rw [hcpA ((w.alloc (.cells R 3)).drew) rfl])
 go_region_law_o (refine step_copy_runI rfl _ _ 34 34 rfl (.slice (some ⟨w.heap.size,(i + m),none⟩) (n + m - (i + m)) (Gc - (i + m))) (.slice (some ⟨b,i,none⟩) (n - i) (c - i)) (by simp [Act.eval,Act.put]) (by simp [Act.eval,Act.put]) (hcpB ((((w.alloc (.cells R 3)).drew).setRow w.heap.size A1).drew) rfl 3 (Gc - (i + m)) (c - i)) ?_)
 go_wp2
 go_ret
 exact ⟨rfl,rfl⟩
theorem nqe' (w:World) (n i m:Nat) (xs vs:List Value) (vS vV:Value) (o1:w.ownsRow 0 3 1 vS n xs) (o2:w.ownsRow 0 3 1 vV m vs) (hap:∀ b,vS.ownBlock=some b→vV.ownBlock ≠ some b) (h1c:∀ u ∈ xs,u.oneCell'=true) (h1v:∀ u ∈ vs,u.oneCell'=true)
  (hi:i≤n) (hm:0 < m) (h63:n + m≤2147483648):Calls Tryz.prog 75 #[vS,.int .i64 i,vV] w fun e w'=>∃ v',e=.returned v'∧RowOut w w' 3 1 vS v' (n + m) (xs.take (i * 1)++vs++xs.drop (i * 1)):=by
 have hb:Tryz.t3.bytes≤4096:=Nat.le_of_ble_eq_true (by kernel_rfl)
 obtain ⟨z,hz,hzs⟩:∃ z,Tryz.t3.zero=some z∧z.cells.size=1:=⟨_,rfl,rfl⟩
 have hbig:(n + m) * Tryz.t3.bytes≤140737488355328:=by
  have:(n + m) * Tryz.t3.bytes≤2147483648 * 4096:=Nat.mul_le_mul h63 hb
  omega
 obtain ⟨hvl,⟨_,h0⟩ | ⟨vb,vc,vcur,rfl,_,hvg,hvm,hvc,hvsz,hvt⟩⟩:=o2
 ·omega
 have hvbw:vb < w.heap.size:=(Array.getElem?_eq_some_iff.1 hvg).1
 have hvs:∀ j v,vs[j]?=some v→w.cell? ⟨vb,j,none⟩=some v:=fun j v hj=>by
  rw [← hvt] at hj
  have hlt:j < m * 1:=by
   have:=(List.getElem?_eq_some_iff.1 hj).1
   simp at this; omega
  rw [List.getElem?_take_of_lt hlt] at hj
  rw [cell_of_row w vb _ vcur 3 (0,0) hvg]
  simpa using hj
 have fresh:∀ (c:Nat) (A:Array Value) (W:World),W.heap.size=w.heap.size + 1→W.heap[w.heap.size]?=some (.cells A 3 (0,0))→(∀ k,k < w.heap.size→W.heap[k]?=w.heap[k]?)→W.os=w.os→W.tape=w.tape→W.output=w.output →
   A.size=grownCap w (n + m) c 3 * 1→A.toList.take ((n + m) * 1)=xs.take (i * 1)++vs++xs.drop (i * 1)→xs.length=n * 1→RowOut w W 3 1 vS (.slice (some ⟨w.heap.size,0,none⟩) (n + m) (grownCap w (n + m) c 3)) (n + m) (xs.take (i * 1)++vs++xs.drop (i * 1)):=fun c A W w1 w2 w3 w4 w5 w6 hA hT hxl=>
  ⟨⟨by simp [hxl,hvl]; omega,.inr ⟨w.heap.size,_,A,rfl,Nat.zero_le _,w2,grownCap_ge w _ _ _,grownCap_le_maxLen w _ _ _ (by unfold maxLen; omega),hA,hT⟩⟩,fun b hb=>.inr (by simp [Value.ownBlock] at hb; omega),⟨w4,w5,w6,by omega,fun k hk _=>w3 k hk⟩⟩
 have pushed:∀ (A:Array Value),(w.drew.alloc (.cells A 3)).heap.size=w.heap.size + 1∧(w.drew.alloc (.cells A 3)).heap[w.heap.size]?=some (.cells A 3 (0,0))∧(∀ k,k < w.heap.size→(w.drew.alloc (.cells A 3)).heap[k]?=w.heap[k]?):=fun A=>by
  refine ⟨(show (w.heap.push _).size=_ by rw [Array.size_push]),?_,fun k hk=>?_⟩
  ·show (w.heap.push _)[w.heap.size]?=_
   rw [Array.getElem?_push,if_pos rfl]
  ·show (w.heap.push _)[k]?=_
   rw [Array.getElem?_push_lt hk,Array.getElem?_eq_getElem hk]
 have endG:∀ (base:Option Addr) (c:Nat),vS=.slice base n c→i=n→n≤c→c < n + m→(base=none→n=0∧c=0)→xs.length=n * 1→(∀ a,base=some a→∀ j v,xs[j]?=some v→w.cell? (a.add j)=some v)→Calls Tryz.prog 75 #[vS,.int .i64 i,.slice (some ⟨vb,0,none⟩) m vc] w fun e w'=>∃ v',e=.returned v'∧RowOut w w' 3 1 vS v' (n + m) (xs.take (i * 1)++vs++xs.drop (i * 1)):=by
  rintro base c rfl rfl hnc hroom hnil hxl hxs
  refine (nqz' w base i c m vb vc vs xs z hz hm hnc hroom hbig h63 hnil hxl hxs hvl hvs).mono ?_
  rintro e w' ⟨rfl,rfl⟩
  obtain ⟨p1,p2,p3⟩:=pushed ((xs++vs).toArray++Builtin.zeroCells z.cells (grownCap w (i + m) c 3 - (i + m)))
  refine ⟨_,rfl,fresh c _ _ p1 p2 p3 rfl rfl rfl ?_ ?_ hxl⟩
  ·have:=grownCap_ge w (i + m) c 3
   simp [Builtin.zeroCells,hzs,hxl,hvl]
   omega
  ·have e1:xs.take (i * 1)=xs:=List.take_of_length_le (by omega)
   have e2:xs.drop (i * 1)=[]:=List.drop_of_length_le (by omega)
   rw [e1,e2,List.append_nil,Array.toList_append,List.toList_toArray]
   exact ngx' _ _ _ _ (by rw [hxl,hvl]; omega)
 obtain ⟨hxl,⟨rfl,rfl⟩ | ⟨b,c,cur,rfl,_,hg,hnc,hcm,hcs,hct⟩⟩:=o1
 ·exact endG none 0 rfl (by omega) (Nat.le_refl _) (by omega) (fun _=>⟨rfl,rfl⟩) hxl (fun a h=>by cases h)
 have hbb:vb ≠ b:=fun h=>hap b rfl (by rw [h]; rfl)
 have hcell:∀ j v,xs[j]?=some v→w.cell? ⟨b,j,none⟩=some v:=fun j v hj=>by
  rw [← hct] at hj
  have hlt:j < n * 1:=by
   have:=(List.getElem?_eq_some_iff.1 hj).1
   simp at this; omega
  rw [List.getElem?_take_of_lt hlt] at hj
  rw [cell_of_row w b _ cur 3 (0,0) hg]
  simpa using hj
 have hcm':c≤9223372036854775807:=by unfold maxLen at hcm; omega
 have hbw:b < w.heap.size:=(Array.getElem?_eq_some_iff.1 hg).1
 have inPlace:∀ (A:Array Value) (W:World),W.heap.size=w.heap.size→W.heap[b]?=some (.cells A 3 (0,0))→(∀ k,k ≠ b→W.heap[k]?=w.heap[k]?)→W.os=w.os→W.tape=w.tape→W.output=w.output→n + m≤c →
   A.size=c * 1→A.toList.take ((n + m) * 1)=xs.take (i * 1)++vs++xs.drop (i * 1)→RowOut w W 3 1 (.slice (some ⟨b,0,none⟩) n c) (.slice (some ⟨b,0,none⟩) (n + m) c) (n + m) (xs.take (i * 1)++vs++xs.drop (i * 1)):=fun A W w1 w2 w3 w4 w5 w6 hr hA hT=>
  ⟨⟨by simp [hxl,hvl]; omega,.inr ⟨b,c,A,rfl,Nat.zero_le _,w2,hr,hcm,hA,hT⟩⟩,fun b' hb'=>.inl hb',⟨w4,w5,w6,by omega,fun k hk hne=>w3 k (fun e=>hne (by rw [e]; rfl))⟩⟩
 by_cases hin:i=n
 ·by_cases hr:n + m≤c
  ·subst hin
   refine (nqm' w b i c m vb vc vs cur hm hr hg hcs hvl hvs h1v).mono ?_
   rintro e w' ⟨rfl,rfl⟩
   refine ⟨_,rfl,inPlace _ _ Go.Ab.setRow_size (Go.Ab.setRow_heap hg) (fun k hk=>Go.Ab.setRow_other hk) rfl rfl rfl hr ?_ ?_⟩
   ·simp [hcs,hvl]; omega
   ·have e1:xs.take (i * 1)=xs:=List.take_of_length_le (by omega)
    have e2:xs.drop (i * 1)=[]:=List.drop_of_length_le (by omega)
    rw [e1,e2,List.append_nil,hct]
    exact ngx' _ _ _ _ (by rw [hxl,hvl]; omega)
  ·exact endG (some ⟨b,0,none⟩) c rfl hin hnc (by omega) (fun h=>by cases h) hxl (fun a ha j v hj=>by cases ha; rw [Addr.add_lit,Nat.zero_add]; exact hcell j v hj)
 ·have hlt:i < n:=by omega
  have hdl:(xs.drop (i * 1)).length=(n - i) * 1:=by rw [List.length_drop,hxl,Nat.sub_mul]
  by_cases hr:n + m≤c
  ·refine (nvr' w b n c i m vb vc vs xs cur _ _ hlt hm hr hcm' hbb hg hcs hxl hct hvl hvs h1c h1v rfl rfl 3 3 vcur.size cur.size (by simp [World.shape?,hvg]) (by simp [World.shape?,hg]) (by omega) (by simp [World.frozen?,hvg]) (by simp [World.frozen?,hvg])).mono ?_
   rintro e w' ⟨rfl,rfl⟩
   refine ⟨_,rfl,inPlace _ _ (by rw [Go.Ab.setRow_size,Go.Ab.setRow_size]; rfl) (Go.Ab.setRow_heap (Go.Ab.setRow_heap (w:=w.drew) hg)) (fun k hk=>by rw [Go.Ab.setRow_other hk,Go.Ab.setRow_other hk]; rfl) rfl rfl rfl hr ?_ ?_⟩
   ·simp [hdl,hcs,hvl]; omega
   ·rw [show (i + m) * 1=i * 1 + vs.length by rw [hvl,Nat.add_mul],List.toList_toArray,List.toList_toArray,lst1 _ _ _ _ _ (by simp [hcs,hvl]; omega),← List.append_assoc]
    have e1:cur.toList.take (i * 1)=xs.take (i * 1):=by rw [← hct,List.take_take,Nat.min_eq_left (by omega)]
    rw [e1]
    exact ngx' _ _ _ _ (by simp [hxl,hvl]; omega)
  ·refine (nws' w b n c i m vb vc vs xs z hz hzs hlt hm hnc (by omega) hcm' hbig h63 cur _ _ _ hg hxl hct hvbw hvl hvs h1c h1v rfl rfl rfl).mono ?_
   rintro e w' ⟨rfl,rfl⟩
   have hcg:=grownCap_ge w (n + m) c 3
   refine ⟨_,rfl,fresh c _ _ (by rw [Go.Ab.setRow_size]; show (World.setRow _ _ _).heap.size=_; rw [Go.Ab.setRow_size]; exact (pushed _).1) (Go.Ab.setRow_heap (w:=(World.setRow _ _ _).drew) (Go.Ab.setRow_heap (w:=(w.alloc _).drew) (pushed _).2.1)) (fun k hk=>by rw [Go.Ab.setRow_other (by omega)]; show (World.setRow _ _ _).heap[k]?=_; rw [Go.Ab.setRow_other (by omega)]; exact (pushed _).2.2 k hk) rfl rfl rfl ?_ ?_ hxl⟩
   ·simp [Builtin.zeroCells,hzs,hdl,hxl,hvl]; omega
   ·rw [show (i + m) * 1=i * 1 + vs.length by rw [hvl,Nat.add_mul],List.toList_toArray,List.toList_toArray,Array.toList_append,Array.toList_append,List.toList_toArray,List.append_assoc (xs.take (i * 1)) (Builtin.zeroCells z.cells (n + m - i)).toList]
    rw [lst2 (xs.take (i * 1)) _ vs (xs.drop (i * 1)) _ (i * 1) (by rw [List.length_take,hxl]; omega)]
    exact ngx' _ _ _ _ (by simp [hxl,hvl]; omega)
theorem npc' (w:World) (b n c m vb vc:Nat) (vs:List Value) (curA:Array Value) (hm:0 < m) (hroom:n + m≤c)
  (hg:w.heap[b]?=some (.cells curA 63 (0,0))) (hsz:curA.size=c * 5) (hvl:vs.length=m * 5) (hvs:∀ j v,vs[j]?=some v→w.cell? ⟨vb,j,none⟩=some v) (h1v:∀ v ∈ vs,v.oneCell'=true) :
  Calls Tryz.prog 127 #[.slice (some ⟨b,0,none⟩) n c,.int .i64 n,.slice (some ⟨vb,0,none⟩) m vc] w fun e w'=>
   e=.returned (.slice (some ⟨b,0,none⟩) (n + m) c)∧w'=w.setRow b (curA.toList.take (n * 5)++vs++curA.toList.drop (n * 5 + vs.length)).toArray:=by
 have hz1:¬ ((m:Int)=0):=by omega
 have hr:∀ ty,(Builtin.append_ #[36,36] ty #[.slice (some ⟨b,0,none⟩) n c,.slice (some ⟨vb,0,none⟩) m vc]).run Tryz.prog w=.ok (.slice (some ⟨b,0,none⟩) (n + m) c) (w.setRow b (curA.toList.take (n * 5)++vs++curA.toList.drop (n * 5 + vs.length)).toArray):=fun ty=>
  run_append_room w 36 ty 63 Tryz.t63 Tryz.underlying36 (by kernel_rfl) b n c curA hg ⟨vb,0,none⟩ m vc vs hvl (fun j u hj=>by rw [Addr.add_lit,Nat.zero_add]; exact hvs j u hj) h1v hroom (by rw [hvl,hsz]; show n * 5 + m * 5≤c * 5; omega)
 clear hg hsz hvl hvs h1v
 generalize w.setRow b (curA.toList.take (n * 5)++vs++curA.toList.drop (n * 5 + vs.length)).toArray=W at hr ⊢
 go_enter Tryz.func127,Tryz.ntmps127
 go_wp2_with (at_builtin; refine Lib.wpList_append_run _ rfl _ _ _ _ rfl _ _ rfl rfl _ _ (hr _) ?_)
 go_ret
 exact ⟨rfl,rfl⟩
theorem nt0' (w:World) (b n c i m vb vc:Nat) (vs xs:List Value) (curA A1 A2:Array Value) (hi:i < n) (hm:0 < m) (hroom:n + m≤c) (hc63:c≤9223372036854775807) (hvb:vb ≠ b)
  (hg:w.heap[b]?=some (.cells curA 63 (0,0))) (hsz:curA.size=c * 5) (hxl:xs.length=n * 5) (hxs:curA.toList.take (n * 5)=xs) (hvl:vs.length=m * 5) (hvs:∀ j v,vs[j]?=some v→w.cell? ⟨vb,j,none⟩=some v) (h1c:∀ v ∈ xs,v.oneCell'=true) (h1v:∀ v ∈ vs,v.oneCell'=true)
  (hA1:A1=(curA.toList.take ((i + m) * 5)++xs.drop (i * 5)++curA.toList.drop ((i + m) * 5 + (xs.drop (i * 5)).length)).toArray) (hA2:A2=(A1.toList.take (i * 5)++vs++A1.toList.drop (i * 5 + vs.length)).toArray)
  (tA tB:TypeId) (kA kB:Nat) (hsa:w.shape? vb=some (tA,kA)) (hsb:w.shape? b=some (tB,kB)) (hkB:kB ≠ 0) (hfa:w.frozen? ⟨vb,0,none⟩=false) (hfe:w.frozen? ⟨vb,kA,none⟩=false) :
  Calls Tryz.prog 127 #[.slice (some ⟨b,0,none⟩) n c,.int .i64 i,.slice (some ⟨vb,0,none⟩) m vc] w fun e w'=>
   e=.returned (.slice (some ⟨b,0,none⟩) (n + m) c)∧w'=(w.drew.setRow b A1).setRow b A2:=by
 have mixed:Tryz.prog.follows .mixedOrders=true:=by kernel_rfl
 have hz1:¬ ((m:Int)=0):=by omega
 have hz2:¬ ((i:Int)=(n:Int)):=by omega
 have hov:∀ lb cb,(callFunc 146 #[.slice (some ⟨vb,0,none⟩) m vc,.slice (some ⟨b,(i + m) * 5,none⟩) lb cb]).run Tryz.prog w=.ok (.value (.bool false)) w:=fun lb cb=>by
  rw [run_callFunc_extern Tryz.func146 (by kernel_rfl) (by kernel_rfl) (by kernel_rfl) (e:=Extern.SlicesOverlaps.overlaps #[36,36] #[4]) (by kernel_rfl),
   Lib.run_overlaps_apart w 36 4 63 Tryz.underlying36 5 Tryz.sizeOf63 ⟨vb,0,none⟩ ⟨b,(i + m) * 5,none⟩ m vc lb cb hvb tA tB kA kB hsa hsb hkB hfa hfe]
  rfl
 have hdl:(xs.drop (i * 5)).length=(n - i) * 5:=by rw [List.length_drop,hxl,Nat.sub_mul]
 have hw1:IntKind.i64.wrap ((i:Int) + (m:Int))=(i:Int) + (m:Int):=by rw [IntKind.wrap_i64]; omega
 have hb1:(0:Int)≤(i:Int) + (m:Int):=by omega
 have hin:i≤n:=by omega
 have htn:((i:Int) + (m:Int)).toNat=i + m:=by omega
 have hb2:¬ (c=i + m):=by omega
 have hb3:(i:Int)≤(n:Int) + (m:Int):=by omega
 have hb4:¬ (c=i):=by omega
 have hcp1:∀ ty dc sc,(Builtin.copy_ #[36,36] ty #[.slice (some ⟨b,(i + m) * 5,none⟩) (n + m - (i + m)) dc,.slice (some ⟨b,i * 5,none⟩) (n + m - i) sc]).run Tryz.prog w.drew=.ok (goInt (Nat.min (n + m - i) (n + m - (i + m)))) (w.drew.setRow b A1):=fun ty dc sc=>by
  rw [hA1]
  refine ng2' w.drew 36 36 ty 63 Tryz.t63 b ((i + m) * 5) (n + m - (i + m)) dc ⟨b,i * 5,none⟩ (n + m - i) sc curA 63 (xs.drop (i * 5)) Tryz.underlying36 (by kernel_rfl) hg ?_ ?_ ?_ ?_
  ·rw [hdl]; show (n - i) * 5=Nat.min (n + m - i) (n + m - (i + m)) * 5
   rw [show Nat.min (n + m - i) (n + m - (i + m))=n - i by simp only [Nat.min_def]; split <;> omega]
  ·intro j v hj
   rw [Addr.add_lit]
   rw [List.getElem?_drop,← hxs] at hj
   have hlt:i * 5 + j < n * 5:=by
    have:=(List.getElem?_eq_some_iff.1 hj).1
    simp at this; omega
   rw [List.getElem?_take_of_lt hlt] at hj
   show w.cell? _=_
   rw [cell_of_row w b _ curA 63 (0,0) hg]
   simpa using hj
  ·rw [hdl,hsz]; omega
  ·exact fun v hv=>h1c v (List.mem_of_mem_drop hv)
 have hg1:(w.drew.setRow b A1).heap[b]?=some (.cells A1 63 (0,0)):=Go.Ab.setRow_heap hg
 have hA1s:A1.size=c * 5:=by rw [hA1]; simp [hdl,hsz]; omega
 have hcp2:∀ (W:World),W.heap=(w.drew.setRow b A1).heap→∀ ty dc,(Builtin.copy_ #[36,36] ty #[.slice (some ⟨b,i * 5,none⟩) (n + m - i) dc,.slice (some ⟨vb,0,none⟩) m vc]).run Tryz.prog W=.ok (goInt (Nat.min m (n + m - i))) (W.setRow b A2):=fun W hW ty dc=>by
  rw [hA2]
  refine ng2' W 36 36 ty 63 Tryz.t63 b (i * 5) (n + m - i) dc ⟨vb,0,none⟩ m vc A1 63 vs Tryz.underlying36 (by kernel_rfl) (by rw [hW]; exact hg1) ?_ ?_ ?_ h1v
  ·rw [hvl]; show m * 5=Nat.min m (n + m - i) * 5
   rw [show Nat.min m (n + m - i)=m by simp only [Nat.min_def]; split <;> omega]
  ·intro j v hj
   rw [Addr.add_lit,Nat.zero_add]
   have:=hvs j v hj
   unfold World.cell? at this ⊢
   rw [hW]
   rw [Go.Ab.setRow_other (w:=w.drew) hvb]
   exact this
  ·rw [hvl,hA1s]; omega
 clear hA1 hA2 hg hsz hxl hxs hvl hvs h1c h1v hdl hg1 hA1s
 go_enter Tryz.func127,Tryz.ntmps127
 go_wp2_with (simp only [hov])
 go_region_law_o (refine step_copy_runI rfl _ _ 36 36 rfl _ _ (by simp [Act.eval,Act.put]) (by simp [Act.eval,Act.put]) (hcp1 _ _ _) ?_)
 go_wp2_with (at_builtin; refine wpList_copy_runI _ rfl _ _ 36 36 rfl _ _ rfl rfl (hcp2 _ rfl _ _) ?_)
 go_ret
 exact ⟨rfl,rfl⟩
theorem npf' (w:World) (base:Option Addr) (n c m vb vc:Nat) (vs xs:List Value) (z:Value) (hz:Tryz.t63.zero=some z) (hm:0 < m) (hnc:n≤c) (hroom:c < n + m) (hbig:(n + m) * Tryz.t63.bytes≤140737488355328) (h63:n + m≤2147483648)
  (hnil:base=none→n=0∧c=0) (hxl:xs.length=n * 5) (hxs:∀ a,base=some a→∀ j v,xs[j]?=some v→w.cell? (a.add j)=some v)
  (hvl:vs.length=m * 5) (hvs:∀ j v,vs[j]?=some v→w.cell? ⟨vb,j,none⟩=some v) :
  Calls Tryz.prog 127 #[.slice base n c,.int .i64 n,.slice (some ⟨vb,0,none⟩) m vc] w fun e w'=>
   e=.returned (.slice (some ⟨w.heap.size,0,none⟩) (n + m) (grownCap w (n + m) c 63))∧w'=w.drew.alloc (.cells ((xs++vs).toArray++Builtin.zeroCells z.cells (grownCap w (n + m) c 63 - (n + m))) 63):=by
 have hz1:¬ ((m:Int)=0):=by omega
 have hr:∀ ty,(Builtin.append_ #[36,36] ty #[.slice base n c,.slice (some ⟨vb,0,none⟩) m vc]).run Tryz.prog w=.ok (.slice (some ⟨w.heap.size,0,none⟩) (n + m) (grownCap w (n + m) c 63)) (w.drew.alloc (.cells ((xs++vs).toArray++Builtin.zeroCells z.cells (grownCap w (n + m) c 63 - (n + m))) 63)):=fun ty=>by
  cases base with
  | none=>
   obtain ⟨rfl,rfl⟩:=hnil rfl
   have hx0:xs=[]:=List.eq_nil_of_length_eq_zero (by omega)
   subst hx0
   have:=run_append_nil w 36 ty 63 Tryz.t63 z Tryz.underlying36 (by kernel_rfl) hz ⟨vb,0,none⟩ m vc vs hvl (fun j u hj=>by rw [Addr.add_lit,Nat.zero_add]; exact hvs j u hj) hm (by omega) (by rw [Nat.zero_add] at hbig; omega)
   simpa using this
  | some a=>
   have:=run_append_grow w 36 ty 63 Tryz.t63 z Tryz.underlying36 (by kernel_rfl) hz a n c xs hxl (hxs a rfl) ⟨vb,0,none⟩ m vc vs hvl (fun j u hj=>by rw [Addr.add_lit,Nat.zero_add]; exact hvs j u hj) hroom (by omega) (growslice_fits hroom hbig)
   rw [this]
   congr 3
   simp
 clear hxl hxs hvl hvs hz hbig
 generalize w.drew.alloc (.cells ((xs++vs).toArray++Builtin.zeroCells z.cells (grownCap w (n + m) c 63 - (n + m))) 63)=W at hr ⊢
 generalize Value.slice (some ⟨w.heap.size,0,none⟩) (n + m) (grownCap w (n + m) c 63)=V at hr ⊢
 go_enter Tryz.func127,Tryz.ntmps127
 go_wp2_with (at_builtin; refine Lib.wpList_append_run _ rfl _ _ _ _ rfl _ _ rfl rfl _ _ (hr _) ?_)
 all_goals (go_ret; exact ⟨rfl,rfl⟩)
theorem nu4' (w:World) (b n c i m vb vc:Nat) (vs xs:List Value) (z:Value) (hz:Tryz.t63.zero=some z) (hzs:z.cells.size=5) (hi:i < n) (hm:0 < m) (hnc:n≤c) (hroom:c < n + m) (hc63:c≤9223372036854775807) (hbig:(n + m) * Tryz.t63.bytes≤140737488355328) (h63:n + m≤2147483648)
  (curA R A1 A2:Array Value) (hg:w.heap[b]?=some (.cells curA 63 (0,0))) (hxl:xs.length=n * 5) (hxs:curA.toList.take (n * 5)=xs) (hvbw:vb < w.heap.size) (hvl:vs.length=m * 5) (hvs:∀ j v,vs[j]?=some v→w.cell? ⟨vb,j,none⟩=some v) (h1c:∀ v ∈ xs,v.oneCell'=true) (h1v:∀ v ∈ vs,v.oneCell'=true)
  (hR:R=(xs.take (i * 5)).toArray++Builtin.zeroCells z.cells (n + m - i)++Builtin.zeroCells z.cells (grownCap w (n + m) c 63 - (n + m)))
  (hA1:A1=(R.toList.take (i * 5)++vs++R.toList.drop (i * 5 + vs.length)).toArray) (hA2:A2=(A1.toList.take ((i + m) * 5)++xs.drop (i * 5)++A1.toList.drop ((i + m) * 5 + (xs.drop (i * 5)).length)).toArray) :
  Calls Tryz.prog 127 #[.slice (some ⟨b,0,none⟩) n c,.int .i64 i,.slice (some ⟨vb,0,none⟩) m vc] w fun e w'=>
   e=.returned (.slice (some ⟨w.heap.size,0,none⟩) (n + m) (grownCap w (n + m) c 63))∧w'=(((w.alloc (.cells R 63)).drew.setRow w.heap.size A1).drew).setRow w.heap.size A2:=by
 have mixed:Tryz.prog.follows .mixedOrders=true:=by kernel_rfl
 have hz1:¬ ((m:Int)=0):=by omega
 have hz2:¬ ((i:Int)=(n:Int)):=by omega
 have hz3:(c:Int) < (n:Int) + (m:Int):=by omega
 have hbw:b < w.heap.size:=(Array.getElem?_eq_some_iff.1 hg).1
 have hkk:(n:Int) + (m:Int) - (i:Int)=((n + m - i:Nat):Int):=by omega
 have hik:i + (n + m - i)=n + m:=by omega
 have hcell:∀ j v,xs[j]?=some v→w.cell? ⟨b,j,none⟩=some v:=fun j v hj=>by
  rw [← hxs] at hj
  have hlt:j < n * 5:=by
   have:=(List.getElem?_eq_some_iff.1 hj).1
   simp at this; omega
  rw [List.getElem?_take_of_lt hlt] at hj
  rw [cell_of_row w b _ curA 63 (0,0) hg]
  simpa using hj
 have hold:(Builtin.firstCells Tryz.t63.size i (.slice (some ⟨b,0,none⟩) i c)).run Tryz.prog w.drew=.ok (xs.take (i * 5)).toArray w.drew:=by
  refine run_firstCells_some w.drew 5 i ⟨b,0,none⟩ i c (xs.take (i * 5)) (by rw [List.length_take,hxl]; omega) (fun j v hj=>?_)
  rw [Addr.add_lit,Nat.zero_add]
  rw [List.getElem?_take] at hj
  split at hj
  ·exact hcell j v hj
  ·cases hj
 have hrz:∀ ty,(Builtin.append_ #[36,3] ty #[.slice (some ⟨b,0,none⟩) i c,.int .i64 ((n:Int) + (m:Int) - (i:Int))]).run Tryz.prog w =
   .ok (.slice (some ⟨w.heap.size,0,none⟩) (n + m) (grownCap w (n + m) c 63)) (w.drew.alloc (.cells R 63)):=fun ty=>by
  have hbn:(n + m - i) * Tryz.t63.bytes≤281474976710656:=by
   have:(n + m - i) * Tryz.t63.bytes≤(n + m) * Tryz.t63.bytes:=Nat.mul_le_mul_right _ (by omega)
   omega
  have h:=Lib.run_append_grow_zeros w 36 3 ty 63 Tryz.t63 z .i64 .i64 Tryz.underlying36 Tryz.underlying3 (by kernel_rfl) hz (some ⟨b,0,none⟩) i c (xs.take (i * 5)) hold (n + m - i) (by omega) (by decide) (by omega) (by omega) hbn (by rw [hik]; exact growslice_fits hroom hbig)
  rw [hik] at h
  rw [hkk,hR]
  exact h
 obtain ⟨Gc,hG⟩:∃ Gc,Gc=grownCap w (n + m) c 63:=⟨_,rfl⟩
 rw [← hG] at hrz hR ⊢
 have hGn:n + m≤Gc:=by rw [hG]; exact grownCap_ge w _ _ _
 have hG63:Gc≤9223372036854775807:=by
  have:=grownCap_le_maxLen w (n + m) c 63 (by unfold maxLen; omega)
  rw [← hG] at this
  unfold maxLen at this
  omega
 have hdl:(xs.drop (i * 5)).length=(n - i) * 5:=by rw [List.length_drop,hxl,Nat.sub_mul]
 have hRs:R.size=Gc * 5:=by
  rw [hR]
  simp [Builtin.zeroCells,hzs,hxl]
  omega
 obtain ⟨W1,hW1⟩:∃ W1,W1=w.drew.alloc (.cells R 63):=⟨_,rfl⟩
 have hN:(w.alloc (.cells R 63)).heap[w.heap.size]?=some (.cells R 63 (0,0)):=by
  unfold World.alloc
  simp only
  rw [Array.getElem?_push,if_pos rfl]
 have hO:∀ k,k < w.heap.size→(w.alloc (.cells R 63)).heap[k]?=w.heap[k]?:=fun k hk=>by
  unfold World.alloc
  simp only
  rw [Array.getElem?_push_lt hk,Array.getElem?_eq_getElem hk]
 have hcpA:∀ (W:World),W.heap=(w.alloc (.cells R 63)).heap→∀ ty dc,(Builtin.copy_ #[36,36] ty #[.slice (some ⟨w.heap.size,i * 5,none⟩) (n + m - i) dc,.slice (some ⟨vb,0,none⟩) m vc]).run Tryz.prog W=.ok (goInt (Nat.min m (n + m - i))) (W.setRow w.heap.size A1):=fun W hW ty dc=>by
  rw [hA1]
  refine ng2' W 36 36 ty 63 Tryz.t63 w.heap.size (i * 5) (n + m - i) dc ⟨vb,0,none⟩ m vc R 63 vs Tryz.underlying36 (by kernel_rfl) (by rw [hW]; exact hN) ?_ ?_ ?_ h1v
  ·rw [hvl]; show m * 5=Nat.min m (n + m - i) * 5
   rw [show Nat.min m (n + m - i)=m by simp only [Nat.min_def]; split <;> omega]
  ·intro j v hj
   rw [Addr.add_lit,Nat.zero_add]
   have:=hvs j v hj
   unfold World.cell? at this ⊢
   rw [hW,hO vb hvbw]
   exact this
  ·rw [hvl,hRs]; omega
 have hA1s:A1.size=Gc * 5:=by rw [hA1]; simp [hvl,hRs]; omega
 have hcpB:∀ (W:World),W.heap=((w.alloc (.cells R 63)).drew.setRow w.heap.size A1).heap→∀ ty dc sc,(Builtin.copy_ #[36,36] ty #[.slice (some ⟨w.heap.size,(i + m) * 5,none⟩) (n + m - (i + m)) dc,.slice (some ⟨b,i * 5,none⟩) (n - i) sc]).run Tryz.prog W=.ok (goInt (Nat.min (n - i) (n + m - (i + m)))) (W.setRow w.heap.size A2):=fun W hW ty dc sc=>by
  rw [hA2]
  refine ng2' W 36 36 ty 63 Tryz.t63 w.heap.size ((i + m) * 5) (n + m - (i + m)) dc ⟨b,i * 5,none⟩ (n - i) sc A1 63 (xs.drop (i * 5)) Tryz.underlying36 (by kernel_rfl) (by rw [hW]; exact Go.Ab.setRow_heap hN) ?_ ?_ ?_ (fun v hv=>h1c v (List.mem_of_mem_drop hv))
  ·rw [hdl]; show (n - i) * 5=Nat.min (n - i) (n + m - (i + m)) * 5
   rw [show Nat.min (n - i) (n + m - (i + m))=n - i by simp only [Nat.min_def]; split <;> omega]
  ·intro j v hj
   rw [Addr.add_lit]
   rw [List.getElem?_drop] at hj
   have:=hcell _ v hj
   unfold World.cell? at this ⊢
   rw [hW,Go.Ab.setRow_other (w:=(w.alloc (.cells R 63)).drew) (show b ≠ w.heap.size by omega)]
   rw [show (w.alloc (.cells R 63)).drew.heap[b]?=w.heap[b]? from hO b hbw]
   exact this
  ·rw [hdl,hA1s]; omega
 have hGi:¬ (Gc=i):=by omega
 have hGim:¬ (Gc=i + m):=by omega
 have hci:¬ (c=i):=by omega
 have hw1:IntKind.i64.wrap ((i:Int) + (m:Int))=(i:Int) + (m:Int):=by rw [IntKind.wrap_i64]; omega
 have hb1:(0:Int)≤(i:Int) + (m:Int):=by omega
 have hin:i≤n:=by omega
 have htn:((i:Int) + (m:Int)).toNat=i + m:=by omega
 have hb3:(i:Int)≤(n:Int):=by omega
 clear hkk hik hold hR hG hA1 hA2 hg hxl hxs hvl hvs h1c h1v hdl hRs hA1s hN hO hcell hW1 hz hzs hbig
 go_enter Tryz.func127,Tryz.ntmps127
 go_wp2_with (first
  | (at_builtin; refine Lib.wpList_append_run _ rfl _ _ _ _ rfl _ _ rfl rfl _ _ (hrz _) ?_)
  | rw [hcpA ((w.alloc (.cells R 63)).drew) rfl])
 go_region_law_o (refine step_copy_runI rfl _ _ 36 36 rfl (.slice (some ⟨w.heap.size,(i + m) * 5,none⟩) (n + m - (i + m)) (Gc - (i + m))) (.slice (some ⟨b,i * 5,none⟩) (n - i) (c - i)) (by simp [Act.eval,Act.put]) (by simp [Act.eval,Act.put]) (hcpB ((((w.alloc (.cells R 63)).drew).setRow w.heap.size A1).drew) rfl 3 (Gc - (i + m)) (c - i)) ?_)
 go_wp2
 go_ret
 exact ⟨rfl,rfl⟩
theorem np4' (w:World) (n i m:Nat) (xs vs:List Value) (vS vV:Value) (o1:w.ownsRow 0 63 5 vS n xs) (o2:w.ownsRow 0 63 5 vV m vs) (hap:∀ b,vS.ownBlock=some b→vV.ownBlock ≠ some b) (h1c:∀ u ∈ xs,u.oneCell'=true) (h1v:∀ u ∈ vs,u.oneCell'=true)
  (hi:i≤n) (hm:0 < m) (h63:n + m≤2147483648):Calls Tryz.prog 127 #[vS,.int .i64 i,vV] w fun e w'=>∃ v',e=.returned v'∧RowOut w w' 63 5 vS v' (n + m) (xs.take (i * 5)++vs++xs.drop (i * 5)):=by
 have hb:Tryz.t63.bytes≤4096:=Nat.le_of_ble_eq_true (by kernel_rfl)
 obtain ⟨z,hz,hzs⟩:∃ z,Tryz.t63.zero=some z∧z.cells.size=5:=⟨_,rfl,rfl⟩
 have hbig:(n + m) * Tryz.t63.bytes≤140737488355328:=by
  have:(n + m) * Tryz.t63.bytes≤2147483648 * 4096:=Nat.mul_le_mul h63 hb
  omega
 obtain ⟨hvl,⟨_,h0⟩ | ⟨vb,vc,vcur,rfl,_,hvg,hvm,hvc,hvsz,hvt⟩⟩:=o2
 ·omega
 have hvbw:vb < w.heap.size:=(Array.getElem?_eq_some_iff.1 hvg).1
 have hvs:∀ j v,vs[j]?=some v→w.cell? ⟨vb,j,none⟩=some v:=fun j v hj=>by
  rw [← hvt] at hj
  have hlt:j < m * 5:=by
   have:=(List.getElem?_eq_some_iff.1 hj).1
   simp at this; omega
  rw [List.getElem?_take_of_lt hlt] at hj
  rw [cell_of_row w vb _ vcur 63 (0,0) hvg]
  simpa using hj
 have fresh:∀ (c:Nat) (A:Array Value) (W:World),W.heap.size=w.heap.size + 1→W.heap[w.heap.size]?=some (.cells A 63 (0,0))→(∀ k,k < w.heap.size→W.heap[k]?=w.heap[k]?)→W.os=w.os→W.tape=w.tape→W.output=w.output →
   A.size=grownCap w (n + m) c 63 * 5→A.toList.take ((n + m) * 5)=xs.take (i * 5)++vs++xs.drop (i * 5)→xs.length=n * 5→RowOut w W 63 5 vS (.slice (some ⟨w.heap.size,0,none⟩) (n + m) (grownCap w (n + m) c 63)) (n + m) (xs.take (i * 5)++vs++xs.drop (i * 5)):=fun c A W w1 w2 w3 w4 w5 w6 hA hT hxl=>
  ⟨⟨by simp [hxl,hvl]; omega,.inr ⟨w.heap.size,_,A,rfl,Nat.zero_le _,w2,grownCap_ge w _ _ _,grownCap_le_maxLen w _ _ _ (by unfold maxLen; omega),hA,hT⟩⟩,fun b hb=>.inr (by simp [Value.ownBlock] at hb; omega),⟨w4,w5,w6,by omega,fun k hk _=>w3 k hk⟩⟩
 have pushed:∀ (A:Array Value),(w.drew.alloc (.cells A 63)).heap.size=w.heap.size + 1∧(w.drew.alloc (.cells A 63)).heap[w.heap.size]?=some (.cells A 63 (0,0))∧(∀ k,k < w.heap.size→(w.drew.alloc (.cells A 63)).heap[k]?=w.heap[k]?):=fun A=>by
  refine ⟨(show (w.heap.push _).size=_ by rw [Array.size_push]),?_,fun k hk=>?_⟩
  ·show (w.heap.push _)[w.heap.size]?=_
   rw [Array.getElem?_push,if_pos rfl]
  ·show (w.heap.push _)[k]?=_
   rw [Array.getElem?_push_lt hk,Array.getElem?_eq_getElem hk]
 have endG:∀ (base:Option Addr) (c:Nat),vS=.slice base n c→i=n→n≤c→c < n + m→(base=none→n=0∧c=0)→xs.length=n * 5→(∀ a,base=some a→∀ j v,xs[j]?=some v→w.cell? (a.add j)=some v)→Calls Tryz.prog 127 #[vS,.int .i64 i,.slice (some ⟨vb,0,none⟩) m vc] w fun e w'=>∃ v',e=.returned v'∧RowOut w w' 63 5 vS v' (n + m) (xs.take (i * 5)++vs++xs.drop (i * 5)):=by
  rintro base c rfl rfl hnc hroom hnil hxl hxs
  refine (npf' w base i c m vb vc vs xs z hz hm hnc hroom hbig h63 hnil hxl hxs hvl hvs).mono ?_
  rintro e w' ⟨rfl,rfl⟩
  obtain ⟨p1,p2,p3⟩:=pushed ((xs++vs).toArray++Builtin.zeroCells z.cells (grownCap w (i + m) c 63 - (i + m)))
  refine ⟨_,rfl,fresh c _ _ p1 p2 p3 rfl rfl rfl ?_ ?_ hxl⟩
  ·have:=grownCap_ge w (i + m) c 63
   simp [Builtin.zeroCells,hzs,hxl,hvl]
   omega
  ·have e1:xs.take (i * 5)=xs:=List.take_of_length_le (by omega)
   have e2:xs.drop (i * 5)=[]:=List.drop_of_length_le (by omega)
   rw [e1,e2,List.append_nil,Array.toList_append,List.toList_toArray]
   exact ngx' _ _ _ _ (by rw [hxl,hvl]; omega)
 obtain ⟨hxl,⟨rfl,rfl⟩ | ⟨b,c,cur,rfl,_,hg,hnc,hcm,hcs,hct⟩⟩:=o1
 ·exact endG none 0 rfl (by omega) (Nat.le_refl _) (by omega) (fun _=>⟨rfl,rfl⟩) hxl (fun a h=>by cases h)
 have hbb:vb ≠ b:=fun h=>hap b rfl (by rw [h]; rfl)
 have hcell:∀ j v,xs[j]?=some v→w.cell? ⟨b,j,none⟩=some v:=fun j v hj=>by
  rw [← hct] at hj
  have hlt:j < n * 5:=by
   have:=(List.getElem?_eq_some_iff.1 hj).1
   simp at this; omega
  rw [List.getElem?_take_of_lt hlt] at hj
  rw [cell_of_row w b _ cur 63 (0,0) hg]
  simpa using hj
 have hcm':c≤9223372036854775807:=by unfold maxLen at hcm; omega
 have hbw:b < w.heap.size:=(Array.getElem?_eq_some_iff.1 hg).1
 have inPlace:∀ (A:Array Value) (W:World),W.heap.size=w.heap.size→W.heap[b]?=some (.cells A 63 (0,0))→(∀ k,k ≠ b→W.heap[k]?=w.heap[k]?)→W.os=w.os→W.tape=w.tape→W.output=w.output→n + m≤c →
   A.size=c * 5→A.toList.take ((n + m) * 5)=xs.take (i * 5)++vs++xs.drop (i * 5)→RowOut w W 63 5 (.slice (some ⟨b,0,none⟩) n c) (.slice (some ⟨b,0,none⟩) (n + m) c) (n + m) (xs.take (i * 5)++vs++xs.drop (i * 5)):=fun A W w1 w2 w3 w4 w5 w6 hr hA hT=>
  ⟨⟨by simp [hxl,hvl]; omega,.inr ⟨b,c,A,rfl,Nat.zero_le _,w2,hr,hcm,hA,hT⟩⟩,fun b' hb'=>.inl hb',⟨w4,w5,w6,by omega,fun k hk hne=>w3 k (fun e=>hne (by rw [e]; rfl))⟩⟩
 by_cases hin:i=n
 ·by_cases hr:n + m≤c
  ·subst hin
   refine (npc' w b i c m vb vc vs cur hm hr hg hcs hvl hvs h1v).mono ?_
   rintro e w' ⟨rfl,rfl⟩
   refine ⟨_,rfl,inPlace _ _ Go.Ab.setRow_size (Go.Ab.setRow_heap hg) (fun k hk=>Go.Ab.setRow_other hk) rfl rfl rfl hr ?_ ?_⟩
   ·simp [hcs,hvl]; omega
   ·have e1:xs.take (i * 5)=xs:=List.take_of_length_le (by omega)
    have e2:xs.drop (i * 5)=[]:=List.drop_of_length_le (by omega)
    rw [e1,e2,List.append_nil,hct]
    exact ngx' _ _ _ _ (by rw [hxl,hvl]; omega)
  ·exact endG (some ⟨b,0,none⟩) c rfl hin hnc (by omega) (fun h=>by cases h) hxl (fun a ha j v hj=>by cases ha; rw [Addr.add_lit,Nat.zero_add]; exact hcell j v hj)
 ·have hlt:i < n:=by omega
  have hdl:(xs.drop (i * 5)).length=(n - i) * 5:=by rw [List.length_drop,hxl,Nat.sub_mul]
  by_cases hr:n + m≤c
  ·refine (nt0' w b n c i m vb vc vs xs cur _ _ hlt hm hr hcm' hbb hg hcs hxl hct hvl hvs h1c h1v rfl rfl 63 63 vcur.size cur.size (by simp [World.shape?,hvg]) (by simp [World.shape?,hg]) (by omega) (by simp [World.frozen?,hvg]) (by simp [World.frozen?,hvg])).mono ?_
   rintro e w' ⟨rfl,rfl⟩
   refine ⟨_,rfl,inPlace _ _ (by rw [Go.Ab.setRow_size,Go.Ab.setRow_size]; rfl) (Go.Ab.setRow_heap (Go.Ab.setRow_heap (w:=w.drew) hg)) (fun k hk=>by rw [Go.Ab.setRow_other hk,Go.Ab.setRow_other hk]; rfl) rfl rfl rfl hr ?_ ?_⟩
   ·simp [hdl,hcs,hvl]; omega
   ·rw [show (i + m) * 5=i * 5 + vs.length by rw [hvl,Nat.add_mul],List.toList_toArray,List.toList_toArray,lst1 _ _ _ _ _ (by simp [hcs,hvl]; omega),← List.append_assoc]
    have e1:cur.toList.take (i * 5)=xs.take (i * 5):=by rw [← hct,List.take_take,Nat.min_eq_left (by omega)]
    rw [e1]
    exact ngx' _ _ _ _ (by simp [hxl,hvl]; omega)
  ·refine (nu4' w b n c i m vb vc vs xs z hz hzs hlt hm hnc (by omega) hcm' hbig h63 cur _ _ _ hg hxl hct hvbw hvl hvs h1c h1v rfl rfl rfl).mono ?_
   rintro e w' ⟨rfl,rfl⟩
   have hcg:=grownCap_ge w (n + m) c 63
   refine ⟨_,rfl,fresh c _ _ (by rw [Go.Ab.setRow_size]; show (World.setRow _ _ _).heap.size=_; rw [Go.Ab.setRow_size]; exact (pushed _).1) (Go.Ab.setRow_heap (w:=(World.setRow _ _ _).drew) (Go.Ab.setRow_heap (w:=(w.alloc _).drew) (pushed _).2.1)) (fun k hk=>by rw [Go.Ab.setRow_other (by omega)]; show (World.setRow _ _ _).heap[k]?=_; rw [Go.Ab.setRow_other (by omega)]; exact (pushed _).2.2 k hk) rfl rfl rfl ?_ ?_ hxl⟩
   ·simp [Builtin.zeroCells,hzs,hdl,hxl,hvl]; omega
   ·rw [show (i + m) * 5=i * 5 + vs.length by rw [hvl,Nat.add_mul],List.toList_toArray,List.toList_toArray,Array.toList_append,Array.toList_append,List.toList_toArray,List.append_assoc (xs.take (i * 5)) (Builtin.zeroCells z.cells (n + m - i)).toList]
    rw [lst2 (xs.take (i * 5)) _ vs (xs.drop (i * 5)) _ (i * 5) (by rw [List.length_take,hxl]; omega)]
    exact ngx' _ _ _ _ (by simp [hxl,hvl]; omega)
theorem nvd' (w:World) (b n c i j:Nat) (xs zs:List Value) (z:Value) (curA A1 A2:Array Value) (hij:i < j) (hj:j≤n) (hnc:n≤c) (hc63:c≤9223372036854775807)
  (hzv:∀ w,(zeroValue 63).run Tryz.prog w=.ok z w) (hzs:zs=(Builtin.zeroCells z.cells (j - i)).toList) (hzl:zs.length=(j - i) * 5) (hz1:∀ u ∈ zs,u.oneCell'=true)
  (hg:w.heap[b]?=some (.cells curA 63 (0,0))) (hsz:curA.size=c * 5) (hxl:xs.length=n * 5) (hxs:curA.toList.take (n * 5)=xs) (h1c:∀ v ∈ xs,v.oneCell'=true)
  (hA1:A1=(curA.toList.take (i * 5)++xs.drop (j * 5)++curA.toList.drop (i * 5 + (xs.drop (j * 5)).length)).toArray)
  (hA2:A2=(A1.toList.take ((i + (n - j)) * 5)++zs++A1.toList.drop ((i + (n - j)) * 5 + zs.length)).toArray) :
  Calls Tryz.prog 128 #[.slice (some ⟨b,0,none⟩) n c,.int .i64 i,.int .i64 j] w fun e w'=>
   e=.returned (.slice (some ⟨b,0,none⟩) (i + (n - j)) c)∧w'=(w.drew.setRow b A1).setRow b A2:=by
 have mixed:Tryz.prog.follows .mixedOrders=true:=by kernel_rfl
 have hdl:(xs.drop (j * 5)).length=(n - j) * 5:=by rw [List.length_drop,hxl,Nat.sub_mul]
 have hap:∀ ty (ad:Addr) sc,ad=⟨b,j * 5,none⟩∨n=j→(Builtin.append_ #[36,36] ty #[.slice (some ⟨b,0,none⟩) i c,.slice (some ad) (n - j) sc]).run Tryz.prog w.drew=.ok (.slice (some ⟨b,0,none⟩) (i + (n - j)) c) (w.drew.setRow b A1):=fun ty ad sc had=>by
  rw [hA1]
  refine run_append_room w.drew 36 ty 63 Tryz.t63 Tryz.underlying36 (by kernel_rfl) b i c curA hg ad (n - j) sc (xs.drop (j * 5)) hdl (fun q u hq=>?_) (fun v hv=>h1c v (List.mem_of_mem_drop hv)) (by omega) ?_
  ·rcases had with rfl | had
   ·rw [Addr.add_lit]
    rw [List.getElem?_drop,← hxs] at hq
    have hlt:j * 5 + q < n * 5:=by
     have:=(List.getElem?_eq_some_iff.1 hq).1
     simp at this; omega
    rw [List.getElem?_take_of_lt hlt] at hq
    show w.cell? _=_
    rw [cell_of_row w b _ curA 63 (0,0) hg]
    simpa using hq
   ·have:=(List.getElem?_eq_some_iff.1 hq).1
    omega
  ·rw [hdl,hsz]; show i * 5 + (n - j) * 5≤c * 5; omega
 have hg1:(w.drew.setRow b A1).heap[b]?=some (.cells A1 63 (0,0)):=Go.Ab.setRow_heap hg
 have hA1s:A1.size=c * 5:=by rw [hA1]; simp [hdl,hsz]; omega
 obtain ⟨W1,hW1⟩:∃ W1,W1=w.drew.setRow b A1:=⟨_,rfl⟩
 rw [← hW1] at hap hg1 ⊢
 have hcl:∀ ty,(Builtin.clear_ #[36] ty #[.slice (some ⟨b,(i + (n - j)) * 5,none⟩) (n - (i + (n - j))) (c - (i + (n - j)))]).run Tryz.prog W1=.ok (.tuple #[]) (W1.setRow b A2):=fun ty=>by
  rw [hA2]
  rw [show n - (i + (n - j))=j - i by omega]
  exact ntk' W1 36 63 ty z Tryz.underlying36 hzv b _ (j - i) _ (by omega) A1 63 zs hzs hg1 (by rw [hzl,hA1s]; omega) hz1
 have hic:i≤c:=by omega
 have hjc:j≤c:=by omega
 have hne:¬ ((i:Int)=(j:Int)):=by omega
 have hle:(i:Int)≤(j:Int):=by omega
 have hX:Hid (W1=w.drew.setRow b A1):=hW1
 clear hzs hzl hz1 hg hsz hxl hxs h1c hA1 hA2 hdl hg1 hA1s hzv hW1
 by_cases hcj:c=j
 ·subst hcj
  obtain rfl:n=c:=by omega
  have hap0:=hap 36 ⟨b,0,none⟩ 0 (.inr rfl)
  clear hap
  simp only [Nat.sub_self,Nat.add_zero] at hap0 hcl ⊢
  go_enter Tryz.func128,Tryz.ntmps128
  go_wp2_with fail
  go_region_law_o (refine nfz' rfl _ _ 36 36 rfl (.slice (some ⟨b,0,none⟩) i n) (.slice (some ⟨b,0,none⟩) 0 0) (by simp [Act.eval,Act.put]) (by simp [Act.eval,Act.put]) hap0 ?_)
  go_wp2
  go_ret
  exact ⟨rfl,rfl⟩
 go_enter Tryz.func128,Tryz.ntmps128
 go_wp2_with fail
 go_region_law_o (refine nfz' rfl _ _ 36 36 rfl (.slice (some ⟨b,0,none⟩) i c) (.slice (some ⟨b,j * 5,none⟩) (n - j) (c - j)) (by simp [Act.eval,Act.put]) (by simp [Act.eval,Act.put]) (hap 36 ⟨b,j * 5,none⟩ (c - j) (.inl rfl)) ?_)
 go_wp2
 go_ret
 exact ⟨rfl,rfl⟩
theorem npm' (w:World) (n i j:Nat) (xs:List Value) (vS:Value) (o1:w.ownsRow 0 63 5 vS n xs) (h1c:∀ u ∈ xs,u.oneCell'=true) (hij:i < j) (hj:j≤n) :
  Calls Tryz.prog 128 #[vS,.int .i64 i,.int .i64 j] w fun e w'=>∃ v',e=.returned v'∧RowOut w w' 63 5 vS v' (n - (j - i)) (xs.take (i * 5)++xs.drop (j * 5)):=by
 obtain ⟨z,hzv,hzs⟩:∃ z,(∀ w,(zeroValue 63).run Tryz.prog w=.ok z w)∧z.cells.size=5:=⟨_,Tryz.zeroValue63,rfl⟩
 have hz1:∀ u ∈ (Builtin.zeroCells z.cells (j - i)).toList,u.oneCell'=true:=by
  have hz:(zeroValue 63).run Tryz.prog w=.ok z w:=hzv w
  rw [Tryz.zeroValue63 w] at hz
  cases hz
  exact nng' _ (by kernel_rfl) (by rw [hzs]; omega) _
 obtain ⟨hxl,⟨rfl,rfl⟩ | ⟨b,c,cur,rfl,_,hg,hnc,hcm,hcs,hct⟩⟩:=o1
 ·omega
 have hcm':c≤9223372036854775807:=by unfold maxLen at hcm; omega
 have hzl:(Builtin.zeroCells z.cells (j - i)).toList.length=(j - i) * 5:=by simp [Builtin.zeroCells,hzs]
 have hdl:(xs.drop (j * 5)).length=(n - j) * 5:=by rw [List.length_drop,hxl,Nat.sub_mul]
 refine (nvd' w b n c i j xs _ z cur _ _ hij hj hnc hcm' hzv rfl hzl hz1 hg hcs hxl hct h1c rfl rfl).mono ?_
 rintro e w' ⟨rfl,rfl⟩
 have hn:n - (j - i)=i + (n - j):=by omega
 rw [hn]
 refine ⟨_,rfl,⟨by simp [hxl,hdl]; omega,.inr ⟨b,c,_,rfl,Nat.zero_le _,Go.Ab.setRow_heap (Go.Ab.setRow_heap (w:=w.drew) hg),by omega,hcm,?_,?_⟩⟩,fun b' hb'=>.inl hb',⟨rfl,rfl,rfl,by rw [Go.Ab.setRow_size,Go.Ab.setRow_size]; exact Nat.le_refl _,fun k hk hne=>by
  have hkb:k ≠ b:=fun e=>hne (by rw [e]; rfl)
  rw [Go.Ab.setRow_other hkb,Go.Ab.setRow_other hkb]; rfl⟩⟩
 ·simp [hdl,hcs,hzl]; omega
 ·have e1:cur.toList.take (i * 5)=xs.take (i * 5):=by rw [← hct,List.take_take,Nat.min_eq_left (by omega)]
  have hlen:(xs.take (i * 5)++xs.drop (j * 5)).length=(i + (n - j)) * 5:=by rw [List.length_append,hdl,List.length_take,hxl]; omega
  have hlen':=hlen
  rw [List.length_append] at hlen'
  rw [List.toList_toArray,List.toList_toArray,e1,List.append_assoc (List.take _ _)]
  rw [List.take_append_of_le_length (by simp only [List.length_take,List.length_append] at hlen' ⊢; omega),List.take_take,Nat.min_self,List.take_left' hlen]
end Go.Ovl
