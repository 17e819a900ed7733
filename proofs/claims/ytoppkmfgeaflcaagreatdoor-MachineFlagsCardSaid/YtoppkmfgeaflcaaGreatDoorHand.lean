/- What functions of Go's library do, by hand. -/
import Derived.Test.YtoppkmfgeaflcaaGreatDoorChecked
import Derived.Test.YtoppkmfgeaflcaaGreatDoorAbH
set_option linter.all false
open Option renaming some->A,none->B
namespace Go.Ovl
open Go Go.Ab Go.Proofs Go.RowKit Go.Lib
set_option maxHeartbeats 4000000
set_option maxRecDepth 100000
theorem Anw:SK Tryz.prog 56 3 1 Tryz.t3:=VL Tryz.underlying29 (te:=Tryz.t3) κ (z:=1) rfl (by decide) rfl rfl Tryz.func56 Tryz.ntmps56 κ
theorem Aru:SM Tryz.prog 56:=VK Tryz.underlying29 Tryz.func56 Tryz.ntmps56
theorem Anx:SK Tryz.prog 57 4 1 Tryz.t4:=VL Tryz.underlying30 (te:=Tryz.t4) κ (z:=1) rfl (by decide) rfl rfl Tryz.func57 Tryz.ntmps57 κ
theorem Arv:SM Tryz.prog 57:=VK Tryz.underlying30 Tryz.func57 Tryz.ntmps57
theorem Any:SK Tryz.prog 58 65 5 Tryz.t65:=VL Tryz.underlying31 (te:=Tryz.t65) κ (z:=5) rfl (by decide) rfl rfl Tryz.func58 Tryz.ntmps58 κ
theorem Arw:SM Tryz.prog 58:=VK Tryz.underlying31 Tryz.func58 Tryz.ntmps58
theorem Ans:SK Tryz.prog 51 117 41 Tryz.t117:=VL Tryz.underlying37 (te:=Tryz.t117) κ (z:=41) rfl (by decide) rfl rfl Tryz.func51 Tryz.ntmps51 κ
theorem Arq:SM Tryz.prog 51:=VK Tryz.underlying37 Tryz.func51 Tryz.ntmps51
theorem Anu:SK Tryz.prog 53 133 14 Tryz.t133:=VL Tryz.underlying39 (te:=Tryz.t133) κ (z:=14) rfl (by decide) rfl rfl Tryz.func53 Tryz.ntmps53 κ
theorem Ars:SM Tryz.prog 53:=VK Tryz.underlying39 Tryz.func53 Tryz.ntmps53
theorem Anv:SK Tryz.prog 54 138 1 Tryz.t138:=VL Tryz.underlying40 (te:=Tryz.t138) κ (z:=1) rfl (by decide) rfl rfl Tryz.func54 Tryz.ntmps54 κ
theorem Art:SM Tryz.prog 54:=VK Tryz.underlying40 Tryz.func54 Tryz.ntmps54
theorem Anz:SK Tryz.prog 59 51 2 Tryz.t51:=VL Tryz.underlying41 (te:=Tryz.t51) κ (z:=2) rfl (by decide) rfl rfl Tryz.func59 Tryz.ntmps59 κ
theorem Arx:SM Tryz.prog 59:=VK Tryz.underlying41 Tryz.func59 Tryz.ntmps59
theorem Ant:SK Tryz.prog 52 122 6 Tryz.t122:=VL Tryz.underlying38 (te:=Tryz.t122) κ (z:=6) rfl (by decide) rfl rfl Tryz.func52 Tryz.ntmps52 κ
theorem Arr:SM Tryz.prog 52:=VK Tryz.underlying38 Tryz.func52 Tryz.ntmps52
theorem An0:SK Tryz.prog 60 153 3 Tryz.t153:=VL Tryz.underlying120 (te:=Tryz.t153) κ (z:=3) rfl (by decide) rfl rfl Tryz.func60 Tryz.ntmps60 κ
theorem Ary:SM Tryz.prog 60:=VK Tryz.underlying120 Tryz.func60 Tryz.ntmps60
theorem Aa0:Aqr Tryz.prog 272 65 5:=Afi (o:=298) Tryz.underlying31 (t:=3) Tryz.underlying3 (te:=Tryz.t65) κ rfl (C_ κ) (by decide) ⟨_,rfl,rfl⟩ (bt:=4) Tryz.func298 κ κ κ κ Tryz.sizeOf65 Tryz.func272 Tryz.ntmps272 κ
theorem Aal:Azv Tryz.prog 273 65 5:=Apj Tryz.underlying31 (te:=Tryz.t65) κ (z:=5) rfl (by decide) ⟨_,Tryz.zeroValue65,rfl,κ⟩ Tryz.func273 Tryz.ntmps273 κ
theorem Anq(b:Nat)(w:World)(h0:w.cell? ⟨b,0,B⟩=A (.pointer (A ⟨b,0,B⟩))) :
  Calls Tryz.prog 277 #[.pointer (A ⟨b,0,B⟩)] w λe w'=>e=.returned (.tuple #[])∧w'=w:=by
 go_enter Tryz.func277,Tryz.ntmps277
 go_wp2
 rw[Lib.run_neq_ptr_same w _ Tryz.underlying338 (show Tryz.prog.info? 340=A Tryz.t340 by kernel_rfl)]
 go_wp2
 go_end0
 exact⟨rfl,rfl⟩
theorem Ako(b:Nat)(w:World)(h0:w.cell? ⟨b,0,B⟩=A (.pointer B))(hsh:w.shape? b=A (340,2))(hfz:w.frozen? ⟨b,0,B⟩=false) :
  Calls Tryz.prog 277 #[.pointer (A ⟨b,0,B⟩)] w λe w'=>e=.returned (.tuple #[])∧w'=w.setCell ⟨b,0,B⟩ (.pointer (A ⟨b,0,B⟩)):=by
 have hj:Tryz.prog.info? 340=A Tryz.t340:=κ
 go_enter Tryz.func277,Tryz.ntmps277
 go_wp2
 rw[Lib.run_to_unsafe w ⟨b,0,B⟩ Tryz.underlying338 Tryz.underlying389 hj (by decide) hsh (Nat.zero_lt_succ 1)]
 simp only[Result.andThen];rw[Oper.upon_value]
 go_wp2
 rw[run_callFunc_extern Tryz.func300 κ κ κ (e:=Extern.AbiNoEscape.same) κ]
 rw[Lib.run_noEscape];simp only[Result.andThen];rw[Oper.upon_value]
 go_wp2
 rw[Lib.run_from_unsafe w ⟨b,0,B⟩ Tryz.underlying389 Tryz.underlying338 hj hsh κ]
 simp only[Result.andThen];rw[Oper.upon_value]
 go_wp2
 go_end0
 exact⟨rfl,rfl⟩
theorem Anr(b:Nat)(w:World)(a0 v:Value)(ha:a0=.pointer B∨a0=.pointer (A ⟨b,0,B⟩))(hb:w.heap[b]?=A (.cells #[a0,v] 340 (0,0))) :
  Calls Tryz.prog 277 #[.pointer (A ⟨b,0,B⟩)] w λe w1=>e=.returned (.tuple #[])∧CcOut w w1 b 340 v:=by
 have h0:w.cell? ⟨b,0,B⟩=A a0:=by rw[e4_ w b 0 _ 340 (0,0) hb];rfl
 rcases ha with rfl | rfl
 ·refine(Ako b w h0 (by simp[World.shape?,hb]) (by simp[World.frozen?,hb])).mono ?_
  rintro e w1 ⟨rfl,rfl⟩;exact⟨rfl,by rw[Go.Ab.setCell_heap hb];rfl,λk hk=>Go.Ab.setCell_other hk,Go.Ab.setCell_size,rfl,rfl,rfl⟩
 ·refine(Anq b w h0).mono ?_
  rintro e w1 ⟨rfl,rfl⟩;exact⟨rfl,hb,λ_ _=>rfl,rfl,rfl,rfl,rfl⟩
theorem Ao5(b:Nat)(w:World)(a0 v:Value)(ha:a0=.pointer B∨a0=.pointer (A ⟨b,0,B⟩))(hb:w.heap[b]?=A (.cells #[a0,v] 340 (0,0)))(n:Nat)(xs:List Value)(hown:w.ownsRow 0 5 1 v n xs)(hne:v.ownBlock≠A b)(s:ByteArray)(h63:n+s.size≤2147483648) :
  Calls Tryz.prog 248 #[.pointer (A ⟨b,0,B⟩),.string s] w λe w'=>e=.returned (.tuple #[.int .i64 s.size,.nilIface])∧∃v',BldOut w w' b 340 5 (.pointer (A ⟨b,0,B⟩)) v v' (n+s.size) (xs++Lib.strCells s):=by
 have hbw:b<w.heap.size:=(N_.1 hb).1;have hcc:=Anr b w a0 v ha hb
 have key:∀w1,CcOut w w1 b 340 v→∃v' w2,(∀ty,(Builtin.append_ #[23,9] ty #[v,.string s]).run Tryz.prog w1=.ok v' w2)∧RowOut w1 w2 5 1 v v' (n+s.size) (xs++Lib.strCells s):=λw1 hc=>
  Bka w1 Tryz.underlying23 Tryz.underlying9 (i:=Tryz.t5) κ κ κ κ (Yl hown λg hg=>hc.rest g (λe=>hne (by rw[← e];exact hg))) s h63
 clear hb ha hown
 go_enter Tryz.func248,Tryz.ntmps248
 go_wp2_with (go_at_call 277;refine hcc.mono ?_)
 rintro e w1 ⟨rfl,hc⟩;obtain⟨v',w2,hr,ho⟩:=key w1 hc;have hout:=Axa hbw hc hne ho;have hb1:b<w1.heap.size:=by rw[hc.size];exact hbw
 have h2:w2.heap[b]?=A (.cells #[.pointer (A ⟨b,0,B⟩),v] 340 (0,0)):=by rw[ho.grow.block b hb1 (λe=>hne e.symm)];exact hc.cel
 have c1:w1.cell? ⟨b,1,B⟩=A v:=by rw[e4_ w1 b 1 _ 340 (0,0) hc.cel];rfl
 have d1:w2.cell? ⟨b,1,B⟩=A v:=by rw[e4_ w2 b 1 _ 340 (0,0) h2];rfl
 have f1:w2.frozen? ⟨b,1,B⟩=false:=by simp[World.frozen?,h2]
 obtain⟨ao,n',cap,hv'⟩:∃ao n' cap,v'=.slice ao n' cap:=by
  rcases ho.row.2 with⟨hv,_⟩ | ⟨g,cap,cur,hv,_⟩
  ·exact⟨_,_,_,hv⟩
  ·exact⟨_,_,_,hv⟩
 subst hv';have hO:Hid (∃v',BldOut w (w2.setCell ⟨b,1,B⟩ (.slice ao n' cap)) b 340 5 (.pointer (A ⟨b,0,B⟩)) v v' (n+s.size) (xs++Lib.strCells s)):=⟨_,hout⟩
 clear hout ho h2 hc key hcc hb1 hbw hne
 go_wp2_with (at_builtin;refine Lib.wpList_append_run _ rfl _ _ _ _ rfl _ _ rfl rfl _ _ (hr _) ?_)
 go_ret2
 exact⟨rfl,hO.out⟩
theorem Ao1(b:Nat)(w:World)(a0:Value)(g cap:Nat)(cur:Array Value)(l:List UInt8)(h0:l≠[])(hb:w.heap[b]?=A (.cells #[a0,.slice (A ⟨g,0,B⟩) l.length cap] 340 (0,0)))(hg:w.heap[g]?=A (.cells cur 5 (0,0)))(hn:l.length≤cur.size)(hcap:l.length≤cap)(h63:l.length≤9223372036854775807)
  (hcell:∀(j:Nat) (x:UInt8),l[j]?=A x→cur[j]?=A (Value.int .u8 x.toNat)) :
  Calls Tryz.prog 250 #[.pointer (A ⟨b,0,B⟩)] w λe w'=>e=.returned (.string ⟨l.toArray⟩)∧w'=w.drew.freeze ⟨g,0,B⟩ l.length:=by
 have hl0:l.length≠0:=by simpa using h0
 have c1:w.drew.cell? ⟨b,1,B⟩=A (.slice (A ⟨g,0,B⟩) l.length cap):=by
  rw[e4_ w.drew b 1 _ 340 (0,0) hb];rfl
 have hSD:(Builtin.unsafeSliceData_ #[23] 371 #[.slice (A ⟨g,0,B⟩) l.length cap]).run Tryz.prog w.drew=.ok (.pointer (A ⟨g,0,B⟩)) w.drew:=
  Lib.run_unsafeSliceData_row _ _ _ _ _ _ ω
 have hUS:(Builtin.unsafeString_ #[371,3] 9 #[.pointer (A ⟨g,0,B⟩),.int .i64 l.length]).run Tryz.prog w.drew=.ok (.string ⟨l.toArray⟩) (w.drew.freeze ⟨g,0,B⟩ l.length):=by
  refine Lib.run_unsafeString_row w.drew 371 3 9 5 Tryz.underlying371 κ g cur.size (by have hg':w.drew.heap[g]?=A (.cells cur 5 (0,0)):=hg;simp[World.shape?,hg']) l h0 hn h63 ?_
  intro j x hx;rw[Hf,p_,e4_ w.drew g j cur 5 (0,0) hg];exact hcell j x hx
 have mixed:Tryz.prog.follows .mixedOrders=true:=κ
 clear hcell hb hg
 go_enter Tryz.func250,Tryz.ntmps250
 go_wp2
 go_region_o
 all_goals(go_wp2;go_ret;exact⟨rfl,rfl⟩)
theorem Aak:Azv Tryz.prog 217 3 1:=Apj Tryz.underlying29 (te:=Tryz.t3) κ (z:=1) rfl (by decide) ⟨_,Tryz.zeroValue3,rfl,κ⟩ Tryz.func217 Tryz.ntmps217 κ
theorem Aaz:Aqr Tryz.prog 218 3 1:=Afi (o:=258) Tryz.underlying29 (t:=3) Tryz.underlying3 (te:=Tryz.t3) κ rfl (C_ κ) (by decide) ⟨_,rfl,rfl⟩ (bt:=4) Tryz.func258 κ κ κ κ Tryz.sizeOf3 Tryz.func218 Tryz.ntmps218 κ
theorem Aay:Aqr Tryz.prog 181 153 3:=Afi (o:=229) Tryz.underlying120 (t:=3) Tryz.underlying3 (te:=Tryz.t153) κ rfl (C_ κ) (by decide) ⟨_,rfl,rfl⟩ (bt:=4) Tryz.func229 κ κ κ κ Tryz.sizeOf153 Tryz.func181 Tryz.ntmps181 κ
end Go.Ovl
