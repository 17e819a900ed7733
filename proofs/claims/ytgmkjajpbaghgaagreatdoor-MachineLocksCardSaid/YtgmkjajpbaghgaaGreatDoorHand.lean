/- What functions of Go's library do, by hand. -/
import Derived.Test.YtgmkjajpbaghgaaGreatDoorChecked
import Derived.Test.YtgmkjajpbaghgaaGreatDoorAbH
set_option linter.all false
open Option renaming some->A,none->B
namespace Go.Ovl
open Go Go.Ab Go.Proofs Go.RowKit Go.Lib
set_option maxHeartbeats 4000000
set_option maxRecDepth 100000
theorem Amw:Sf Tryz.prog 51 3 1 Tryz.t3:=Vo Tryz.underlying29 (te:=Tryz.t3) κ (z:=1) rfl (by decide) rfl rfl Tryz.func51 Tryz.ntmps51 κ
theorem Aqx:Sg Tryz.prog 51:=Vn Tryz.underlying29 Tryz.func51 Tryz.ntmps51
theorem Amx:Sf Tryz.prog 52 4 1 Tryz.t4:=Vo Tryz.underlying30 (te:=Tryz.t4) κ (z:=1) rfl (by decide) rfl rfl Tryz.func52 Tryz.ntmps52 κ
theorem Aqy:Sg Tryz.prog 52:=Vn Tryz.underlying30 Tryz.func52 Tryz.ntmps52
theorem Amy:Sf Tryz.prog 53 144 5 Tryz.t144:=Vo Tryz.underlying31 (te:=Tryz.t144) κ (z:=5) rfl (by decide) rfl rfl Tryz.func53 Tryz.ntmps53 κ
theorem Aqz:Sg Tryz.prog 53:=Vn Tryz.underlying31 Tryz.func53 Tryz.ntmps53
theorem Ams:Sf Tryz.prog 46 108 41 Tryz.t108:=Vo Tryz.underlying37 (te:=Tryz.t108) κ (z:=41) rfl (by decide) rfl rfl Tryz.func46 Tryz.ntmps46 κ
theorem Aqt:Sg Tryz.prog 46:=Vn Tryz.underlying37 Tryz.func46 Tryz.ntmps46
theorem Amu:Sf Tryz.prog 48 124 14 Tryz.t124:=Vo Tryz.underlying39 (te:=Tryz.t124) κ (z:=14) rfl (by decide) rfl rfl Tryz.func48 Tryz.ntmps48 κ
theorem Aqv:Sg Tryz.prog 48:=Vn Tryz.underlying39 Tryz.func48 Tryz.ntmps48
theorem Amv:Sf Tryz.prog 49 129 1 Tryz.t129:=Vo Tryz.underlying40 (te:=Tryz.t129) κ (z:=1) rfl (by decide) rfl rfl Tryz.func49 Tryz.ntmps49 κ
theorem Aqw:Sg Tryz.prog 49:=Vn Tryz.underlying40 Tryz.func49 Tryz.ntmps49
theorem Amz:Sf Tryz.prog 54 51 2 Tryz.t51:=Vo Tryz.underlying41 (te:=Tryz.t51) κ (z:=2) rfl (by decide) rfl rfl Tryz.func54 Tryz.ntmps54 κ
theorem Aq0:Sg Tryz.prog 54:=Vn Tryz.underlying41 Tryz.func54 Tryz.ntmps54
theorem Amt:Sf Tryz.prog 47 113 6 Tryz.t113:=Vo Tryz.underlying38 (te:=Tryz.t113) κ (z:=6) rfl (by decide) rfl rfl Tryz.func47 Tryz.ntmps47 κ
theorem Aqu:Sg Tryz.prog 47:=Vn Tryz.underlying38 Tryz.func47 Tryz.ntmps47
theorem Am0:Sf Tryz.prog 55 148 3 Tryz.t148:=Vo Tryz.underlying111 (te:=Tryz.t148) κ (z:=3) rfl (by decide) rfl rfl Tryz.func55 Tryz.ntmps55 κ
theorem Aq1:Sg Tryz.prog 55:=Vn Tryz.underlying111 Tryz.func55 Tryz.ntmps55
theorem ZR:Apu Tryz.prog 270 144 5:=Aen (o:=296) Tryz.underlying31 (t:=3) Tryz.underlying3 (te:=Tryz.t144) κ rfl (B_ κ) (by decide) ⟨_,rfl,rfl⟩ (bt:=4) Tryz.func296 κ κ κ κ Tryz.sizeOf144 Tryz.func270 Tryz.ntmps270 κ
theorem ZA:Ayo Tryz.prog 271 144 5:=Aom Tryz.underlying31 (te:=Tryz.t144) κ (z:=5) rfl (by decide) ⟨_,Tryz.zeroValue144,rfl,κ⟩ Tryz.func271 Tryz.ntmps271 κ
theorem Amq(b:Nat)(w:World)(h0:w.cell? ⟨b,0,B⟩=A (.pointer (A ⟨b,0,B⟩))) :
  Calls Tryz.prog 275 #[.pointer (A ⟨b,0,B⟩)] w λe w'=>e=.returned (.tuple #[])∧w'=w:=by
 go_enter Tryz.func275,Tryz.ntmps275
 go_wp2
 rw[Lib.run_neq_ptr_same w _ Tryz.underlying337 (show Tryz.prog.info? 339=A Tryz.t339 by kernel_rfl)]
 go_wp2
 go_end0
 exact⟨rfl,rfl⟩
theorem Ajo(b:Nat)(w:World)(h0:w.cell? ⟨b,0,B⟩=A (.pointer B))(hsh:w.shape? b=A (339,2))(hfz:w.frozen? ⟨b,0,B⟩=false) :
  Calls Tryz.prog 275 #[.pointer (A ⟨b,0,B⟩)] w λe w'=>e=.returned (.tuple #[])∧w'=w.setCell ⟨b,0,B⟩ (.pointer (A ⟨b,0,B⟩)):=by
 have hj:Tryz.prog.info? 339=A Tryz.t339:=κ
 go_enter Tryz.func275,Tryz.ntmps275
 go_wp2
 rw[Lib.run_to_unsafe w ⟨b,0,B⟩ Tryz.underlying337 Tryz.underlying387 hj (by decide) hsh (Nat.zero_lt_succ 1)]
 simp only[Result.andThen];rw[Oper.upon_value]
 go_wp2
 rw[run_callFunc_extern Tryz.func298 κ κ κ (e:=Extern.AbiNoEscape.same) κ]
 rw[Lib.run_noEscape];simp only[Result.andThen];rw[Oper.upon_value]
 go_wp2
 rw[Lib.run_from_unsafe w ⟨b,0,B⟩ Tryz.underlying387 Tryz.underlying337 hj hsh κ]
 simp only[Result.andThen];rw[Oper.upon_value]
 go_wp2
 go_end0
 exact⟨rfl,rfl⟩
theorem Amr(b:Nat)(w:World)(a0 v:Value)(ha:a0=.pointer B∨a0=.pointer (A ⟨b,0,B⟩))(hb:w.heap[b]?=A (.cells #[a0,v] 339 (0,0))) :
  Calls Tryz.prog 275 #[.pointer (A ⟨b,0,B⟩)] w λe w1=>e=.returned (.tuple #[])∧CcOut w w1 b 339 v:=by
 have h0:w.cell? ⟨b,0,B⟩=A a0:=by rw[e1_ w b 0 _ 339 (0,0) hb];rfl
 rcases ha with rfl | rfl
 ·refine(Ajo b w h0 (by simp[World.shape?,hb]) (by simp[World.frozen?,hb])).mono ?_
  rintro e w1 ⟨rfl,rfl⟩;exact⟨rfl,by rw[Go.Ab.setCell_heap hb];rfl,λk hk=>Go.Ab.setCell_other hk,Go.Ab.setCell_size,rfl,rfl,rfl⟩
 ·refine(Amq b w h0).mono ?_
  rintro e w1 ⟨rfl,rfl⟩;exact⟨rfl,hb,λ_ _=>rfl,rfl,rfl,rfl,rfl⟩
theorem An7(b:Nat)(w:World)(a0 v:Value)(ha:a0=.pointer B∨a0=.pointer (A ⟨b,0,B⟩))(hb:w.heap[b]?=A (.cells #[a0,v] 339 (0,0)))(n:Nat)(xs:List Value)(hown:w.ownsRow 0 5 1 v n xs)(hne:v.ownBlock≠A b)(s:ByteArray)(h63:n+s.size≤2147483648) :
  Calls Tryz.prog 246 #[.pointer (A ⟨b,0,B⟩),.string s] w λe w'=>e=.returned (.tuple #[.int .i64 s.size,.nilIface])∧∃v',BldOut w w' b 339 5 (.pointer (A ⟨b,0,B⟩)) v v' (n+s.size) (xs++Lib.strCells s):=by
 have hbw:b<w.heap.size:=(L_.1 hb).1;have hcc:=Amr b w a0 v ha hb
 have key:∀w1,CcOut w w1 b 339 v→∃v' w2,(∀ty,(Builtin.append_ #[23,9] ty #[v,.string s]).run Tryz.prog w1=.ok v' w2)∧RowOut w1 w2 5 1 v v' (n+s.size) (xs++Lib.strCells s):=λw1 hc=>
  Bi6 w1 Tryz.underlying23 Tryz.underlying9 (i:=Tryz.t5) κ κ κ κ (XD hown λg hg=>hc.rest g (λe=>hne (by rw[← e];exact hg))) s h63
 clear hb ha hown
 go_enter Tryz.func246,Tryz.ntmps246
 go_wp2_with (go_at_call 275;refine hcc.mono ?_)
 rintro e w1 ⟨rfl,hc⟩;obtain⟨v',w2,hr,ho⟩:=key w1 hc;have hout:=Av3 hbw hc hne ho;have hb1:b<w1.heap.size:=by rw[hc.size];exact hbw
 have h2:w2.heap[b]?=A (.cells #[.pointer (A ⟨b,0,B⟩),v] 339 (0,0)):=by rw[ho.grow.block b hb1 (λe=>hne e.symm)];exact hc.cel
 have c1:w1.cell? ⟨b,1,B⟩=A v:=by rw[e1_ w1 b 1 _ 339 (0,0) hc.cel];rfl
 have d1:w2.cell? ⟨b,1,B⟩=A v:=by rw[e1_ w2 b 1 _ 339 (0,0) h2];rfl
 have f1:w2.frozen? ⟨b,1,B⟩=false:=by simp[World.frozen?,h2]
 obtain⟨ao,n',cap,hv'⟩:∃ao n' cap,v'=.slice ao n' cap:=by
  rcases ho.row.2 with⟨hv,_⟩ | ⟨g,cap,cur,hv,_⟩
  ·exact⟨_,_,_,hv⟩
  ·exact⟨_,_,_,hv⟩
 subst hv';have hO:Hid (∃v',BldOut w (w2.setCell ⟨b,1,B⟩ (.slice ao n' cap)) b 339 5 (.pointer (A ⟨b,0,B⟩)) v v' (n+s.size) (xs++Lib.strCells s)):=⟨_,hout⟩
 clear hout ho h2 hc key hcc hb1 hbw hne
 go_wp2_with (at_builtin;refine Lib.wpList_append_run _ rfl _ _ _ _ rfl _ _ rfl rfl _ _ (hr _) ?_)
 go_ret2
 exact⟨rfl,hO.out⟩
theorem An2(b:Nat)(w:World)(a0:Value)(g cap:Nat)(cur:Array Value)(l:List UInt8)(h0:l≠[])(hb:w.heap[b]?=A (.cells #[a0,.slice (A ⟨g,0,B⟩) l.length cap] 339 (0,0)))(hg:w.heap[g]?=A (.cells cur 5 (0,0)))(hn:l.length≤cur.size)(hcap:l.length≤cap)(h63:l.length≤9223372036854775807)
  (hcell:∀(j:Nat) (x:UInt8),l[j]?=A x→cur[j]?=A (Value.int .u8 x.toNat)) :
  Calls Tryz.prog 248 #[.pointer (A ⟨b,0,B⟩)] w λe w'=>e=.returned (.string ⟨l.toArray⟩)∧w'=w.drew.freeze ⟨g,0,B⟩ l.length:=by
 have hl0:l.length≠0:=by simpa using h0
 have c1:w.drew.cell? ⟨b,1,B⟩=A (.slice (A ⟨g,0,B⟩) l.length cap):=by
  rw[e1_ w.drew b 1 _ 339 (0,0) hb];rfl
 have hSD:(Builtin.unsafeSliceData_ #[23] 370 #[.slice (A ⟨g,0,B⟩) l.length cap]).run Tryz.prog w.drew=.ok (.pointer (A ⟨g,0,B⟩)) w.drew:=
  Lib.run_unsafeSliceData_row _ _ _ _ _ _ ω
 have hUS:(Builtin.unsafeString_ #[370,3] 9 #[.pointer (A ⟨g,0,B⟩),.int .i64 l.length]).run Tryz.prog w.drew=.ok (.string ⟨l.toArray⟩) (w.drew.freeze ⟨g,0,B⟩ l.length):=by
  refine Lib.run_unsafeString_row w.drew 370 3 9 5 Tryz.underlying370 κ g cur.size (by have hg':w.drew.heap[g]?=A (.cells cur 5 (0,0)):=hg;simp[World.shape?,hg']) l h0 hn h63 ?_
  intro j x hx;rw[GX,q_,e1_ w.drew g j cur 5 (0,0) hg];exact hcell j x hx
 have mixed:Tryz.prog.follows .mixedOrders=true:=κ
 clear hcell hb hg
 go_enter Tryz.func248,Tryz.ntmps248
 go_wp2
 go_region_o
 all_goals(go_wp2;go_ret;exact⟨rfl,rfl⟩)
theorem Zz:Ayo Tryz.prog 215 3 1:=Aom Tryz.underlying29 (te:=Tryz.t3) κ (z:=1) rfl (by decide) ⟨_,Tryz.zeroValue3,rfl,κ⟩ Tryz.func215 Tryz.ntmps215 κ
theorem ZQ:Apu Tryz.prog 216 3 1:=Aen (o:=256) Tryz.underlying29 (t:=3) Tryz.underlying3 (te:=Tryz.t3) κ rfl (B_ κ) (by decide) ⟨_,rfl,rfl⟩ (bt:=4) Tryz.func256 κ κ κ κ Tryz.sizeOf3 Tryz.func216 Tryz.ntmps216 κ
theorem ZP:Apu Tryz.prog 179 148 3:=Aen (o:=227) Tryz.underlying111 (t:=3) Tryz.underlying3 (te:=Tryz.t148) κ rfl (B_ κ) (by decide) ⟨_,rfl,rfl⟩ (bt:=4) Tryz.func227 κ κ κ κ Tryz.sizeOf148 Tryz.func179 Tryz.ntmps179 κ
end Go.Ovl
