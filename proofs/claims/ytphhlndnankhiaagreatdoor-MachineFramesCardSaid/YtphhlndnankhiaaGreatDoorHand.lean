import Derived.Test.YtphhlndnankhiaaGreatDoorChecked
import Derived.Test.YtphhlndnankhiaaGreatDoorAbH
set_option linter.all false
open Option renaming some->A,none->B
namespace Go.Ovl
open Go Go.Ab Go.Proofs Go.RowKit Go.Lib
set_option maxHeartbeats 4000000
set_option maxRecDepth 100000
theorem Aov:Tf Tryz.prog 48 3 1 Tryz.t3:=Wv Tryz.underlying29 (te:=Tryz.t3) κ (z:=1) rfl τ rfl rfl Tryz.func48 Tryz.ntmps48 κ
theorem Asy:Tg Tryz.prog 48:=Wu Tryz.underlying29 Tryz.func48 Tryz.ntmps48
theorem Aow:Tf Tryz.prog 49 4 1 Tryz.t4:=Wv Tryz.underlying30 (te:=Tryz.t4) κ (z:=1) rfl τ rfl rfl Tryz.func49 Tryz.ntmps49 κ
theorem Asz:Tg Tryz.prog 49:=Wu Tryz.underlying30 Tryz.func49 Tryz.ntmps49
theorem Aox:Tf Tryz.prog 50 137 5 Tryz.t137:=Wv Tryz.underlying31 (te:=Tryz.t137) κ (z:=5) rfl τ rfl rfl Tryz.func50 Tryz.ntmps50 κ
theorem As0:Tg Tryz.prog 50:=Wu Tryz.underlying31 Tryz.func50 Tryz.ntmps50
theorem Aoy:Tf Tryz.prog 51 110 41 Tryz.t110:=Wv Tryz.underlying37 (te:=Tryz.t110) κ (z:=41) rfl τ rfl rfl Tryz.func51 Tryz.ntmps51 κ
theorem As1:Tg Tryz.prog 51:=Wu Tryz.underlying37 Tryz.func51 Tryz.ntmps51
theorem Aoz:Tf Tryz.prog 52 126 14 Tryz.t126:=Wv Tryz.underlying39 (te:=Tryz.t126) κ (z:=14) rfl τ rfl rfl Tryz.func52 Tryz.ntmps52 κ
theorem As2:Tg Tryz.prog 52:=Wu Tryz.underlying39 Tryz.func52 Tryz.ntmps52
theorem Ao0:Tf Tryz.prog 53 131 1 Tryz.t131:=Wv Tryz.underlying40 (te:=Tryz.t131) κ (z:=1) rfl τ rfl rfl Tryz.func53 Tryz.ntmps53 κ
theorem As3:Tg Tryz.prog 53:=Wu Tryz.underlying40 Tryz.func53 Tryz.ntmps53
theorem Ao1:Tf Tryz.prog 54 56 2 Tryz.t56:=Wv Tryz.underlying41 (te:=Tryz.t56) κ (z:=2) rfl τ rfl rfl Tryz.func54 Tryz.ntmps54 κ
theorem As4:Tg Tryz.prog 54:=Wu Tryz.underlying41 Tryz.func54 Tryz.ntmps54
theorem Ao2:Tf Tryz.prog 55 115 6 Tryz.t115:=Wv Tryz.underlying38 (te:=Tryz.t115) κ (z:=6) rfl τ rfl rfl Tryz.func55 Tryz.ntmps55 κ
theorem As5:Tg Tryz.prog 55:=Wu Tryz.underlying38 Tryz.func55 Tryz.ntmps55
theorem Ao3:Tf Tryz.prog 56 145 3 Tryz.t145:=Wv Tryz.underlying113 (te:=Tryz.t145) κ (z:=3) rfl τ rfl rfl Tryz.func56 Tryz.ntmps56 κ
theorem As6:Tg Tryz.prog 56:=Wu Tryz.underlying113 Tryz.func56 Tryz.ntmps56
theorem Abs:Art Tryz.prog 276 137 5:=Agm (o:=302) Tryz.underlying31 (t:=3) Tryz.underlying3 (te:=Tryz.t137) κ rfl (F_ κ) τ ⟨_,rfl,rfl⟩ (bt:=4) Tryz.func302 κ κ κ κ Tryz.sizeOf137 Tryz.func276 Tryz.ntmps276 κ
theorem Abd:Bba Tryz.prog 277 137 5:=Aqm Tryz.underlying31 (te:=Tryz.t137) κ (z:=5) rfl τ ⟨_,Tryz.zeroValue137,rfl,κ⟩ Tryz.func277 Tryz.ntmps277 κ
theorem Aot(b:Nat)(w:World)(h0:w.cell? ⟨b,0,B⟩=A (.pointer (A ⟨b,0,B⟩))) :
  Calls Tryz.prog 281 #[.pointer (A ⟨b,0,B⟩)] w λe w'=>e=.returned (.tuple #[])∧w'=w:=by
 go_enter Tryz.func281,Tryz.ntmps281
 go_wp2
 rw[Lib.run_neq_ptr_same w _ Tryz.underlying346 (show Tryz.prog.info? 348=A Tryz.t348 by kernel_rfl)]
 go_wp2
 go_end0
 exact⟨rfl,rfl⟩
theorem Alo(b:Nat)(w:World)(h0:w.cell? ⟨b,0,B⟩=A (.pointer B))(hsh:w.shape? b=A (348,2))(hfz:w.frozen? ⟨b,0,B⟩=false) :
  Calls Tryz.prog 281 #[.pointer (A ⟨b,0,B⟩)] w λe w'=>e=.returned (.tuple #[])∧w'=w.setCell ⟨b,0,B⟩ (.pointer (A ⟨b,0,B⟩)):=by
 have hj:Tryz.prog.info? 348=A Tryz.t348:=κ
 go_enter Tryz.func281,Tryz.ntmps281
 go_wp2
 rw[Lib.run_to_unsafe w ⟨b,0,B⟩ Tryz.underlying346 Tryz.underlying397 hj τ hsh (Nat.zero_lt_succ 1)];simp only[Result.andThen];rw[Oper.upon_value]
 go_wp2
 rw[run_callFunc_extern Tryz.func304 κ κ κ (e:=Extern.AbiNoEscape.same) κ];rw[Lib.run_noEscape];simp only[Result.andThen];rw[Oper.upon_value]
 go_wp2
 rw[Lib.run_from_unsafe w ⟨b,0,B⟩ Tryz.underlying397 Tryz.underlying346 hj hsh κ];simp only[Result.andThen];rw[Oper.upon_value]
 go_wp2
 go_end0
 exact⟨rfl,rfl⟩
theorem Aou(b:Nat)(w:World)(a0 v:Value)(ha:a0=.pointer B∨a0=.pointer (A ⟨b,0,B⟩))(hb:w.heap[b]?=A (.cells #[a0,v] 348 (0,0))) :
  Calls Tryz.prog 281 #[.pointer (A ⟨b,0,B⟩)] w λe w1=>e=.returned (.tuple #[])∧CcOut w w1 b 348 v:=by
 have h0:w.cell? ⟨b,0,B⟩=A a0:=by rw[f2_ w b 0 _ 348 (0,0) hb];rfl
 rcases ha with rfl | rfl
 ·refine(Alo b w h0 (by simp[World.shape?,hb]) (by simp[World.frozen?,hb])).mono ?_;rintro e w1 ⟨rfl,rfl⟩;exact⟨rfl,by rw[Go.Ab.setCell_heap hb];rfl,λk hk=>Go.Ab.setCell_other hk,Go.Ab.setCell_size,rfl,rfl,rfl⟩
 ·refine(Aot b w h0).mono ?_;rintro e w1 ⟨rfl,rfl⟩;exact⟨rfl,hb,λ_ _=>rfl,rfl,rfl,rfl,rfl⟩
theorem Ap5(b:Nat)(w:World)(a0 v:Value)(ha:a0=.pointer B∨a0=.pointer (A ⟨b,0,B⟩))(hb:w.heap[b]?=A (.cells #[a0,v] 348 (0,0)))(n:Nat)(xs:List Value)(hown:w.ownsRow 0 5 1 v n xs)(hne:v.ownBlock≠A b)(s:ByteArray)(h63:n+s.size≤2147483648) :
  Calls Tryz.prog 252 #[.pointer (A ⟨b,0,B⟩),.string s] w λe w'=>e=.returned (.tuple #[.int .i64 s.size,.nilIface])∧∃v',BldOut w w' b 348 5 (.pointer (A ⟨b,0,B⟩)) v v' (n+s.size) (xs++Lib.strCells s):=by
 have hbw:b<w.heap.size:=(N_.1 hb).1;have hcc:=Aou b w a0 v ha hb;have key:∀w1,CcOut w w1 b 348 v→∃v' w2,(∀ty,(Builtin.append_ #[23,9] ty #[v,.string s]).run Tryz.prog w1=.ok v' w2)∧RowOut w1 w2 5 1 v v' (n+s.size) (xs++Lib.strCells s):=λw1 hc=>Blo w1 Tryz.underlying23 Tryz.underlying9 (i:=Tryz.t5) κ κ κ κ (YQ hown λg hg=>hc.rest g (λe=>hne (by rw[← e];exact hg))) s h63;clear hb ha hown
 go_enter Tryz.func252,Tryz.ntmps252
 go_wp2_with (go_at_call 281;refine hcc.mono ?_)
 rintro e w1 ⟨rfl,hc⟩;obtain⟨v',w2,hr,ho⟩:=key w1 hc;have hout:=Ayr hbw hc hne ho;have hb1:b<w1.heap.size:=by rw[hc.size];exact hbw
 have h2:w2.heap[b]?=A (.cells #[.pointer (A ⟨b,0,B⟩),v] 348 (0,0)):=by rw[ho.grow.block b hb1 (λe=>hne e.symm)];exact hc.cel
 have c1:w1.cell? ⟨b,1,B⟩=A v:=by rw[f2_ w1 b 1 _ 348 (0,0) hc.cel];rfl
 have d1:w2.cell? ⟨b,1,B⟩=A v:=by rw[f2_ w2 b 1 _ 348 (0,0) h2];rfl
 have f1:w2.frozen? ⟨b,1,B⟩=false:=by simp[World.frozen?,h2]
 obtain⟨ao,n',cap,hv'⟩:∃ao n' cap,v'=.slice ao n' cap:=by
  rcases ho.row.2 with⟨hv,_⟩ | ⟨g,cap,cur,hv,_⟩
  ·exact⟨_,_,_,hv⟩
  ·exact⟨_,_,_,hv⟩
 subst hv';have hO:Hid (∃v',BldOut w (w2.setCell ⟨b,1,B⟩ (.slice ao n' cap)) b 348 5 (.pointer (A ⟨b,0,B⟩)) v v' (n+s.size) (xs++Lib.strCells s)):=⟨_,hout⟩
 clear hout ho h2 hc key hcc hb1 hbw hne
 go_wp2_with (at_builtin;refine Lib.wpList_append_run _ rfl _ _ _ _ rfl _ _ rfl rfl _ _ (hr _) ?_)
 go_ret2
 exact⟨rfl,hO.out⟩
theorem Ap1(b:Nat)(w:World)(a0:Value)(g cap:Nat)(cur:Array Value)(l:List UInt8)(h0:l≠[])(hb:w.heap[b]?=A (.cells #[a0,.slice (A ⟨g,0,B⟩) l.length cap] 348 (0,0)))(hg:w.heap[g]?=A (.cells cur 5 (0,0)))(hn:l.length≤cur.size)(hcap:l.length≤cap)(h63:l.length≤9223372036854775807)
  (hcell:∀(j:Nat) (x:UInt8),l[j]?=A x→cur[j]?=A (Value.int .u8 x.toNat)) :
  Calls Tryz.prog 254 #[.pointer (A ⟨b,0,B⟩)] w λe w'=>e=.returned (.string ⟨l.toArray⟩)∧w'=w.drew.freeze ⟨g,0,B⟩ l.length:=by
 have hl0:l.length≠0:=by simpa using h0
 have c1:w.drew.cell? ⟨b,1,B⟩=A (.slice (A ⟨g,0,B⟩) l.length cap):=by rw[f2_ w.drew b 1 _ 348 (0,0) hb];rfl
 have hSD:(Builtin.unsafeSliceData_ #[23] 379 #[.slice (A ⟨g,0,B⟩) l.length cap]).run Tryz.prog w.drew=.ok (.pointer (A ⟨g,0,B⟩)) w.drew:=Lib.run_unsafeSliceData_row _ _ _ _ _ _ ω;have hUS:(Builtin.unsafeString_ #[379,3] 9 #[.pointer (A ⟨g,0,B⟩),.int .i64 l.length]).run Tryz.prog w.drew=.ok (.string ⟨l.toArray⟩) (w.drew.freeze ⟨g,0,B⟩ l.length):=by refine Lib.run_unsafeString_row w.drew 379 3 9 5 Tryz.underlying379 κ g cur.size (by have hg':w.drew.heap[g]?=A (.cells cur 5 (0,0)):=hg;simp[World.shape?,hg']) l h0 hn h63 ?_;intro j x hx;rw[Hr,n_,f2_ w.drew g j cur 5 (0,0) hg];exact hcell j x hx
 have mixed:Tryz.prog.follows .mixedOrders=true:=κ;clear hcell hb hg
 go_enter Tryz.func254,Tryz.ntmps254
 go_wp2
 go_region_o
 all_goals(go_wp2;go_ret;exact⟨rfl,rfl⟩)
theorem Abc:Bba Tryz.prog 221 3 1:=Aqm Tryz.underlying29 (te:=Tryz.t3) κ (z:=1) rfl τ ⟨_,Tryz.zeroValue3,rfl,κ⟩ Tryz.func221 Tryz.ntmps221 κ
theorem Abr:Art Tryz.prog 222 3 1:=Agm (o:=262) Tryz.underlying29 (t:=3) Tryz.underlying3 (te:=Tryz.t3) κ rfl (F_ κ) τ ⟨_,rfl,rfl⟩ (bt:=4) Tryz.func262 κ κ κ κ Tryz.sizeOf3 Tryz.func222 Tryz.ntmps222 κ
theorem Abq:Art Tryz.prog 185 145 3:=Agm (o:=233) Tryz.underlying113 (t:=3) Tryz.underlying3 (te:=Tryz.t145) κ rfl (F_ κ) τ ⟨_,rfl,rfl⟩ (bt:=4) Tryz.func233 κ κ κ κ Tryz.sizeOf145 Tryz.func185 Tryz.ntmps185 κ
end Go.Ovl
