import Derived.Test.YtnaickmgbfjbkaaGreatDoorChecked
import Derived.Test.YtnaickmgbfjbkaaGreatDoorAbH
set_option linter.all false
open Option renaming some->A,none->B
namespace Go.Ovl
open Go Go.Ab Go.Proofs Go.RowKit Go.Lib
set_option maxHeartbeats 4000000
set_option maxRecDepth 100000
theorem Am9:Tf Tryz.prog 119 3 1 Tryz.t3:=Xt Tryz.underlying30 (te:=Tryz.t3) κ (z:=1) rfl τ rfl rfl Tryz.func119 Tryz.ntmps119 κ
theorem Ap7:Tg Tryz.prog 119:=Xs Tryz.underlying30 Tryz.func119 Tryz.ntmps119
theorem Ana:Tf Tryz.prog 120 4 1 Tryz.t4:=Xt Tryz.underlying31 (te:=Tryz.t4) κ (z:=1) rfl τ rfl rfl Tryz.func120 Tryz.ntmps120 κ
theorem Ap8:Tg Tryz.prog 120:=Xs Tryz.underlying31 Tryz.func120 Tryz.ntmps120
theorem Anb:Tf Tryz.prog 121 185 5 Tryz.t185:=Xt Tryz.underlying32 (te:=Tryz.t185) κ (z:=5) rfl τ rfl rfl Tryz.func121 Tryz.ntmps121 κ
theorem Ap9:Tg Tryz.prog 121:=Xs Tryz.underlying32 Tryz.func121 Tryz.ntmps121
theorem Am5:Tf Tryz.prog 114 110 41 Tryz.t110:=Xt Tryz.underlying38 (te:=Tryz.t110) κ (z:=41) rfl τ rfl rfl Tryz.func114 Tryz.ntmps114 κ
theorem Ap3:Tg Tryz.prog 114:=Xs Tryz.underlying38 Tryz.func114 Tryz.ntmps114
theorem Am7:Tf Tryz.prog 116 126 14 Tryz.t126:=Xt Tryz.underlying40 (te:=Tryz.t126) κ (z:=14) rfl τ rfl rfl Tryz.func116 Tryz.ntmps116 κ
theorem Ap5:Tg Tryz.prog 116:=Xs Tryz.underlying40 Tryz.func116 Tryz.ntmps116
theorem Am8:Tf Tryz.prog 117 131 1 Tryz.t131:=Xt Tryz.underlying41 (te:=Tryz.t131) κ (z:=1) rfl τ rfl rfl Tryz.func117 Tryz.ntmps117 κ
theorem Ap6:Tg Tryz.prog 117:=Xs Tryz.underlying41 Tryz.func117 Tryz.ntmps117
theorem Anc:Tf Tryz.prog 122 55 2 Tryz.t55:=Xt Tryz.underlying42 (te:=Tryz.t55) κ (z:=2) rfl τ rfl rfl Tryz.func122 Tryz.ntmps122 κ
theorem Aqa:Tg Tryz.prog 122:=Xs Tryz.underlying42 Tryz.func122 Tryz.ntmps122
theorem Am6:Tf Tryz.prog 115 115 6 Tryz.t115:=Xt Tryz.underlying39 (te:=Tryz.t115) κ (z:=6) rfl τ rfl rfl Tryz.func115 Tryz.ntmps115 κ
theorem Ap4:Tg Tryz.prog 115:=Xs Tryz.underlying39 Tryz.func115 Tryz.ntmps115
theorem Ane:Tf Tryz.prog 123 143 3 Tryz.t143:=Xt Tryz.underlying113 (te:=Tryz.t143) κ (z:=3) rfl τ rfl rfl Tryz.func123 Tryz.ntmps123 κ
theorem Aqb:Tg Tryz.prog 123:=Xs Tryz.underlying113 Tryz.func123 Tryz.ntmps123
theorem Aeh:Asx Tryz.prog 395 185 5:=Aio (o:=421) Tryz.underlying32 (t:=3) Tryz.underlying3 (te:=Tryz.t185) κ rfl (F_ κ) τ ⟨_,rfl,rfl⟩ (bt:=4) Tryz.func421 κ κ κ κ Tryz.sizeOf185 Tryz.func395 Tryz.ntmps395 κ
theorem Ad9:Bah Tryz.prog 396 185 5:=Arq Tryz.underlying32 (te:=Tryz.t185) κ (z:=5) rfl τ ⟨_,Tryz.zeroValue185,rfl,κ⟩ Tryz.func396 Tryz.ntmps396 κ
theorem Ap1(b:Nat)(w:World)(h0:w.cell? ⟨b,0,B⟩=A (.pointer (A ⟨b,0,B⟩))) :
  Calls Tryz.prog 400 #[.pointer (A ⟨b,0,B⟩)] w λe w'=>e=.returned (.tuple #[])/\w'=w:=by
 go_enter Tryz.func400,Tryz.ntmps400
 go_wp2
 rw[Lib.run_neq_ptr_same w _ Tryz.underlying400 (show Tryz.prog.info? 402=A Tryz.t402 by kernel_rfl)]
 go_wp2
 go_end0
 exact⟨rfl,rfl⟩
theorem Am3(b:Nat)(w:World)(h0:w.cell? ⟨b,0,B⟩=A (.pointer B))(hsh:w.shape? b=A (402,2))(hfz:w.frozen? ⟨b,0,B⟩=false) :
  Calls Tryz.prog 400 #[.pointer (A ⟨b,0,B⟩)] w λe w'=>e=.returned (.tuple #[])/\w'=w.setCell ⟨b,0,B⟩ (.pointer (A ⟨b,0,B⟩)):=by
 have hj:Tryz.prog.info? 402=A Tryz.t402:=κ
 go_enter Tryz.func400,Tryz.ntmps400
 go_wp2
 rw[Lib.run_to_unsafe w ⟨b,0,B⟩ Tryz.underlying400 Tryz.underlying432 hj τ hsh (Nat.zero_lt_succ 1)];simp only[Result.andThen];rw[Oper.upon_value]
 go_wp2
 rw[run_callFunc_extern Tryz.func423 κ κ κ (e:=Extern.AbiNoEscape.same) κ];rw[Lib.run_noEscape];simp only[Result.andThen];rw[Oper.upon_value]
 go_wp2
 rw[Lib.run_from_unsafe w ⟨b,0,B⟩ Tryz.underlying432 Tryz.underlying400 hj hsh κ];simp only[Result.andThen];rw[Oper.upon_value]
 go_wp2
 go_end0
 exact⟨rfl,rfl⟩
theorem Ap2(b:Nat)(w:World)(a0 v:Value)(ha:a0=.pointer B\/a0=.pointer (A ⟨b,0,B⟩))(hb:w.heap[b]?=A (.cells #[a0,v] 402 (0,0))) :
  Calls Tryz.prog 400 #[.pointer (A ⟨b,0,B⟩)] w λe w1=>e=.returned (.tuple #[])/\CcOut w w1 b 402 v:=by
 have h0:w.cell? ⟨b,0,B⟩=A a0:=by rw[d5_ w b 0 _ 402 (0,0) hb];rfl
 rcases ha with rfl|rfl
 .refine(Am3 b w h0 (by simp[World.shape?,hb]) (by simp[World.frozen?,hb])).mono ?_;rintro e w1 ⟨rfl,rfl⟩;exact⟨rfl,by rw[Go.Ab.setCell_heap hb];rfl,λk hk=>Go.Ab.setCell_other hk,Go.Ab.setCell_size,rfl,rfl,rfl⟩
 .refine(Ap1 b w h0).mono ?_;rintro e w1 ⟨rfl,rfl⟩;exact⟨rfl,hb,λ_ _=>rfl,rfl,rfl,rfl,rfl⟩
theorem Arh(b:Nat)(w:World)(a0 v:Value)(ha:a0=.pointer B\/a0=.pointer (A ⟨b,0,B⟩))(hb:w.heap[b]?=A (.cells #[a0,v] 402 (0,0)))(n:Nat)(xs:List Value)(hown:w.ownsRow 0 5 1 v n xs)(hne:v.ownBlock≠A b)(s:ByteArray)(h63:n+s.size<=2147483648) :
  Calls Tryz.prog 371 #[.pointer (A ⟨b,0,B⟩),.string s] w λe w'=>e=.returned (.tuple #[.int .i64 s.size,.nilIface])/\∃v',BldOut w w' b 402 5 (.pointer (A ⟨b,0,B⟩)) v v' (n+s.size) (xs++Lib.strCells s):=by
 have hbw:b<w.heap.size:=(x_.1 hb).1;have hcc:=Ap2 b w a0 v ha hb;have key:∀w1,CcOut w w1 b 402 v->∃v' w2,(∀ty,(Builtin.append_ #[23,9] ty #[v,.string s]).run Tryz.prog w1=.ok v' w2)/\RowOut w1 w2 5 1 v v' (n+s.size) (xs++Lib.strCells s):=λw1 hc=>Bjn w1 Tryz.underlying23 Tryz.underlying9 (i:=Tryz.t5) κ κ κ κ (Aao hown λg hg=>hc.rest g (λe=>hne (by rw[<-e];exact hg))) s h63;clear hb ha hown
 go_enter Tryz.func371,Tryz.ntmps371
 go_wp2_with (go_at_call 400;refine hcc.mono ?_)
 rintro e w1 ⟨rfl,hc⟩;obtain⟨v',w2,hr,ho⟩:=key w1 hc;have hout:=Ax4 hbw hc hne ho;have hb1:b<w1.heap.size:=by rw[hc.size];exact hbw
 have h2:w2.heap[b]?=A (.cells #[.pointer (A ⟨b,0,B⟩),v] 402 (0,0)):=by rw[ho.grow.block b hb1 (λe=>hne e.symm)];exact hc.cel
 have c1:w1.cell? ⟨b,1,B⟩=A v:=by rw[d5_ w1 b 1 _ 402 (0,0) hc.cel];rfl
 have d1:w2.cell? ⟨b,1,B⟩=A v:=by rw[d5_ w2 b 1 _ 402 (0,0) h2];rfl
 have f1:w2.frozen? ⟨b,1,B⟩=false:=by simp[World.frozen?,h2]
 obtain⟨ao,n',cap,hv'⟩:∃ao n' cap,v'=.slice ao n' cap:=by
  rcases ho.row.2 with⟨hv,_⟩|⟨g,cap,cur,hv,_⟩
  .exact⟨_,_,_,hv⟩
  .exact⟨_,_,_,hv⟩
 subst hv';have hO:Hid (∃v',BldOut w (w2.setCell ⟨b,1,B⟩ (.slice ao n' cap)) b 402 5 (.pointer (A ⟨b,0,B⟩)) v v' (n+s.size) (xs++Lib.strCells s)):=⟨_,hout⟩
 clear hout ho h2 hc key hcc hb1 hbw hne
 go_wp2_with (at_builtin;refine Lib.wpList_append_run _ rfl _ _ _ _ rfl _ _ rfl rfl _ _ (hr _) ?_)
 go_ret2
 exact⟨rfl,hO.out⟩
theorem Ard(b:Nat)(w:World)(a0:Value)(g cap:Nat)(cur:Array Value)(l:List UInt8)(h0:l≠[])(hb:w.heap[b]?=A (.cells #[a0,.slice (A ⟨g,0,B⟩) l.length cap] 402 (0,0)))(hg:w.heap[g]?=A (.cells cur 5 (0,0)))(hn:l.length<=cur.size)(hcap:l.length<=cap)(h63:l.length<=9223372036854775807)
  (hcell:∀(j:Nat) (x:UInt8),l[j]?=A x->cur[j]?=A (Value.int .u8 x.toNat)) :
  Calls Tryz.prog 373 #[.pointer (A ⟨b,0,B⟩)] w λe w'=>e=.returned (.string ⟨l.toArray⟩)/\w'=w.drew.freeze ⟨g,0,B⟩ l.length:=by
 have hl0:l.length≠0:=by simpa using h0
 have c1:w.drew.cell? ⟨b,1,B⟩=A (.slice (A ⟨g,0,B⟩) l.length cap):=by rw[d5_ w.drew b 1 _ 402 (0,0) hb];rfl
 have hSD:(Builtin.unsafeSliceData_ #[23] 423 #[.slice (A ⟨g,0,B⟩) l.length cap]).run Tryz.prog w.drew=.ok (.pointer (A ⟨g,0,B⟩)) w.drew:=Lib.run_unsafeSliceData_row _ _ _ _ _ _ ω;have hUS:(Builtin.unsafeString_ #[423,3] 9 #[.pointer (A ⟨g,0,B⟩),.int .i64 l.length]).run Tryz.prog w.drew=.ok (.string ⟨l.toArray⟩) (w.drew.freeze ⟨g,0,B⟩ l.length):=by refine Lib.run_unsafeString_row w.drew 423 3 9 5 Tryz.underlying423 κ g cur.size (by have hg':w.drew.heap[g]?=A (.cells cur 5 (0,0)):=hg;simp[World.shape?,hg']) l h0 hn h63 ?_;intro j x hx;rw[FK,k_,d5_ w.drew g j cur 5 (0,0) hg];exact hcell j x hx
 have mixed:Tryz.prog.follows .mixedOrders=true:=κ;clear hcell hb hg
 go_enter Tryz.func373,Tryz.ntmps373
 go_wp2
 go_region_o
 all_goals(go_wp2;go_ret;exact⟨rfl,rfl⟩)
theorem Ad8:Bah Tryz.prog 340 3 1:=Arq Tryz.underlying30 (te:=Tryz.t3) κ (z:=1) rfl τ ⟨_,Tryz.zeroValue3,rfl,κ⟩ Tryz.func340 Tryz.ntmps340 κ
theorem Aeg:Asx Tryz.prog 341 3 1:=Aio (o:=381) Tryz.underlying30 (t:=3) Tryz.underlying3 (te:=Tryz.t3) κ rfl (F_ κ) τ ⟨_,rfl,rfl⟩ (bt:=4) Tryz.func381 κ κ κ κ Tryz.sizeOf3 Tryz.func341 Tryz.ntmps341 κ
theorem Aef:Asx Tryz.prog 293 143 3:=Aio (o:=348) Tryz.underlying113 (t:=3) Tryz.underlying3 (te:=Tryz.t143) κ rfl (F_ κ) τ ⟨_,rfl,rfl⟩ (bt:=4) Tryz.func348 κ κ κ κ Tryz.sizeOf143 Tryz.func293 Tryz.ntmps293 κ
end Go.Ovl
