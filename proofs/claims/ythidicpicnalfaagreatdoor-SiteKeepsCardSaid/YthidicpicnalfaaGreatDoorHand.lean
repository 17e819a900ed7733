import Derived.Test.YthidicpicnalfaaGreatDoorChecked
import Derived.Test.YthidicpicnalfaaGreatDoorAbH
set_option linter.all false
open Option renaming some->A,none->B
namespace Go.Ovl
open Go Go.Ab Go.Proofs Go.RowKit Go.Lib
set_option maxHeartbeats 4000000
set_option maxRecDepth 100000
theorem Acq:Asl Tryz.prog 183 198 5:=Ahe (o:=233) Tryz.underlying31 (t:=3) Tryz.underlying3 (te:=Tryz.t198) κ rfl (E_ κ) τ ⟨_,rfl,rfl⟩ (bt:=4) Tryz.func233 κ κ κ κ Tryz.sizeOf198 Tryz.func183 Tryz.ntmps183 κ
theorem Ace:Azr Tryz.prog 184 198 5:=Are Tryz.underlying31 (te:=Tryz.t198) κ (z:=5) rfl τ ⟨_,Tryz.zeroValue198,rfl,κ⟩ Tryz.func184 Tryz.ntmps184 κ
theorem Apw(b:Nat)(w:World)(h0:w.cell? ⟨b,0,B⟩=A (.pointer (A ⟨b,0,B⟩))) :
  Calls Tryz.prog 190 #[.pointer (A ⟨b,0,B⟩)] w λe w'=>e=.returned (.tuple #[])/\w'=w:=by
 go_enter Tryz.func190,Tryz.ntmps190
 go_wp2
 rw[Lib.run_neq_ptr_same w _ Tryz.underlying246 (show Tryz.prog.info? 248=A Tryz.t248 by kernel_rfl)]
 go_wp2
 go_end0
 exact⟨rfl,rfl⟩
theorem Amk(b:Nat)(w:World)(h0:w.cell? ⟨b,0,B⟩=A (.pointer B))(hsh:w.shape? b=A (248,2))(hfz:w.frozen? ⟨b,0,B⟩=false) :
  Calls Tryz.prog 190 #[.pointer (A ⟨b,0,B⟩)] w λe w'=>e=.returned (.tuple #[])/\w'=w.setCell ⟨b,0,B⟩ (.pointer (A ⟨b,0,B⟩)):=by
 have hj:Tryz.prog.info? 248=A Tryz.t248:=κ
 go_enter Tryz.func190,Tryz.ntmps190
 go_wp2
 rw[Lib.run_to_unsafe w ⟨b,0,B⟩ Tryz.underlying246 Tryz.underlying364 hj τ hsh (Nat.zero_lt_succ 1)];simp only[Result.andThen];rw[Oper.upon_value]
 go_wp2
 rw[run_callFunc_extern Tryz.func236 κ κ κ (e:=Extern.AbiNoEscape.same) κ];rw[Lib.run_noEscape];simp only[Result.andThen];rw[Oper.upon_value]
 go_wp2
 rw[Lib.run_from_unsafe w ⟨b,0,B⟩ Tryz.underlying364 Tryz.underlying246 hj hsh κ];simp only[Result.andThen];rw[Oper.upon_value]
 go_wp2
 go_end0
 exact⟨rfl,rfl⟩
theorem Apx(b:Nat)(w:World)(a0 v:Value)(ha:a0=.pointer B\/a0=.pointer (A ⟨b,0,B⟩))(hb:w.heap[b]?=A (.cells #[a0,v] 248 (0,0))) :
  Calls Tryz.prog 190 #[.pointer (A ⟨b,0,B⟩)] w λe w1=>e=.returned (.tuple #[])/\CcOut w w1 b 248 v:=by
 have h0:w.cell? ⟨b,0,B⟩=A a0:=by rw[e3_ w b 0 _ 248 (0,0) hb];rfl
 rcases ha with rfl|rfl
 .refine(Amk b w h0 (by simp[World.shape?,hb]) (by simp[World.frozen?,hb])).mono ?_;rintro e w1 ⟨rfl,rfl⟩;exact⟨rfl,by rw[Go.Ab.setCell_heap hb];rfl,λk hk=>Go.Ab.setCell_other hk,Go.Ab.setCell_size,rfl,rfl,rfl⟩
 .refine(Apw b w h0).mono ?_;rintro e w1 ⟨rfl,rfl⟩;exact⟨rfl,hb,λ_ _=>rfl,rfl,rfl,rfl,rfl⟩
theorem Aq0(b:Nat)(w:World)(a0 v:Value)(ha:a0=.pointer B\/a0=.pointer (A ⟨b,0,B⟩))(hb:w.heap[b]?=A (.cells #[a0,v] 248 (0,0)))(n:Nat)(xs:List Value)(hown:w.ownsRow 0 5 1 v n xs)(hne:v.ownBlock≠A b)(s:ByteArray)(h63:n+s.size<=2147483648) :
  Calls Tryz.prog 142 #[.pointer (A ⟨b,0,B⟩),.string s] w λe w'=>e=.returned (.tuple #[.int .i64 s.size,.nilIface])/\∃v',BldOut w w' b 248 5 (.pointer (A ⟨b,0,B⟩)) v v' (n+s.size) (xs++Lib.strCells s):=by
 have hbw:b<w.heap.size:=(J_.1 hb).1;have hcc:=Apx b w a0 v ha hb;have key:∀w1,CcOut w w1 b 248 v->∃v' w2,(∀ty,(Builtin.append_ #[23,9] ty #[v,.string s]).run Tryz.prog w1=.ok v' w2)/\RowOut w1 w2 5 1 v v' (n+s.size) (xs++Lib.strCells s):=λw1 hc=>Biu w1 Tryz.underlying23 Tryz.underlying9 (i:=Tryz.t5) κ κ κ κ (Zt hown λg hg=>hc.rest g (λe=>hne (by rw[<-e];exact hg))) s h63;clear hb ha hown
 go_enter Tryz.func142,Tryz.ntmps142
 go_wp2_with (go_at_call 190;refine hcc.mono ?_)
 rintro e w1 ⟨rfl,hc⟩;obtain⟨v',w2,hr,ho⟩:=key w1 hc;have hout:=Aws hbw hc hne ho;have hb1:b<w1.heap.size:=by rw[hc.size];exact hbw
 have h2:w2.heap[b]?=A (.cells #[.pointer (A ⟨b,0,B⟩),v] 248 (0,0)):=by rw[ho.grow.block b hb1 (λe=>hne e.symm)];exact hc.cel
 have c1:w1.cell? ⟨b,1,B⟩=A v:=by rw[e3_ w1 b 1 _ 248 (0,0) hc.cel];rfl
 have d1:w2.cell? ⟨b,1,B⟩=A v:=by rw[e3_ w2 b 1 _ 248 (0,0) h2];rfl
 have f1:w2.frozen? ⟨b,1,B⟩=false:=by simp[World.frozen?,h2]
 obtain⟨ao,n',cap,hv'⟩:∃ao n' cap,v'=.slice ao n' cap:=by
  rcases ho.row.2 with⟨hv,_⟩|⟨g,cap,cur,hv,_⟩
  .exact⟨_,_,_,hv⟩
  .exact⟨_,_,_,hv⟩
 subst hv';have hO:Hid (∃v',BldOut w (w2.setCell ⟨b,1,B⟩ (.slice ao n' cap)) b 248 5 (.pointer (A ⟨b,0,B⟩)) v v' (n+s.size) (xs++Lib.strCells s)):=⟨_,hout⟩
 clear hout ho h2 hc key hcc hb1 hbw hne
 go_wp2_with (at_builtin;refine Lib.wpList_append_run _ rfl _ _ _ _ rfl _ _ rfl rfl _ _ (hr _) ?_)
 go_ret2
 exact⟨rfl,hO.out⟩
theorem Aqw(b:Nat)(w:World)(a0:Value)(g cap:Nat)(cur:Array Value)(l:List UInt8)(h0:l≠[])(hb:w.heap[b]?=A (.cells #[a0,.slice (A ⟨g,0,B⟩) l.length cap] 248 (0,0)))(hg:w.heap[g]?=A (.cells cur 5 (0,0)))(hn:l.length<=cur.size)(hcap:l.length<=cap)(h63:l.length<=9223372036854775807)
  (hcell:∀(j:Nat) (x:UInt8),l[j]?=A x->cur[j]?=A (Value.int .u8 x.toNat)) :
  Calls Tryz.prog 145 #[.pointer (A ⟨b,0,B⟩)] w λe w'=>e=.returned (.string ⟨l.toArray⟩)/\w'=w.drew.freeze ⟨g,0,B⟩ l.length:=by
 have hl0:l.length≠0:=by simpa using h0
 have c1:w.drew.cell? ⟨b,1,B⟩=A (.slice (A ⟨g,0,B⟩) l.length cap):=by rw[e3_ w.drew b 1 _ 248 (0,0) hb];rfl
 have hSD:(Builtin.unsafeSliceData_ #[23] 311 #[.slice (A ⟨g,0,B⟩) l.length cap]).run Tryz.prog w.drew=.ok (.pointer (A ⟨g,0,B⟩)) w.drew:=Lib.run_unsafeSliceData_row _ _ _ _ _ _ ω;have hUS:(Builtin.unsafeString_ #[311,3] 9 #[.pointer (A ⟨g,0,B⟩),.int .i64 l.length]).run Tryz.prog w.drew=.ok (.string ⟨l.toArray⟩) (w.drew.freeze ⟨g,0,B⟩ l.length):=by refine Lib.run_unsafeString_row w.drew 311 3 9 5 Tryz.underlying311 κ g cur.size (by have hg':w.drew.heap[g]?=A (.cells cur 5 (0,0)):=hg;simp[World.shape?,hg']) l h0 hn h63 ?_;intro j x hx;rw[Hz,n_,e3_ w.drew g j cur 5 (0,0) hg];exact hcell j x hx
 have mixed:Tryz.prog.follows .mixedOrders=true:=κ;clear hcell hb hg
 go_enter Tryz.func145,Tryz.ntmps145
 go_wp2
 go_region_o
 all_goals(go_wp2;go_ret;exact⟨rfl,rfl⟩)
theorem Ap5:PB Tryz.prog 96 3 1 Tryz.t3:=Tr Tryz.underlying29 (te:=Tryz.t3) κ (z:=1) rfl τ rfl rfl Tryz.func96 Tryz.ntmps96 κ
theorem Ato:PC Tryz.prog 96:=Tq Tryz.underlying29 Tryz.func96 Tryz.ntmps96
theorem Ap6:PB Tryz.prog 97 4 1 Tryz.t4:=Tr Tryz.underlying30 (te:=Tryz.t4) κ (z:=1) rfl τ rfl rfl Tryz.func97 Tryz.ntmps97 κ
theorem Atp:PC Tryz.prog 97:=Tq Tryz.underlying30 Tryz.func97 Tryz.ntmps97
theorem Ap7:PB Tryz.prog 98 198 5 Tryz.t198:=Tr Tryz.underlying31 (te:=Tryz.t198) κ (z:=5) rfl τ rfl rfl Tryz.func98 Tryz.ntmps98 κ
theorem Atq:PC Tryz.prog 98:=Tq Tryz.underlying31 Tryz.func98 Tryz.ntmps98
theorem Apz:PB Tryz.prog 19 79 9 Tryz.t79:=Tr Tryz.underlying44 (te:=Tryz.t79) κ (z:=9) rfl τ rfl rfl Tryz.func19 Tryz.ntmps19 κ
theorem Ati:PC Tryz.prog 19:=Tq Tryz.underlying44 Tryz.func19 Tryz.ntmps19
theorem Ap0:PB Tryz.prog 20 82 6 Tryz.t82:=Tr Tryz.underlying45 (te:=Tryz.t82) κ (z:=6) rfl τ rfl rfl Tryz.func20 Tryz.ntmps20 κ
theorem Atj:PC Tryz.prog 20:=Tq Tryz.underlying45 Tryz.func20 Tryz.ntmps20
theorem Ap1:PB Tryz.prog 91 163 41 Tryz.t163:=Tr Tryz.underlying37 (te:=Tryz.t163) κ (z:=41) rfl τ rfl rfl Tryz.func91 Tryz.ntmps91 κ
theorem Atk:PC Tryz.prog 91:=Tq Tryz.underlying37 Tryz.func91 Tryz.ntmps91
theorem Ap3:PB Tryz.prog 93 179 14 Tryz.t179:=Tr Tryz.underlying39 (te:=Tryz.t179) κ (z:=14) rfl τ rfl rfl Tryz.func93 Tryz.ntmps93 κ
theorem Atm:PC Tryz.prog 93:=Tq Tryz.underlying39 Tryz.func93 Tryz.ntmps93
theorem Ap4:PB Tryz.prog 94 184 1 Tryz.t184:=Tr Tryz.underlying40 (te:=Tryz.t184) κ (z:=1) rfl τ rfl rfl Tryz.func94 Tryz.ntmps94 κ
theorem Atn:PC Tryz.prog 94:=Tq Tryz.underlying40 Tryz.func94 Tryz.ntmps94
theorem Ap8:PB Tryz.prog 99 54 2 Tryz.t54:=Tr Tryz.underlying41 (te:=Tryz.t54) κ (z:=2) rfl τ rfl rfl Tryz.func99 Tryz.ntmps99 κ
theorem Atr:PC Tryz.prog 99:=Tq Tryz.underlying41 Tryz.func99 Tryz.ntmps99
theorem Ap2:PB Tryz.prog 92 168 6 Tryz.t168:=Tr Tryz.underlying38 (te:=Tryz.t168) κ (z:=6) rfl τ rfl rfl Tryz.func92 Tryz.ntmps92 κ
theorem Atl:PC Tryz.prog 92:=Tq Tryz.underlying38 Tryz.func92 Tryz.ntmps92
theorem Amo:PB Tryz.prog 100 202 3 Tryz.t202:=Tr Tryz.underlying166 (te:=Tryz.t202) κ (z:=3) rfl τ rfl rfl Tryz.func100 Tryz.ntmps100 κ
theorem Apy:PC Tryz.prog 100:=Tq Tryz.underlying166 Tryz.func100 Tryz.ntmps100
theorem Acf:Azr Tryz.prog 260 3 1:=Are Tryz.underlying29 (te:=Tryz.t3) κ (z:=1) rfl τ ⟨_,Tryz.zeroValue3,rfl,κ⟩ Tryz.func260 Tryz.ntmps260 κ
theorem Acs:Asl Tryz.prog 261 3 1:=Ahe (o:=296) Tryz.underlying29 (t:=3) Tryz.underlying3 (te:=Tryz.t3) κ rfl (E_ κ) τ ⟨_,rfl,rfl⟩ (bt:=4) Tryz.func296 κ κ κ κ Tryz.sizeOf3 Tryz.func261 Tryz.ntmps261 κ
theorem Acr:Asl Tryz.prog 223 202 3:=Ahe (o:=272) Tryz.underlying166 (t:=3) Tryz.underlying3 (te:=Tryz.t202) κ rfl (E_ κ) τ ⟨_,rfl,rfl⟩ (bt:=4) Tryz.func272 κ κ κ κ Tryz.sizeOf202 Tryz.func223 Tryz.ntmps223 κ
end Go.Ovl
