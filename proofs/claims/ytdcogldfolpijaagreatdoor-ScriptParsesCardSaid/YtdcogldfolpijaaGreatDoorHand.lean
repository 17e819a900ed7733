import Derived.Test.YtdcogldfolpijaaGreatDoorChecked
import Derived.Test.YtdcogldfolpijaaGreatDoorAbH
set_option linter.all false
open Option renaming some->A,none->B
namespace Go.Ovl
open Go Go.Ab Go.Proofs Go.RowKit Go.Lib
set_option maxHeartbeats 4000000
set_option maxRecDepth 100000
theorem Aff(b:Nat)(w:World)(h0:w.cell? ⟨b,0,B⟩=A (.pointer (A ⟨b,0,B⟩))) :
  Calls Tryz.prog 69 #[.pointer (A ⟨b,0,B⟩)] w λe w'=>e=.returned (.tuple #[])∧w'=w:=by
 go_enter Tryz.func69,Tryz.ntmps69
 go_wp2
 rw[Lib.run_neq_ptr_same w _ Tryz.underlying110 (show Tryz.prog.info? 112=A Tryz.t112 by kernel_rfl)]
 go_wp2
 go_end0
 exact⟨rfl,rfl⟩
theorem Acn(b:Nat)(w:World)(h0:w.cell? ⟨b,0,B⟩=A (.pointer B))(hsh:w.shape? b=A (112,2))(hfz:w.frozen? ⟨b,0,B⟩=false) :
  Calls Tryz.prog 69 #[.pointer (A ⟨b,0,B⟩)] w λe w'=>e=.returned (.tuple #[])∧w'=w.setCell ⟨b,0,B⟩ (.pointer (A ⟨b,0,B⟩)):=by
 have hj:Tryz.prog.info? 112=A Tryz.t112:=κ
 go_enter Tryz.func69,Tryz.ntmps69
 go_wp2
 rw[Lib.run_to_unsafe w ⟨b,0,B⟩ Tryz.underlying110 Tryz.underlying171 hj (by decide) hsh (Nat.zero_lt_succ 1)];simp only[Result.andThen];rw[Oper.upon_value]
 go_wp2
 rw[run_callFunc_extern Tryz.func92 κ κ κ (e:=Extern.AbiNoEscape.same) κ];rw[Lib.run_noEscape];simp only[Result.andThen];rw[Oper.upon_value]
 go_wp2
 rw[Lib.run_from_unsafe w ⟨b,0,B⟩ Tryz.underlying171 Tryz.underlying110 hj hsh κ];simp only[Result.andThen];rw[Oper.upon_value]
 go_wp2
 go_end0
 exact⟨rfl,rfl⟩
theorem Afg(b:Nat)(w:World)(a0 v:Value)(ha:a0=.pointer B∨a0=.pointer (A ⟨b,0,B⟩))(hb:w.heap[b]?=A (.cells #[a0,v] 112 (0,0))) :
  Calls Tryz.prog 69 #[.pointer (A ⟨b,0,B⟩)] w λe w1=>e=.returned (.tuple #[])∧CcOut w w1 b 112 v:=by
 have h0:w.cell? ⟨b,0,B⟩=A a0:=by rw[b2_ w b 0 _ 112 (0,0) hb];rfl
 rcases ha with rfl | rfl
 ·refine(Acn b w h0 (by simp[World.shape?,hb]) (by simp[World.frozen?,hb])).mono ?_;rintro e w1 ⟨rfl,rfl⟩;exact⟨rfl,by rw[Go.Ab.setCell_heap hb];rfl,λk hk=>Go.Ab.setCell_other hk,Go.Ab.setCell_size,rfl,rfl,rfl⟩
 ·refine(Aff b w h0).mono ?_;rintro e w1 ⟨rfl,rfl⟩;exact⟨rfl,hb,λ_ _=>rfl,rfl,rfl,rfl,rfl⟩
theorem Ahu(b:Nat)(w:World)(a0 v:Value)(ha:a0=.pointer B∨a0=.pointer (A ⟨b,0,B⟩))(hb:w.heap[b]?=A (.cells #[a0,v] 112 (0,0)))(n:Nat)(xs:List Value)(hown:w.ownsRow 0 5 1 v n xs)(hne:v.ownBlock≠A b)(s:ByteArray)(h63:n+s.size≤2147483648) :
  Calls Tryz.prog 50 #[.pointer (A ⟨b,0,B⟩),.string s] w λe w'=>e=.returned (.tuple #[.int .i64 s.size,.nilIface])∧∃v',BldOut w w' b 112 5 (.pointer (A ⟨b,0,B⟩)) v v' (n+s.size) (xs++Lib.strCells s):=by
 have hbw:b<w.heap.size:=(t_.1 hb).1;have hcc:=Afg b w a0 v ha hb;have key:∀w1,CcOut w w1 b 112 v→∃v' w2,(∀ty,(Builtin.append_ #[23,9] ty #[v,.string s]).run Tryz.prog w1=.ok v' w2)∧RowOut w1 w2 5 1 v v' (n+s.size) (xs++Lib.strCells s):=λw1 hc=>Axi w1 Tryz.underlying23 Tryz.underlying9 (i:=Tryz.t5) κ κ κ κ (TN hown λg hg=>hc.rest g (λe=>hne (by rw[← e];exact hg))) s h63;clear hb ha hown
 go_enter Tryz.func50,Tryz.ntmps50
 go_wp2_with (go_at_call 69;refine hcc.mono ?_)
 rintro e w1 ⟨rfl,hc⟩;obtain⟨v',w2,hr,ho⟩:=key w1 hc;have hout:=Ali hbw hc hne ho;have hb1:b<w1.heap.size:=by rw[hc.size];exact hbw
 have h2:w2.heap[b]?=A (.cells #[.pointer (A ⟨b,0,B⟩),v] 112 (0,0)):=by rw[ho.grow.block b hb1 (λe=>hne e.symm)];exact hc.cel
 have c1:w1.cell? ⟨b,1,B⟩=A v:=by rw[b2_ w1 b 1 _ 112 (0,0) hc.cel];rfl
 have d1:w2.cell? ⟨b,1,B⟩=A v:=by rw[b2_ w2 b 1 _ 112 (0,0) h2];rfl
 have f1:w2.frozen? ⟨b,1,B⟩=false:=by simp[World.frozen?,h2]
 obtain⟨ao,n',cap,hv'⟩:∃ao n' cap,v'=.slice ao n' cap:=by
  rcases ho.row.2 with⟨hv,_⟩ | ⟨g,cap,cur,hv,_⟩
  ·exact⟨_,_,_,hv⟩
  ·exact⟨_,_,_,hv⟩
 subst hv';have hO:Hid (∃v',BldOut w (w2.setCell ⟨b,1,B⟩ (.slice ao n' cap)) b 112 5 (.pointer (A ⟨b,0,B⟩)) v v' (n+s.size) (xs++Lib.strCells s)):=⟨_,hout⟩
 clear hout ho h2 hc key hcc hb1 hbw hne
 go_wp2_with (at_builtin;refine Lib.wpList_append_run _ rfl _ _ _ _ rfl _ _ rfl rfl _ _ (hr _) ?_)
 go_ret2
 exact⟨rfl,hO.out⟩
theorem Ahp(b:Nat)(w:World)(a0:Value)(g cap:Nat)(cur:Array Value)(l:List UInt8)(h0:l≠[])(hb:w.heap[b]?=A (.cells #[a0,.slice (A ⟨g,0,B⟩) l.length cap] 112 (0,0)))(hg:w.heap[g]?=A (.cells cur 5 (0,0)))(hn:l.length≤cur.size)(hcap:l.length≤cap)(h63:l.length≤9223372036854775807)
  (hcell:∀(j:Nat) (x:UInt8),l[j]?=A x→cur[j]?=A (Value.int .u8 x.toNat)) :
  Calls Tryz.prog 52 #[.pointer (A ⟨b,0,B⟩)] w λe w'=>e=.returned (.string ⟨l.toArray⟩)∧w'=w.drew.freeze ⟨g,0,B⟩ l.length:=by
 have hl0:l.length≠0:=by simpa using h0
 have c1:w.drew.cell? ⟨b,1,B⟩=A (.slice (A ⟨g,0,B⟩) l.length cap):=by rw[b2_ w.drew b 1 _ 112 (0,0) hb];rfl
 have hSD:(Builtin.unsafeSliceData_ #[23] 142 #[.slice (A ⟨g,0,B⟩) l.length cap]).run Tryz.prog w.drew=.ok (.pointer (A ⟨g,0,B⟩)) w.drew:=Lib.run_unsafeSliceData_row _ _ _ _ _ _ ω;have hUS:(Builtin.unsafeString_ #[142,3] 9 #[.pointer (A ⟨g,0,B⟩),.int .i64 l.length]).run Tryz.prog w.drew=.ok (.string ⟨l.toArray⟩) (w.drew.freeze ⟨g,0,B⟩ l.length):=by refine Lib.run_unsafeString_row w.drew 142 3 9 5 Tryz.underlying142 κ g cur.size (by have hg':w.drew.heap[g]?=A (.cells cur 5 (0,0)):=hg;simp[World.shape?,hg']) l h0 hn h63 ?_;intro j x hx;rw[Es,p_,b2_ w.drew g j cur 5 (0,0) hg];exact hcell j x hx
 have mixed:Tryz.prog.follows .mixedOrders=true:=κ;clear hcell hb hg
 go_enter Tryz.func52,Tryz.ntmps52
 go_wp2
 go_region_o
 all_goals(go_wp2;go_ret;exact⟨rfl,rfl⟩)
theorem VI:Ad6 Tryz.prog 235 52 5:=Yf (o:=280) Tryz.underlying45 (t:=3) Tryz.underlying3 (te:=Tryz.t52) κ rfl (r_ κ) (by decide) ⟨_,rfl,rfl⟩ (bt:=4) Tryz.func280 κ κ κ κ Tryz.sizeOf52 Tryz.func235 Tryz.ntmps235 κ
theorem VC:Am5 Tryz.prog 236 52 5:=Adf Tryz.underlying45 (te:=Tryz.t52) κ (z:=5) rfl (by decide) ⟨_,Tryz.zeroValue52,rfl,κ⟩ Tryz.func236 Tryz.ntmps236 κ
theorem Aan:LB Tryz.prog 186 3 1 Tryz.t3:=OH Tryz.underlying63 (te:=Tryz.t3) κ (z:=1) rfl (by decide) rfl rfl Tryz.func186 Tryz.ntmps186 κ
theorem Acu:LC Tryz.prog 186:=OG Tryz.underlying63 Tryz.func186 Tryz.ntmps186
theorem Aao:LB Tryz.prog 187 4 1 Tryz.t4:=OH Tryz.underlying64 (te:=Tryz.t4) κ (z:=1) rfl (by decide) rfl rfl Tryz.func187 Tryz.ntmps187 κ
theorem Acv:LC Tryz.prog 187:=OG Tryz.underlying64 Tryz.func187 Tryz.ntmps187
theorem Aap:LB Tryz.prog 188 52 5 Tryz.t52:=OH Tryz.underlying45 (te:=Tryz.t52) κ (z:=5) rfl (by decide) rfl rfl Tryz.func188 Tryz.ntmps188 κ
theorem Acw:LC Tryz.prog 188:=OG Tryz.underlying45 Tryz.func188 Tryz.ntmps188
theorem Acz:LB Tryz.prog 99 148 9 Tryz.t148:=OH Tryz.underlying77 (te:=Tryz.t148) κ (z:=9) rfl (by decide) rfl rfl Tryz.func99 Tryz.ntmps99 κ
theorem Afi:LC Tryz.prog 99:=OG Tryz.underlying77 Tryz.func99 Tryz.ntmps99
theorem Aai:LB Tryz.prog 100 151 6 Tryz.t151:=OH Tryz.underlying78 (te:=Tryz.t151) κ (z:=6) rfl (by decide) rfl rfl Tryz.func100 Tryz.ntmps100 κ
theorem Aco:LC Tryz.prog 100:=OG Tryz.underlying78 Tryz.func100 Tryz.ntmps100
theorem Aaj:LB Tryz.prog 181 284 41 Tryz.t284:=OH Tryz.underlying70 (te:=Tryz.t284) κ (z:=41) rfl (by decide) rfl rfl Tryz.func181 Tryz.ntmps181 κ
theorem Acp:LC Tryz.prog 181:=OG Tryz.underlying70 Tryz.func181 Tryz.ntmps181
theorem Aal:LB Tryz.prog 183 297 14 Tryz.t297:=OH Tryz.underlying72 (te:=Tryz.t297) κ (z:=14) rfl (by decide) rfl rfl Tryz.func183 Tryz.ntmps183 κ
theorem Acr:LC Tryz.prog 183:=OG Tryz.underlying72 Tryz.func183 Tryz.ntmps183
theorem Aam:LB Tryz.prog 184 302 1 Tryz.t302:=OH Tryz.underlying73 (te:=Tryz.t302) κ (z:=1) rfl (by decide) rfl rfl Tryz.func184 Tryz.ntmps184 κ
theorem Acs:LC Tryz.prog 184:=OG Tryz.underlying73 Tryz.func184 Tryz.ntmps184
theorem Aaq:LB Tryz.prog 189 50 2 Tryz.t50:=OH Tryz.underlying74 (te:=Tryz.t50) κ (z:=2) rfl (by decide) rfl rfl Tryz.func189 Tryz.ntmps189 κ
theorem Acx:LC Tryz.prog 189:=OG Tryz.underlying74 Tryz.func189 Tryz.ntmps189
theorem Aak:LB Tryz.prog 182 272 6 Tryz.t272:=OH Tryz.underlying71 (te:=Tryz.t272) κ (z:=6) rfl (by decide) rfl rfl Tryz.func182 Tryz.ntmps182 κ
theorem Acq:LC Tryz.prog 182:=OG Tryz.underlying71 Tryz.func182 Tryz.ntmps182
theorem Aar:LB Tryz.prog 190 318 3 Tryz.t318:=OH Tryz.underlying270 (te:=Tryz.t318) κ (z:=3) rfl (by decide) rfl rfl Tryz.func190 Tryz.ntmps190 κ
theorem Acy:LC Tryz.prog 190:=OG Tryz.underlying270 Tryz.func190 Tryz.ntmps190
theorem VD:Am5 Tryz.prog 343 3 1:=Adf Tryz.underlying63 (te:=Tryz.t3) κ (z:=1) rfl (by decide) ⟨_,Tryz.zeroValue3,rfl,κ⟩ Tryz.func343 Tryz.ntmps343 κ
theorem VK:Ad6 Tryz.prog 344 3 1:=Yf (o:=376) Tryz.underlying63 (t:=3) Tryz.underlying3 (te:=Tryz.t3) κ rfl (r_ κ) (by decide) ⟨_,rfl,rfl⟩ (bt:=4) Tryz.func376 κ κ κ κ Tryz.sizeOf3 Tryz.func344 Tryz.ntmps344 κ
theorem VJ:Ad6 Tryz.prog 310 318 3:=Yf (o:=353) Tryz.underlying270 (t:=3) Tryz.underlying3 (te:=Tryz.t318) κ rfl (r_ κ) (by decide) ⟨_,rfl,rfl⟩ (bt:=4) Tryz.func353 κ κ κ κ Tryz.sizeOf318 Tryz.func310 Tryz.ntmps310 κ
end Go.Ovl
