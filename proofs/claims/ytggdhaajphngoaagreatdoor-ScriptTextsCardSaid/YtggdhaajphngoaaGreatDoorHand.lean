import Derived.Test.YtggdhaajphngoaaGreatDoorChecked
import Derived.Test.YtggdhaajphngoaaGreatDoorAbH
set_option linter.all false
open Option renaming some->A,none->B
namespace Go.Ovl
open Go Go.Ab Go.Proofs Go.RowKit Go.Lib
set_option maxHeartbeats 4000000
set_option maxRecDepth 100000
theorem Ae1(b:Nat)(w:World)(h0:w.cell? ⟨b,0,B⟩=A (.pointer (A ⟨b,0,B⟩))) :
  Calls Tryz.prog 38 #[.pointer (A ⟨b,0,B⟩)] w λe w'=>e=.returned (.tuple #[])∧w'=w:=by
 go_enter Tryz.func38,Tryz.ntmps38
 go_wp2
 rw[Lib.run_neq_ptr_same w _ Tryz.underlying76 (show Tryz.prog.info? 78=A Tryz.t78 by kernel_rfl)]
 go_wp2
 go_end0
 exact⟨rfl,rfl⟩
theorem Ack(b:Nat)(w:World)(h0:w.cell? ⟨b,0,B⟩=A (.pointer B))(hsh:w.shape? b=A (78,2))(hfz:w.frozen? ⟨b,0,B⟩=false) :
  Calls Tryz.prog 38 #[.pointer (A ⟨b,0,B⟩)] w λe w'=>e=.returned (.tuple #[])∧w'=w.setCell ⟨b,0,B⟩ (.pointer (A ⟨b,0,B⟩)):=by
 have hj:Tryz.prog.info? 78=A Tryz.t78:=κ
 go_enter Tryz.func38,Tryz.ntmps38
 go_wp2
 rw[Lib.run_to_unsafe w ⟨b,0,B⟩ Tryz.underlying76 Tryz.underlying158 hj (by decide) hsh (Nat.zero_lt_succ 1)];simp only[Result.andThen];rw[Oper.upon_value]
 go_wp2
 rw[run_callFunc_extern Tryz.func74 κ κ κ (e:=Extern.AbiNoEscape.same) κ];rw[Lib.run_noEscape];simp only[Result.andThen];rw[Oper.upon_value]
 go_wp2
 rw[Lib.run_from_unsafe w ⟨b,0,B⟩ Tryz.underlying158 Tryz.underlying76 hj hsh κ];simp only[Result.andThen];rw[Oper.upon_value]
 go_wp2
 go_end0
 exact⟨rfl,rfl⟩
theorem Ae2(b:Nat)(w:World)(a0 v:Value)(ha:a0=.pointer B∨a0=.pointer (A ⟨b,0,B⟩))(hb:w.heap[b]?=A (.cells #[a0,v] 78 (0,0))) :
  Calls Tryz.prog 38 #[.pointer (A ⟨b,0,B⟩)] w λe w1=>e=.returned (.tuple #[])∧CcOut w w1 b 78 v:=by
 have h0:w.cell? ⟨b,0,B⟩=A a0:=by rw[b0_ w b 0 _ 78 (0,0) hb];rfl
 rcases ha with rfl | rfl
 ·refine(Ack b w h0 (by simp[World.shape?,hb]) (by simp[World.frozen?,hb])).mono ?_;rintro e w1 ⟨rfl,rfl⟩;exact⟨rfl,by rw[Go.Ab.setCell_heap hb];rfl,λk hk=>Go.Ab.setCell_other hk,Go.Ab.setCell_size,rfl,rfl,rfl⟩
 ·refine(Ae1 b w h0).mono ?_;rintro e w1 ⟨rfl,rfl⟩;exact⟨rfl,hb,λ_ _=>rfl,rfl,rfl,rfl,rfl⟩
theorem Ahj(b:Nat)(w:World)(a0 v:Value)(ha:a0=.pointer B∨a0=.pointer (A ⟨b,0,B⟩))(hb:w.heap[b]?=A (.cells #[a0,v] 78 (0,0)))(n:Nat)(xs:List Value)(hown:w.ownsRow 0 5 1 v n xs)(hne:v.ownBlock≠A b)(s:ByteArray)(h63:n+s.size≤2147483648) :
  Calls Tryz.prog 19 #[.pointer (A ⟨b,0,B⟩),.string s] w λe w'=>e=.returned (.tuple #[.int .i64 s.size,.nilIface])∧∃v',BldOut w w' b 78 5 (.pointer (A ⟨b,0,B⟩)) v v' (n+s.size) (xs++Lib.strCells s):=by
 have hbw:b<w.heap.size:=(r_.1 hb).1;have hcc:=Ae2 b w a0 v ha hb;have key:∀w1,CcOut w w1 b 78 v→∃v' w2,(∀ty,(Builtin.append_ #[23,9] ty #[v,.string s]).run Tryz.prog w1=.ok v' w2)∧RowOut w1 w2 5 1 v v' (n+s.size) (xs++Lib.strCells s):=λw1 hc=>Awv w1 Tryz.underlying23 Tryz.underlying9 (i:=Tryz.t5) κ κ κ κ (Tr hown λg hg=>hc.rest g (λe=>hne (by rw[← e];exact hg))) s h63;clear hb ha hown
 go_enter Tryz.func19,Tryz.ntmps19
 go_wp2_with (go_at_call 38;refine hcc.mono ?_)
 rintro e w1 ⟨rfl,hc⟩;obtain⟨v',w2,hr,ho⟩:=key w1 hc;have hout:=Ala hbw hc hne ho;have hb1:b<w1.heap.size:=by rw[hc.size];exact hbw
 have h2:w2.heap[b]?=A (.cells #[.pointer (A ⟨b,0,B⟩),v] 78 (0,0)):=by rw[ho.grow.block b hb1 (λe=>hne e.symm)];exact hc.cel
 have c1:w1.cell? ⟨b,1,B⟩=A v:=by rw[b0_ w1 b 1 _ 78 (0,0) hc.cel];rfl
 have d1:w2.cell? ⟨b,1,B⟩=A v:=by rw[b0_ w2 b 1 _ 78 (0,0) h2];rfl
 have f1:w2.frozen? ⟨b,1,B⟩=false:=by simp[World.frozen?,h2]
 obtain⟨ao,n',cap,hv'⟩:∃ao n' cap,v'=.slice ao n' cap:=by
  rcases ho.row.2 with⟨hv,_⟩ | ⟨g,cap,cur,hv,_⟩
  ·exact⟨_,_,_,hv⟩
  ·exact⟨_,_,_,hv⟩
 subst hv';have hO:Hid (∃v',BldOut w (w2.setCell ⟨b,1,B⟩ (.slice ao n' cap)) b 78 5 (.pointer (A ⟨b,0,B⟩)) v v' (n+s.size) (xs++Lib.strCells s)):=⟨_,hout⟩
 clear hout ho h2 hc key hcc hb1 hbw hne
 go_wp2_with (at_builtin;refine Lib.wpList_append_run _ rfl _ _ _ _ rfl _ _ rfl rfl _ _ (hr _) ?_)
 go_ret2
 exact⟨rfl,hO.out⟩
theorem Ahc(b:Nat)(w:World)(a0:Value)(g cap:Nat)(cur:Array Value)(l:List UInt8)(h0:l≠[])(hb:w.heap[b]?=A (.cells #[a0,.slice (A ⟨g,0,B⟩) l.length cap] 78 (0,0)))(hg:w.heap[g]?=A (.cells cur 5 (0,0)))(hn:l.length≤cur.size)(hcap:l.length≤cap)(h63:l.length≤9223372036854775807)
  (hcell:∀(j:Nat) (x:UInt8),l[j]?=A x→cur[j]?=A (Value.int .u8 x.toNat)) :
  Calls Tryz.prog 21 #[.pointer (A ⟨b,0,B⟩)] w λe w'=>e=.returned (.string ⟨l.toArray⟩)∧w'=w.drew.freeze ⟨g,0,B⟩ l.length:=by
 have hl0:l.length≠0:=by simpa using h0
 have c1:w.drew.cell? ⟨b,1,B⟩=A (.slice (A ⟨g,0,B⟩) l.length cap):=by rw[b0_ w.drew b 1 _ 78 (0,0) hb];rfl
 have hSD:(Builtin.unsafeSliceData_ #[23] 122 #[.slice (A ⟨g,0,B⟩) l.length cap]).run Tryz.prog w.drew=.ok (.pointer (A ⟨g,0,B⟩)) w.drew:=Lib.run_unsafeSliceData_row _ _ _ _ _ _ ω;have hUS:(Builtin.unsafeString_ #[122,3] 9 #[.pointer (A ⟨g,0,B⟩),.int .i64 l.length]).run Tryz.prog w.drew=.ok (.string ⟨l.toArray⟩) (w.drew.freeze ⟨g,0,B⟩ l.length):=by refine Lib.run_unsafeString_row w.drew 122 3 9 5 Tryz.underlying122 κ g cur.size (by have hg':w.drew.heap[g]?=A (.cells cur 5 (0,0)):=hg;simp[World.shape?,hg']) l h0 hn h63 ?_;intro j x hx;rw[Eu,l_,b0_ w.drew g j cur 5 (0,0) hg];exact hcell j x hx
 have mixed:Tryz.prog.follows .mixedOrders=true:=κ;clear hcell hb hg
 go_enter Tryz.func21,Tryz.ntmps21
 go_wp2
 go_region_o
 all_goals(go_wp2;go_ret;exact⟨rfl,rfl⟩)
theorem Vp:Ad0 Tryz.prog 231 75 5:=XK (o:=276) Tryz.underlying44 (t:=3) Tryz.underlying3 (te:=Tryz.t75) κ rfl (q_ κ) (by decide) ⟨_,rfl,rfl⟩ (bt:=4) Tryz.func276 κ κ κ κ Tryz.sizeOf75 Tryz.func231 Tryz.ntmps231 κ
theorem Vj:Amx Tryz.prog 232 75 5:=Add Tryz.underlying44 (te:=Tryz.t75) κ (z:=5) rfl (by decide) ⟨_,Tryz.zeroValue75,rfl,κ⟩ Tryz.func232 Tryz.ntmps232 κ
theorem ZX:Ln Tryz.prog 180 3 1 Tryz.t3:=Ot Tryz.underlying42 (te:=Tryz.t3) κ (z:=1) rfl (by decide) rfl rfl Tryz.func180 Tryz.ntmps180 κ
theorem Acp:Lo Tryz.prog 180:=Oq Tryz.underlying42 Tryz.func180 Tryz.ntmps180
theorem ZY:Ln Tryz.prog 181 4 1 Tryz.t4:=Ot Tryz.underlying43 (te:=Tryz.t4) κ (z:=1) rfl (by decide) rfl rfl Tryz.func181 Tryz.ntmps181 κ
theorem Acq:Lo Tryz.prog 181:=Oq Tryz.underlying43 Tryz.func181 Tryz.ntmps181
theorem ZZ:Ln Tryz.prog 182 75 5 Tryz.t75:=Ot Tryz.underlying44 (te:=Tryz.t75) κ (z:=5) rfl (by decide) rfl rfl Tryz.func182 Tryz.ntmps182 κ
theorem Acr:Lo Tryz.prog 182:=Oq Tryz.underlying44 Tryz.func182 Tryz.ntmps182
theorem Acv:Ln Tryz.prog 90 143 9 Tryz.t143:=Ot Tryz.underlying57 (te:=Tryz.t143) κ (z:=9) rfl (by decide) rfl rfl Tryz.func90 Tryz.ntmps90 κ
theorem Ae4:Lo Tryz.prog 90:=Oq Tryz.underlying57 Tryz.func90 Tryz.ntmps90
theorem Acw:Ln Tryz.prog 91 146 6 Tryz.t146:=Ot Tryz.underlying58 (te:=Tryz.t146) κ (z:=6) rfl (by decide) rfl rfl Tryz.func91 Tryz.ntmps91 κ
theorem Ae5:Lo Tryz.prog 91:=Oq Tryz.underlying58 Tryz.func91 Tryz.ntmps91
theorem ZT:Ln Tryz.prog 175 279 41 Tryz.t279:=Ot Tryz.underlying50 (te:=Tryz.t279) κ (z:=41) rfl (by decide) rfl rfl Tryz.func175 Tryz.ntmps175 κ
theorem Acl:Lo Tryz.prog 175:=Oq Tryz.underlying50 Tryz.func175 Tryz.ntmps175
theorem ZV:Ln Tryz.prog 177 292 14 Tryz.t292:=Ot Tryz.underlying52 (te:=Tryz.t292) κ (z:=14) rfl (by decide) rfl rfl Tryz.func177 Tryz.ntmps177 κ
theorem Acn:Lo Tryz.prog 177:=Oq Tryz.underlying52 Tryz.func177 Tryz.ntmps177
theorem ZW:Ln Tryz.prog 178 297 1 Tryz.t297:=Ot Tryz.underlying53 (te:=Tryz.t297) κ (z:=1) rfl (by decide) rfl rfl Tryz.func178 Tryz.ntmps178 κ
theorem Aco:Lo Tryz.prog 178:=Oq Tryz.underlying53 Tryz.func178 Tryz.ntmps178
theorem Aaa:Ln Tryz.prog 183 73 2 Tryz.t73:=Ot Tryz.underlying54 (te:=Tryz.t73) κ (z:=2) rfl (by decide) rfl rfl Tryz.func183 Tryz.ntmps183 κ
theorem Acs:Lo Tryz.prog 183:=Oq Tryz.underlying54 Tryz.func183 Tryz.ntmps183
theorem ZU:Ln Tryz.prog 176 267 6 Tryz.t267:=Ot Tryz.underlying51 (te:=Tryz.t267) κ (z:=6) rfl (by decide) rfl rfl Tryz.func176 Tryz.ntmps176 κ
theorem Acm:Lo Tryz.prog 176:=Oq Tryz.underlying51 Tryz.func176 Tryz.ntmps176
theorem Aab:Ln Tryz.prog 184 313 3 Tryz.t313:=Ot Tryz.underlying265 (te:=Tryz.t313) κ (z:=3) rfl (by decide) rfl rfl Tryz.func184 Tryz.ntmps184 κ
theorem Acu:Lo Tryz.prog 184:=Oq Tryz.underlying265 Tryz.func184 Tryz.ntmps184
theorem Vk:Amx Tryz.prog 339 3 1:=Add Tryz.underlying42 (te:=Tryz.t3) κ (z:=1) rfl (by decide) ⟨_,Tryz.zeroValue3,rfl,κ⟩ Tryz.func339 Tryz.ntmps339 κ
theorem Vr:Ad0 Tryz.prog 340 3 1:=XK (o:=372) Tryz.underlying42 (t:=3) Tryz.underlying3 (te:=Tryz.t3) κ rfl (q_ κ) (by decide) ⟨_,rfl,rfl⟩ (bt:=4) Tryz.func372 κ κ κ κ Tryz.sizeOf3 Tryz.func340 Tryz.ntmps340 κ
theorem Vq:Ad0 Tryz.prog 306 313 3:=XK (o:=349) Tryz.underlying265 (t:=3) Tryz.underlying3 (te:=Tryz.t313) κ rfl (q_ κ) (by decide) ⟨_,rfl,rfl⟩ (bt:=4) Tryz.func349 κ κ κ κ Tryz.sizeOf313 Tryz.func306 Tryz.ntmps306 κ
end Go.Ovl
