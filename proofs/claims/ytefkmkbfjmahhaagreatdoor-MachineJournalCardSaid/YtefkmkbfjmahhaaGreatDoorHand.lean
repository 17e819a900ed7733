import Derived.Test.YtefkmkbfjmahhaaGreatDoorChecked
import Derived.Test.YtefkmkbfjmahhaaGreatDoorAbH
set_option linter.all false
open Option renaming some->A,none->B
namespace Go.Ovl
open Go Go.Ab Go.Proofs Go.RowKit Go.Lib
set_option maxHeartbeats 4000000
set_option maxRecDepth 100000
theorem Apb:Tr Tryz.prog 61 3 1 Tryz.t3:=WF Tryz.underlying29 (te:=Tryz.t3) κ (z:=1) rfl τ rfl rfl Tryz.func61 Tryz.ntmps61 κ
theorem Ata:Ts Tryz.prog 61:=WE Tryz.underlying29 Tryz.func61 Tryz.ntmps61
theorem Apc:Tr Tryz.prog 62 4 1 Tryz.t4:=WF Tryz.underlying30 (te:=Tryz.t4) κ (z:=1) rfl τ rfl rfl Tryz.func62 Tryz.ntmps62 κ
theorem Atb:Ts Tryz.prog 62:=WE Tryz.underlying30 Tryz.func62 Tryz.ntmps62
theorem Apd:Tr Tryz.prog 63 81 5 Tryz.t81:=WF Tryz.underlying31 (te:=Tryz.t81) κ (z:=5) rfl τ rfl rfl Tryz.func63 Tryz.ntmps63 κ
theorem Atc:Ts Tryz.prog 63:=WE Tryz.underlying31 Tryz.func63 Tryz.ntmps63
theorem Ao7:Tr Tryz.prog 56 97 41 Tryz.t97:=WF Tryz.underlying37 (te:=Tryz.t97) κ (z:=41) rfl τ rfl rfl Tryz.func56 Tryz.ntmps56 κ
theorem As6:Ts Tryz.prog 56:=WE Tryz.underlying37 Tryz.func56 Tryz.ntmps56
theorem Ao9:Tr Tryz.prog 58 109 14 Tryz.t109:=WF Tryz.underlying39 (te:=Tryz.t109) κ (z:=14) rfl τ rfl rfl Tryz.func58 Tryz.ntmps58 κ
theorem As8:Ts Tryz.prog 58:=WE Tryz.underlying39 Tryz.func58 Tryz.ntmps58
theorem Apa:Tr Tryz.prog 59 111 1 Tryz.t111:=WF Tryz.underlying40 (te:=Tryz.t111) κ (z:=1) rfl τ rfl rfl Tryz.func59 Tryz.ntmps59 κ
theorem As9:Ts Tryz.prog 59:=WE Tryz.underlying40 Tryz.func59 Tryz.ntmps59
theorem Ape:Tr Tryz.prog 64 51 2 Tryz.t51:=WF Tryz.underlying41 (te:=Tryz.t51) κ (z:=2) rfl τ rfl rfl Tryz.func64 Tryz.ntmps64 κ
theorem Atd:Ts Tryz.prog 64:=WE Tryz.underlying41 Tryz.func64 Tryz.ntmps64
theorem Ao8:Tr Tryz.prog 57 101 6 Tryz.t101:=WF Tryz.underlying38 (te:=Tryz.t101) κ (z:=6) rfl τ rfl rfl Tryz.func57 Tryz.ntmps57 κ
theorem As7:Ts Tryz.prog 57:=WE Tryz.underlying38 Tryz.func57 Tryz.ntmps57
theorem Apf:Tr Tryz.prog 65 161 3 Tryz.t161:=WF Tryz.underlying99 (te:=Tryz.t161) κ (z:=3) rfl τ rfl rfl Tryz.func65 Tryz.ntmps65 κ
theorem Ate:Ts Tryz.prog 65:=WE Tryz.underlying99 Tryz.func65 Tryz.ntmps65
theorem Ab4:Ar7 Tryz.prog 275 81 5:=Agz (o:=301) Tryz.underlying31 (t:=3) Tryz.underlying3 (te:=Tryz.t81) κ rfl (G_ κ) τ ⟨_,rfl,rfl⟩ (bt:=4) Tryz.func301 κ κ κ κ Tryz.sizeOf81 Tryz.func275 Tryz.ntmps275 κ
theorem Abq:Bbu Tryz.prog 276 81 5:=Aqw Tryz.underlying31 (te:=Tryz.t81) κ (z:=5) rfl τ ⟨_,Tryz.zeroValue81,rfl,κ⟩ Tryz.func276 Tryz.ntmps276 κ
theorem Ao5(b:Nat)(w:World)(h0:w.cell? ⟨b,0,B⟩=A (.pointer (A ⟨b,0,B⟩))) :
  Calls Tryz.prog 280 #[.pointer (A ⟨b,0,B⟩)] w λe w'=>e=.returned (.tuple #[])∧w'=w:=by
 go_enter Tryz.func280,Tryz.ntmps280
 go_wp2
 rw[Lib.run_neq_ptr_same w _ Tryz.underlying339 (show Tryz.prog.info? 341=A Tryz.t341 by kernel_rfl)]
 go_wp2
 go_end0
 exact⟨rfl,rfl⟩
theorem Al0(b:Nat)(w:World)(h0:w.cell? ⟨b,0,B⟩=A (.pointer B))(hsh:w.shape? b=A (341,2))(hfz:w.frozen? ⟨b,0,B⟩=false) :
  Calls Tryz.prog 280 #[.pointer (A ⟨b,0,B⟩)] w λe w'=>e=.returned (.tuple #[])∧w'=w.setCell ⟨b,0,B⟩ (.pointer (A ⟨b,0,B⟩)):=by
 have hj:Tryz.prog.info? 341=A Tryz.t341:=κ
 go_enter Tryz.func280,Tryz.ntmps280
 go_wp2
 rw[Lib.run_to_unsafe w ⟨b,0,B⟩ Tryz.underlying339 Tryz.underlying389 hj τ hsh (Nat.zero_lt_succ 1)];simp only[Result.andThen];rw[Oper.upon_value]
 go_wp2
 rw[run_callFunc_extern Tryz.func303 κ κ κ (e:=Extern.AbiNoEscape.same) κ];rw[Lib.run_noEscape];simp only[Result.andThen];rw[Oper.upon_value]
 go_wp2
 rw[Lib.run_from_unsafe w ⟨b,0,B⟩ Tryz.underlying389 Tryz.underlying339 hj hsh κ];simp only[Result.andThen];rw[Oper.upon_value]
 go_wp2
 go_end0
 exact⟨rfl,rfl⟩
theorem Ao6(b:Nat)(w:World)(a0 v:Value)(ha:a0=.pointer B∨a0=.pointer (A ⟨b,0,B⟩))(hb:w.heap[b]?=A (.cells #[a0,v] 341 (0,0))) :
  Calls Tryz.prog 280 #[.pointer (A ⟨b,0,B⟩)] w λe w1=>e=.returned (.tuple #[])∧CcOut w w1 b 341 v:=by
 have h0:w.cell? ⟨b,0,B⟩=A a0:=by rw[e5_ w b 0 _ 341 (0,0) hb];rfl
 rcases ha with rfl | rfl
 ·refine(Al0 b w h0 (by simp[World.shape?,hb]) (by simp[World.frozen?,hb])).mono ?_;rintro e w1 ⟨rfl,rfl⟩;exact⟨rfl,by rw[Go.Ab.setCell_heap hb];rfl,λk hk=>Go.Ab.setCell_other hk,Go.Ab.setCell_size,rfl,rfl,rfl⟩
 ·refine(Ao5 b w h0).mono ?_;rintro e w1 ⟨rfl,rfl⟩;exact⟨rfl,hb,λ_ _=>rfl,rfl,rfl,rfl,rfl⟩
theorem Aqi(b:Nat)(w:World)(a0 v:Value)(ha:a0=.pointer B∨a0=.pointer (A ⟨b,0,B⟩))(hb:w.heap[b]?=A (.cells #[a0,v] 341 (0,0)))(n:Nat)(xs:List Value)(hown:w.ownsRow 0 5 1 v n xs)(hne:v.ownBlock≠A b)(s:ByteArray)(h63:n+s.size≤2147483648) :
  Calls Tryz.prog 251 #[.pointer (A ⟨b,0,B⟩),.string s] w λe w'=>e=.returned (.tuple #[.int .i64 s.size,.nilIface])∧∃v',BldOut w w' b 341 5 (.pointer (A ⟨b,0,B⟩)) v v' (n+s.size) (xs++Lib.strCells s):=by
 have hbw:b<w.heap.size:=(O_.1 hb).1;have hcc:=Ao6 b w a0 v ha hb;have key:∀w1,CcOut w w1 b 341 v→∃v' w2,(∀ty,(Builtin.append_ #[23,9] ty #[v,.string s]).run Tryz.prog w1=.ok v' w2)∧RowOut w1 w2 5 1 v v' (n+s.size) (xs++Lib.strCells s):=λw1 hc=>Bmi w1 Tryz.underlying23 Tryz.underlying9 (i:=Tryz.t5) κ κ κ κ (YY hown λg hg=>hc.rest g (λe=>hne (by rw[← e];exact hg))) s h63;clear hb ha hown
 go_enter Tryz.func251,Tryz.ntmps251
 go_wp2_with (go_at_call 280;refine hcc.mono ?_)
 rintro e w1 ⟨rfl,hc⟩;obtain⟨v',w2,hr,ho⟩:=key w1 hc;have hout:=Ay5 hbw hc hne ho;have hb1:b<w1.heap.size:=by rw[hc.size];exact hbw
 have h2:w2.heap[b]?=A (.cells #[.pointer (A ⟨b,0,B⟩),v] 341 (0,0)):=by rw[ho.grow.block b hb1 (λe=>hne e.symm)];exact hc.cel
 have c1:w1.cell? ⟨b,1,B⟩=A v:=by rw[e5_ w1 b 1 _ 341 (0,0) hc.cel];rfl
 have d1:w2.cell? ⟨b,1,B⟩=A v:=by rw[e5_ w2 b 1 _ 341 (0,0) h2];rfl
 have f1:w2.frozen? ⟨b,1,B⟩=false:=by simp[World.frozen?,h2]
 obtain⟨ao,n',cap,hv'⟩:∃ao n' cap,v'=.slice ao n' cap:=by
  rcases ho.row.2 with⟨hv,_⟩ | ⟨g,cap,cur,hv,_⟩
  ·exact⟨_,_,_,hv⟩
  ·exact⟨_,_,_,hv⟩
 subst hv';have hO:Hid (∃v',BldOut w (w2.setCell ⟨b,1,B⟩ (.slice ao n' cap)) b 341 5 (.pointer (A ⟨b,0,B⟩)) v v' (n+s.size) (xs++Lib.strCells s)):=⟨_,hout⟩
 clear hout ho h2 hc key hcc hb1 hbw hne
 go_wp2_with (at_builtin;refine Lib.wpList_append_run _ rfl _ _ _ _ rfl _ _ rfl rfl _ _ (hr _) ?_)
 go_ret2
 exact⟨rfl,hO.out⟩
theorem Aqe(b:Nat)(w:World)(a0:Value)(g cap:Nat)(cur:Array Value)(l:List UInt8)(h0:l≠[])(hb:w.heap[b]?=A (.cells #[a0,.slice (A ⟨g,0,B⟩) l.length cap] 341 (0,0)))(hg:w.heap[g]?=A (.cells cur 5 (0,0)))(hn:l.length≤cur.size)(hcap:l.length≤cap)(h63:l.length≤9223372036854775807)
  (hcell:∀(j:Nat) (x:UInt8),l[j]?=A x→cur[j]?=A (Value.int .u8 x.toNat)) :
  Calls Tryz.prog 253 #[.pointer (A ⟨b,0,B⟩)] w λe w'=>e=.returned (.string ⟨l.toArray⟩)∧w'=w.drew.freeze ⟨g,0,B⟩ l.length:=by
 have hl0:l.length≠0:=by simpa using h0
 have c1:w.drew.cell? ⟨b,1,B⟩=A (.slice (A ⟨g,0,B⟩) l.length cap):=by rw[e5_ w.drew b 1 _ 341 (0,0) hb];rfl
 have hSD:(Builtin.unsafeSliceData_ #[23] 371 #[.slice (A ⟨g,0,B⟩) l.length cap]).run Tryz.prog w.drew=.ok (.pointer (A ⟨g,0,B⟩)) w.drew:=Lib.run_unsafeSliceData_row _ _ _ _ _ _ ω;have hUS:(Builtin.unsafeString_ #[371,3] 9 #[.pointer (A ⟨g,0,B⟩),.int .i64 l.length]).run Tryz.prog w.drew=.ok (.string ⟨l.toArray⟩) (w.drew.freeze ⟨g,0,B⟩ l.length):=by refine Lib.run_unsafeString_row w.drew 371 3 9 5 Tryz.underlying371 κ g cur.size (by have hg':w.drew.heap[g]?=A (.cells cur 5 (0,0)):=hg;simp[World.shape?,hg']) l h0 hn h63 ?_;intro j x hx;rw[Hg,p_,e5_ w.drew g j cur 5 (0,0) hg];exact hcell j x hx
 have mixed:Tryz.prog.follows .mixedOrders=true:=κ;clear hcell hb hg
 go_enter Tryz.func253,Tryz.ntmps253
 go_wp2
 go_region_o
 all_goals(go_wp2;go_ret;exact⟨rfl,rfl⟩)
theorem Abp:Bbu Tryz.prog 220 3 1:=Aqw Tryz.underlying29 (te:=Tryz.t3) κ (z:=1) rfl τ ⟨_,Tryz.zeroValue3,rfl,κ⟩ Tryz.func220 Tryz.ntmps220 κ
theorem Ab3:Ar7 Tryz.prog 221 3 1:=Agz (o:=261) Tryz.underlying29 (t:=3) Tryz.underlying3 (te:=Tryz.t3) κ rfl (G_ κ) τ ⟨_,rfl,rfl⟩ (bt:=4) Tryz.func261 κ κ κ κ Tryz.sizeOf3 Tryz.func221 Tryz.ntmps221 κ
theorem Ab2:Ar7 Tryz.prog 186 161 3:=Agz (o:=232) Tryz.underlying99 (t:=3) Tryz.underlying3 (te:=Tryz.t161) κ rfl (G_ κ) τ ⟨_,rfl,rfl⟩ (bt:=4) Tryz.func232 κ κ κ κ Tryz.sizeOf161 Tryz.func186 Tryz.ntmps186 κ
end Go.Ovl
