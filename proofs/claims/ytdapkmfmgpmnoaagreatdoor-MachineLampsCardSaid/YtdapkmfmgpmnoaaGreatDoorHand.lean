/- What functions of Go's library do, by hand. -/
import Derived.Test.YtdapkmfmgpmnoaaGreatDoorChecked
import Derived.Test.YtdapkmfmgpmnoaaGreatDoorAbH
set_option linter.all false
open Option renaming some->A,none->B
namespace Go.Ovl
open Go Go.Ab Go.Proofs Go.RowKit Go.Lib
set_option maxHeartbeats 4000000
set_option maxRecDepth 100000
theorem Aoo:Te Tryz.prog 58 3 1 Tryz.t3:=Wh Tryz.underlying29 (te:=Tryz.t3) κ (z:=1) rfl (by decide) rfl rfl Tryz.func58 Tryz.ntmps58 κ
theorem Asq:Tf Tryz.prog 58:=Wg Tryz.underlying29 Tryz.func58 Tryz.ntmps58
theorem Aop:Te Tryz.prog 59 4 1 Tryz.t4:=Wh Tryz.underlying30 (te:=Tryz.t4) κ (z:=1) rfl (by decide) rfl rfl Tryz.func59 Tryz.ntmps59 κ
theorem Asr:Tf Tryz.prog 59:=Wg Tryz.underlying30 Tryz.func59 Tryz.ntmps59
theorem Aoq:Te Tryz.prog 60 85 5 Tryz.t85:=Wh Tryz.underlying31 (te:=Tryz.t85) κ (z:=5) rfl (by decide) rfl rfl Tryz.func60 Tryz.ntmps60 κ
theorem Ass:Tf Tryz.prog 60:=Wg Tryz.underlying31 Tryz.func60 Tryz.ntmps60
theorem Aok:Te Tryz.prog 53 117 41 Tryz.t117:=Wh Tryz.underlying37 (te:=Tryz.t117) κ (z:=41) rfl (by decide) rfl rfl Tryz.func53 Tryz.ntmps53 κ
theorem Asm:Tf Tryz.prog 53:=Wg Tryz.underlying37 Tryz.func53 Tryz.ntmps53
theorem Aom:Te Tryz.prog 55 133 14 Tryz.t133:=Wh Tryz.underlying39 (te:=Tryz.t133) κ (z:=14) rfl (by decide) rfl rfl Tryz.func55 Tryz.ntmps55 κ
theorem Aso:Tf Tryz.prog 55:=Wg Tryz.underlying39 Tryz.func55 Tryz.ntmps55
theorem Aon:Te Tryz.prog 56 138 1 Tryz.t138:=Wh Tryz.underlying40 (te:=Tryz.t138) κ (z:=1) rfl (by decide) rfl rfl Tryz.func56 Tryz.ntmps56 κ
theorem Asp:Tf Tryz.prog 56:=Wg Tryz.underlying40 Tryz.func56 Tryz.ntmps56
theorem Aor:Te Tryz.prog 61 51 2 Tryz.t51:=Wh Tryz.underlying41 (te:=Tryz.t51) κ (z:=2) rfl (by decide) rfl rfl Tryz.func61 Tryz.ntmps61 κ
theorem Ast:Tf Tryz.prog 61:=Wg Tryz.underlying41 Tryz.func61 Tryz.ntmps61
theorem Aol:Te Tryz.prog 54 122 6 Tryz.t122:=Wh Tryz.underlying38 (te:=Tryz.t122) κ (z:=6) rfl (by decide) rfl rfl Tryz.func54 Tryz.ntmps54 κ
theorem Asn:Tf Tryz.prog 54:=Wg Tryz.underlying38 Tryz.func54 Tryz.ntmps54
theorem Aos:Te Tryz.prog 62 153 3 Tryz.t153:=Wh Tryz.underlying120 (te:=Tryz.t153) κ (z:=3) rfl (by decide) rfl rfl Tryz.func62 Tryz.ntmps62 κ
theorem Asu:Tf Tryz.prog 62:=Wg Tryz.underlying120 Tryz.func62 Tryz.ntmps62
theorem Abh:Arl Tryz.prog 277 85 5:=Af9 (o:=303) Tryz.underlying31 (t:=3) Tryz.underlying3 (te:=Tryz.t85) κ rfl (D_ κ) (by decide) ⟨_,rfl,rfl⟩ (bt:=4) Tryz.func303 κ κ κ κ Tryz.sizeOf85 Tryz.func277 Tryz.ntmps277 κ
theorem Aa3:Bao Tryz.prog 278 85 5:=Aqd Tryz.underlying31 (te:=Tryz.t85) κ (z:=5) rfl (by decide) ⟨_,Tryz.zeroValue85,rfl,κ⟩ Tryz.func278 Tryz.ntmps278 κ
theorem Aoi(b:Nat)(w:World)(h0:w.cell? ⟨b,0,B⟩=A (.pointer (A ⟨b,0,B⟩))) :
  Calls Tryz.prog 282 #[.pointer (A ⟨b,0,B⟩)] w λe w'=>e=.returned (.tuple #[])∧w'=w:=by
 go_enter Tryz.func282,Tryz.ntmps282
 go_wp2
 rw[Lib.run_neq_ptr_same w _ Tryz.underlying338 (show Tryz.prog.info? 340=A Tryz.t340 by kernel_rfl)]
 go_wp2
 go_end0
 exact⟨rfl,rfl⟩
theorem Ale(b:Nat)(w:World)(h0:w.cell? ⟨b,0,B⟩=A (.pointer B))(hsh:w.shape? b=A (340,2))(hfz:w.frozen? ⟨b,0,B⟩=false) :
  Calls Tryz.prog 282 #[.pointer (A ⟨b,0,B⟩)] w λe w'=>e=.returned (.tuple #[])∧w'=w.setCell ⟨b,0,B⟩ (.pointer (A ⟨b,0,B⟩)):=by
 have hj:Tryz.prog.info? 340=A Tryz.t340:=κ
 go_enter Tryz.func282,Tryz.ntmps282
 go_wp2
 rw[Lib.run_to_unsafe w ⟨b,0,B⟩ Tryz.underlying338 Tryz.underlying389 hj (by decide) hsh (Nat.zero_lt_succ 1)]
 simp only[Result.andThen];rw[Oper.upon_value]
 go_wp2
 rw[run_callFunc_extern Tryz.func305 κ κ κ (e:=Extern.AbiNoEscape.same) κ]
 rw[Lib.run_noEscape];simp only[Result.andThen];rw[Oper.upon_value]
 go_wp2
 rw[Lib.run_from_unsafe w ⟨b,0,B⟩ Tryz.underlying389 Tryz.underlying338 hj hsh κ]
 simp only[Result.andThen];rw[Oper.upon_value]
 go_wp2
 go_end0
 exact⟨rfl,rfl⟩
theorem Aoj(b:Nat)(w:World)(a0 v:Value)(ha:a0=.pointer B∨a0=.pointer (A ⟨b,0,B⟩))(hb:w.heap[b]?=A (.cells #[a0,v] 340 (0,0))) :
  Calls Tryz.prog 282 #[.pointer (A ⟨b,0,B⟩)] w λe w1=>e=.returned (.tuple #[])∧CcOut w w1 b 340 v:=by
 have h0:w.cell? ⟨b,0,B⟩=A a0:=by rw[e7_ w b 0 _ 340 (0,0) hb];rfl
 rcases ha with rfl | rfl
 ·refine(Ale b w h0 (by simp[World.shape?,hb]) (by simp[World.frozen?,hb])).mono ?_
  rintro e w1 ⟨rfl,rfl⟩;exact⟨rfl,by rw[Go.Ab.setCell_heap hb];rfl,λk hk=>Go.Ab.setCell_other hk,Go.Ab.setCell_size,rfl,rfl,rfl⟩
 ·refine(Aoi b w h0).mono ?_
  rintro e w1 ⟨rfl,rfl⟩;exact⟨rfl,hb,λ_ _=>rfl,rfl,rfl,rfl,rfl⟩
theorem Apy(b:Nat)(w:World)(a0 v:Value)(ha:a0=.pointer B∨a0=.pointer (A ⟨b,0,B⟩))(hb:w.heap[b]?=A (.cells #[a0,v] 340 (0,0)))(n:Nat)(xs:List Value)(hown:w.ownsRow 0 5 1 v n xs)(hne:v.ownBlock≠A b)(s:ByteArray)(h63:n+s.size≤2147483648) :
  Calls Tryz.prog 253 #[.pointer (A ⟨b,0,B⟩),.string s] w λe w'=>e=.returned (.tuple #[.int .i64 s.size,.nilIface])∧∃v',BldOut w w' b 340 5 (.pointer (A ⟨b,0,B⟩)) v v' (n+s.size) (xs++Lib.strCells s):=by
 have hbw:b<w.heap.size:=(N_.1 hb).1;have hcc:=Aoj b w a0 v ha hb
 have key:∀w1,CcOut w w1 b 340 v→∃v' w2,(∀ty,(Builtin.append_ #[23,9] ty #[v,.string s]).run Tryz.prog w1=.ok v' w2)∧RowOut w1 w2 5 1 v v' (n+s.size) (xs++Lib.strCells s):=λw1 hc=>
  Bkv w1 Tryz.underlying23 Tryz.underlying9 (i:=Tryz.t5) κ κ κ κ (YD hown λg hg=>hc.rest g (λe=>hne (by rw[← e];exact hg))) s h63
 clear hb ha hown
 go_enter Tryz.func253,Tryz.ntmps253
 go_wp2_with (go_at_call 282;refine hcc.mono ?_)
 rintro e w1 ⟨rfl,hc⟩;obtain⟨v',w2,hr,ho⟩:=key w1 hc;have hout:=Ax5 hbw hc hne ho;have hb1:b<w1.heap.size:=by rw[hc.size];exact hbw
 have h2:w2.heap[b]?=A (.cells #[.pointer (A ⟨b,0,B⟩),v] 340 (0,0)):=by rw[ho.grow.block b hb1 (λe=>hne e.symm)];exact hc.cel
 have c1:w1.cell? ⟨b,1,B⟩=A v:=by rw[e7_ w1 b 1 _ 340 (0,0) hc.cel];rfl
 have d1:w2.cell? ⟨b,1,B⟩=A v:=by rw[e7_ w2 b 1 _ 340 (0,0) h2];rfl
 have f1:w2.frozen? ⟨b,1,B⟩=false:=by simp[World.frozen?,h2]
 obtain⟨ao,n',cap,hv'⟩:∃ao n' cap,v'=.slice ao n' cap:=by
  rcases ho.row.2 with⟨hv,_⟩ | ⟨g,cap,cur,hv,_⟩
  ·exact⟨_,_,_,hv⟩
  ·exact⟨_,_,_,hv⟩
 subst hv';have hO:Hid (∃v',BldOut w (w2.setCell ⟨b,1,B⟩ (.slice ao n' cap)) b 340 5 (.pointer (A ⟨b,0,B⟩)) v v' (n+s.size) (xs++Lib.strCells s)):=⟨_,hout⟩
 clear hout ho h2 hc key hcc hb1 hbw hne
 go_wp2_with (at_builtin;refine Lib.wpList_append_run _ rfl _ _ _ _ rfl _ _ rfl rfl _ _ (hr _) ?_)
 go_ret2
 exact⟨rfl,hO.out⟩
theorem Apu(b:Nat)(w:World)(a0:Value)(g cap:Nat)(cur:Array Value)(l:List UInt8)(h0:l≠[])(hb:w.heap[b]?=A (.cells #[a0,.slice (A ⟨g,0,B⟩) l.length cap] 340 (0,0)))(hg:w.heap[g]?=A (.cells cur 5 (0,0)))(hn:l.length≤cur.size)(hcap:l.length≤cap)(h63:l.length≤9223372036854775807)
  (hcell:∀(j:Nat) (x:UInt8),l[j]?=A x→cur[j]?=A (Value.int .u8 x.toNat)) :
  Calls Tryz.prog 255 #[.pointer (A ⟨b,0,B⟩)] w λe w'=>e=.returned (.string ⟨l.toArray⟩)∧w'=w.drew.freeze ⟨g,0,B⟩ l.length:=by
 have hl0:l.length≠0:=by simpa using h0
 have c1:w.drew.cell? ⟨b,1,B⟩=A (.slice (A ⟨g,0,B⟩) l.length cap):=by
  rw[e7_ w.drew b 1 _ 340 (0,0) hb];rfl
 have hSD:(Builtin.unsafeSliceData_ #[23] 371 #[.slice (A ⟨g,0,B⟩) l.length cap]).run Tryz.prog w.drew=.ok (.pointer (A ⟨g,0,B⟩)) w.drew:=
  Lib.run_unsafeSliceData_row _ _ _ _ _ _ ω
 have hUS:(Builtin.unsafeString_ #[371,3] 9 #[.pointer (A ⟨g,0,B⟩),.int .i64 l.length]).run Tryz.prog w.drew=.ok (.string ⟨l.toArray⟩) (w.drew.freeze ⟨g,0,B⟩ l.length):=by
  refine Lib.run_unsafeString_row w.drew 371 3 9 5 Tryz.underlying371 κ g cur.size (by have hg':w.drew.heap[g]?=A (.cells cur 5 (0,0)):=hg;simp[World.shape?,hg']) l h0 hn h63 ?_
  intro j x hx;rw[Hv,p_,e7_ w.drew g j cur 5 (0,0) hg];exact hcell j x hx
 have mixed:Tryz.prog.follows .mixedOrders=true:=κ
 clear hcell hb hg
 go_enter Tryz.func255,Tryz.ntmps255
 go_wp2
 go_region_o
 all_goals(go_wp2;go_ret;exact⟨rfl,rfl⟩)
theorem Aa2:Bao Tryz.prog 222 3 1:=Aqd Tryz.underlying29 (te:=Tryz.t3) κ (z:=1) rfl (by decide) ⟨_,Tryz.zeroValue3,rfl,κ⟩ Tryz.func222 Tryz.ntmps222 κ
theorem Abg:Arl Tryz.prog 223 3 1:=Af9 (o:=263) Tryz.underlying29 (t:=3) Tryz.underlying3 (te:=Tryz.t3) κ rfl (D_ κ) (by decide) ⟨_,rfl,rfl⟩ (bt:=4) Tryz.func263 κ κ κ κ Tryz.sizeOf3 Tryz.func223 Tryz.ntmps223 κ
theorem Abf:Arl Tryz.prog 186 153 3:=Af9 (o:=234) Tryz.underlying120 (t:=3) Tryz.underlying3 (te:=Tryz.t153) κ rfl (D_ κ) (by decide) ⟨_,rfl,rfl⟩ (bt:=4) Tryz.func234 κ κ κ κ Tryz.sizeOf153 Tryz.func186 Tryz.ntmps186 κ
end Go.Ovl
