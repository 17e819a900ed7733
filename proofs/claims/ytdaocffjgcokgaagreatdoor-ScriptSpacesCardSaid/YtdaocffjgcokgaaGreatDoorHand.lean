import Derived.Test.YtdaocffjgcokgaaGreatDoorChecked
import Derived.Test.YtdaocffjgcokgaaGreatDoorAbH
set_option linter.all false
open Option renaming some->A,none->B
namespace Go.Ovl
open Go Go.Ab Go.Proofs Go.RowKit Go.Lib
set_option maxHeartbeats 4000000
set_option maxRecDepth 100000
theorem Aei(b:Nat)(w:World)(h0:w.cell? ⟨b,0,B⟩=A (.pointer (A ⟨b,0,B⟩))) :
  Calls Tryz.prog 31 #[.pointer (A ⟨b,0,B⟩)] w λe w'=>e=.returned (.tuple #[])∧w'=w:=by
 go_enter Tryz.func31,Tryz.ntmps31
 go_wp2
 rw[Lib.run_neq_ptr_same w _ Tryz.underlying53 (show Tryz.prog.info? 55=A Tryz.t55 by kernel_rfl)]
 go_wp2
 go_end0
 exact⟨rfl,rfl⟩
theorem Aby(b:Nat)(w:World)(h0:w.cell? ⟨b,0,B⟩=A (.pointer B))(hsh:w.shape? b=A (55,2))(hfz:w.frozen? ⟨b,0,B⟩=false) :
  Calls Tryz.prog 31 #[.pointer (A ⟨b,0,B⟩)] w λe w'=>e=.returned (.tuple #[])∧w'=w.setCell ⟨b,0,B⟩ (.pointer (A ⟨b,0,B⟩)):=by
 have hj:Tryz.prog.info? 55=A Tryz.t55:=κ
 go_enter Tryz.func31,Tryz.ntmps31
 go_wp2
 rw[Lib.run_to_unsafe w ⟨b,0,B⟩ Tryz.underlying53 Tryz.underlying136 hj (by decide) hsh (Nat.zero_lt_succ 1)];simp only[Result.andThen];rw[Oper.upon_value]
 go_wp2
 rw[run_callFunc_extern Tryz.func54 κ κ κ (e:=Extern.AbiNoEscape.same) κ];rw[Lib.run_noEscape];simp only[Result.andThen];rw[Oper.upon_value]
 go_wp2
 rw[Lib.run_from_unsafe w ⟨b,0,B⟩ Tryz.underlying136 Tryz.underlying53 hj hsh κ];simp only[Result.andThen];rw[Oper.upon_value]
 go_wp2
 go_end0
 exact⟨rfl,rfl⟩
theorem Aej(b:Nat)(w:World)(a0 v:Value)(ha:a0=.pointer B∨a0=.pointer (A ⟨b,0,B⟩))(hb:w.heap[b]?=A (.cells #[a0,v] 55 (0,0))) :
  Calls Tryz.prog 31 #[.pointer (A ⟨b,0,B⟩)] w λe w1=>e=.returned (.tuple #[])∧CcOut w w1 b 55 v:=by
 have h0:w.cell? ⟨b,0,B⟩=A a0:=by rw[a8_ w b 0 _ 55 (0,0) hb];rfl
 rcases ha with rfl | rfl
 ·refine(Aby b w h0 (by simp[World.shape?,hb]) (by simp[World.frozen?,hb])).mono ?_;rintro e w1 ⟨rfl,rfl⟩;exact⟨rfl,by rw[Go.Ab.setCell_heap hb];rfl,λk hk=>Go.Ab.setCell_other hk,Go.Ab.setCell_size,rfl,rfl,rfl⟩
 ·refine(Aei b w h0).mono ?_;rintro e w1 ⟨rfl,rfl⟩;exact⟨rfl,hb,λ_ _=>rfl,rfl,rfl,rfl,rfl⟩
theorem Agu(b:Nat)(w:World)(a0 v:Value)(ha:a0=.pointer B∨a0=.pointer (A ⟨b,0,B⟩))(hb:w.heap[b]?=A (.cells #[a0,v] 55 (0,0)))(n:Nat)(xs:List Value)(hown:w.ownsRow 0 5 1 v n xs)(hne:v.ownBlock≠A b)(s:ByteArray)(h63:n+s.size≤2147483648) :
  Calls Tryz.prog 15 #[.pointer (A ⟨b,0,B⟩),.string s] w λe w'=>e=.returned (.tuple #[.int .i64 s.size,.nilIface])∧∃v',BldOut w w' b 55 5 (.pointer (A ⟨b,0,B⟩)) v v' (n+s.size) (xs++Lib.strCells s):=by
 have hbw:b<w.heap.size:=(r_.1 hb).1;have hcc:=Aej b w a0 v ha hb;have key:∀w1,CcOut w w1 b 55 v→∃v' w2,(∀ty,(Builtin.append_ #[23,9] ty #[v,.string s]).run Tryz.prog w1=.ok v' w2)∧RowOut w1 w2 5 1 v v' (n+s.size) (xs++Lib.strCells s):=λw1 hc=>Avz w1 Tryz.underlying23 Tryz.underlying9 (i:=Tryz.t5) κ κ κ κ (Tc hown λg hg=>hc.rest g (λe=>hne (by rw[← e];exact hg))) s h63;clear hb ha hown
 go_enter Tryz.func15,Tryz.ntmps15
 go_wp2_with (go_at_call 31;refine hcc.mono ?_)
 rintro e w1 ⟨rfl,hc⟩;obtain⟨v',w2,hr,ho⟩:=key w1 hc;have hout:=Akb hbw hc hne ho;have hb1:b<w1.heap.size:=by rw[hc.size];exact hbw
 have h2:w2.heap[b]?=A (.cells #[.pointer (A ⟨b,0,B⟩),v] 55 (0,0)):=by rw[ho.grow.block b hb1 (λe=>hne e.symm)];exact hc.cel
 have c1:w1.cell? ⟨b,1,B⟩=A v:=by rw[a8_ w1 b 1 _ 55 (0,0) hc.cel];rfl
 have d1:w2.cell? ⟨b,1,B⟩=A v:=by rw[a8_ w2 b 1 _ 55 (0,0) h2];rfl
 have f1:w2.frozen? ⟨b,1,B⟩=false:=by simp[World.frozen?,h2]
 obtain⟨ao,n',cap,hv'⟩:∃ao n' cap,v'=.slice ao n' cap:=by
  rcases ho.row.2 with⟨hv,_⟩ | ⟨g,cap,cur,hv,_⟩
  ·exact⟨_,_,_,hv⟩
  ·exact⟨_,_,_,hv⟩
 subst hv';have hO:Hid (∃v',BldOut w (w2.setCell ⟨b,1,B⟩ (.slice ao n' cap)) b 55 5 (.pointer (A ⟨b,0,B⟩)) v v' (n+s.size) (xs++Lib.strCells s)):=⟨_,hout⟩
 clear hout ho h2 hc key hcc hb1 hbw hne
 go_wp2_with (at_builtin;refine Lib.wpList_append_run _ rfl _ _ _ _ rfl _ _ rfl rfl _ _ (hr _) ?_)
 go_ret2
 exact⟨rfl,hO.out⟩
theorem Agn(b:Nat)(w:World)(a0:Value)(g cap:Nat)(cur:Array Value)(l:List UInt8)(h0:l≠[])(hb:w.heap[b]?=A (.cells #[a0,.slice (A ⟨g,0,B⟩) l.length cap] 55 (0,0)))(hg:w.heap[g]?=A (.cells cur 5 (0,0)))(hn:l.length≤cur.size)(hcap:l.length≤cap)(h63:l.length≤9223372036854775807)
  (hcell:∀(j:Nat) (x:UInt8),l[j]?=A x→cur[j]?=A (Value.int .u8 x.toNat)) :
  Calls Tryz.prog 17 #[.pointer (A ⟨b,0,B⟩)] w λe w'=>e=.returned (.string ⟨l.toArray⟩)∧w'=w.drew.freeze ⟨g,0,B⟩ l.length:=by
 have hl0:l.length≠0:=by simpa using h0
 have c1:w.drew.cell? ⟨b,1,B⟩=A (.slice (A ⟨g,0,B⟩) l.length cap):=by rw[a8_ w.drew b 1 _ 55 (0,0) hb];rfl
 have hSD:(Builtin.unsafeSliceData_ #[23] 108 #[.slice (A ⟨g,0,B⟩) l.length cap]).run Tryz.prog w.drew=.ok (.pointer (A ⟨g,0,B⟩)) w.drew:=Lib.run_unsafeSliceData_row _ _ _ _ _ _ ω;have hUS:(Builtin.unsafeString_ #[108,3] 9 #[.pointer (A ⟨g,0,B⟩),.int .i64 l.length]).run Tryz.prog w.drew=.ok (.string ⟨l.toArray⟩) (w.drew.freeze ⟨g,0,B⟩ l.length):=by refine Lib.run_unsafeString_row w.drew 108 3 9 5 Tryz.underlying108 κ g cur.size (by have hg':w.drew.heap[g]?=A (.cells cur 5 (0,0)):=hg;simp[World.shape?,hg']) l h0 hn h63 ?_;intro j x hx;rw[EK,n_,a8_ w.drew g j cur 5 (0,0) hg];exact hcell j x hx
 have mixed:Tryz.prog.follows .mixedOrders=true:=κ;clear hcell hb hg
 go_enter Tryz.func17,Tryz.ntmps17
 go_wp2
 go_region_o
 all_goals(go_wp2;go_ret;exact⟨rfl,rfl⟩)
theorem UW:Adg Tryz.prog 222 50 5:=Xu (o:=267) Tryz.underlying43 (t:=3) Tryz.underlying3 (te:=Tryz.t50) κ rfl (t_ κ) (by decide) ⟨_,rfl,rfl⟩ (bt:=4) Tryz.func267 κ κ κ κ Tryz.sizeOf50 Tryz.func222 Tryz.ntmps222 κ
theorem UQ:Alv Tryz.prog 223 50 5:=Acr Tryz.underlying43 (te:=Tryz.t50) κ (z:=5) rfl (by decide) ⟨_,Tryz.zeroValue50,rfl,κ⟩ Tryz.func223 Tryz.ntmps223 κ
theorem ZH:Ld Tryz.prog 178 3 1 Tryz.t3:=Od Tryz.underlying67 (te:=Tryz.t3) κ (z:=1) rfl (by decide) rfl rfl Tryz.func178 Tryz.ntmps178 κ
theorem Ab3:Lf Tryz.prog 178:=Oc Tryz.underlying67 Tryz.func178 Tryz.ntmps178
theorem ZI:Ld Tryz.prog 179 4 1 Tryz.t4:=Od Tryz.underlying68 (te:=Tryz.t4) κ (z:=1) rfl (by decide) rfl rfl Tryz.func179 Tryz.ntmps179 κ
theorem Ab4:Lf Tryz.prog 179:=Oc Tryz.underlying68 Tryz.func179 Tryz.ntmps179
theorem ZJ:Ld Tryz.prog 180 50 5 Tryz.t50:=Od Tryz.underlying43 (te:=Tryz.t50) κ (z:=5) rfl (by decide) rfl rfl Tryz.func180 Tryz.ntmps180 κ
theorem Ab5:Lf Tryz.prog 180:=Oc Tryz.underlying43 Tryz.func180 Tryz.ntmps180
theorem Ab8:Ld Tryz.prog 89 152 9 Tryz.t152:=Od Tryz.underlying81 (te:=Tryz.t152) κ (z:=9) rfl (by decide) rfl rfl Tryz.func89 Tryz.ntmps89 κ
theorem Ael:Lf Tryz.prog 89:=Oc Tryz.underlying81 Tryz.func89 Tryz.ntmps89
theorem Ab9:Ld Tryz.prog 90 155 6 Tryz.t155:=Od Tryz.underlying82 (te:=Tryz.t155) κ (z:=6) rfl (by decide) rfl rfl Tryz.func90 Tryz.ntmps90 κ
theorem Aem:Lf Tryz.prog 90:=Oc Tryz.underlying82 Tryz.func90 Tryz.ntmps90
theorem ZD:Ld Tryz.prog 173 288 41 Tryz.t288:=Od Tryz.underlying74 (te:=Tryz.t288) κ (z:=41) rfl (by decide) rfl rfl Tryz.func173 Tryz.ntmps173 κ
theorem Abz:Lf Tryz.prog 173:=Oc Tryz.underlying74 Tryz.func173 Tryz.ntmps173
theorem ZF:Ld Tryz.prog 175 301 14 Tryz.t301:=Od Tryz.underlying76 (te:=Tryz.t301) κ (z:=14) rfl (by decide) rfl rfl Tryz.func175 Tryz.ntmps175 κ
theorem Ab1:Lf Tryz.prog 175:=Oc Tryz.underlying76 Tryz.func175 Tryz.ntmps175
theorem ZG:Ld Tryz.prog 176 306 1 Tryz.t306:=Od Tryz.underlying77 (te:=Tryz.t306) κ (z:=1) rfl (by decide) rfl rfl Tryz.func176 Tryz.ntmps176 κ
theorem Ab2:Lf Tryz.prog 176:=Oc Tryz.underlying77 Tryz.func176 Tryz.ntmps176
theorem ZK:Ld Tryz.prog 181 48 2 Tryz.t48:=Od Tryz.underlying78 (te:=Tryz.t48) κ (z:=2) rfl (by decide) rfl rfl Tryz.func181 Tryz.ntmps181 κ
theorem Ab6:Lf Tryz.prog 181:=Oc Tryz.underlying78 Tryz.func181 Tryz.ntmps181
theorem ZE:Ld Tryz.prog 174 276 6 Tryz.t276:=Od Tryz.underlying75 (te:=Tryz.t276) κ (z:=6) rfl (by decide) rfl rfl Tryz.func174 Tryz.ntmps174 κ
theorem Ab0:Lf Tryz.prog 174:=Oc Tryz.underlying75 Tryz.func174 Tryz.ntmps174
theorem ZL:Ld Tryz.prog 182 322 3 Tryz.t322:=Od Tryz.underlying274 (te:=Tryz.t322) κ (z:=3) rfl (by decide) rfl rfl Tryz.func182 Tryz.ntmps182 κ
theorem Ab7:Lf Tryz.prog 182:=Oc Tryz.underlying274 Tryz.func182 Tryz.ntmps182
theorem UR:Alv Tryz.prog 330 3 1:=Acr Tryz.underlying67 (te:=Tryz.t3) κ (z:=1) rfl (by decide) ⟨_,Tryz.zeroValue3,rfl,κ⟩ Tryz.func330 Tryz.ntmps330 κ
theorem UY:Adg Tryz.prog 331 3 1:=Xu (o:=363) Tryz.underlying67 (t:=3) Tryz.underlying3 (te:=Tryz.t3) κ rfl (t_ κ) (by decide) ⟨_,rfl,rfl⟩ (bt:=4) Tryz.func363 κ κ κ κ Tryz.sizeOf3 Tryz.func331 Tryz.ntmps331 κ
theorem UX:Adg Tryz.prog 297 322 3:=Xu (o:=340) Tryz.underlying274 (t:=3) Tryz.underlying3 (te:=Tryz.t322) κ rfl (t_ κ) (by decide) ⟨_,rfl,rfl⟩ (bt:=4) Tryz.func340 κ κ κ κ Tryz.sizeOf322 Tryz.func297 Tryz.ntmps297 κ
end Go.Ovl
