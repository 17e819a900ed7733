import Derived.Test.YtnfjkodplikhjaaGreatDoorChecked
import Derived.Test.YtnfjkodplikhjaaGreatDoorAbH
set_option linter.all false
open Option renaming some->A,none->B
namespace Go.Ovl
open Go Go.Ab Go.Proofs Go.RowKit Go.Lib
set_option maxHeartbeats 4000000
set_option maxRecDepth 100000
theorem Aen:Avo Tryz.prog 219 68 5:=Ajq (o:=271) Tryz.underlying34 (t:=3) Tryz.underlying3 (te:=Tryz.t68) κ rfl (C_ κ) τ ⟨_,rfl,rfl⟩ (bt:=4) Tryz.func271 κ κ κ κ Tryz.sizeOf68 Tryz.func219 Tryz.ntmps219 κ
theorem Ad7:Bdm Tryz.prog 220 68 5:=Auj Tryz.underlying34 (te:=Tryz.t68) κ (z:=5) rfl τ ⟨_,Tryz.zeroValue68,rfl,κ⟩ Tryz.func220 Tryz.ntmps220 κ
theorem Awq(b:Nat)(w:World)(h0:w.cell? ⟨b,0,B⟩=A (.pointer (A ⟨b,0,B⟩))) :
  Calls Tryz.prog 81 #[.pointer (A ⟨b,0,B⟩)] w λe w'=>e=.returned (.tuple #[])/\w'=w:=by
 go_enter Tryz.func81,Tryz.ntmps81
 go_wp2
 rw[Lib.run_neq_ptr_same w _ Tryz.underlying149 (show Tryz.prog.info? 151=A Tryz.t151 by kernel_rfl)]
 go_wp2
 go_end0
 exact⟨rfl,rfl⟩
theorem As1(b:Nat)(w:World)(h0:w.cell? ⟨b,0,B⟩=A (.pointer B))(hsh:w.shape? b=A (151,2))(hfz:w.frozen? ⟨b,0,B⟩=false) :
  Calls Tryz.prog 81 #[.pointer (A ⟨b,0,B⟩)] w λe w'=>e=.returned (.tuple #[])/\w'=w.setCell ⟨b,0,B⟩ (.pointer (A ⟨b,0,B⟩)):=by
 have hj:Tryz.prog.info? 151=A Tryz.t151:=κ
 go_enter Tryz.func81,Tryz.ntmps81
 go_wp2
 rw[Lib.run_to_unsafe w ⟨b,0,B⟩ Tryz.underlying149 Tryz.underlying249 hj τ hsh (Nat.zero_lt_succ 1)];simp only[Result.andThen];rw[Oper.upon_value]
 go_wp2
 rw[run_callFunc_extern Tryz.func125 κ κ κ (e:=Extern.AbiNoEscape.same) κ];rw[Lib.run_noEscape];simp only[Result.andThen];rw[Oper.upon_value]
 go_wp2
 rw[Lib.run_from_unsafe w ⟨b,0,B⟩ Tryz.underlying249 Tryz.underlying149 hj hsh κ];simp only[Result.andThen];rw[Oper.upon_value]
 go_wp2
 go_end0
 exact⟨rfl,rfl⟩
theorem Awr(b:Nat)(w:World)(a0 v:Value)(ha:a0=.pointer B\/a0=.pointer (A ⟨b,0,B⟩))(hb:w.heap[b]?=A (.cells #[a0,v] 151 (0,0))) :
  Calls Tryz.prog 81 #[.pointer (A ⟨b,0,B⟩)] w λe w1=>e=.returned (.tuple #[])/\CcOut w w1 b 151 v:=by
 have h0:w.cell? ⟨b,0,B⟩=A a0:=by rw[d8_ w b 0 _ 151 (0,0) hb];rfl
 rcases ha with rfl|rfl
 .refine(As1 b w h0 (by simp[World.shape?,hb]) (by simp[World.frozen?,hb])).mono ?_;rintro e w1 ⟨rfl,rfl⟩;exact⟨rfl,by rw[Go.Ab.setCell_heap hb];rfl,λk hk=>Go.Ab.setCell_other hk,Go.Ab.setCell_size,rfl,rfl,rfl⟩
 .refine(Awq b w h0).mono ?_;rintro e w1 ⟨rfl,rfl⟩;exact⟨rfl,hb,λ_ _=>rfl,rfl,rfl,rfl,rfl⟩
theorem Ayv(b:Nat)(w:World)(a0 v:Value)(ha:a0=.pointer B\/a0=.pointer (A ⟨b,0,B⟩))(hb:w.heap[b]?=A (.cells #[a0,v] 151 (0,0)))(n:Nat)(xs:List Value)(hown:w.ownsRow 0 5 1 v n xs)(hne:v.ownBlock≠A b)(s:ByteArray)(h63:n+s.size<=2147483648) :
  Calls Tryz.prog 49 #[.pointer (A ⟨b,0,B⟩),.string s] w λe w'=>e=.returned (.tuple #[.int .i64 s.size,.nilIface])/\∃v',BldOut w w' b 151 5 (.pointer (A ⟨b,0,B⟩)) v v' (n+s.size) (xs++Lib.strCells s):=by
 have hbw:b<w.heap.size:=(I_.1 hb).1;have hcc:=Awr b w a0 v ha hb;have key:∀w1,CcOut w w1 b 151 v->∃v' w2,(∀ty,(Builtin.append_ #[23,9] ty #[v,.string s]).run Tryz.prog w1=.ok v' w2)/\RowOut w1 w2 5 1 v v' (n+s.size) (xs++Lib.strCells s):=λw1 hc=>Bng w1 Tryz.underlying23 Tryz.underlying9 (i:=Tryz.t5) κ κ κ κ (Aa0 hown λg hg=>hc.rest g (λe=>hne (by rw[<-e];exact hg))) s h63;clear hb ha hown
 go_enter Tryz.func49,Tryz.ntmps49
 go_wp2_with (go_at_call 81;refine hcc.mono ?_)
 rintro e w1 ⟨rfl,hc⟩;obtain⟨v',w2,hr,ho⟩:=key w1 hc;have hout:=Bai hbw hc hne ho;have hb1:b<w1.heap.size:=by rw[hc.size];exact hbw
 have h2:w2.heap[b]?=A (.cells #[.pointer (A ⟨b,0,B⟩),v] 151 (0,0)):=by rw[ho.grow.block b hb1 (λe=>hne e.symm)];exact hc.cel
 have c1:w1.cell? ⟨b,1,B⟩=A v:=by rw[d8_ w1 b 1 _ 151 (0,0) hc.cel];rfl
 have d1:w2.cell? ⟨b,1,B⟩=A v:=by rw[d8_ w2 b 1 _ 151 (0,0) h2];rfl
 have f1:w2.frozen? ⟨b,1,B⟩=false:=by simp[World.frozen?,h2]
 obtain⟨ao,n',cap,hv'⟩:∃ao n' cap,v'=.slice ao n' cap:=by
  rcases ho.row.2 with⟨hv,_⟩|⟨g,cap,cur,hv,_⟩
  .exact⟨_,_,_,hv⟩
  .exact⟨_,_,_,hv⟩
 subst hv';have hO:Hid (∃v',BldOut w (w2.setCell ⟨b,1,B⟩ (.slice ao n' cap)) b 151 5 (.pointer (A ⟨b,0,B⟩)) v v' (n+s.size) (xs++Lib.strCells s)):=⟨_,hout⟩
 clear hout ho h2 hc key hcc hb1 hbw hne
 go_wp2_with (at_builtin;refine Lib.wpList_append_run _ rfl _ _ _ _ rfl _ _ rfl rfl _ _ (hr _) ?_)
 go_ret2
 exact⟨rfl,hO.out⟩
theorem Ayh(b:Nat)(w:World)(a0:Value)(g cap:Nat)(cur:Array Value)(l:List UInt8)(h0:l≠[])(hb:w.heap[b]?=A (.cells #[a0,.slice (A ⟨g,0,B⟩) l.length cap] 151 (0,0)))(hg:w.heap[g]?=A (.cells cur 5 (0,0)))(hn:l.length<=cur.size)(hcap:l.length<=cap)(h63:l.length<=9223372036854775807)
  (hcell:∀(j:Nat) (x:UInt8),l[j]?=A x->cur[j]?=A (Value.int .u8 x.toNat)) :
  Calls Tryz.prog 51 #[.pointer (A ⟨b,0,B⟩)] w λe w'=>e=.returned (.string ⟨l.toArray⟩)/\w'=w.drew.freeze ⟨g,0,B⟩ l.length:=by
 have hl0:l.length≠0:=by simpa using h0
 have c1:w.drew.cell? ⟨b,1,B⟩=A (.slice (A ⟨g,0,B⟩) l.length cap):=by rw[d8_ w.drew b 1 _ 151 (0,0) hb];rfl
 have hSD:(Builtin.unsafeSliceData_ #[23] 206 #[.slice (A ⟨g,0,B⟩) l.length cap]).run Tryz.prog w.drew=.ok (.pointer (A ⟨g,0,B⟩)) w.drew:=Lib.run_unsafeSliceData_row _ _ _ _ _ _ ω;have hUS:(Builtin.unsafeString_ #[206,3] 9 #[.pointer (A ⟨g,0,B⟩),.int .i64 l.length]).run Tryz.prog w.drew=.ok (.string ⟨l.toArray⟩) (w.drew.freeze ⟨g,0,B⟩ l.length):=by refine Lib.run_unsafeString_row w.drew 206 3 9 5 Tryz.underlying206 κ g cur.size (by have hg':w.drew.heap[g]?=A (.cells cur 5 (0,0)):=hg;simp[World.shape?,hg']) l h0 hn h63 ?_;intro j x hx;rw[Ho,m_,d8_ w.drew g j cur 5 (0,0) hg];exact hcell j x hx
 have mixed:Tryz.prog.follows .mixedOrders=true:=κ;clear hcell hb hg
 go_enter Tryz.func51,Tryz.ntmps51
 go_wp2
 go_region_o
 all_goals(go_wp2;go_ret;exact⟨rfl,rfl⟩)
theorem Apg:PN Tryz.prog 159 3 1 Tryz.t3:=Uf Tryz.underlying32 (te:=Tryz.t3) κ (z:=1) rfl τ rfl rfl Tryz.func159 Tryz.ntmps159 κ
theorem As6:PO Tryz.prog 159:=Ue Tryz.underlying32 Tryz.func159 Tryz.ntmps159
theorem Aph:PN Tryz.prog 160 4 1 Tryz.t4:=Uf Tryz.underlying33 (te:=Tryz.t4) κ (z:=1) rfl τ rfl rfl Tryz.func160 Tryz.ntmps160 κ
theorem As7:PO Tryz.prog 160:=Ue Tryz.underlying33 Tryz.func160 Tryz.ntmps160
theorem Api:PN Tryz.prog 161 68 5 Tryz.t68:=Uf Tryz.underlying34 (te:=Tryz.t68) κ (z:=5) rfl τ rfl rfl Tryz.func161 Tryz.ntmps161 κ
theorem As8:PO Tryz.prog 161:=Ue Tryz.underlying34 Tryz.func161 Tryz.ntmps161
theorem Atb:PN Tryz.prog 65 88 9 Tryz.t88:=Uf Tryz.underlying47 (te:=Tryz.t88) κ (z:=9) rfl τ rfl rfl Tryz.func65 Tryz.ntmps65 κ
theorem Awt:PO Tryz.prog 65:=Ue Tryz.underlying47 Tryz.func65 Tryz.ntmps65
theorem Atc:PN Tryz.prog 66 90 6 Tryz.t90:=Uf Tryz.underlying48 (te:=Tryz.t90) κ (z:=6) rfl τ rfl rfl Tryz.func66 Tryz.ntmps66 κ
theorem Awu:PO Tryz.prog 66:=Ue Tryz.underlying48 Tryz.func66 Tryz.ntmps66
theorem Apc:PN Tryz.prog 154 130 41 Tryz.t130:=Uf Tryz.underlying40 (te:=Tryz.t130) κ (z:=41) rfl τ rfl rfl Tryz.func154 Tryz.ntmps154 κ
theorem As2:PO Tryz.prog 154:=Ue Tryz.underlying40 Tryz.func154 Tryz.ntmps154
theorem Ape:PN Tryz.prog 156 142 14 Tryz.t142:=Uf Tryz.underlying42 (te:=Tryz.t142) κ (z:=14) rfl τ rfl rfl Tryz.func156 Tryz.ntmps156 κ
theorem As4:PO Tryz.prog 156:=Ue Tryz.underlying42 Tryz.func156 Tryz.ntmps156
theorem Apf:PN Tryz.prog 157 144 1 Tryz.t144:=Uf Tryz.underlying43 (te:=Tryz.t144) κ (z:=1) rfl τ rfl rfl Tryz.func157 Tryz.ntmps157 κ
theorem As5:PO Tryz.prog 157:=Ue Tryz.underlying43 Tryz.func157 Tryz.ntmps157
theorem Apj:PN Tryz.prog 162 66 2 Tryz.t66:=Uf Tryz.underlying44 (te:=Tryz.t66) κ (z:=2) rfl τ rfl rfl Tryz.func162 Tryz.ntmps162 κ
theorem As9:PO Tryz.prog 162:=Ue Tryz.underlying44 Tryz.func162 Tryz.ntmps162
theorem Apd:PN Tryz.prog 155 134 6 Tryz.t134:=Uf Tryz.underlying41 (te:=Tryz.t134) κ (z:=6) rfl τ rfl rfl Tryz.func155 Tryz.ntmps155 κ
theorem As3:PO Tryz.prog 155:=Ue Tryz.underlying41 Tryz.func155 Tryz.ntmps155
theorem Apk:PN Tryz.prog 163 191 3 Tryz.t191:=Uf Tryz.underlying132 (te:=Tryz.t191) κ (z:=3) rfl τ rfl rfl Tryz.func163 Tryz.ntmps163 κ
theorem Ata:PO Tryz.prog 163:=Ue Tryz.underlying132 Tryz.func163 Tryz.ntmps163
theorem Ad8:Bdm Tryz.prog 336 3 1:=Auj Tryz.underlying32 (te:=Tryz.t3) κ (z:=1) rfl τ ⟨_,Tryz.zeroValue3,rfl,κ⟩ Tryz.func336 Tryz.ntmps336 κ
theorem Aep:Avo Tryz.prog 337 3 1:=Ajq (o:=369) Tryz.underlying32 (t:=3) Tryz.underlying3 (te:=Tryz.t3) κ rfl (C_ κ) τ ⟨_,rfl,rfl⟩ (bt:=4) Tryz.func369 κ κ κ κ Tryz.sizeOf3 Tryz.func337 Tryz.ntmps337 κ
theorem Aeo:Avo Tryz.prog 301 191 3:=Ajq (o:=346) Tryz.underlying132 (t:=3) Tryz.underlying3 (te:=Tryz.t191) κ rfl (C_ κ) τ ⟨_,rfl,rfl⟩ (bt:=4) Tryz.func346 κ κ κ κ Tryz.sizeOf191 Tryz.func301 Tryz.ntmps301 κ
end Go.Ovl
