/- What functions of Go's library do, by hand. -/
import Derived.Test.YtfkphlpmkolemaaGreatDoorChecked
import Derived.Test.YtfkphlpmkolemaaGreatDoorAbH
set_option linter.all false
open Option renaming some->A,none->B
namespace Go.Ovl
open Go Go.Ab Go.Proofs Go.RowKit Go.Lib
set_option maxHeartbeats 4000000
set_option maxRecDepth 100000
theorem Anh:SE Tryz.prog 48 3 1 Tryz.t3:=VN Tryz.underlying29 (te:=Tryz.t3) κ (z:=1) rfl (by decide) rfl rfl Tryz.func48 Tryz.ntmps48 κ
theorem Arf:SF Tryz.prog 48:=VM Tryz.underlying29 Tryz.func48 Tryz.ntmps48
theorem Ani:SE Tryz.prog 49 4 1 Tryz.t4:=VN Tryz.underlying30 (te:=Tryz.t4) κ (z:=1) rfl (by decide) rfl rfl Tryz.func49 Tryz.ntmps49 κ
theorem Arg:SF Tryz.prog 49:=VM Tryz.underlying30 Tryz.func49 Tryz.ntmps49
theorem Anj:SE Tryz.prog 50 140 5 Tryz.t140:=VN Tryz.underlying31 (te:=Tryz.t140) κ (z:=5) rfl (by decide) rfl rfl Tryz.func50 Tryz.ntmps50 κ
theorem Arh:SF Tryz.prog 50:=VM Tryz.underlying31 Tryz.func50 Tryz.ntmps50
theorem Ank:SE Tryz.prog 51 87 41 Tryz.t87:=VN Tryz.underlying37 (te:=Tryz.t87) κ (z:=41) rfl (by decide) rfl rfl Tryz.func51 Tryz.ntmps51 κ
theorem Ari:SF Tryz.prog 51:=VM Tryz.underlying37 Tryz.func51 Tryz.ntmps51
theorem Anl:SE Tryz.prog 52 99 14 Tryz.t99:=VN Tryz.underlying39 (te:=Tryz.t99) κ (z:=14) rfl (by decide) rfl rfl Tryz.func52 Tryz.ntmps52 κ
theorem Arj:SF Tryz.prog 52:=VM Tryz.underlying39 Tryz.func52 Tryz.ntmps52
theorem Anm:SE Tryz.prog 53 101 1 Tryz.t101:=VN Tryz.underlying40 (te:=Tryz.t101) κ (z:=1) rfl (by decide) rfl rfl Tryz.func53 Tryz.ntmps53 κ
theorem Ark:SF Tryz.prog 53:=VM Tryz.underlying40 Tryz.func53 Tryz.ntmps53
theorem Ann:SE Tryz.prog 54 66 2 Tryz.t66:=VN Tryz.underlying41 (te:=Tryz.t66) κ (z:=2) rfl (by decide) rfl rfl Tryz.func54 Tryz.ntmps54 κ
theorem Arl:SF Tryz.prog 54:=VM Tryz.underlying41 Tryz.func54 Tryz.ntmps54
theorem Ano:SE Tryz.prog 55 91 6 Tryz.t91:=VN Tryz.underlying38 (te:=Tryz.t91) κ (z:=6) rfl (by decide) rfl rfl Tryz.func55 Tryz.ntmps55 κ
theorem Arm:SF Tryz.prog 55:=VM Tryz.underlying38 Tryz.func55 Tryz.ntmps55
theorem Anp:SE Tryz.prog 56 148 3 Tryz.t148:=VN Tryz.underlying89 (te:=Tryz.t148) κ (z:=3) rfl (by decide) rfl rfl Tryz.func56 Tryz.ntmps56 κ
theorem Arn:SF Tryz.prog 56:=VM Tryz.underlying89 Tryz.func56 Tryz.ntmps56
theorem Aas:Aqh Tryz.prog 273 140 5:=Afe (o:=299) Tryz.underlying31 (t:=3) Tryz.underlying3 (te:=Tryz.t140) κ rfl (B_ κ) (by decide) ⟨_,rfl,rfl⟩ (bt:=4) Tryz.func299 κ κ κ κ Tryz.sizeOf140 Tryz.func273 Tryz.ntmps273 κ
theorem Aab:Az1 Tryz.prog 274 140 5:=Apa Tryz.underlying31 (te:=Tryz.t140) κ (z:=5) rfl (by decide) ⟨_,Tryz.zeroValue140,rfl,κ⟩ Tryz.func274 Tryz.ntmps274 κ
theorem Anf(b:Nat)(w:World)(h0:w.cell? ⟨b,0,B⟩=A (.pointer (A ⟨b,0,B⟩))) :
  Calls Tryz.prog 278 #[.pointer (A ⟨b,0,B⟩)] w λe w'=>e=.returned (.tuple #[])∧w'=w:=by
 go_enter Tryz.func278,Tryz.ntmps278
 go_wp2
 rw[Lib.run_neq_ptr_same w _ Tryz.underlying344 (show Tryz.prog.info? 346=A Tryz.t346 by kernel_rfl)]
 go_wp2
 go_end0
 exact⟨rfl,rfl⟩
theorem Akg(b:Nat)(w:World)(h0:w.cell? ⟨b,0,B⟩=A (.pointer B))(hsh:w.shape? b=A (346,2))(hfz:w.frozen? ⟨b,0,B⟩=false) :
  Calls Tryz.prog 278 #[.pointer (A ⟨b,0,B⟩)] w λe w'=>e=.returned (.tuple #[])∧w'=w.setCell ⟨b,0,B⟩ (.pointer (A ⟨b,0,B⟩)):=by
 have hj:Tryz.prog.info? 346=A Tryz.t346:=κ
 go_enter Tryz.func278,Tryz.ntmps278
 go_wp2
 rw[Lib.run_to_unsafe w ⟨b,0,B⟩ Tryz.underlying344 Tryz.underlying394 hj (by decide) hsh (Nat.zero_lt_succ 1)]
 simp only[Result.andThen];rw[Oper.upon_value]
 go_wp2
 rw[run_callFunc_extern Tryz.func301 κ κ κ (e:=Extern.AbiNoEscape.same) κ]
 rw[Lib.run_noEscape];simp only[Result.andThen];rw[Oper.upon_value]
 go_wp2
 rw[Lib.run_from_unsafe w ⟨b,0,B⟩ Tryz.underlying394 Tryz.underlying344 hj hsh κ]
 simp only[Result.andThen];rw[Oper.upon_value]
 go_wp2
 go_end0
 exact⟨rfl,rfl⟩
theorem Ang(b:Nat)(w:World)(a0 v:Value)(ha:a0=.pointer B∨a0=.pointer (A ⟨b,0,B⟩))(hb:w.heap[b]?=A (.cells #[a0,v] 346 (0,0))) :
  Calls Tryz.prog 278 #[.pointer (A ⟨b,0,B⟩)] w λe w1=>e=.returned (.tuple #[])∧CcOut w w1 b 346 v:=by
 have h0:w.cell? ⟨b,0,B⟩=A a0:=by rw[e4_ w b 0 _ 346 (0,0) hb];rfl
 rcases ha with rfl | rfl
 ·refine(Akg b w h0 (by simp[World.shape?,hb]) (by simp[World.frozen?,hb])).mono ?_
  rintro e w1 ⟨rfl,rfl⟩;exact⟨rfl,by rw[Go.Ab.setCell_heap hb];rfl,λk hk=>Go.Ab.setCell_other hk,Go.Ab.setCell_size,rfl,rfl,rfl⟩
 ·refine(Anf b w h0).mono ?_
  rintro e w1 ⟨rfl,rfl⟩;exact⟨rfl,hb,λ_ _=>rfl,rfl,rfl,rfl,rfl⟩
theorem Aot(b:Nat)(w:World)(a0 v:Value)(ha:a0=.pointer B∨a0=.pointer (A ⟨b,0,B⟩))(hb:w.heap[b]?=A (.cells #[a0,v] 346 (0,0)))(n:Nat)(xs:List Value)(hown:w.ownsRow 0 5 1 v n xs)(hne:v.ownBlock≠A b)(s:ByteArray)(h63:n+s.size≤2147483648) :
  Calls Tryz.prog 249 #[.pointer (A ⟨b,0,B⟩),.string s] w λe w'=>e=.returned (.tuple #[.int .i64 s.size,.nilIface])∧∃v',BldOut w w' b 346 5 (.pointer (A ⟨b,0,B⟩)) v v' (n+s.size) (xs++Lib.strCells s):=by
 have hbw:b<w.heap.size:=(J_.1 hb).1;have hcc:=Ang b w a0 v ha hb
 have key:∀w1,CcOut w w1 b 346 v→∃v' w2,(∀ty,(Builtin.append_ #[23,9] ty #[v,.string s]).run Tryz.prog w1=.ok v' w2)∧RowOut w1 w2 5 1 v v' (n+s.size) (xs++Lib.strCells s):=λw1 hc=>
  Bkf w1 Tryz.underlying23 Tryz.underlying9 (i:=Tryz.t5) κ κ κ κ (Yb hown λg hg=>hc.rest g (λe=>hne (by rw[← e];exact hg))) s h63
 clear hb ha hown
 go_enter Tryz.func249,Tryz.ntmps249
 go_wp2_with (go_at_call 278;refine hcc.mono ?_)
 rintro e w1 ⟨rfl,hc⟩;obtain⟨v',w2,hr,ho⟩:=key w1 hc;have hout:=Axh hbw hc hne ho;have hb1:b<w1.heap.size:=by rw[hc.size];exact hbw
 have h2:w2.heap[b]?=A (.cells #[.pointer (A ⟨b,0,B⟩),v] 346 (0,0)):=by rw[ho.grow.block b hb1 (λe=>hne e.symm)];exact hc.cel
 have c1:w1.cell? ⟨b,1,B⟩=A v:=by rw[e4_ w1 b 1 _ 346 (0,0) hc.cel];rfl
 have d1:w2.cell? ⟨b,1,B⟩=A v:=by rw[e4_ w2 b 1 _ 346 (0,0) h2];rfl
 have f1:w2.frozen? ⟨b,1,B⟩=false:=by simp[World.frozen?,h2]
 obtain⟨ao,n',cap,hv'⟩:∃ao n' cap,v'=.slice ao n' cap:=by
  rcases ho.row.2 with⟨hv,_⟩ | ⟨g,cap,cur,hv,_⟩
  ·exact⟨_,_,_,hv⟩
  ·exact⟨_,_,_,hv⟩
 subst hv';have hO:Hid (∃v',BldOut w (w2.setCell ⟨b,1,B⟩ (.slice ao n' cap)) b 346 5 (.pointer (A ⟨b,0,B⟩)) v v' (n+s.size) (xs++Lib.strCells s)):=⟨_,hout⟩
 clear hout ho h2 hc key hcc hb1 hbw hne
 go_wp2_with (at_builtin;refine Lib.wpList_append_run _ rfl _ _ _ _ rfl _ _ rfl rfl _ _ (hr _) ?_)
 go_ret2
 exact⟨rfl,hO.out⟩
theorem Aop(b:Nat)(w:World)(a0:Value)(g cap:Nat)(cur:Array Value)(l:List UInt8)(h0:l≠[])(hb:w.heap[b]?=A (.cells #[a0,.slice (A ⟨g,0,B⟩) l.length cap] 346 (0,0)))(hg:w.heap[g]?=A (.cells cur 5 (0,0)))(hn:l.length≤cur.size)(hcap:l.length≤cap)(h63:l.length≤9223372036854775807)
  (hcell:∀(j:Nat) (x:UInt8),l[j]?=A x→cur[j]?=A (Value.int .u8 x.toNat)) :
  Calls Tryz.prog 251 #[.pointer (A ⟨b,0,B⟩)] w λe w'=>e=.returned (.string ⟨l.toArray⟩)∧w'=w.drew.freeze ⟨g,0,B⟩ l.length:=by
 have hl0:l.length≠0:=by simpa using h0
 have c1:w.drew.cell? ⟨b,1,B⟩=A (.slice (A ⟨g,0,B⟩) l.length cap):=by
  rw[e4_ w.drew b 1 _ 346 (0,0) hb];rfl
 have hSD:(Builtin.unsafeSliceData_ #[23] 376 #[.slice (A ⟨g,0,B⟩) l.length cap]).run Tryz.prog w.drew=.ok (.pointer (A ⟨g,0,B⟩)) w.drew:=
  Lib.run_unsafeSliceData_row _ _ _ _ _ _ ω
 have hUS:(Builtin.unsafeString_ #[376,3] 9 #[.pointer (A ⟨g,0,B⟩),.int .i64 l.length]).run Tryz.prog w.drew=.ok (.string ⟨l.toArray⟩) (w.drew.freeze ⟨g,0,B⟩ l.length):=by
  refine Lib.run_unsafeString_row w.drew 376 3 9 5 Tryz.underlying376 κ g cur.size (by have hg':w.drew.heap[g]?=A (.cells cur 5 (0,0)):=hg;simp[World.shape?,hg']) l h0 hn h63 ?_
  intro j x hx;rw[Hc,p_,e4_ w.drew g j cur 5 (0,0) hg];exact hcell j x hx
 have mixed:Tryz.prog.follows .mixedOrders=true:=κ
 clear hcell hb hg
 go_enter Tryz.func251,Tryz.ntmps251
 go_wp2
 go_region_o
 all_goals(go_wp2;go_ret;exact⟨rfl,rfl⟩)
theorem Aaa:Az1 Tryz.prog 218 3 1:=Apa Tryz.underlying29 (te:=Tryz.t3) κ (z:=1) rfl (by decide) ⟨_,Tryz.zeroValue3,rfl,κ⟩ Tryz.func218 Tryz.ntmps218 κ
theorem Aar:Aqh Tryz.prog 219 3 1:=Afe (o:=259) Tryz.underlying29 (t:=3) Tryz.underlying3 (te:=Tryz.t3) κ rfl (B_ κ) (by decide) ⟨_,rfl,rfl⟩ (bt:=4) Tryz.func259 κ κ κ κ Tryz.sizeOf3 Tryz.func219 Tryz.ntmps219 κ
theorem Aaq:Aqh Tryz.prog 182 148 3:=Afe (o:=230) Tryz.underlying89 (t:=3) Tryz.underlying3 (te:=Tryz.t148) κ rfl (B_ κ) (by decide) ⟨_,rfl,rfl⟩ (bt:=4) Tryz.func230 κ κ κ κ Tryz.sizeOf148 Tryz.func182 Tryz.ntmps182 κ
end Go.Ovl
