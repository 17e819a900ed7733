import Derived.Test.YtgjkjlidboolgaaGreatDoorChecked
import Derived.Test.YtgjkjlidboolgaaGreatDoorAbH
set_option linter.all false
open Option renaming none->A,some->B
namespace Go.Ovl
open Go Go.Ab Go.Proofs Go.RowKit Go.Lib
set_option maxHeartbeats 4000000
set_option maxRecDepth 100000
theorem Ada:Atc Tryz.prog 136 115 5:=Ah0 (o:=168) Tryz.underlying31 (t:=3) Tryz.underlying3 (te:=Tryz.t115) κ rfl (D_ κ) τ ⟨_,rfl,rfl⟩ (bt:=4) Tryz.func168 κ κ κ κ Tryz.sizeOf115 Tryz.func136 Tryz.ntmps136 κ
theorem Acz:Bdn Tryz.prog 137 115 5:=Asa Tryz.underlying31 (te:=Tryz.t115) κ (z:=5) rfl τ ⟨_,Tryz.zeroValue115,rfl,κ⟩ Tryz.func137 Tryz.ntmps137 κ
theorem Aqj(b:Nat)(w:World)(h0:w.cell? ⟨b,0,A⟩=B (.pointer (B ⟨b,0,A⟩))) :
  Calls Tryz.prog 216 #[.pointer (B ⟨b,0,A⟩)] w λe w'=>e=.returned (.tuple #[])/\w'=w:=by
 go_enter Tryz.func216,Tryz.ntmps216
 go_wp2
 rw[Lib.run_neq_ptr_same w _ Tryz.underlying273 (show Tryz.prog.info? 275=B Tryz.t275 by kernel_rfl)]
 go_wp2
 go_end0
 exact⟨rfl,rfl⟩
theorem Amz(b:Nat)(w:World)(h0:w.cell? ⟨b,0,A⟩=B (.pointer A))(hsh:w.shape? b=B (275,2))(hfz:w.frozen? ⟨b,0,A⟩=false) :
  Calls Tryz.prog 216 #[.pointer (B ⟨b,0,A⟩)] w λe w'=>e=.returned (.tuple #[])/\w'=w.setCell ⟨b,0,A⟩ (.pointer (B ⟨b,0,A⟩)):=by
 have hj:Tryz.prog.info? 275=B Tryz.t275:=κ
 go_enter Tryz.func216,Tryz.ntmps216
 go_wp2
 rw[Lib.run_to_unsafe w ⟨b,0,A⟩ Tryz.underlying273 Tryz.underlying381 hj τ hsh (Nat.zero_lt_succ 1)];simp only[Result.andThen];rw[Oper.upon_value]
 go_wp2
 rw[run_callFunc_extern Tryz.func257 κ κ κ (e:=Extern.AbiNoEscape.same) κ];rw[Lib.run_noEscape];simp only[Result.andThen];rw[Oper.upon_value]
 go_wp2
 rw[Lib.run_from_unsafe w ⟨b,0,A⟩ Tryz.underlying381 Tryz.underlying273 hj hsh κ];simp only[Result.andThen];rw[Oper.upon_value]
 go_wp2
 go_end0
 exact⟨rfl,rfl⟩
theorem Aqk(b:Nat)(w:World)(a0 v:Value)(ha:a0=.pointer A\/a0=.pointer (B ⟨b,0,A⟩))(hb:w.heap[b]?=B (.cells #[a0,v] 275 (0,0))) :
  Calls Tryz.prog 216 #[.pointer (B ⟨b,0,A⟩)] w λe w1=>e=.returned (.tuple #[])/\CcOut w w1 b 275 v:=by
 have h0:w.cell? ⟨b,0,A⟩=B a0:=by rw[e4_ w b 0 _ 275 (0,0) hb];rfl
 rcases ha with rfl|rfl
 .refine(Amz b w h0 (by simp[World.shape?,hb]) (by simp[World.frozen?,hb])).mono ?_;rintro e w1 ⟨rfl,rfl⟩;exact⟨rfl,by rw[Go.Ab.setCell_heap hb];rfl,λk hk=>Go.Ab.setCell_other hk,Go.Ab.setCell_size,rfl,rfl,rfl⟩
 .refine(Aqj b w h0).mono ?_;rintro e w1 ⟨rfl,rfl⟩;exact⟨rfl,hb,λ_ _=>rfl,rfl,rfl,rfl,rfl⟩
theorem Art(b:Nat)(w:World)(a0 v:Value)(ha:a0=.pointer A\/a0=.pointer (B ⟨b,0,A⟩))(hb:w.heap[b]?=B (.cells #[a0,v] 275 (0,0)))(n:Nat)(xs:List Value)(hown:w.ownsRow 0 5 1 v n xs)(hne:v.ownBlock≠B b)(s:ByteArray)(h63:n+s.size<=2147483648) :
  Calls Tryz.prog 172 #[.pointer (B ⟨b,0,A⟩),.string s] w λe w'=>e=.returned (.tuple #[.int .i64 s.size,.nilIface])/\∃v',BldOut w w' b 275 5 (.pointer (B ⟨b,0,A⟩)) v v' (n+s.size) (xs++Lib.strCells s):=by
 have hbw:b<w.heap.size:=(K_.1 hb).1;have hcc:=Aqk b w a0 v ha hb;have key:∀w1,CcOut w w1 b 275 v->∃v' w2,(∀ty,(Builtin.append_ #[23,9] ty #[v,.string s]).run Tryz.prog w1=.ok v' w2)/\RowOut w1 w2 5 1 v v' (n+s.size) (xs++Lib.strCells s):=λw1 hc=>Bom w1 Tryz.underlying23 Tryz.underlying9 (i:=Tryz.t5) κ κ κ κ (ZT hown λg hg=>hc.rest g (λe=>hne (by rw[<-e];exact hg))) s h63;clear hb ha hown
 go_enter Tryz.func172,Tryz.ntmps172
 go_wp2_with (go_at_call 216;refine hcc.mono ?_)
 rintro e w1 ⟨rfl,hc⟩;obtain⟨v',w2,hr,ho⟩:=key w1 hc;have hout:=Bau hbw hc hne ho;have hb1:b<w1.heap.size:=by rw[hc.size];exact hbw
 have h2:w2.heap[b]?=B (.cells #[.pointer (B ⟨b,0,A⟩),v] 275 (0,0)):=by rw[ho.grow.block b hb1 (λe=>hne e.symm)];exact hc.cel
 have c1:w1.cell? ⟨b,1,A⟩=B v:=by rw[e4_ w1 b 1 _ 275 (0,0) hc.cel];rfl
 have d1:w2.cell? ⟨b,1,A⟩=B v:=by rw[e4_ w2 b 1 _ 275 (0,0) h2];rfl
 have f1:w2.frozen? ⟨b,1,A⟩=false:=by simp[World.frozen?,h2]
 obtain⟨ao,n',cap,hv'⟩:∃ao n' cap,v'=.slice ao n' cap:=by
  rcases ho.row.2 with⟨hv,_⟩|⟨g,cap,cur,hv,_⟩
  .exact⟨_,_,_,hv⟩
  .exact⟨_,_,_,hv⟩
 subst hv';have hO:Hid (∃v',BldOut w (w2.setCell ⟨b,1,A⟩ (.slice ao n' cap)) b 275 5 (.pointer (B ⟨b,0,A⟩)) v v' (n+s.size) (xs++Lib.strCells s)):=⟨_,hout⟩
 clear hout ho h2 hc key hcc hb1 hbw hne
 go_wp2_with (at_builtin;refine Lib.wpList_append_run _ rfl _ _ _ _ rfl _ _ rfl rfl _ _ (hr _) ?_)
 go_ret2
 exact⟨rfl,hO.out⟩
theorem Aro(b:Nat)(w:World)(a0:Value)(g cap:Nat)(cur:Array Value)(l:List UInt8)(h0:l≠[])(hb:w.heap[b]?=B (.cells #[a0,.slice (B ⟨g,0,A⟩) l.length cap] 275 (0,0)))(hg:w.heap[g]?=B (.cells cur 5 (0,0)))(hn:l.length<=cur.size)(hcap:l.length<=cap)(h63:l.length<=9223372036854775807)
  (hcell:∀(j:Nat) (x:UInt8),l[j]?=B x->cur[j]?=B (Value.int .u8 x.toNat)) :
  Calls Tryz.prog 175 #[.pointer (B ⟨b,0,A⟩)] w λe w'=>e=.returned (.string ⟨l.toArray⟩)/\w'=w.drew.freeze ⟨g,0,A⟩ l.length:=by
 have hl0:l.length≠0:=by simpa using h0
 have c1:w.drew.cell? ⟨b,1,A⟩=B (.slice (B ⟨g,0,A⟩) l.length cap):=by rw[e4_ w.drew b 1 _ 275 (0,0) hb];rfl
 have hSD:(Builtin.unsafeSliceData_ #[23] 331 #[.slice (B ⟨g,0,A⟩) l.length cap]).run Tryz.prog w.drew=.ok (.pointer (B ⟨g,0,A⟩)) w.drew:=Lib.run_unsafeSliceData_row _ _ _ _ _ _ ω;have hUS:(Builtin.unsafeString_ #[331,3] 9 #[.pointer (B ⟨g,0,A⟩),.int .i64 l.length]).run Tryz.prog w.drew=.ok (.string ⟨l.toArray⟩) (w.drew.freeze ⟨g,0,A⟩ l.length):=by refine Lib.run_unsafeString_row w.drew 331 3 9 5 Tryz.underlying331 κ g cur.size (by have hg':w.drew.heap[g]?=B (.cells cur 5 (0,0)):=hg;simp[World.shape?,hg']) l h0 hn h63 ?_;intro j x hx;rw[Ip,o_,e4_ w.drew g j cur 5 (0,0) hg];exact hcell j x hx
 have mixed:Tryz.prog.follows .mixedOrders=true:=κ;clear hcell hb hg
 go_enter Tryz.func175,Tryz.ntmps175
 go_wp2
 go_region_o
 all_goals(go_wp2;go_ret;exact⟨rfl,rfl⟩)
theorem Am6:QR Tryz.prog 122 3 1 Tryz.t3:=Uo Tryz.underlying29 (te:=Tryz.t3) κ (z:=1) rfl τ rfl rfl Tryz.func122 Tryz.ntmps122 κ
theorem Aqp:QS Tryz.prog 122:=Um Tryz.underlying29 Tryz.func122 Tryz.ntmps122
theorem Am7:QR Tryz.prog 123 4 1 Tryz.t4:=Uo Tryz.underlying30 (te:=Tryz.t4) κ (z:=1) rfl τ rfl rfl Tryz.func123 Tryz.ntmps123 κ
theorem Aqq:QS Tryz.prog 123:=Um Tryz.underlying30 Tryz.func123 Tryz.ntmps123
theorem Am8:QR Tryz.prog 124 115 5 Tryz.t115:=Uo Tryz.underlying31 (te:=Tryz.t115) κ (z:=5) rfl τ rfl rfl Tryz.func124 Tryz.ntmps124 κ
theorem Aqr:QS Tryz.prog 124:=Um Tryz.underlying31 Tryz.func124 Tryz.ntmps124
theorem Aqu:QR Tryz.prog 24 79 9 Tryz.t79:=Uo Tryz.underlying44 (te:=Tryz.t79) κ (z:=9) rfl τ rfl rfl Tryz.func24 Tryz.ntmps24 κ
theorem Auj:QS Tryz.prog 24:=Um Tryz.underlying44 Tryz.func24 Tryz.ntmps24
theorem Aqv:QR Tryz.prog 25 82 6 Tryz.t82:=Uo Tryz.underlying45 (te:=Tryz.t82) κ (z:=6) rfl τ rfl rfl Tryz.func25 Tryz.ntmps25 κ
theorem Auk:QS Tryz.prog 25:=Um Tryz.underlying45 Tryz.func25 Tryz.ntmps25
theorem Am2:QR Tryz.prog 117 193 41 Tryz.t193:=Uo Tryz.underlying37 (te:=Tryz.t193) κ (z:=41) rfl τ rfl rfl Tryz.func117 Tryz.ntmps117 κ
theorem Aql:QS Tryz.prog 117:=Um Tryz.underlying37 Tryz.func117 Tryz.ntmps117
theorem Am4:QR Tryz.prog 119 209 14 Tryz.t209:=Uo Tryz.underlying39 (te:=Tryz.t209) κ (z:=14) rfl τ rfl rfl Tryz.func119 Tryz.ntmps119 κ
theorem Aqn:QS Tryz.prog 119:=Um Tryz.underlying39 Tryz.func119 Tryz.ntmps119
theorem Am5:QR Tryz.prog 120 214 1 Tryz.t214:=Uo Tryz.underlying40 (te:=Tryz.t214) κ (z:=1) rfl τ rfl rfl Tryz.func120 Tryz.ntmps120 κ
theorem Aqo:QS Tryz.prog 120:=Um Tryz.underlying40 Tryz.func120 Tryz.ntmps120
theorem Am9:QR Tryz.prog 125 53 2 Tryz.t53:=Uo Tryz.underlying41 (te:=Tryz.t53) κ (z:=2) rfl τ rfl rfl Tryz.func125 Tryz.ntmps125 κ
theorem Aqs:QS Tryz.prog 125:=Um Tryz.underlying41 Tryz.func125 Tryz.ntmps125
theorem Am3:QR Tryz.prog 118 198 6 Tryz.t198:=Uo Tryz.underlying38 (te:=Tryz.t198) κ (z:=6) rfl τ rfl rfl Tryz.func118 Tryz.ntmps118 κ
theorem Aqm:QS Tryz.prog 118:=Um Tryz.underlying38 Tryz.func118 Tryz.ntmps118
theorem Ana:QR Tryz.prog 126 230 3 Tryz.t230:=Uo Tryz.underlying196 (te:=Tryz.t230) κ (z:=3) rfl τ rfl rfl Tryz.func126 Tryz.ntmps126 κ
theorem Aqt:QS Tryz.prog 126:=Um Tryz.underlying196 Tryz.func126 Tryz.ntmps126
theorem Ac0:Bdn Tryz.prog 281 3 1:=Asa Tryz.underlying29 (te:=Tryz.t3) κ (z:=1) rfl τ ⟨_,Tryz.zeroValue3,rfl,κ⟩ Tryz.func281 Tryz.ntmps281 κ
theorem Adc:Atc Tryz.prog 282 3 1:=Ah0 (o:=315) Tryz.underlying29 (t:=3) Tryz.underlying3 (te:=Tryz.t3) κ rfl (D_ κ) τ ⟨_,rfl,rfl⟩ (bt:=4) Tryz.func315 κ κ κ κ Tryz.sizeOf3 Tryz.func282 Tryz.ntmps282 κ
theorem Adb:Atc Tryz.prog 248 230 3:=Ah0 (o:=292) Tryz.underlying196 (t:=3) Tryz.underlying3 (te:=Tryz.t230) κ rfl (D_ κ) τ ⟨_,rfl,rfl⟩ (bt:=4) Tryz.func292 κ κ κ κ Tryz.sizeOf230 Tryz.func248 Tryz.ntmps248 κ
theorem Bkm(w:World)(v:Int):Calls Tryz.prog 163 #[.slice A 0 0,.int .i64 v] w λe w'=>e=.returned (.int .i64 (-1))/\w'=w:=by
 go_enter Tryz.func163,Tryz.ntmps163
 go_wp2
 refine wp_loop_rounds 1 ?_;rw[rounds_succ]
 go_wp2
 go_ret
 exact⟨rfl,rfl⟩
theorem Bkn(w:World)(b:Nat)(c:Nat)(x v:Int)(h0:w.cell? ⟨b,0,A⟩=B (.int .i64 x)):Calls Tryz.prog 163 #[.slice (B ⟨b,0,A⟩) 1 c,.int .i64 v] w λe w'=>e=.returned (.int .i64 (bif v==x then 0 else -1))/\w'=w:=by
 go_enter Tryz.func163,Tryz.ntmps163
 go_wp2
 refine wp_loop_rounds 2 ?_;rw[rounds_succ]
 go_wp2
 .rename_i h
  go_ret
  exact⟨by rw[h];rfl,rfl⟩
 .rename_i h;rw[rounds_succ]
  go_wp2
  go_ret
  exact⟨by rw[h];rfl,rfl⟩
theorem Bko(w:World)(b:Nat)(c:Nat)(x y v:Int)(h0:w.cell? ⟨b,0,A⟩=B (.int .i64 x))(h1:w.cell? ⟨b,1,A⟩=B (.int .i64 y)):Calls Tryz.prog 163 #[.slice (B ⟨b,0,A⟩) 2 c,.int .i64 v] w λe w'=>e=.returned (.int .i64 (bif v==x then 0 else bif v==y then 1 else -1))/\w'=w:=by
 go_enter Tryz.func163,Tryz.ntmps163
 go_wp2
 refine wp_loop_rounds 3 ?_;rw[rounds_succ]
 go_wp2
 .rename_i h
  go_ret
  exact⟨by rw[h];rfl,rfl⟩
 .rename_i h;rw[rounds_succ]
  go_wp2
  .rename_i h'
   go_ret
   exact⟨by rw[h,h'];rfl,rfl⟩
  .rename_i h';rw[rounds_succ]
   go_wp2
   go_ret
   exact⟨by rw[h,h'];rfl,rfl⟩
theorem Bj2(w:World)(v:Int):Calls Tryz.prog 133 #[.slice A 0 0,.int .i64 v] w λe w'=>e=.returned (.bool false)/\w'=w:=by
 go_enter Tryz.func133,Tryz.ntmps133
 go_wp2_with (go_at_call 163;refine(Bkm _ _).mono ?_;rintro e w' ⟨rfl,rfl⟩)
 go_ret
 exact⟨rfl,rfl⟩
theorem Ar5(w:World)(b:Nat)(c:Nat)(x v:Int)(h0:w.cell? ⟨b,0,A⟩=B (.int .i64 x)):Calls Tryz.prog 133 #[.slice (B ⟨b,0,A⟩) 1 c,.int .i64 v] w λe w'=>e=.returned (.bool (v==x))/\w'=w:=by
 go_enter Tryz.func133,Tryz.ntmps133
 go_wp2_with (go_at_call 163;refine(Bkn _ _ _ _ _ h0).mono ?_;rintro e w' ⟨rfl,rfl⟩)
 go_ret
 exact⟨by cases v==x<;>rfl,rfl⟩
theorem Ahd(w:World)(b:Nat)(c:Nat)(x y v:Int)(h0:w.cell? ⟨b,0,A⟩=B (.int .i64 x))(h1:w.cell? ⟨b,1,A⟩=B (.int .i64 y)):Calls Tryz.prog 133 #[.slice (B ⟨b,0,A⟩) 2 c,.int .i64 v] w λe w'=>e=.returned (.bool (v==x||v==y))/\w'=w:=by
 go_enter Tryz.func133,Tryz.ntmps133
 go_wp2_with (go_at_call 163;refine(Bko _ _ _ _ _ _ h0 h1).mono ?_;rintro e w' ⟨rfl,rfl⟩)
 go_ret
 exact⟨by cases v==x<;>cases v==y<;>rfl,rfl⟩
theorem Bbi(w:World)(x y:Int):Calls Tryz.prog 76 #[.int .i64 x,.int .i64 y] w λe w'=>e=.returned (.bool (Tj x y))/\Below w.heap.size w w':=by
 have hmm:=@run_makeMap Tryz.prog;have m1:=Tryz.underlying235;have m2:=Tryz.underlying3;have h0:=EM.made 3 w
 go_enter Tryz.func76,Tryz.ntmps76
 go_wp2
 obtain⟨W1,r1,h1⟩:=EM.ins m1 m2 h0 0 #[.int .i64 1] rfl;rw[show(w.alloc (.map #[] 0)).heap.size=w.heap.size+1 by simp]at r1
 erw[r1]
 simp only[Result.andThen];rw[Oper.upon_skip]
 go_wp2
 obtain⟨W2,r2,h2⟩:=EM.ins m1 m2 h1 1 #[.int .i64 0,.int .i64 2] rfl
 erw[r2]
 simp only[Result.andThen];rw[Oper.upon_skip]
 go_wp2
 obtain⟨W3,r3,h3⟩:=EM.ins m1 m2 h2 2 #[.int .i64 0,.int .i64 3] rfl
 erw[r3]
 simp only[Result.andThen];rw[Oper.upon_skip]
 go_wp2
 obtain⟨W4,r4,h4⟩:=EM.ins m1 m2 h3 3 #[.int .i64 2,.int .i64 4] rfl
 erw[r4]
 simp only[Result.andThen];rw[Oper.upon_skip]
 go_wp2
 obtain⟨W5,r5,h5⟩:=EM.ins m1 m2 h4 4 #[.int .i64 2] rfl
 erw[r5]
 simp only[Result.andThen];rw[Oper.upon_skip]
 go_wp2
 rw[EM.look m1 m2 (z:=.slice A 0 0) κ h5 x];simp only[Result.andThen];rw[Oper.upon_value];simp only[a4_,List.cons_append,Aa8];cases e0:x==0 with
 |true=>
  simp only[d_,orZ,Pr.val]
  go_wp2_with (go_at_call 133;refine(Ar5 _ _ _ _ _ (h5.cell (p:=⟨0,_,#[.int .i64 1]⟩) σ rfl)).mono ?_;rintro e w' ⟨rfl,rfl⟩)
  go_ret
  exact⟨by unfold Tj;rw[e0];rfl,h5.below⟩
 |false=>
  simp only[c_];cases e1:x==1 with
  |true=>
   simp only[d_,orZ,Pr.val]
   go_wp2_with (go_at_call 133;refine(Ahd _ _ _ _ _ _ (h5.cell (p:=⟨1,_,#[.int .i64 0,.int .i64 2]⟩) (i:=0) σ rfl) (h5.cell (p:=⟨1,_,#[.int .i64 0,.int .i64 2]⟩) (i:=1) σ rfl)).mono ?_;rintro e w' ⟨rfl,rfl⟩)
   go_ret
   exact⟨by unfold Tj;rw[e0,e1];rfl,h5.below⟩
  |false=>
   simp only[c_];cases e2:x==2 with
   |true=>
    simp only[d_,orZ,Pr.val]
    go_wp2_with (go_at_call 133;refine(Ahd _ _ _ _ _ _ (h5.cell (p:=⟨2,_,#[.int .i64 0,.int .i64 3]⟩) (i:=0) σ rfl) (h5.cell (p:=⟨2,_,#[.int .i64 0,.int .i64 3]⟩) (i:=1) σ rfl)).mono ?_;rintro e w' ⟨rfl,rfl⟩)
    go_ret
    exact⟨by unfold Tj;rw[e0,e1,e2];rfl,h5.below⟩
   |false=>
    simp only[c_];cases e3:x==3 with
    |true=>
     simp only[d_,orZ,Pr.val]
     go_wp2_with (go_at_call 133;refine(Ahd _ _ _ _ _ _ (h5.cell (p:=⟨3,_,#[.int .i64 2,.int .i64 4]⟩) (i:=0) σ rfl) (h5.cell (p:=⟨3,_,#[.int .i64 2,.int .i64 4]⟩) (i:=1) σ rfl)).mono ?_;rintro e w' ⟨rfl,rfl⟩)
     go_ret
     exact⟨by unfold Tj;rw[e0,e1,e2,e3];rfl,h5.below⟩
    |false=>
     simp only[c_];cases e4:x==4 with
     |true=>
      simp only[d_,orZ,Pr.val]
      go_wp2_with (go_at_call 133;refine(Ar5 _ _ _ _ _ (h5.cell (p:=⟨4,_,#[.int .i64 2]⟩) σ rfl)).mono ?_;rintro e w' ⟨rfl,rfl⟩)
      go_ret
      exact⟨by unfold Tj;rw[e0,e1,e2,e3,e4];rfl,h5.below⟩
     |false=>
      simp only[c_,orZ]
      go_wp2_with (go_at_call 133;refine(Bj2 _ _).mono ?_;rintro e w' ⟨rfl,rfl⟩)
      go_ret
      exact⟨by unfold Tj;rw[e0,e1,e2,e3,e4];rfl,h5.below⟩
end Go.Ovl
