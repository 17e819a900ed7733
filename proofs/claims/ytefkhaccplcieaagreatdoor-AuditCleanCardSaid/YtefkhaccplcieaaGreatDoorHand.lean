import Derived.Test.YtefkhaccplcieaaGreatDoorChecked
import Derived.Test.YtefkhaccplcieaaGreatDoorAbH
set_option linter.all false
open Option renaming none->A,some->B
namespace Go.Ovl
open Go Go.Ab Go.Proofs Go.RowKit Go.Lib
set_option maxHeartbeats 4000000
set_option maxRecDepth 100000
theorem Apz:TF Tryz.prog 63 3 1 Tryz.t3:=WS Tryz.underlying29 (te:=Tryz.t3) κ (z:=1) rfl τ rfl rfl Tryz.func63 Tryz.ntmps63 κ
theorem At3:TG Tryz.prog 63:=WR Tryz.underlying29 Tryz.func63 Tryz.ntmps63
theorem Ap0:TF Tryz.prog 64 4 1 Tryz.t4:=WS Tryz.underlying30 (te:=Tryz.t4) κ (z:=1) rfl τ rfl rfl Tryz.func64 Tryz.ntmps64 κ
theorem At4:TG Tryz.prog 64:=WR Tryz.underlying30 Tryz.func64 Tryz.ntmps64
theorem Ap1:TF Tryz.prog 65 88 5 Tryz.t88:=WS Tryz.underlying31 (te:=Tryz.t88) κ (z:=5) rfl τ rfl rfl Tryz.func65 Tryz.ntmps65 κ
theorem At5:TG Tryz.prog 65:=WR Tryz.underlying31 Tryz.func65 Tryz.ntmps65
theorem Apv:TF Tryz.prog 58 121 41 Tryz.t121:=WS Tryz.underlying37 (te:=Tryz.t121) κ (z:=41) rfl τ rfl rfl Tryz.func58 Tryz.ntmps58 κ
theorem Atz:TG Tryz.prog 58:=WR Tryz.underlying37 Tryz.func58 Tryz.ntmps58
theorem Apx:TF Tryz.prog 60 137 14 Tryz.t137:=WS Tryz.underlying39 (te:=Tryz.t137) κ (z:=14) rfl τ rfl rfl Tryz.func60 Tryz.ntmps60 κ
theorem At1:TG Tryz.prog 60:=WR Tryz.underlying39 Tryz.func60 Tryz.ntmps60
theorem Apy:TF Tryz.prog 61 142 1 Tryz.t142:=WS Tryz.underlying40 (te:=Tryz.t142) κ (z:=1) rfl τ rfl rfl Tryz.func61 Tryz.ntmps61 κ
theorem At2:TG Tryz.prog 61:=WR Tryz.underlying40 Tryz.func61 Tryz.ntmps61
theorem Ap2:TF Tryz.prog 66 51 2 Tryz.t51:=WS Tryz.underlying41 (te:=Tryz.t51) κ (z:=2) rfl τ rfl rfl Tryz.func66 Tryz.ntmps66 κ
theorem At6:TG Tryz.prog 66:=WR Tryz.underlying41 Tryz.func66 Tryz.ntmps66
theorem Apw:TF Tryz.prog 59 126 6 Tryz.t126:=WS Tryz.underlying38 (te:=Tryz.t126) κ (z:=6) rfl τ rfl rfl Tryz.func59 Tryz.ntmps59 κ
theorem At0:TG Tryz.prog 59:=WR Tryz.underlying38 Tryz.func59 Tryz.ntmps59
theorem Ap3:TF Tryz.prog 67 159 3 Tryz.t159:=WS Tryz.underlying124 (te:=Tryz.t159) κ (z:=3) rfl τ rfl rfl Tryz.func67 Tryz.ntmps67 κ
theorem At7:TG Tryz.prog 67:=WR Tryz.underlying124 Tryz.func67 Tryz.ntmps67
theorem Ack:Ass Tryz.prog 114 88 5:=Ahg (o:=169) Tryz.underlying31 (t:=3) Tryz.underlying3 (te:=Tryz.t88) κ rfl (F_ κ) τ ⟨_,rfl,rfl⟩ (bt:=4) Tryz.func169 κ κ κ κ Tryz.sizeOf88 Tryz.func114 Tryz.ntmps114 κ
theorem Ab6:Bc2 Tryz.prog 115 88 5:=Arn Tryz.underlying31 (te:=Tryz.t88) κ (z:=5) rfl τ ⟨_,Tryz.zeroValue88,rfl,κ⟩ Tryz.func115 Tryz.ntmps115 κ
theorem Apt(b:Nat)(w:World)(h0:w.cell? ⟨b,0,A⟩=B (.pointer (B ⟨b,0,A⟩))) :
  Calls Tryz.prog 298 #[.pointer (B ⟨b,0,A⟩)] w λe w'=>e=.returned (.tuple #[])∧w'=w:=by
 go_enter Tryz.func298,Tryz.ntmps298
 go_wp2
 rw[Lib.run_neq_ptr_same w _ Tryz.underlying357 (show Tryz.prog.info? 359=B Tryz.t359 by kernel_rfl)]
 go_wp2
 go_end0
 exact⟨rfl,rfl⟩
theorem Amm(b:Nat)(w:World)(h0:w.cell? ⟨b,0,A⟩=B (.pointer A))(hsh:w.shape? b=B (359,2))(hfz:w.frozen? ⟨b,0,A⟩=false) :
  Calls Tryz.prog 298 #[.pointer (B ⟨b,0,A⟩)] w λe w'=>e=.returned (.tuple #[])∧w'=w.setCell ⟨b,0,A⟩ (.pointer (B ⟨b,0,A⟩)):=by
 have hj:Tryz.prog.info? 359=B Tryz.t359:=κ
 go_enter Tryz.func298,Tryz.ntmps298
 go_wp2
 rw[Lib.run_to_unsafe w ⟨b,0,A⟩ Tryz.underlying357 Tryz.underlying402 hj τ hsh (Nat.zero_lt_succ 1)];simp only[Result.andThen];rw[Oper.upon_value]
 go_wp2
 rw[run_callFunc_extern Tryz.func319 κ κ κ (e:=Extern.AbiNoEscape.same) κ];rw[Lib.run_noEscape];simp only[Result.andThen];rw[Oper.upon_value]
 go_wp2
 rw[Lib.run_from_unsafe w ⟨b,0,A⟩ Tryz.underlying402 Tryz.underlying357 hj hsh κ];simp only[Result.andThen];rw[Oper.upon_value]
 go_wp2
 go_end0
 exact⟨rfl,rfl⟩
theorem Apu(b:Nat)(w:World)(a0 v:Value)(ha:a0=.pointer A∨a0=.pointer (B ⟨b,0,A⟩))(hb:w.heap[b]?=B (.cells #[a0,v] 359 (0,0))) :
  Calls Tryz.prog 298 #[.pointer (B ⟨b,0,A⟩)] w λe w1=>e=.returned (.tuple #[])∧CcOut w w1 b 359 v:=by
 have h0:w.cell? ⟨b,0,A⟩=B a0:=by rw[f0_ w b 0 _ 359 (0,0) hb];rfl
 rcases ha with rfl | rfl
 ·refine(Amm b w h0 (by simp[World.shape?,hb]) (by simp[World.frozen?,hb])).mono ?_;rintro e w1 ⟨rfl,rfl⟩;exact⟨rfl,by rw[Go.Ab.setCell_heap hb];rfl,λk hk=>Go.Ab.setCell_other hk,Go.Ab.setCell_size,rfl,rfl,rfl⟩
 ·refine(Apt b w h0).mono ?_;rintro e w1 ⟨rfl,rfl⟩;exact⟨rfl,hb,λ_ _=>rfl,rfl,rfl,rfl,rfl⟩
theorem Aq6(b:Nat)(w:World)(a0 v:Value)(ha:a0=.pointer A∨a0=.pointer (B ⟨b,0,A⟩))(hb:w.heap[b]?=B (.cells #[a0,v] 359 (0,0)))(n:Nat)(xs:List Value)(hown:w.ownsRow 0 5 1 v n xs)(hne:v.ownBlock≠B b)(s:ByteArray)(h63:n+s.size≤2147483648) :
  Calls Tryz.prog 272 #[.pointer (B ⟨b,0,A⟩),.string s] w λe w'=>e=.returned (.tuple #[.int .i64 s.size,.nilIface])∧∃v',BldOut w w' b 359 5 (.pointer (B ⟨b,0,A⟩)) v v' (n+s.size) (xs++Lib.strCells s):=by
 have hbw:b<w.heap.size:=(K_.1 hb).1;have hcc:=Apu b w a0 v ha hb;have key:∀w1,CcOut w w1 b 359 v→∃v' w2,(∀ty,(Builtin.append_ #[23,9] ty #[v,.string s]).run Tryz.prog w1=.ok v' w2)∧RowOut w1 w2 5 1 v v' (n+s.size) (xs++Lib.strCells s):=λw1 hc=>Bob w1 Tryz.underlying23 Tryz.underlying9 (i:=Tryz.t5) κ κ κ κ (Zo hown λg hg=>hc.rest g (λe=>hne (by rw[← e];exact hg))) s h63;clear hb ha hown
 go_enter Tryz.func272,Tryz.ntmps272
 go_wp2_with (go_at_call 298;refine hcc.mono ?_)
 rintro e w1 ⟨rfl,hc⟩;obtain⟨v',w2,hr,ho⟩:=key w1 hc;have hout:=Bac hbw hc hne ho;have hb1:b<w1.heap.size:=by rw[hc.size];exact hbw
 have h2:w2.heap[b]?=B (.cells #[.pointer (B ⟨b,0,A⟩),v] 359 (0,0)):=by rw[ho.grow.block b hb1 (λe=>hne e.symm)];exact hc.cel
 have c1:w1.cell? ⟨b,1,A⟩=B v:=by rw[f0_ w1 b 1 _ 359 (0,0) hc.cel];rfl
 have d1:w2.cell? ⟨b,1,A⟩=B v:=by rw[f0_ w2 b 1 _ 359 (0,0) h2];rfl
 have f1:w2.frozen? ⟨b,1,A⟩=false:=by simp[World.frozen?,h2]
 obtain⟨ao,n',cap,hv'⟩:∃ao n' cap,v'=.slice ao n' cap:=by
  rcases ho.row.2 with⟨hv,_⟩ | ⟨g,cap,cur,hv,_⟩
  ·exact⟨_,_,_,hv⟩
  ·exact⟨_,_,_,hv⟩
 subst hv';have hO:Hid (∃v',BldOut w (w2.setCell ⟨b,1,A⟩ (.slice ao n' cap)) b 359 5 (.pointer (B ⟨b,0,A⟩)) v v' (n+s.size) (xs++Lib.strCells s)):=⟨_,hout⟩
 clear hout ho h2 hc key hcc hb1 hbw hne
 go_wp2_with (at_builtin;refine Lib.wpList_append_run _ rfl _ _ _ _ rfl _ _ rfl rfl _ _ (hr _) ?_)
 go_ret2
 exact⟨rfl,hO.out⟩
theorem Aq1(b:Nat)(w:World)(a0:Value)(g cap:Nat)(cur:Array Value)(l:List UInt8)(h0:l≠[])(hb:w.heap[b]?=B (.cells #[a0,.slice (B ⟨g,0,A⟩) l.length cap] 359 (0,0)))(hg:w.heap[g]?=B (.cells cur 5 (0,0)))(hn:l.length≤cur.size)(hcap:l.length≤cap)(h63:l.length≤9223372036854775807)
  (hcell:∀(j:Nat) (x:UInt8),l[j]?=B x→cur[j]?=B (Value.int .u8 x.toNat)) :
  Calls Tryz.prog 274 #[.pointer (B ⟨b,0,A⟩)] w λe w'=>e=.returned (.string ⟨l.toArray⟩)∧w'=w.drew.freeze ⟨g,0,A⟩ l.length:=by
 have hl0:l.length≠0:=by simpa using h0
 have c1:w.drew.cell? ⟨b,1,A⟩=B (.slice (B ⟨g,0,A⟩) l.length cap):=by rw[f0_ w.drew b 1 _ 359 (0,0) hb];rfl
 have hSD:(Builtin.unsafeSliceData_ #[23] 386 #[.slice (B ⟨g,0,A⟩) l.length cap]).run Tryz.prog w.drew=.ok (.pointer (B ⟨g,0,A⟩)) w.drew:=Lib.run_unsafeSliceData_row _ _ _ _ _ _ ω;have hUS:(Builtin.unsafeString_ #[386,3] 9 #[.pointer (B ⟨g,0,A⟩),.int .i64 l.length]).run Tryz.prog w.drew=.ok (.string ⟨l.toArray⟩) (w.drew.freeze ⟨g,0,A⟩ l.length):=by refine Lib.run_unsafeString_row w.drew 386 3 9 5 Tryz.underlying386 κ g cur.size (by have hg':w.drew.heap[g]?=B (.cells cur 5 (0,0)):=hg;simp[World.shape?,hg']) l h0 hn h63 ?_;intro j x hx;rw[HI,p_,f0_ w.drew g j cur 5 (0,0) hg];exact hcell j x hx
 have mixed:Tryz.prog.follows .mixedOrders=true:=κ;clear hcell hb hg
 go_enter Tryz.func274,Tryz.ntmps274
 go_wp2
 go_region_o
 all_goals(go_wp2;go_ret;exact⟨rfl,rfl⟩)
theorem Ab7:Bc2 Tryz.prog 245 3 1:=Arn Tryz.underlying29 (te:=Tryz.t3) κ (z:=1) rfl τ ⟨_,Tryz.zeroValue3,rfl,κ⟩ Tryz.func245 Tryz.ntmps245 κ
theorem Acm:Ass Tryz.prog 246 3 1:=Ahg (o:=282) Tryz.underlying29 (t:=3) Tryz.underlying3 (te:=Tryz.t3) κ rfl (F_ κ) τ ⟨_,rfl,rfl⟩ (bt:=4) Tryz.func282 κ κ κ κ Tryz.sizeOf3 Tryz.func246 Tryz.ntmps246 κ
theorem Acl:Ass Tryz.prog 211 159 3:=Ahg (o:=256) Tryz.underlying124 (t:=3) Tryz.underlying3 (te:=Tryz.t159) κ rfl (F_ κ) τ ⟨_,rfl,rfl⟩ (bt:=4) Tryz.func256 κ κ κ κ Tryz.sizeOf159 Tryz.func211 Tryz.ntmps211 κ
theorem Bko(w:World)(v:Int):Calls Tryz.prog 165 #[.slice A 0 0,.int .i64 v] w λe w'=>e=.returned (.int .i64 (-1))∧w'=w:=by
 go_enter Tryz.func165,Tryz.ntmps165
 go_wp2
 refine wp_loop_rounds 1 ?_;rw[rounds_succ]
 go_wp2
 go_ret
 exact⟨rfl,rfl⟩
theorem Bkp(w:World)(b:Nat)(c:Nat)(x v:Int)(h0:w.cell? ⟨b,0,A⟩=B (.int .i64 x)):Calls Tryz.prog 165 #[.slice (B ⟨b,0,A⟩) 1 c,.int .i64 v] w λe w'=>e=.returned (.int .i64 (bif v==x then 0 else -1))∧w'=w:=by
 go_enter Tryz.func165,Tryz.ntmps165
 go_wp2
 refine wp_loop_rounds 2 ?_;rw[rounds_succ]
 go_wp2
 ·rename_i h
  go_ret
  exact⟨by rw[h];rfl,rfl⟩
 ·rename_i h;rw[rounds_succ]
  go_wp2
  go_ret
  exact⟨by rw[h];rfl,rfl⟩
theorem Bkq(w:World)(b:Nat)(c:Nat)(x y v:Int)(h0:w.cell? ⟨b,0,A⟩=B (.int .i64 x))(h1:w.cell? ⟨b,1,A⟩=B (.int .i64 y)):Calls Tryz.prog 165 #[.slice (B ⟨b,0,A⟩) 2 c,.int .i64 v] w λe w'=>e=.returned (.int .i64 (bif v==x then 0 else bif v==y then 1 else -1))∧w'=w:=by
 go_enter Tryz.func165,Tryz.ntmps165
 go_wp2
 refine wp_loop_rounds 3 ?_;rw[rounds_succ]
 go_wp2
 ·rename_i h
  go_ret
  exact⟨by rw[h];rfl,rfl⟩
 ·rename_i h;rw[rounds_succ]
  go_wp2
  ·rename_i h'
   go_ret
   exact⟨by rw[h,h'];rfl,rfl⟩
  ·rename_i h';rw[rounds_succ]
   go_wp2
   go_ret
   exact⟨by rw[h,h'];rfl,rfl⟩
theorem Bj5(w:World)(v:Int):Calls Tryz.prog 111 #[.slice A 0 0,.int .i64 v] w λe w'=>e=.returned (.bool false)∧w'=w:=by
 go_enter Tryz.func111,Tryz.ntmps111
 go_wp2_with (go_at_call 165;refine(Bko _ _).mono ?_;rintro e w' ⟨rfl,rfl⟩)
 go_ret
 exact⟨rfl,rfl⟩
theorem Ari(w:World)(b:Nat)(c:Nat)(x v:Int)(h0:w.cell? ⟨b,0,A⟩=B (.int .i64 x)):Calls Tryz.prog 111 #[.slice (B ⟨b,0,A⟩) 1 c,.int .i64 v] w λe w'=>e=.returned (.bool (v==x))∧w'=w:=by
 go_enter Tryz.func111,Tryz.ntmps111
 go_wp2_with (go_at_call 165;refine(Bkp _ _ _ _ _ h0).mono ?_;rintro e w' ⟨rfl,rfl⟩)
 go_ret
 exact⟨by cases v==x<;>rfl,rfl⟩
theorem Agu(w:World)(b:Nat)(c:Nat)(x y v:Int)(h0:w.cell? ⟨b,0,A⟩=B (.int .i64 x))(h1:w.cell? ⟨b,1,A⟩=B (.int .i64 y)):Calls Tryz.prog 111 #[.slice (B ⟨b,0,A⟩) 2 c,.int .i64 v] w λe w'=>e=.returned (.bool (v==x||v==y))∧w'=w:=by
 go_enter Tryz.func111,Tryz.ntmps111
 go_wp2_with (go_at_call 165;refine(Bkq _ _ _ _ _ _ h0 h1).mono ?_;rintro e w' ⟨rfl,rfl⟩)
 go_ret
 exact⟨by cases v==x<;>cases v==y<;>rfl,rfl⟩
theorem Ba1(w:World)(x y:Int):Calls Tryz.prog 71 #[.int .i64 x,.int .i64 y] w λe w'=>e=.returned (.bool (SZ x y))∧Below w.heap.size w w':=by
 have hmm:=@run_makeMap Tryz.prog;have m1:=Tryz.underlying200;have m2:=Tryz.underlying3;have h0:=EM.made 3 w
 go_enter Tryz.func71,Tryz.ntmps71
 go_wp2
 obtain⟨W1,r1,h1⟩:=EM.ins m1 m2 h0 0 #[.int .i64 1] rfl;rw[show(w.alloc (.map #[] 0)).heap.size=w.heap.size+1 by simp]at r1
 erw[r1]
 simp only[Result.andThen];rw[Oper.upon_skip]
 go_wp2
 obtain⟨W2,r2,h2⟩:=EM.ins m1 m2 h1 1 #[.int .i64 0,.int .i64 2] rfl
 erw[r2]
 simp only[Result.andThen];rw[Oper.upon_skip]
 go_wp2
 obtain⟨W3,r3,h3⟩:=EM.ins m1 m2 h2 2 #[.int .i64 0,.int .i64 3] rfl
 erw[r3]
 simp only[Result.andThen];rw[Oper.upon_skip]
 go_wp2
 obtain⟨W4,r4,h4⟩:=EM.ins m1 m2 h3 3 #[.int .i64 2,.int .i64 4] rfl
 erw[r4]
 simp only[Result.andThen];rw[Oper.upon_skip]
 go_wp2
 obtain⟨W5,r5,h5⟩:=EM.ins m1 m2 h4 4 #[.int .i64 2] rfl
 erw[r5]
 simp only[Result.andThen];rw[Oper.upon_skip]
 go_wp2
 rw[EM.look m1 m2 (z:=.slice A 0 0) κ h5 x];simp only[Result.andThen];rw[Oper.upon_value];simp only[a1_,List.cons_append,Aaf];cases e0:x==0 with
 |true=>
  simp only[d_,orZ,Pr.val]
  go_wp2_with (go_at_call 111;refine(Ari _ _ _ _ _ (h5.cell (p:=⟨0,_,#[.int .i64 1]⟩) σ rfl)).mono ?_;rintro e w' ⟨rfl,rfl⟩)
  go_ret
  exact⟨by unfold SZ;rw[e0];rfl,h5.below⟩
 |false=>
  simp only[c_];cases e1:x==1 with
  |true=>
   simp only[d_,orZ,Pr.val]
   go_wp2_with (go_at_call 111;refine(Agu _ _ _ _ _ _ (h5.cell (p:=⟨1,_,#[.int .i64 0,.int .i64 2]⟩) (i:=0) σ rfl) (h5.cell (p:=⟨1,_,#[.int .i64 0,.int .i64 2]⟩) (i:=1) σ rfl)).mono ?_;rintro e w' ⟨rfl,rfl⟩)
   go_ret
   exact⟨by unfold SZ;rw[e0,e1];rfl,h5.below⟩
  |false=>
   simp only[c_];cases e2:x==2 with
   |true=>
    simp only[d_,orZ,Pr.val]
    go_wp2_with (go_at_call 111;refine(Agu _ _ _ _ _ _ (h5.cell (p:=⟨2,_,#[.int .i64 0,.int .i64 3]⟩) (i:=0) σ rfl) (h5.cell (p:=⟨2,_,#[.int .i64 0,.int .i64 3]⟩) (i:=1) σ rfl)).mono ?_;rintro e w' ⟨rfl,rfl⟩)
    go_ret
    exact⟨by unfold SZ;rw[e0,e1,e2];rfl,h5.below⟩
   |false=>
    simp only[c_];cases e3:x==3 with
    |true=>
     simp only[d_,orZ,Pr.val]
     go_wp2_with (go_at_call 111;refine(Agu _ _ _ _ _ _ (h5.cell (p:=⟨3,_,#[.int .i64 2,.int .i64 4]⟩) (i:=0) σ rfl) (h5.cell (p:=⟨3,_,#[.int .i64 2,.int .i64 4]⟩) (i:=1) σ rfl)).mono ?_;rintro e w' ⟨rfl,rfl⟩)
     go_ret
     exact⟨by unfold SZ;rw[e0,e1,e2,e3];rfl,h5.below⟩
    |false=>
     simp only[c_];cases e4:x==4 with
     |true=>
      simp only[d_,orZ,Pr.val]
      go_wp2_with (go_at_call 111;refine(Ari _ _ _ _ _ (h5.cell (p:=⟨4,_,#[.int .i64 2]⟩) σ rfl)).mono ?_;rintro e w' ⟨rfl,rfl⟩)
      go_ret
      exact⟨by unfold SZ;rw[e0,e1,e2,e3,e4];rfl,h5.below⟩
     |false=>
      simp only[c_,orZ]
      go_wp2_with (go_at_call 111;refine(Bj5 _ _).mono ?_;rintro e w' ⟨rfl,rfl⟩)
      go_ret
      exact⟨by unfold SZ;rw[e0,e1,e2,e3,e4];rfl,h5.below⟩
end Go.Ovl
