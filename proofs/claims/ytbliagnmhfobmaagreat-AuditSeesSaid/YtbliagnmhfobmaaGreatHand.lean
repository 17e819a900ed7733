/- What functions of Go's library do, by hand. -/
import Derived.Test.YtbliagnmhfobmaaGreatChecked
import Derived.Test.YtbliagnmhfobmaaGreatAbH
namespace Go.Ovl
open Go Go.Ab Go.Proofs Go.RowKit Go.Lib
set_option maxHeartbeats 4000000
set_option maxRecDepth 100000
theorem nbe8' (w:World) (v:Int):Calls Tryz.prog 165 #[.slice none 0 0,.int .i64 v] w fun e w'=>e=.returned (.int .i64 (-1))∧w'=w:=by
 go_enter Tryz.func165,Tryz.ntmps165
 go_wp2
 refine wp_loop_rounds 1 ?_;rw [rounds_succ]
 go_wp2
 go_ret
 exact ⟨rfl,rfl⟩
theorem nbfd' (w:World) (b:Nat) (c:Nat) (x v:Int) (h0:w.cell? ⟨b,0,none⟩=some (.int .i64 x)):Calls Tryz.prog 165 #[.slice (some ⟨b,0,none⟩) 1 c,.int .i64 v] w fun e w'=>e=.returned (.int .i64 (bif v==x then 0 else -1))∧w'=w:=by
 go_enter Tryz.func165,Tryz.ntmps165
 go_wp2
 refine wp_loop_rounds 2 ?_;rw [rounds_succ]
 go_wp2
 ·rename_i h
  go_ret
  exact ⟨by rw [h]; rfl,rfl⟩
 ·rename_i h
  rw [rounds_succ]
  go_wp2
  go_ret
  exact ⟨by rw [h]; rfl,rfl⟩
theorem nbfp' (w:World) (b:Nat) (c:Nat) (x y v:Int) (h0:w.cell? ⟨b,0,none⟩=some (.int .i64 x)) (h1:w.cell? ⟨b,1,none⟩=some (.int .i64 y)):Calls Tryz.prog 165 #[.slice (some ⟨b,0,none⟩) 2 c,.int .i64 v] w fun e w'=>e=.returned (.int .i64 (bif v==x then 0 else bif v==y then 1 else -1))∧w'=w:=by
 go_enter Tryz.func165,Tryz.ntmps165
 go_wp2
 refine wp_loop_rounds 3 ?_;rw [rounds_succ]
 go_wp2
 ·rename_i h
  go_ret
  exact ⟨by rw [h]; rfl,rfl⟩
 ·rename_i h
  rw [rounds_succ]
  go_wp2
  ·rename_i h'
   go_ret
   exact ⟨by rw [h,h']; rfl,rfl⟩
  ·rename_i h'
   rw [rounds_succ]
   go_wp2
   go_ret
   exact ⟨by rw [h,h']; rfl,rfl⟩
theorem nbfk' (w:World) (v:Int):Calls Tryz.prog 117 #[.slice none 0 0,.int .i64 v] w fun e w'=>e=.returned (.bool false)∧w'=w:=by
 go_enter Tryz.func117,Tryz.ntmps117
 go_wp2_with (go_at_call 165; refine (nbe8' _ _).mono ?_; rintro e w' ⟨rfl,rfl⟩)
 go_ret
 exact ⟨rfl,rfl⟩
theorem n6u' (w:World) (b:Nat) (c:Nat) (x v:Int) (h0:w.cell? ⟨b,0,none⟩=some (.int .i64 x)):Calls Tryz.prog 117 #[.slice (some ⟨b,0,none⟩) 1 c,.int .i64 v] w fun e w'=>e=.returned (.bool (v==x))∧w'=w:=by
 go_enter Tryz.func117,Tryz.ntmps117
 go_wp2_with (go_at_call 165; refine (nbfd' _ _ _ _ _ h0).mono ?_; rintro e w' ⟨rfl,rfl⟩)
 go_ret
 exact ⟨by cases v==x <;> rfl,rfl⟩
theorem nzs' (w:World) (b:Nat) (c:Nat) (x y v:Int) (h0:w.cell? ⟨b,0,none⟩=some (.int .i64 x)) (h1:w.cell? ⟨b,1,none⟩=some (.int .i64 y)):Calls Tryz.prog 117 #[.slice (some ⟨b,0,none⟩) 2 c,.int .i64 v] w fun e w'=>e=.returned (.bool (v==x||v==y))∧w'=w:=by
 go_enter Tryz.func117,Tryz.ntmps117
 go_wp2_with (go_at_call 165; refine (nbfp' _ _ _ _ _ _ h0 h1).mono ?_; rintro e w' ⟨rfl,rfl⟩)
 go_ret
 exact ⟨by cases v==x <;> cases v==y <;> rfl,rfl⟩
theorem nba8' (w:World) (x y:Int):Calls Tryz.prog 68 #[.int .i64 x,.int .i64 y] w fun e w'=>e=.returned (.bool (edgeB x y))∧Below w.heap.size w w':=by
 have hmm:=@run_makeMap Tryz.prog;have m1:=Tryz.underlying221;have m2:=Tryz.underlying3;have h0:=EM.made 3 w
 go_enter Tryz.func68,Tryz.ntmps68
 go_wp2
 obtain ⟨W1,r1,h1⟩:=EM.ins m1 m2 h0 0 #[.int .i64 1] rfl;rw [show (w.alloc (.map #[] 0)).heap.size=w.heap.size + 1 by simp] at r1
 erw [r1]
 simp only [Result.andThen];rw [Oper.upon_skip]
 go_wp2
 obtain ⟨W2,r2,h2⟩:=EM.ins m1 m2 h1 1 #[.int .i64 0,.int .i64 2] rfl
 erw [r2]
 simp only [Result.andThen];rw [Oper.upon_skip]
 go_wp2
 obtain ⟨W3,r3,h3⟩:=EM.ins m1 m2 h2 2 #[.int .i64 0,.int .i64 3] rfl
 erw [r3]
 simp only [Result.andThen];rw [Oper.upon_skip]
 go_wp2
 obtain ⟨W4,r4,h4⟩:=EM.ins m1 m2 h3 3 #[.int .i64 2,.int .i64 4] rfl
 erw [r4]
 simp only [Result.andThen];rw [Oper.upon_skip]
 go_wp2
 obtain ⟨W5,r5,h5⟩:=EM.ins m1 m2 h4 4 #[.int .i64 2] rfl
 erw [r5]
 simp only [Result.andThen];rw [Oper.upon_skip]
 go_wp2
 rw [EM.look m1 m2 (z:=.slice none 0 0) (by kernel_rfl) h5 x]
 simp only [Result.andThen];rw [Oper.upon_value];simp only [List.nil_append,List.cons_append,lookP];cases e0:x==0 with
 | true=>
  simp only [cond_true,orZ,Pr.val]
  go_wp2_with (go_at_call 117; refine (n6u' _ _ _ _ _ (h5.cell (p:=⟨0,_,#[.int .i64 1]⟩) (by simp) rfl)).mono ?_; rintro e w' ⟨rfl,rfl⟩)
  go_ret
  exact ⟨by unfold edgeB; rw [e0]; rfl,h5.below⟩
 | false=>
  simp only [cond_false];cases e1:x==1 with
  | true=>
   simp only [cond_true,orZ,Pr.val]
   go_wp2_with (go_at_call 117; refine (nzs' _ _ _ _ _ _ (h5.cell (p:=⟨1,_,#[.int .i64 0,.int .i64 2]⟩) (i:=0) (by simp) rfl) (h5.cell (p:=⟨1,_,#[.int .i64 0,.int .i64 2]⟩) (i:=1) (by simp) rfl)).mono ?_; rintro e w' ⟨rfl,rfl⟩)
   go_ret
   exact ⟨by unfold edgeB; rw [e0,e1]; rfl,h5.below⟩
  | false=>
   simp only [cond_false];cases e2:x==2 with
   | true=>
    simp only [cond_true,orZ,Pr.val]
    go_wp2_with (go_at_call 117; refine (nzs' _ _ _ _ _ _ (h5.cell (p:=⟨2,_,#[.int .i64 0,.int .i64 3]⟩) (i:=0) (by simp) rfl) (h5.cell (p:=⟨2,_,#[.int .i64 0,.int .i64 3]⟩) (i:=1) (by simp) rfl)).mono ?_; rintro e w' ⟨rfl,rfl⟩)
    go_ret
    exact ⟨by unfold edgeB; rw [e0,e1,e2]; rfl,h5.below⟩
   | false=>
    simp only [cond_false];cases e3:x==3 with
    | true=>
     simp only [cond_true,orZ,Pr.val]
     go_wp2_with (go_at_call 117; refine (nzs' _ _ _ _ _ _ (h5.cell (p:=⟨3,_,#[.int .i64 2,.int .i64 4]⟩) (i:=0) (by simp) rfl) (h5.cell (p:=⟨3,_,#[.int .i64 2,.int .i64 4]⟩) (i:=1) (by simp) rfl)).mono ?_; rintro e w' ⟨rfl,rfl⟩)
     go_ret
     exact ⟨by unfold edgeB; rw [e0,e1,e2,e3]; rfl,h5.below⟩
    | false=>
     simp only [cond_false];cases e4:x==4 with
     | true=>
      simp only [cond_true,orZ,Pr.val]
      go_wp2_with (go_at_call 117; refine (n6u' _ _ _ _ _ (h5.cell (p:=⟨4,_,#[.int .i64 2]⟩) (by simp) rfl)).mono ?_; rintro e w' ⟨rfl,rfl⟩)
      go_ret
      exact ⟨by unfold edgeB; rw [e0,e1,e2,e3,e4]; rfl,h5.below⟩
     | false=>
      simp only [cond_false,orZ]
      go_wp2_with (go_at_call 117; refine (nbfk' _ _).mono ?_; rintro e w' ⟨rfl,rfl⟩)
      go_ret
      exact ⟨by unfold edgeB; rw [e0,e1,e2,e3,e4]; rfl,h5.below⟩
end Go.Ovl
