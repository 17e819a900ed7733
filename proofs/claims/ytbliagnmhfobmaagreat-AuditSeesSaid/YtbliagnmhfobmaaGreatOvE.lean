/- The modernised car by the reference (layers 11 to 15): it answers. -/
import Derived.Test.YtbliagnmhfobmaaGreatOvA
import Derived.Test.YtbliagnmhfobmaaGreatOvD
import Derived.Test.YtbliagnmhfobmaaGreatOvB
namespace Go.Ovl
open Go Go.Ab
set_option maxRecDepth 100000
theorem np5' (a b c:Int) (d:Bool) (e f:Int):nkj' a b c d e f=some (((),()),((f,0,c,d,e,()),())):=rfl
theorem npj' (a:Int):Sat (ndm' a) fun _=>True:=by
 unfold ndm';exact Sat.go
instance r12_more_ti (a:Int):SatT (ndm' a):=⟨npj' ..⟩
theorem nt1' (a b c:Int) (d:Bool) (e:Int):Sat (nia' a b c d e) fun _=>True:=by
 unfold nia';simp only [np5'];exact Sat.go
instance r12_nudged_ti (a b c:Int) (d:Bool) (e:Int):SatT (nia' a b c d e):=⟨nt1' ..⟩
def dNC (a b c:Int) (d:Bool) (e:Int):NewCar:={ ncp' with O1:=a,N2:=b,G2:=c,P2:=d,H2:=e }
theorem ntn' (a b c:Int) (d:Bool) (e:Int):nd8' a b c d e=some ((nqu' (dNC a b c d e),()),()):=nr1' (dNC a b c d e)
theorem n8k' {x:NewCar} (h:nqu' x=true):0≤x.O1∧x.O1≤3:=by
 unfold nqu' at h;by_cases g:x.O1=0
 ·omega
 ·rw [beq_f g] at h
  simp [inR,doorZ] at h;omega
theorem ns7' (c0 c1 c2 c3 c4 c5 c6 c7 c8 a b c:Int) (d:Bool) (e f:Int) (g h:Bool):Sat (ni7' c0 c1 c2 c3 c4 c5 c6 c7 c8 a b c d e f g h) fun _=>True:=by
 unfold ni7';rw [ntn'];refine Sat.bindS (Q:=fun y=>0≤y.2.2.1.1∧y.2.2.1.1≤3) ?_ (fun y h2=>?_)
 ·refine Sat.bindE rfl (Sat.bif (fun _=>Sat.ret ⟨Int.le_refl 0,show (0:Int)≤3 from by decide⟩) fun hh=>Sat.ret ?_)
  rw [Bool.not_eq_false'] at hh;exact n8k' (x:=dNC a b c d e) hh
 refine Sat.bif (fun _=>?_) (fun _=>?_)
 ·simp only [np5']
  exact Sat.go
 refine Sat.bindS (Q:=fun y=>0≤y.2.2.1.1∧y.2.2.1.1≤3) ?_ (fun y h2=>?_)
 ·refine Sat.bif (fun _=>?_) (fun _=>Sat.ret h2)
  exact Sat.bindS (npj' _) fun _ _=>Sat.ret h2
 refine Sat.bindS (Q:=fun y=>0≤y.2.2.1.1∧y.2.2.1.1≤3) ?_ (fun y h2=>?_)
 ·exact Sat.bif (fun _=>Sat.ret h2) (fun _=>Sat.ret h2)
 refine Sat.bif (fun _=>?_) (fun _=>?_)
 ·exact Sat.bindE (np5' _ _ _ _ _ _) (Sat.ret trivial)
 refine Sat.bindS (Q:=fun y=>0≤y.2.2.1.1∧y.2.2.1.1≤3) ?_ (fun y h2=>?_)
 ·exact Sat.bif (fun _=>Sat.ret h2) (fun _=>Sat.ret h2)
 refine Sat.bif (fun _=>Sat.ret trivial) (fun _=>?_)
 refine Sat.bif (fun _=>?_) (fun _=>?_)
 ·exact Sat.bindS (nt1' _ _ _ _ _) fun _ _=>Sat.ret trivial
 refine Sat.bindS (Q:=fun y=>0≤y.2.1.1∧y.2.1.1≤3) ?_ (fun y h2=>?_)
 ·exact Sat.bif (fun _=>Sat.bif (fun _=>Sat.ret h2) (fun _=>Sat.ret h2)) (fun _=>Sat.ret h2)
 refine Sat.bif (fun _=>?_) (fun _=>?_)
 ·exact Sat.bindE (np5' _ _ _ _ _ _) (Sat.ret trivial)
 refine Sat.bindS (Q:=fun y=>0≤y.2.1.1∧y.2.1.1≤3) ?_ (fun y h2=>?_)
 ·exact Sat.bif (fun _=>Sat.ret h2) (fun _=>Sat.ret h2)
 refine Sat.bif (fun _=>?_) (fun _=>?_)
 ·exact Sat.bindE (np5' _ _ _ _ _ _) (Sat.bindS (npj' _) fun _ _=>Sat.ret trivial)
 refine Sat.bindS (npj' _) fun _ _=>?_
 exact Sat.bifT (na' h2.1 (by show _ < (4:Int); omega)) (Sat.ret trivial)
theorem nxi' (a b c:Int) (d:Bool) (e:Int):Sat (nlg' a b c d e) fun _=>True:=by
 unfold nlg';rw [ntn'];refine Sat.bindR ?_;exact Sat.go
theorem nxn' (c0 c1 c2 c3 c4 c5 c6 c7 c8 a b c:Int) (d:Bool) (e:Int):Sat (nl8' c0 c1 c2 c3 c4 c5 c6 c7 c8 a b c d e) fun _=>True:=by
 unfold nl8';exact Sat.go
instance r12_Step_ti (c0 c1 c2 c3 c4 c5 c6 c7 c8 a b c:Int) (d:Bool) (e f:Int) (g h:Bool):SatT (ni7' c0 c1 c2 c3 c4 c5 c6 c7 c8 a b c d e f g h):=⟨ns7' ..⟩
instance r12_Skip_ti (a b c:Int) (d:Bool) (e:Int):SatT (nlg' a b c d e):=⟨nxi' ..⟩
instance r12_Late_ti (c0 c1 c2 c3 c4 c5 c6 c7 c8 a b c:Int) (d:Bool) (e:Int):SatT (nl8' c0 c1 c2 c3 c4 c5 c6 c7 c8 a b c d e):=⟨nxn' ..⟩
theorem n45' (a b:Int):Sat (nfw' a b) fun _=>True:=⟨_,nuq' a b,trivial⟩
theorem n2w' (a b c:Int):Sat (ncw' a b c) fun _=>True:=by
 unfold ncw';exact Sat.go
theorem n5v' (a b c:Int):Sat (nfx' a b c) fun _=>True:=by
 unfold nfx';exact Sat.go
instance r13_floor_ti (a b:Int):SatT (nfw' a b):=⟨n45' ..⟩
instance r13_target_ti (a b c:Int):SatT (ncw' a b c):=⟨n2w' ..⟩
instance r13_later_ti (a b c:Int):SatT (nfx' a b c):=⟨n5v' ..⟩
theorem n1x' (a b c d:Int):Sat (nb9' a b c d) fun _=>True:=by
 unfold nb9';exact Sat.go
instance r13_IsState_ti (a b c d:Int):SatT (nb9' a b c d):=⟨n1x' ..⟩
theorem nmm' (a b c d e:Int) (f:Bool) (g:Int) (h:Bool) (w:Int):Sat (ni3' a b c d e f g h w) fun _=>True:=by
 unfold ni3';exact Sat.go
theorem nyl' (a b c:Int):Sat (nmi' a b c) fun _=>True:=by
 unfold nmi';exact Sat.go
theorem nxy' (c0 c1 c2 c3 c4 c5 c6 c7 c8 a b c:Int):Sat (nmh' c0 c1 c2 c3 c4 c5 c6 c7 c8 a b c) fun _=>True:=by
 unfold nmh';exact Sat.go
instance r13_Step_ti (a b c d e:Int) (f:Bool) (g:Int) (h:Bool) (w:Int):SatT (ni3' a b c d e f g h w):=⟨nmm' ..⟩
instance r13_Skip_ti (a b c:Int):SatT (nmi' a b c):=⟨nyl' ..⟩
instance r13_Late_ti (c0 c1 c2 c3 c4 c5 c6 c7 c8 a b c:Int):SatT (nmh' c0 c1 c2 c3 c4 c5 c6 c7 c8 a b c):=⟨nxy' ..⟩
theorem nuu' (a b c d:Int):Sat (nc1' a b c d) fun _=>True:=by
 unfold nc1';exact Sat.go
theorem n4w' (a b c d:Int):Sat (ncn' a b c d) fun _=>True:=⟨_,nik' (a,b) (c,d),trivial⟩
instance r07_Has_ti (a b c d:Int):SatT (nc1' a b c d):=⟨nuu' ..⟩
instance r07_Minus_ti (a b c d:Int):SatT (ncn' a b c d):=⟨n4w' ..⟩
theorem n18' (a b:Int):Sat (nb7' a b) fun _=>True:=⟨_,nsa' { ncp' with K2:=a,B2:=b },trivial⟩
theorem n3r' (a b c d:Int):Sat (nes' a b c d) fun _=>True:=by
 unfold nes';exact Sat.go
theorem n38' (a b c d e f:Int):Sat (ngb' a b c d e f) fun _=>True:=by
 unfold ngb';exact Sat.go
instance r11_IsSweep_ti (a b:Int):SatT (nb7' a b):=⟨n18' ..⟩
instance r11_proper_ti (a b c d:Int):SatT (nes' a b c d):=⟨n3r' ..⟩
instance r11_marked_ti (a b c d e f:Int):SatT (ngb' a b c d e f):=⟨n38' ..⟩
theorem n16' (a b c d e f:Int):Sat (ne0' a b c d e f) fun _=>True:=by
 unfold ne0';exact Sat.go
instance r11_counted_ti (a b c d e f:Int):SatT (ne0' a b c d e f):=⟨n16' ..⟩
theorem n5n' (z a b c d e f:Int):Sat (njk' z a b c d e f) fun _=>True:=by
 unfold njk';exact Sat.go
theorem n5g' (a b c:Int) {f:Int} (hf:0≤f∧f < 100):Sat (njf' a b c f) fun _=>True:=by
 unfold njf';refine Sat.bindS (Q:=fun _=>True) ?_ (fun y _=>?_)
 ·refine Sat.loop (fun (k:Nat) x=>(0:Int)≤x.1.2.2.1∧(200:Int)≤x.1.2.2.1 + (k:Int)) (fun k x hx=>?_) 200 ?_ (by decide)
  ·unfold ntl'
   obtain ⟨h1,h2⟩:=hx;refine Sat.bif (fun g=>?_) (fun _=>Sat.ret trivial)
   have g:=of_decide_eq_true g;refine Sat.bifT (nje' _) (Sat.bif (fun _=>Sat.ret trivial) (fun _=>Sat.ret ⟨k - 1,by omega,?_,?_⟩))
   ·show 0≤IntKind.i64.wrap (x.1.2.2.1 + 1)
    rw [nc' (by omega) (by omega)]; omega
   ·show 200≤IntKind.i64.wrap (x.1.2.2.1 + 1) + _
    rw [nc' (by omega) (by omega)]; omega
  ·show (0:Int)≤IntKind.i64.wrap (f + 1)∧(200:Int)≤IntKind.i64.wrap (f + 1) + ((200:Nat):Int)
   rw [nc' (by omega) (by omega)]; omega
 ·cases y <;> exact Sat.ret trivial
theorem n5u' (a b c:Int) {f:Int} (hf:0≤f∧f < 100):Sat (njh' a b c f) fun _=>True:=by
 unfold njh';refine Sat.bindS (Q:=fun _=>True) ?_ (fun y _=>?_)
 ·refine Sat.loop (fun (k:Nat) x=>x.1.2.2.1 < (200:Int)∧x.1.2.2.1 < (k:Int)) (fun k x hx=>?_) 200 ?_ (by decide)
  ·unfold ntu'
   obtain ⟨h1,h2⟩:=hx;refine Sat.bif (fun g=>?_) (fun _=>Sat.ret trivial)
   have g:=of_decide_eq_true g;refine Sat.bifT (nje' _) (Sat.bif (fun _=>Sat.ret trivial) (fun _=>Sat.ret ⟨k - 1,by omega,?_,?_⟩))
   ·show IntKind.i64.wrap (x.1.2.2.1 - 1) < 200
    rw [nc' (by omega) (by omega)]; omega
   ·show IntKind.i64.wrap (x.1.2.2.1 - 1) < _
    rw [nc' (by omega) (by omega)]; omega
  ·show IntKind.i64.wrap (f - 1) < (200:Int)∧IntKind.i64.wrap (f - 1) < ((200:Nat):Int)
   rw [nc' (by omega) (by omega)]; omega
 ·cases y <;> exact Sat.ret trivial
instance r11_Spent_ti (z a b c d e f:Int):SatT (njk' z a b c d e f):=⟨n5n' ..⟩
theorem n7l' (z a b:Int) {c:Int} (hf:0≤c∧c < 100) (d e f:Int):Sat (nlz' z a b c d e f) fun _=>True:=by
 unfold nlz';have k1:∀ x y w,SatT (njf' x y w c):=fun x y w=>⟨n5g' x y w hf⟩
 have k2:∀ x y w,SatT (njh' x y w c):=fun x y w=>⟨n5u' x y w hf⟩
 exact Sat.go
theorem nz0' (a b:Int) (c d e f g:Bool):Sat (ner' a b c d e f g) fun _=>True:=by
 unfold ner' ncx' ng4';exact Sat.go
theorem n1u' (a:Int) (b c:Bool):Sat (ney' a b c) fun _=>True:=by
 unfold ney' ncx' ng4';exact Sat.go
instance r11_sweeping_ti (a b:Int) (c d e f g:Bool):SatT (ner' a b c d e f g):=⟨nz0' ..⟩
instance r11_turning_ti (a:Int) (b c:Bool):SatT (ney' a b c):=⟨n1u' ..⟩
theorem nuz' {z:Int} (hz:z≤32) (a b c d e f:Int):Sat (nii' z a b c d e f) fun _=>True:=by
 unfold nii' ncx' ng4';by_cases g1:c < 0
 ·have g:=decide_eq_true g1
  exact Sat.go
 by_cases g2:z≤c
 ·have g:=decide_eq_true g2
  exact Sat.go
 have hc:0≤c∧c < 100:=by omega
 have k1:∀ x y w p q r,SatT (nlz' x y w c p q r):=fun x y w p q r=>⟨n7l' x y w hc p q r⟩
 exact Sat.go
theorem n7f' {z:Int} (hz:z≤32) (a b c d e f:Int):Sat (npf' z a b c d e f) fun _=>True:=by
 unfold npf';have hch:=nuz' hz a b c d e f;exact Sat.go
def ucR (n:Int):Prop:=0≤n∧n < 4294967296
theorem ucR_w (n:Int):ucR (IntKind.u32.wrap n):=by
 unfold ucR;simp only [IntKind.wrap,IntKind.signed,IntKind.bits];simp;exact ⟨Int.emod_nonneg _ (by decide),Int.emod_lt_of_pos _ (by decide)⟩
section
variable {b:Bldg} (hb:b.small) (hcode:b.code=0) {car:Int} (hcar:inB car b.A0.length=true)
include hcar in
theorem n79' (i f:Int):Sat (no7' b.D0 b.E0 b.I0 b.Q0 b.J0 b.K0 b.P0 b.A0 car i f) fun _=>True:=by
 unfold no7';rw [ny'];exact Sat.go
include hcar in
theorem nq3' (x:NewCar) (hx:ucR x.N1) (cmd:Int):Sat (nin' b.D0 b.E0 b.I0 b.Q0 b.J0 b.K0 b.P0 b.A0 car x.K2 x.B2 x.O1 x.N2 x.G2 x.P2 x.H2 x.G1 x.X1 x.E1 x.N1 x.K3 x.T4 x.N3 cmd) fun y=>ucR y.2.1.2.2.2.2.2.2.2.2.2.2.1:=by
 unfold nin';refine Sat.bifT hcar (Sat.bindS (nxn' _ _ _ _ _ _ _ _ _ _ _ _ _ _) fun _ _=>Sat.bif (fun _=>Sat.ret ⟨Int.le_refl 0,show (0:Int) < 4294967296 from by decide⟩) fun _=>?_)
 exact Sat.bifT hcar (Sat.bindS (nxy' _ _ _ _ _ _ _ _ _ _ _ _) fun _ _=>Sat.bif (fun _=>Sat.ret ⟨Int.le_refl 0,show (0:Int) < 4294967296 from by decide⟩) fun _=>Sat.ret hx)
include hb hcar in
theorem n2i' (x:NewCar) (hx:ucR x.N1) (f0:Int) (f1:Bool) (f2:Int) (f3:Bool) (h0 h1:Int):Sat (nlo' b.D0 b.E0 b.I0 b.Q0 b.J0 b.K0 b.P0 b.A0 car x.K2 x.B2 x.O1 x.N2 x.G2 x.P2 x.H2 x.G1 x.X1 x.E1 x.N1 x.K3 x.T4 x.N3 f0 f1 f2 f3 h0 h1) fun y=>ucR y.2.1.2.2.2.2.2.2.2.2.2.2.1:=by
 have hz:=hb.hi;unfold nlo';refine Sat.bifT hcar (Sat.bindS (nuz' (by omega) _ _ _ _ _ _) fun _ _=>Sat.bindS (n7f' (by omega) _ _ _ _ _ _) fun _ _=>?_)
 refine Sat.bindS (Q:=fun y=>y.1.1=car∧y.2.1=b.tup∧ucR y.2.2.1.2.2.2.2.2.2.2.2.2.2.1) ?_ (fun y hy=>?_)
 ·refine Sat.bif (fun _=>Sat.bindS (ns7' _ _ _ _ _ _ _ _ _ _ _ _ _ _ _ _ _) fun _ _=>Sat.ret ⟨rfl,rfl,hx⟩) fun _=>?_
  refine Sat.bif (fun _=>Sat.bindS (nmm' _ _ _ _ _ _ _ _ _) fun _ _=>Sat.ret ⟨rfl,rfl,hx⟩) fun _=>?_
  refine Sat.bif (fun _=>Sat.bindS (nmm' _ _ _ _ _ _ _ _ _) fun _ _=>Sat.ret ⟨rfl,rfl,hx⟩) fun _=>?_
  refine Sat.bindS (n79' hcar _ _) fun _ _=>?_
  exact Sat.bif (fun _=>Sat.bindS (nmm' _ _ _ _ _ _ _ _ _) fun _ _=>Sat.ret ⟨rfl,rfl,hx⟩) fun _=>Sat.ret ⟨rfl,rfl,hx⟩
 ·obtain ⟨⟨y1,yr⟩,⟨yb,⟨a0,a1,a2,a3,a4,a5,a6,a7,a8,a9,a10,a11,a12,a13,_⟩,yt⟩⟩:=y
  obtain ⟨e1,e2,e3⟩:=hy;simp only at e1 e2;subst e1 e2;exact Sat.bindS (nq3' hcar (NewCar.mk a0 a1 a2 a3 a4 a5 a6 a7 a8 a9 a10 a11 a12 a13) e3 _) fun _ h=>Sat.ret h
include hb hcode
theorem nv8' (x:NewCar) (hx:ucR x.N1) (car:Int):njd' b.D0 b.E0 b.I0 b.Q0 b.J0 b.K0 b.P0 b.A0 car x.K2 x.B2 x.O1 x.N2 x.G2 x.P2 x.H2 x.G1 x.X1 x.E1 x.N1 x.K3 x.T4 x.N3=some ((newOK b x&&(decide (0≤car)&&decide (car < (b.A0.length:Int))),()),()):=by
 unfold njd';rw [ni5' hb hcode x ⟨hx.1,by have:=hx.2; omega⟩]
 cases newOK b x with
 | false=>rfl
 | true=>cases h:decide (0≤car) <;> simp []
omit hb hcode in
theorem nwl' (f0:Int) (f1:Bool) (f2:Int) (f3:Bool):Sat (ng6' b.D0 b.E0 b.I0 b.Q0 b.J0 b.K0 b.P0 b.A0 f0 f1 f2 f3) fun _=>True:=by
 unfold ng6';exact Sat.go
theorem n4y' (x:NewCar) (hx:ucR x.N1) (car:Int):Sat (nni' b.D0 b.E0 b.I0 b.Q0 b.J0 b.K0 b.P0 b.A0 car x.K2 x.B2 x.O1 x.N2 x.G2 x.P2 x.H2 x.G1 x.X1 x.E1 x.N1 x.K3 x.T4 x.N3) fun y=>ucR y.2.1.2.2.2.2.2.2.2.2.2.2.1:=by
 unfold nni';rw [nv8' hb hcode x hx];refine Sat.bindR (Sat.bif (fun _=>Sat.ret ⟨Int.le_refl 0,show (0:Int) < 4294967296 from by decide⟩) fun g=>?_)
 refine Sat.bif (fun _=>Sat.ret hx) fun _=>?_
 have hcar:inB car b.A0.length=true:=by
  rw [Bool.not_eq_false'] at g;have g:=(Bool.and_eq_true_iff.1 (show (newOK b x&&(decide (0≤car)&&decide (car < (b.A0.length:Int))))=true from g)).2
  rw [Bool.and_eq_true_iff,decide_eq_true_iff,decide_eq_true_iff] at g;exact na' g.1 g.2
 refine Sat.bindS (nxi' _ _ _ _ _) fun u _=>?_
 refine Sat.bindS (nyl' _ _ _) fun v _=>?_
 exact Sat.bindS (nq3' hcar (NewCar.mk x.K2 x.B2 u.2.1.1 u.2.1.2.1 u.2.1.2.2.1 u.2.1.2.2.2.1 u.2.1.2.2.2.2.1 v.2.1.1 v.2.1.2.1 v.2.1.2.2.1 x.N1 x.K3 x.T4 x.N3) hx _) fun _ h=>Sat.ret h
theorem n7n' (x:NewCar) (hx:ucR x.N1) (car f0:Int) (f1:Bool) (f2:Int) (f3:Bool) (pr h0 h1:Int):Sat (npq' b.D0 b.E0 b.I0 b.Q0 b.J0 b.K0 b.P0 b.A0 car x.K2 x.B2 x.O1 x.N2 x.G2 x.P2 x.H2 x.G1 x.X1 x.E1 x.N1 x.K3 x.T4 x.N3 f0 f1 f2 f3 pr h0 h1) fun y=>ucR y.2.1.2.2.2.2.2.2.2.2.2.2.1:=by
 unfold npq';rw [nv8' hb hcode x hx];refine Sat.bindR (Sat.bif (fun _=>Sat.ret ⟨Int.le_refl 0,show (0:Int) < 4294967296 from by decide⟩) fun g=>?_)
 have hcar:inB car b.A0.length=true:=by
  rw [Bool.not_eq_false'] at g;have g:=(Bool.and_eq_true_iff.1 (show (newOK b x&&(decide (0≤car)&&decide (car < (b.A0.length:Int))))=true from g)).2
  rw [Bool.and_eq_true_iff,decide_eq_true_iff,decide_eq_true_iff] at g;exact na' g.1 g.2
 refine Sat.bindS (nwl' _ _ _ _) fun _ _=>?_
 refine Sat.bif (fun _=>Sat.ret ⟨Int.le_refl 0,show (0:Int) < 4294967296 from by decide⟩) fun _=>?_
 refine Sat.bif (fun _=>Sat.ret hx) fun _=>?_
 refine Sat.bifT hcar (Sat.bifT (nje' _) (Sat.bifT (nje' _) ?_));refine Sat.bindS (Q:=fun y=>y.1.1=car∧y.2.1=b.tup) (Sat.bif (fun _=>Sat.ret ⟨rfl,rfl⟩) fun _=>Sat.ret ⟨rfl,rfl⟩) fun y3 h3=>?_
 refine Sat.bindS (Q:=fun y=>match y with
  | .inl y=>y.1.1=car∧y.2.1=b.tup∧ucR y.2.2.1.2.2.2.2.2.2.2.2.2.2.1
  | .inr y=>ucR y.2.1.2.2.2.2.2.2.2.2.2.2.1) ?_ (fun y hy=>?_)
 ·refine Sat.bindS (Q:=fun y=>y.1.1=car∧y.2.1=b.tup∧ucR y.2.2.1.2.2.2.2.2.2.2.2.2.2.1) ?_ (fun y4 h4=>?_)
  ·exact Sat.bif (fun _=>Sat.bif (fun _=>Sat.ret ⟨h3.1,h3.2,ucR_w _⟩) fun _=>Sat.ret ⟨h3.1,h3.2,ucR_w _⟩) fun _=>Sat.ret ⟨h3.1,h3.2,ucR_w _⟩
  refine Sat.bif (fun _=>?_) fun _=>Sat.ret h4
  refine Sat.bindS (nmm' _ _ _ _ _ _ _ _ _) fun y5 _=>?_
  refine Sat.bindS (Q:=fun y=>y.1.1=car∧y.2.1=b.tup∧ucR y.2.2.1.2.2.2.2.2.2.2.2.2.2.1) ?_ (fun y6 h6=>?_)
  ·exact Sat.bif (fun _=>Sat.bif (fun _=>Sat.ret h4) fun _=>Sat.ret h4) fun _=>Sat.ret h4
  refine Sat.bif (fun _=>?_) fun _=>Sat.ret h6
  refine Sat.bindS (Q:=fun y=>y.1.1=car∧y.2.1=b.tup∧ucR y.2.2.1.2.2.2.2.2.2.2.2.2.2.1) ?_ (fun y8 h8=>?_)
  ·refine Sat.bindS (Q:=fun y=>y.1.1=car∧y.2.1=b.tup∧ucR y.2.2.1.2.2.2.2.2.2.2.2.2.2.1) ?_ (fun y7 h7=>?_)
   ·exact Sat.bif (fun _=>Sat.ret h6) fun _=>Sat.ret h6
   exact Sat.bif (fun _=>Sat.ret h7) fun _=>Sat.ret h7
  obtain ⟨⟨y1,yr⟩,⟨yb,⟨a0,a1,a2,a3,a4,a5,a6,a7,a8,a9,a10,a11,a12,a13,_⟩,yt⟩⟩:=y8;obtain ⟨e1,e2,e3⟩:=h8;simp only at e1 e2;subst e1 e2;exact Sat.bindS (nq3' hcar (NewCar.mk a0 a1 a2 a3 a4 a5 a6 a7 a8 a9 a10 a11 a12 a13) e3 _) fun _ h=>Sat.ret h
 ·cases y with
  | inr y=>exact Sat.ret hy
  | inl y11=>
   refine Sat.bindS (Q:=fun y=>y.1.1=car∧y.2.1=b.tup∧ucR y.2.2.1.2.2.2.2.2.2.2.2.2.2.1) ?_ (fun y13 h13=>?_)
   ·refine Sat.bindS (Q:=fun y=>y.1.1=car∧y.2.1=b.tup∧ucR y.2.2.1.2.2.2.2.2.2.2.2.2.2.1) ?_ (fun y12 h12=>?_)
    ·exact Sat.bif (fun _=>Sat.ret hy) fun _=>Sat.ret hy
    exact Sat.bif (fun _=>Sat.ret h12) fun _=>Sat.ret h12
   refine Sat.bif (fun _=>?_) fun _=>?_
   ·obtain ⟨⟨y1,yr⟩,⟨yb,⟨a0,a1,a2,a3,a4,a5,a6,a7,a8,a9,a10,a11,a12,a13,_⟩,yt⟩⟩:=y13
    obtain ⟨e1,e2,e3⟩:=h13;simp only at e1 e2;subst e1 e2;exact Sat.bindS (n2i' hb hcar (NewCar.mk a0 a1 a2 a3 a4 a5 a6 a7 a8 a9 a10 a11 a12 a13) e3 _ _ _ _ _ _) fun _ h=>Sat.ret h
   ·refine Sat.bindS (ns7' _ _ _ _ _ _ _ _ _ _ _ _ _ _ _ _ _) fun y15 _=>?_
    refine Sat.bindS (Q:=fun y=>y.1.1=car∧y.2.1=b.tup∧ucR y.2.2.1.2.2.2.2.2.2.2.2.2.2.1) ?_ (fun y16 h16=>?_)
    ·exact Sat.bif (fun _=>Sat.ret ⟨h13.1,h13.2.1,ucR_w _⟩) fun _=>Sat.ret h13
    refine Sat.bindS (Q:=fun y=>y.1.1=car∧y.2.1=b.tup∧ucR y.2.2.1.2.2.2.2.2.2.2.2.2.2.1) ?_ (fun y17 h17=>?_)
    ·exact Sat.bif (fun _=>Sat.ret h16) fun _=>Sat.ret h16
    obtain ⟨⟨y1,yr⟩,⟨yb,⟨a0,a1,a2,a3,a4,a5,a6,a7,a8,a9,a10,a11,a12,a13,_⟩,yt⟩⟩:=y17;obtain ⟨e1,e2,e3⟩:=h17;simp only at e1 e2;subst e1 e2;exact Sat.bindS (nq3' hcar (NewCar.mk a0 a1 a2 a3 a4 a5 a6 a7 a8 a9 a10 a11 0 a13) e3 _) fun _ h=>Sat.ret h
end
def putF {α:Type} (d:α) (g:Nat→α→α) (i:Nat) (l:List α):List α:=l.set i (g i (l.getD i d))
theorem nz9' {α:Type} (d:α) (g:Nat→α→α):∀ (m i:Nat) (l:List α),i + m=l.length→foldN (putF d g) m i l=l.take i++(List.range' i m).map (fun j=>g j (l.getD j d))
 | 0,i,l,h=>by
  rw [show i=l.length by omega,List.take_length]; simp [foldN]
 | m + 1,i,l,h=>by
  have hi:i < l.length:=by omega
  unfold foldN;rw [nz9' d g m (i + 1) _ (by rw [putF,List.length_set]; omega)]
  have e1:(putF d g i l).take (i + 1)=l.take i++[g i (l.getD i d)]:=by
   unfold putF;rw [List.take_add_one,List.take_set_of_le (by omega),List.getElem?_set_self (by omega)]; rfl
  rw [e1,List.range'_succ,List.map_cons,List.append_assoc,List.singleton_append];congr 2;apply List.map_congr_left;intro j hj;rw [List.mem_range'] at hj;obtain ⟨k,hk,rfl⟩:=hj;unfold putF;rw [List.getD_eq_getElem?_getD,List.getElem?_set_ne (by omega),← List.getD_eq_getElem?_getD]
theorem npt' {α:Type} (d:α) (g:Nat→α→α) (f:Nat→α) (n:Nat):foldN (putF d g) n 0 ((List.range n).map f)=(List.range n).map (fun j=>g j (f j)):=by
 rw [nz9' d g n 0 _ (by simp),List.take_zero,List.nil_append,← List.range_eq_range']
 apply List.map_congr_left;intro j hj;rw [List.mem_range] at hj;simp [List.getD_eq_getElem?_getD,hj]
theorem ne3' {α:Type} {l:List α} {i:Nat} (d x:α) (h:i < l.length):(l.set i x).getD i d=x:=by
 rw [List.getD_eq_getElem?_getD,List.getElem?_set_self h]; rfl
def g15 (fl t i:Nat) (c:Car):Car:=⟨c.S1,c.C3,c.G3,c.O2,((1 + t % 3:Nat):Int),((1 + t / 3 % 3:Nat):Int),((1 + t / 9 % 3:Nat):Int),((1 + t / 9 % 3 + t / 27 % 5:Nat):Int),(((i + t) % fl:Nat):Int)⟩
def g18 (t:Nat) (_:Nat) (c:Car):Car:={ c with S1:=((1 + t % 16:Nat):Int) }
def g27 (n1 n2:Nat) (_:Nat) (c:Car):Car:={ c with G3:=((1 + n2 % 4:Nat):Int),O2:=((n1 % 5:Nat):Int) }
def bld15 (fl ca t:Nat):Bldg:={ nq' fl ca with Q0:=((1 + t % 7:Nat):Int),A0:=(List.range ca).map fun i=>g15 fl t i (neg' fl i) }
def bld18 (fl ca t:Nat):Bldg:={ bld15 fl ca t with A0:=(List.range ca).map fun i=>g18 t i (g15 fl t i (neg' fl i)) }
def bld27 (fl ca n1 n2:Nat):Bldg:={ bld15 fl ca n1 with E0:=((1 + n2 % 3:Nat):Int),I0:=((18 * ca + 24 + 6 * (n2 / 3):Nat):Int),A0:=(List.range ca).map fun i=>g27 n1 n2 i (g18 n1 i (g15 fl n1 i (neg' fl i))) }
theorem nbdx' {n:Int} (h:0≤n) (h':n < 256):IntKind.u8.wrap n=n:=by
 simp only [IntKind.wrap,IntKind.signed,IntKind.bits]; simp; omega
theorem ng1' (a b:Nat):Int.tmod (a:Int) (b:Int)=((a % b:Nat):Int):=by
 rw [Int.tmod_eq_emod_of_nonneg (by omega)]; norm_cast
theorem nbeo' (a b:Nat):Int.tdiv (a:Int) (b:Int)=((a / b:Nat):Int):=by
 rw [Int.tdiv_eq_ediv_of_nonneg (by omega)]; norm_cast
theorem nkr' {t:Nat} (k:Nat) (ht:t < 100000):IntKind.i64.wrap ((1:Int) + IntKind.i64.wrap (Int.tmod (t:Int) (k:Int)))=((1 + t % k:Nat):Int):=by
 have:t % k≤t:=Nat.mod_le _ _
 rw [ng1'];generalize t % k=q at this ⊢;rw [nc' (n:=(q:Int)) (by omega) (by omega),nc' (by omega) (by omega)]; norm_cast
theorem nub' {t:Nat} (k:Nat) (ht:t < 256):IntKind.u8.wrap (Int.tdiv (t:Int) (k:Int))=((t / k:Nat):Int):=by
 have:t / k≤t:=Nat.div_le_self _ _
 generalize hq:t / k=q at this;rw [nbeo',hq,nbdx' (by omega) (by omega)]
theorem n7t' {fl ca t:Nat} (h1:1≤fl) (hf:fl≤100) (h2:ca≤8) (ht:t < 256) :
  ng3' (((t:Int),(),(),(0:Int),()),(Bldg.none.tup,(nq' fl ca).tup,()))=some (((t:Int),(),(),()),(Bldg.none.tup,({ nq' fl ca with A0:=(bld15 fl ca t).A0 }:Bldg).tup,())):=by
 have hl:(nq' fl ca).A0.length=ca:=by simp [nq']
 have h:=nz' (step:=fun x=>letI a:=x.2.2.1.2.2; letI b:=x.2.1.2.2; letI c:=b.2.2; letI d:=a.2.2; nc9' x.1.1 x.1.2.2.2.1 x.2.1.1 x.2.1.2.1 b.1 b.2.1 c.1 c.2.1 c.2.2.1 c.2.2.2.1 x.2.2.1.1 x.2.2.1.2.1 a.1 a.2.1 d.1 d.2.1 d.2.2.1 d.2.2.2.1) ca
  (fun i l=>(((t:Int),(),(),(i:Int),()),(Bldg.none.tup,({ nq' fl ca with A0:=l }:Bldg).tup,()))) (putF noCar (g15 fl t)) (fun _ l=>l.length=ca) (fun l=>(((t:Int),(),(),()),(Bldg.none.tup,({ nq' fl ca with A0:=l }:Bldg).tup,())))
  (fun i l hi hll=>by
   refine ⟨?_,by rw [putF,List.length_set,hll]⟩
   show nc9' (t:Int) (i:Int) Bldg.none.D0 Bldg.none.E0 Bldg.none.I0 Bldg.none.Q0 Bldg.none.J0 Bldg.none.K0 Bldg.none.P0 Bldg.none.A0 (nq' fl ca).D0 (nq' fl ca).E0 (nq' fl ca).I0 (nq' fl ca).Q0 (nq' fl ca).J0 (nq' fl ca).K0 (nq' fl ca).P0 l=_;unfold nc9';have hil:i < l.length:=by omega
   have hz:((nq' fl ca).D0 != 0)=true:=by show ((fl:Int) != 0)=true; simp; omega
   have w:IntKind.i64.wrap ((i:Int) + 1)=((i + 1:Nat):Int):=by rw [nc' (by omega) (by omega)]; omega
   have e1:IntKind.i64.wrap ((1:Int) + IntKind.i64.wrap (Int.tmod (t:Int) 3))=((1 + t % 3:Nat):Int):=nkr' 3 (by omega)
   have e2:IntKind.i64.wrap ((1:Int) + IntKind.i64.wrap (Int.tmod (IntKind.u8.wrap (Int.tdiv (t:Int) 3)) 3))=((1 + t / 3 % 3:Nat):Int):=by
    rw [show IntKind.u8.wrap (Int.tdiv (t:Int) 3)=((t / 3:Nat):Int) from nub' 3 ht]; exact nkr' 3 (by omega)
   have e3:IntKind.i64.wrap ((1:Int) + IntKind.i64.wrap (Int.tmod (IntKind.u8.wrap (Int.tdiv (t:Int) 9)) 3))=((1 + t / 9 % 3:Nat):Int):=by
    rw [show IntKind.u8.wrap (Int.tdiv (t:Int) 9)=((t / 9:Nat):Int) from nub' 9 ht]; exact nkr' 3 (by omega)
   have e4:IntKind.i64.wrap (((1 + t / 9 % 3:Nat):Int) + IntKind.i64.wrap (Int.tmod (IntKind.u8.wrap (Int.tdiv (t:Int) 27)) 5))=((1 + t / 9 % 3 + t / 27 % 5:Nat):Int):=by
    rw [show IntKind.u8.wrap (Int.tdiv (t:Int) 27)=((t / 27:Nat):Int) from nub' 27 ht,show Int.tmod ((t / 27:Nat):Int) 5=((t / 27 % 5:Nat):Int) from ng1' _ 5,nc' (n:=((t / 27 % 5:Nat):Int)) (by omega) (by omega),nc' (by omega) (by omega)]; norm_cast
   have e5:Int.tmod (IntKind.i64.wrap ((i:Int) + IntKind.i64.wrap (t:Int))) (nq' fl ca).D0=(((i + t) % fl:Nat):Int):=by
    show Int.tmod _ (fl:Int)=_;rw [nc' (n:=(t:Int)) (by omega) (by omega),nc' (by omega) (by omega)]
    exact ng1' (i + t) fl
   rw [show Car.mk 0 0 0 0 0 0 0 0 0=noCar from rfl]
   simp only [decide_eq_true (show (i:Int) < (l.length:Int) by omega),na' (show (0:Int)≤(i:Int) by omega) (show (i:Int) < (l.length:Int) by omega),cond_true,Int.toNat_natCast,hz,w,ne3' noCar _ hil,List.set_set,e1,e2,e3,e4,e5]
   unfold putF g15
   rfl)
  (fun l hll=>by
   show nc9' (t:Int) (ca:Int) Bldg.none.D0 Bldg.none.E0 Bldg.none.I0 Bldg.none.Q0 Bldg.none.J0 Bldg.none.K0 Bldg.none.P0 Bldg.none.A0 (nq' fl ca).D0 (nq' fl ca).E0 (nq' fl ca).I0 (nq' fl ca).Q0 (nq' fl ca).J0 (nq' fl ca).K0 (nq' fl ca).P0 l=_;unfold nc9';rw [hll,decide_eq_false (Int.lt_irrefl (ca:Int))]; rfl)
  ca 0 (nq' fl ca).A0 (by omega) hl
 have h2:=ng' h.1 (by omega)
 rw [show (nq' fl ca).A0=(List.range ca).map (neg' fl) from rfl,npt'] at h2
 exact h2
theorem n73' {fl ca t:Nat} (_hf:fl≤100) (h2:ca≤8) (ht:t < 256) :
  ng0' (((t:Int),(),(),(0:Int),()),(Bldg.none.tup,(bld15 fl ca t).tup,()))=some (((),(),()),(Bldg.none.tup,(bld18 fl ca t).tup,())):=by
 have hl:(bld15 fl ca t).A0.length=ca:=by simp [bld15]
 have h:=nz' (step:=fun x=>letI a:=x.2.2.1.2.2; letI b:=x.2.1.2.2; letI c:=b.2.2; letI d:=a.2.2; ndd' x.1.1 x.1.2.2.2.1 x.2.1.1 x.2.1.2.1 b.1 b.2.1 c.1 c.2.1 c.2.2.1 c.2.2.2.1 x.2.2.1.1 x.2.2.1.2.1 a.1 a.2.1 d.1 d.2.1 d.2.2.1 d.2.2.2.1) ca
  (fun i l=>(((t:Int),(),(),(i:Int),()),(Bldg.none.tup,({ bld15 fl ca t with A0:=l }:Bldg).tup,()))) (putF noCar (g18 t)) (fun _ l=>l.length=ca) (fun l=>(((),(),()),(Bldg.none.tup,({ bld15 fl ca t with A0:=l }:Bldg).tup,())))
  (fun i l hi hll=>by
   refine ⟨?_,by rw [putF,List.length_set,hll]⟩
   show ndd' (t:Int) (i:Int) Bldg.none.D0 Bldg.none.E0 Bldg.none.I0 Bldg.none.Q0 Bldg.none.J0 Bldg.none.K0 Bldg.none.P0 Bldg.none.A0 (bld15 fl ca t).D0 (bld15 fl ca t).E0 (bld15 fl ca t).I0 (bld15 fl ca t).Q0 (bld15 fl ca t).J0 (bld15 fl ca t).K0 (bld15 fl ca t).P0 l=_;unfold ndd';have w:IntKind.i64.wrap ((i:Int) + 1)=((i + 1:Nat):Int):=by rw [nc' (by omega) (by omega)]; omega
   have e1:IntKind.i64.wrap ((1:Int) + IntKind.i64.wrap (Int.tmod (t:Int) 16))=((1 + t % 16:Nat):Int):=nkr' 16 (by omega)
   rw [show Car.mk 0 0 0 0 0 0 0 0 0=noCar from rfl]
   simp only [decide_eq_true (show (i:Int) < (l.length:Int) by omega),na' (show (0:Int)≤(i:Int) by omega) (show (i:Int) < (l.length:Int) by omega),cond_true,Int.toNat_natCast,w,e1]
   unfold putF g18
   rfl)
  (fun l hll=>by
   show ndd' (t:Int) (ca:Int) Bldg.none.D0 Bldg.none.E0 Bldg.none.I0 Bldg.none.Q0 Bldg.none.J0 Bldg.none.K0 Bldg.none.P0 Bldg.none.A0 (bld15 fl ca t).D0 (bld15 fl ca t).E0 (bld15 fl ca t).I0 (bld15 fl ca t).Q0 (bld15 fl ca t).J0 (bld15 fl ca t).K0 (bld15 fl ca t).P0 l=_;unfold ndd';rw [hll,decide_eq_false (Int.lt_irrefl (ca:Int))]; rfl)
  ca 0 (bld15 fl ca t).A0 (by omega) hl
 have h2:=ng' h.1 (by omega)
 rw [show (bld15 fl ca t).A0=(List.range ca).map (fun i=>g15 fl t i (neg' fl i)) from rfl,npt'] at h2
 exact h2
def pre27 (fl ca n1 n2:Nat):Bldg:={ bld27 fl ca n1 n2 with A0:=(bld18 fl ca n1).A0 }
theorem n8r' {fl ca n0 n1 n2:Nat} (h2:ca≤8) (_h3:n1 < 256) (h4:n2 < 256) :
  new' (((),(),(),(0:Int),()),(((n0:Int),(n1:Int),(n2:Int),()),Bldg.none.tup,(pre27 fl ca n1 n2).tup,()))=some (((),(),()),(Bldg.none.tup,(bld27 fl ca n1 n2).tup,())):=by
 have hl:(pre27 fl ca n1 n2).A0.length=ca:=by simp [pre27,bld18]
 have h:=nz' (step:=fun x=>letI a:=x.2.2; letI b:=a.2.1.2.2; letI c:=a.1.2.2; letI d:=c.2.2; letI e:=b.2.2; nde' x.1.2.2.2.1 x.2.1.1 x.2.1.2.1 x.2.1.2.2.1 a.1.1 a.1.2.1 c.1 c.2.1 d.1 d.2.1 d.2.2.1 d.2.2.2.1 a.2.1.1 a.2.1.2.1 b.1 b.2.1 e.1 e.2.1 e.2.2.1 e.2.2.2.1) ca
  (fun i l=>(((),(),(),(i:Int),()),(((n0:Int),(n1:Int),(n2:Int),()),Bldg.none.tup,({ pre27 fl ca n1 n2 with A0:=l }:Bldg).tup,()))) (putF noCar (g27 n1 n2)) (fun _ l=>l.length=ca) (fun l=>(((),(),()),(Bldg.none.tup,({ pre27 fl ca n1 n2 with A0:=l }:Bldg).tup,())))
  (fun i l hi hll=>by
   refine ⟨?_,by rw [putF,List.length_set,hll]⟩
   show nde' (i:Int) (n0:Int) (n1:Int) (n2:Int) Bldg.none.D0 Bldg.none.E0 Bldg.none.I0 Bldg.none.Q0 Bldg.none.J0 Bldg.none.K0 Bldg.none.P0 Bldg.none.A0 (pre27 fl ca n1 n2).D0 (pre27 fl ca n1 n2).E0 (pre27 fl ca n1 n2).I0 (pre27 fl ca n1 n2).Q0 (pre27 fl ca n1 n2).J0 (pre27 fl ca n1 n2).K0 (pre27 fl ca n1 n2).P0 l=_;unfold nde';have hil:i < l.length:=by omega
   have w:IntKind.i64.wrap ((i:Int) + 1)=((i + 1:Nat):Int):=by rw [nc' (by omega) (by omega)]; omega
   have e1:IntKind.i64.wrap ((1:Int) + IntKind.i64.wrap (Int.tmod (n2:Int) 4))=((1 + n2 % 4:Nat):Int):=nkr' 4 (by omega)
   have e2:IntKind.i64.wrap (Int.tmod (n1:Int) 5)=((n1 % 5:Nat):Int):=by
    rw [show Int.tmod (n1:Int) 5=((n1 % 5:Nat):Int) from ng1' n1 5,nc' (by omega) (by omega)]
   rw [show Car.mk 0 0 0 0 0 0 0 0 0=noCar from rfl]
   simp only [decide_eq_true (show (i:Int) < (l.length:Int) by omega),na' (show (0:Int)≤(i:Int) by omega) (show (i:Int) < (l.length:Int) by omega),cond_true,Int.toNat_natCast,w,e1,e2,ne3' noCar _ hil,List.set_set,List.length_set]
   unfold putF g27
   rfl)
  (fun l hll=>by
   show nde' (ca:Int) (n0:Int) (n1:Int) (n2:Int) Bldg.none.D0 Bldg.none.E0 Bldg.none.I0 Bldg.none.Q0 Bldg.none.J0 Bldg.none.K0 Bldg.none.P0 Bldg.none.A0 (pre27 fl ca n1 n2).D0 (pre27 fl ca n1 n2).E0 (pre27 fl ca n1 n2).I0 (pre27 fl ca n1 n2).Q0 (pre27 fl ca n1 n2).J0 (pre27 fl ca n1 n2).K0 (pre27 fl ca n1 n2).P0 l=_;unfold nde';rw [hll,decide_eq_false (Int.lt_irrefl (ca:Int))]; rfl)
  ca 0 (pre27 fl ca n1 n2).A0 (by omega) hl
 have h2:=ng' h.1 (by omega)
 rw [show (pre27 fl ca n1 n2).A0=(List.range ca).map (fun i=>g18 n1 i (g15 fl n1 i (neg' fl i))) from rfl,npt'] at h2
 exact h2
def fl15 (n0:Nat):Nat:=2 + n0 % 5
def ca15 (n0:Nat):Nat:=1 + n0 / 5 % 3
theorem nvr' {n0 t:Nat} (hn:n0 < 256) (ht:t < 256):niy' (n0:Int) (t:Int)=some (((),()),((bld15 (fl15 n0) (ca15 n0) t).tup,())):=by
 have e1:IntKind.i64.wrap ((2:Int) + IntKind.i64.wrap (Int.tmod (n0:Int) 5))=((fl15 n0:Nat):Int):=by
  rw [show Int.tmod (n0:Int) 5=((n0 % 5:Nat):Int) from ng1' n0 5,nc' (n:=((n0 % 5:Nat):Int)) (by omega) (by omega),nc' (by omega) (by omega)]; unfold fl15; norm_cast
 have e2:IntKind.i64.wrap ((1:Int) + IntKind.i64.wrap (Int.tmod (IntKind.u8.wrap (Int.tdiv (n0:Int) 5)) 3))=((ca15 n0:Nat):Int):=by
  rw [show IntKind.u8.wrap (Int.tdiv (n0:Int) 5)=((n0 / 5:Nat):Int) from nub' 5 hn]; exact nkr' 3 (by omega)
 have hf:2≤fl15 n0∧fl15 n0≤6:=by unfold fl15; omega
 have hc:1≤ca15 n0∧ca15 n0≤3:=by unfold ca15; omega
 have e3:IntKind.i64.wrap ((1:Int) + IntKind.i64.wrap (Int.tmod (t:Int) 7))=((1 + t % 7:Nat):Int):=nkr' 7 (by omega)
 unfold niy';rw [e1,e2];refine bindI (nw6' (by omega) (by omega)) ?_
 refine bindI (n7t' (by omega) (by omega) (by omega) ht) ?_
 show some (((),()),(((fl15 n0:Nat):Int),(1:Int),(4000:Int),IntKind.i64.wrap ((1:Int) + IntKind.i64.wrap (Int.tmod (t:Int) 7)),_,_,_,_,()),())=_;rw [e3]; rfl
theorem nvs' {n0 t:Nat} (hn:n0 < 256) (ht:t < 256):ni4' (n0:Int) (t:Int)=some (((),()),((bld18 (fl15 n0) (ca15 n0) t).tup,())):=by
 have hf:2≤fl15 n0∧fl15 n0≤6:=by unfold fl15; omega
 have hc:1≤ca15 n0∧ca15 n0≤3:=by unfold ca15; omega
 unfold ni4';refine bindI (nvr' hn ht) ?_;exact bindI (n73' (by omega) (by omega) ht) rfl
theorem nvt' {n0 n1 n2:Nat} (h0:n0 < 256) (h1:n1 < 256) (h2:n2 < 256):nga' (n0:Int) (n1:Int) (n2:Int)=some (((),()),((bld27 (fl15 n0) (ca15 n0) n1 n2).tup,())):=by
 have hf:2≤fl15 n0∧fl15 n0≤6:=by unfold fl15; omega
 have hc:1≤ca15 n0∧ca15 n0≤3:=by unfold ca15; omega
 have e1:IntKind.i64.wrap ((1:Int) + IntKind.i64.wrap (Int.tmod (n2:Int) 3))=((1 + n2 % 3:Nat):Int):=nkr' 3 (by omega)
 have hl:(bld18 (fl15 n0) (ca15 n0) n1).A0.length=ca15 n0:=by simp [bld18]
 have e2:IntKind.i64.wrap (IntKind.i64.wrap (IntKind.i64.wrap (18 * (((bld18 (fl15 n0) (ca15 n0) n1).A0.length:Nat):Int)) + 24) + IntKind.i64.wrap (6 * IntKind.i64.wrap (IntKind.u8.wrap (Int.tdiv (n2:Int) 3))))=((18 * ca15 n0 + 24 + 6 * (n2 / 3):Nat):Int):=by
  rw [hl,show IntKind.u8.wrap (Int.tdiv (n2:Int) 3)=((n2 / 3:Nat):Int) from nub' 3 h2,nc' (n:=18 * ((ca15 n0:Nat):Int)) (by omega) (by omega),nc' (n:=18 * ((ca15 n0:Nat):Int) + 24) (by omega) (by omega),nc' (n:=((n2 / 3:Nat):Int)) (by omega) (by omega),nc' (n:=6 * ((n2 / 3:Nat):Int)) (by omega) (by omega),nc' (by omega) (by omega)]
  norm_cast
 unfold nga';refine bindI (nvs' h0 h1) ?_;refine bindI (a:=(((),(),()),(Bldg.none.tup,(bld27 (fl15 n0) (ca15 n0) n1 n2).tup,()))) ?_ rfl;show new' (((),(),(),(0:Int),()),(((n0:Int),(n1:Int),(n2:Int),()),Bldg.none.tup,(((fl15 n0:Nat):Int),IntKind.i64.wrap ((1:Int) + IntKind.i64.wrap (Int.tmod (n2:Int) 3)),IntKind.i64.wrap (IntKind.i64.wrap (IntKind.i64.wrap (18 * (((bld18 (fl15 n0) (ca15 n0) n1).A0.length:Nat):Int)) + 24) + IntKind.i64.wrap (6 * IntKind.i64.wrap (IntKind.u8.wrap (Int.tdiv (n2:Int) 3)))),_,_,_,_,_,()),()))=_;rw [e1,e2];exact n8r' (by omega) h1 h2
theorem n5m' {fl ca n1 n2:Nat} (hf:2≤fl∧fl≤6) (hc:1≤ca∧ca≤3) (_h1:n1 < 256) (h2:n2 < 256):(bld27 fl ca n1 n2).small∧(bld27 fl ca n1 n2).code=0∧(bld27 fl ca n1 n2).A0.length=ca∧(bld27 fl ca n1 n2).D0=(fl:Int)∧18 * (ca:Int) + 24≤(bld27 fl ca n1 n2).I0∧(bld27 fl ca n1 n2).I0≤600:=by
 have hl:(bld27 fl ca n1 n2).A0.length=ca:=by simp [bld27]
 have hr:(bld27 fl ca n1 n2).I0=((18 * ca + 24 + 6 * (n2 / 3):Nat):Int):=rfl;refine ⟨⟨by show (2:Int)≤(fl:Int); omega,by show (fl:Int)≤8; omega⟩,?_,hl,rfl,by rw [hr]; omega,by rw [hr]; omega⟩
 unfold Bldg.code;have e1:inR 2 32 (bld27 fl ca n1 n2).D0=true:=ns'.2 (by show (2:Int)≤(fl:Int)∧(fl:Int)≤32; omega)
 have e2:inR 1 8 ((bld27 fl ca n1 n2).A0.length:Int)=true:=ns'.2 (by omega)
 have e3:inR 1 16 (bld27 fl ca n1 n2).E0=true:=ns'.2 (by show (1:Int)≤((1 + n2 % 3:Nat):Int)∧((1 + n2 % 3:Nat):Int)≤16; omega)
 have e4:inR 1 10000 (bld27 fl ca n1 n2).Q0=true:=ns'.2 (by show (1:Int)≤((1 + n1 % 7:Nat):Int)∧((1 + n1 % 7:Nat):Int)≤10000; omega)
 have e5:(bld27 fl ca n1 n2).A0.all (nf5' (bld27 fl ca n1 n2).D0)=true:=by
  rw [List.all_eq_true];intro c hc';obtain ⟨i,_,rfl⟩:=List.mem_map.1 hc';have hm:(i + n1) % fl < fl:=Nat.mod_lt _ (by omega)
  show nf5' (fl:Int) (g27 n1 n2 i (g18 n1 i (g15 fl n1 i (neg' fl i))))=true;unfold nf5' g27 g18 g15 neg';simp only [List.all_cons,List.all_nil,Bool.and_true,Bool.and_eq_true,ns',decide_eq_true_eq];rw [nc' (n:=(fl:Int) - 1) (by omega) (by omega)]
  refine ⟨⟨?_,?_,?_,?_,?_,?_,?_⟩,?_,?_,?_⟩ <;> omega
 have e6:(bld27 fl ca n1 n2).loadsOK=true:=by
  show (nq' 2 1).loadsOK=true
  kernel_rfl
 have e7:inR (18 * ((bld27 fl ca n1 n2).A0.length:Int) + 24) 65536 (bld27 fl ca n1 n2).I0=true:=ns'.2 (by rw [hl,hr]; omega)
 rw [e1,e2,e3,e4,e5,e6,e7]; rfl
theorem wrapN {n:Nat} (h:n < 1000000000):IntKind.i64.wrap ((n:Int) + 1)=((n + 1:Nat):Int):=by
 rw [nc' (by omega) (by omega)]; omega
theorem u64N {n:Nat} (h:n < 1000000000):IntKind.u64.wrap (n:Int)=(n:Int):=ncd' (by omega) (by omega)
theorem nxr' (l:List Int):(textU l).size=l.length:=by
 simp [textU,ByteArray.size]
def xi64 (x y:Int):Int:=IntKind.i64.wrap (stk x y (BitVec.toNat ((BitVec.ofInt (IntKind.bits IntKind.i64) x) ^^^ (BitVec.ofInt (IntKind.bits IntKind.i64) y))))
def st16 (_:Nat) (r:Int):Int:=bif decide (32768≤r) then xi64 (Int.tmod (IntKind.i64.wrap (r * 2)) 65536) 4129 else Int.tmod (IntKind.i64.wrap (r * 2)) 65536
def by16 (s:ByteArray) (i:Nat) (r:Int):Int:=foldN st16 8 0 (xi64 r (IntKind.i64.wrap (IntKind.i64.wrap (nbj' s i) * 256)))
def n2y' (s:ByteArray):Int:=foldN (by16 s) s.size 0 65535
theorem n52' (s:ByteArray) (r i:Int):nj2' ((s,r,i,(0:Int),()),())=some ((s,foldN st16 8 0 r,i,()),()):=by
 have h:=nz' (step:=fun x=>nfg' x.1.1 x.1.2.1 x.1.2.2.1 x.1.2.2.2.1) 8 (fun k r=>((s,r,i,(k:Int),()),())) st16 (fun _ _=>True) (fun r=>((s,r,i,()),()))
  (fun k r hk _=>by
   refine ⟨?_,trivial⟩;show nfg' s r i (k:Int)=_;unfold nfg';simp only [decide_eq_true (show (k:Int) < 8 by omega),cond_true,wrapN (show k < 1000000000 by omega)]
   unfold st16 xi64;cases decide ((32768:Int)≤r) <;> rfl)
  (fun r _=>by
   show nfg' s r i 8=_;unfold nfg';rw [decide_eq_false (Int.lt_irrefl (8:Int))]; rfl) 8 0 r (by omega) trivial
 exact ng' h.1 (by omega)
theorem n3w' {s:ByteArray} (hs:s.size≤1000000):nnc' s=some ((IntKind.u16.wrap (n2y' s),()),()):=by
 have h:=nz' (step:=fun x=>ne4' x.1.1 x.1.2.1 x.1.2.2.1) s.size (fun i r=>((s,r,(i:Int),()),())) (by16 s) (fun _ _=>True) (fun r=>((r,()),()))
  (fun i r hi _=>by
   refine ⟨?_,trivial⟩;show ne4' s r (i:Int)=_;unfold ne4';simp only [decide_eq_true (show (i:Int) < (s.size:Int) by omega),na' (show (0:Int)≤(i:Int) by omega) (show (i:Int) < (s.size:Int) by omega),cond_true,Int.toNat_natCast]
   refine bindI (n52' s _ _) ?_;show some (Sum.inl ((s,_,IntKind.i64.wrap ((i:Int) + 1),()),()))=_;rw [wrapN (show i < 1000000000 by omega)]; rfl)
  (fun r _=>by
   show ne4' s r (s.size:Int)=_;unfold ne4';rw [decide_eq_false (Int.lt_irrefl (s.size:Int))]; rfl) s.size 0 65535 (by omega) trivial
 have h2:nj8' ((s,(65535:Int),(0:Int),()),())=_:=ng' h.1 (by omega)
 unfold nnc';exact bindI h2 rfl
def sealT (s:ByteArray):ByteArray:=textU [IntKind.u8.wrap (IntKind.u16.wrap (Int.tdiv (IntKind.u16.wrap (n2y' s)) 256)),IntKind.u8.wrap (Int.tmod (IntKind.u16.wrap (n2y' s)) 256)]
def sealV (s:ByteArray):ByteArray:=s++sealT s
theorem nyz' (s:ByteArray):(sealV s).size=s.size + 2:=by
 unfold sealV sealT;rw [ByteArray.size_append,nxr']; rfl
theorem nv9' {s:ByteArray} (hs:s.size≤1000000):nlc' s=some ((sealV s,()),()):=by
 unfold nlc';refine bindI (n3w' hs) ?_
 have:=nyz' s
 unfold sealV at this;rw [ByteArray.size_append] at this;show (bif Nat.ble (s.size + (sealT s).size) 4611686018427387904 then some ((s++sealT s,()),()) else none)=_;rw [nh' (by omega)]; rfl
def openV (s:ByteArray):ByteArray×Int:=bif decide ((s.size:Int) < 2) then (noB,4) else bif eqB (sealV (s.extract 0 (s.size - 2))) s then (s.extract 0 (s.size - 2),0) else (noB,5)
theorem n49' {s:ByteArray} (hs:s.size≤1000000):no1' s=some (((openV s).1,(openV s).2,()),()):=by
 unfold no1' openV;by_cases h:(s.size:Int) < 2
 ·rw [decide_eq_true h]; rfl
 ·rw [decide_eq_false h,cond_false,cond_false]
  have w:IntKind.i64.wrap ((s.size:Int) - 2)=((s.size - 2:Nat):Int):=by rw [nc' (by omega) (by omega)]; omega
  simp only [w,Int.toNat_natCast];rw [decide_eq_true (show (0:Int)≤((s.size - 2:Nat):Int) by omega),decide_eq_true (show ((s.size - 2:Nat):Int)≤(s.size:Int) by omega),Bool.and_self,cond_true]
  refine bindI (nv9' (s:=s.extract 0 (s.size - 2)) (by rw [nbdj' s (by omega)]; omega)) ?_
  show (bif eqB (sealV (s.extract 0 (s.size - 2))) s then _ else _)=_;cases eqB (sealV (s.extract 0 (s.size - 2))) s <;> rfl
def numL (n:Int) (k:Nat):List Int:=(List.range k).map fun i=>IntKind.u8.wrap (Int.fdiv n ((2:Int) ^ (Min.min (8 * i) (IntKind.bits .u64))))
def nmB (n:Int) (k:Nat):ByteArray:=textU (numL n k)
theorem nb0' (n:Int) (k:Nat):(nmB n k).size=k:=by
 unfold nmB; rw [nxr']; simp [numL]
theorem ncc' (n:Int) {k:Nat} (hk:k≤100):nbu' n (k:Int)=some ((nmB n k,()),()):=by
 have h:=nz' (step:=fun x=>nhv' x.1.1 x.1.2.1 x.1.2.2.1 x.1.2.2.2.1) k (fun i l=>((n,(k:Int),l,(i:Int),()),())) (putF 0 (fun i _=>IntKind.u8.wrap (Int.fdiv n ((2:Int) ^ (Min.min (8 * i) (IntKind.bits .u64)))))) (fun _ l=>l.length=k) (fun l=>((l,()),()))
  (fun i l hi hl=>by
   refine ⟨?_,by rw [putF,List.length_set,hl]⟩
   show nhv' n (k:Int) l (i:Int)=_;unfold nhv'
   have e:IntKind.u64.wrap (IntKind.i64.wrap (8 * (i:Int)))=((8 * i:Nat):Int):=by
    rw [nc' (n:=8 * (i:Int)) (by omega) (by omega),ncd' (by omega) (by omega)]; norm_cast
   simp only [decide_eq_true (show (i:Int) < (k:Int) by omega),na' (show (0:Int)≤(i:Int) by omega) (show (i:Int) < (l.length:Int) by omega),cond_true,Int.toNat_natCast,e,decide_eq_true (show (0:Int)≤((8 * i:Nat):Int) by omega),wrapN (show i < 1000000000 by omega)]
   rfl)
  (fun l hl=>by
   show nhv' n (k:Int) l (k:Int)=_;unfold nhv';rw [decide_eq_false (Int.lt_irrefl (k:Int))]; rfl) k 0 (List.replicate k 0) (by omega) (by simp)
 have h2:=ng' h.1 (by omega)
 rw [show List.replicate k (0:Int)=(List.range k).map (fun _=>0) by simp [List.map_const'],npt'] at h2
 have h3:nnx' ((n,(k:Int),(List.range k).map (fun _=>(0:Int)),(0:Int),()),())=_:=h2
 unfold nbu';rw [decide_eq_true (show (0:Int)≤(k:Int) by omega),decide_eq_true (Int.le_refl (k:Int)),decide_eq_true (show (k:Int)≤2147483648 by omega),Bool.and_self,Bool.and_self,cond_true,Int.toNat_natCast,show List.replicate k (0:Int)=(List.range k).map (fun _=>0) by simp [List.map_const']]
 exact bindI h3 rfl
def nsn' (c:Int×Int):ByteArray:=nmB (IntKind.u64.wrap c.1) 4++nmB (IntKind.u64.wrap c.2) 4
theorem nvu' (c:Int×Int):(nsn' c).size=8:=by
 unfold nsn'; rw [ByteArray.size_append,nb0',nb0']
theorem n4a' (c:Int×Int):nnf' c.1 c.2=some ((nsn' c,()),()):=by
 unfold nnf';refine bindI (ncc' (IntKind.u64.wrap c.1) (k:=4) (by omega)) ?_
 refine bindI (ncc' (IntKind.u64.wrap c.2) (k:=4) (by omega)) ?_
 show (bif Nat.ble ((nmB (IntKind.u64.wrap c.1) 4).size + (nmB (IntKind.u64.wrap c.2) 4).size) 4611686018427387904 then _ else _)=_;rw [nb0',nb0']; rfl
def or64 (x y:Int):Int:=IntKind.u64.wrap (stk x y (BitVec.toNat ((BitVec.ofInt (IntKind.bits IntKind.u64) x) ||| (BitVec.ofInt (IntKind.bits IntKind.u64) y))))
def bitS (l:List Bool) (i:Nat) (n:Int):Int:=bif l.getD i false then or64 n (IntKind.u64.wrap (1 * 2 ^ min i (IntKind.bits .u64))) else n
def bitsB (l:List Bool):ByteArray:=nmB (foldN (bitS l) l.length 0 0) 1
theorem nx8' (l:List Bool):(bitsB l).size=1:=nb0' _ _
theorem n43' {l:List Bool} (hl:l.length≤100):no3' l=some ((bitsB l,()),()):=by
 have h:=nz' (step:=fun x=>ngi' x.1.1 x.1.2.1 x.1.2.2.1) l.length (fun i n=>((l,n,(i:Int),()),())) (bitS l) (fun _ _=>True) (fun n=>((n,()),()))
  (fun i n hi _=>by
   refine ⟨?_,trivial⟩;show ngi' l n (i:Int)=_;unfold ngi';simp only [decide_eq_true (show (i:Int) < (l.length:Int) by omega),na' (show (0:Int)≤(i:Int) by omega) (show (i:Int) < (l.length:Int) by omega),cond_true,Int.toNat_natCast,u64N (show i < 1000000000 by omega),decide_eq_true (show (0:Int)≤(i:Int) by omega),wrapN (show i < 1000000000 by omega)]
   unfold bitS or64;cases l.getD i false <;> rfl)
  (fun n _=>by
   show ngi' l n (l.length:Int)=_;unfold ngi';rw [decide_eq_false (Int.lt_irrefl (l.length:Int))]; rfl) l.length 0 0 (by omega) trivial
 have h2:nlp' ((l,(0:Int),(0:Int),()),())=_:=ng' h.1 (by omega)
 unfold no3';refine bindI h2 ?_;exact bindI (ncc' _ (k:=1) (by omega)) rfl
structure Inp where
 press:Int×Int
 kind:Int
 car:Int
 cars:List CarInput
def Inp.tup (x:Inp):Int×Int×Int×Int×List CarInput×Unit:=(x.press.1,x.press.2,x.kind,x.car,x.cars,())
def Inp.none:Inp:=⟨(0,0),0,0,[]⟩
def noCI:CarInput:=CarInput.mk 0 false false false false 0 false 0 false 0 0
def flV (b:Bldg) (n:Int):Bool:=Int.fdiv (IntKind.u64.wrap n) ((2:Int) ^ b.D0.toNat)==0
def nl5' (b:Bldg) (c:CarInput):Bool:=flV b c.Z0&&(flV b c.N1&&(inR 0 (b.D0 - 1) c.R1&&inR 0 2 c.Y1))
def nhy' (b:Bldg) (c:Int×Int):Bool:=isZ (nr' c (hallC b))
def isInV (b:Bldg) (x:Inp):Bool:=nhy' b x.press&&(inR 0 8 x.kind&&(inR 0 ((b.A0.length:Int) - 1) x.car&&(!(x.kind==0&&x.car != 0)&&((x.cars.length:Int)==(b.A0.length:Int)&&x.cars.all (nl5' b)))))
def carB (s:ByteArray) (c:CarInput):ByteArray:=s++nmB (IntKind.u64.wrap c.Z0) 4++bitsB [c.V1,c.L1,c.M1,c.F1,c.L2,c.M2]++nmB (IntKind.u64.wrap c.R1) 1++nmB (IntKind.u64.wrap c.Y1) 1++nmB (IntKind.u64.wrap c.N1) 4++nmB ((c.H3:Nat):Int) 8
theorem n01' (s:ByteArray) (c:CarInput):(carB s c).size=s.size + 19:=by
 unfold carB;simp only [ByteArray.size_append,nb0',nx8']
def headB (b:Bldg) (x:Inp):ByteArray:=nmB 165 1++nmB (IntKind.u64.wrap (b.A0.length:Int)) 1++nsn' x.press++nmB (IntKind.u64.wrap x.kind) 1++nmB (IntKind.u64.wrap x.car) 1
theorem nx7' (b:Bldg) (x:Inp):(headB b x).size=12:=by
 unfold headB;simp only [ByteArray.size_append,nb0',nvu']
def inV (b:Bldg) (x:Inp):ByteArray:=sealV (x.cars.foldl carB (headB b x))
theorem nyg' (l:List CarInput) (s:ByteArray):(l.foldl carB s).size=s.size + 19 * l.length:=by
 induction l generalizing s with
 | nil=>simp
 | cons c t ih=>rw [List.foldl_cons,ih,n01',List.length_cons]; omega
theorem nbd8' (b:Bldg) (x:Inp):(inV b x).size=14 + 19 * x.cars.length:=by
 unfold inV; rw [nyz',nyg',nx7']; omega
theorem nih' (n lo hi:Int):nkl' n lo hi=some ((inR lo hi n,()),()):=by
 unfold nkl' inR;cases decide (lo≤n) <;> rfl
section
variable {b:Bldg} (hb:b.small) (hcode:b.code=0)
include hb
theorem ntr' (n:Int):nlj' b.D0 b.E0 b.I0 b.Q0 b.J0 b.K0 b.P0 b.A0 n=some ((flV b n,()),()):=by
 have h1:=hb.1;have h2:=hb.2;have e:IntKind.u64.wrap b.D0=b.D0:=ncd' (by omega) (by omega)
 have e2:Min.min b.D0.toNat (IntKind.bits .u64)=b.D0.toNat:=by show min b.D0.toNat 64=_; omega
 unfold nlj' flV;simp only [e,decide_eq_true (show (0:Int)≤b.D0 by omega),cond_true,e2]
theorem n2b' (x:Inp) (hx:x.cars.length≤1000):nib' (((),(),(0:Int),()),(b.tup,x.tup,()))=some (bif x.cars.all (nl5' b) then .inl ((),()) else .inr ((false,()),())):=by
 have h1:=hb.1;have h2:=hb.2
 have h:=ng' (nkt' (step:=fun x=>letI a:=x.2.1.2.2; letI b:=x.2.2.1; letI c:=a.2.2; ngc' x.1.2.2.1 x.2.1.1 x.2.1.2.1 a.1 a.2.1 c.1 c.2.1 c.2.2.1 c.2.2.2.1 b.1 b.2.1 b.2.2.1 b.2.2.2.1 b.2.2.2.2.1) x.cars noCI (nl5' b) (fun i=>(((),(),(i:Int),()),(b.tup,x.tup,()))) (.inl ((),())) (fun _=>.inr ((false,()),())) (fun i hi=>by
  show ngc' (i:Int) b.D0 b.E0 b.I0 b.Q0 b.J0 b.K0 b.P0 b.A0 x.press.1 x.press.2 x.kind x.car x.cars=_;unfold ngc';rw [show CarInput.mk 0 false false false false 0 false 0 false 0 0=noCI from rfl]
  have w:IntKind.i64.wrap (b.D0 - 1)=b.D0 - 1:=nc' (by omega) (by omega)
  simp only [decide_eq_true (show (i:Int) < (x.cars.length:Int) by omega),cond_true,na' (show (0:Int)≤(i:Int) by omega) (show (i:Int) < (x.cars.length:Int) by omega),Int.toNat_natCast,wrapN (show i < 1000000000 by omega),w]
  generalize x.cars.getD i noCI=c;unfold nl5';refine bindI (ntr' hb c.Z0) ?_;show (bif !flV b c.Z0 then _ else _)=_;cases flV b c.Z0 with
  | false=>rfl
  | true=>
  rw [Bool.not_true,cond_false,Bool.true_and];refine bindI (ntr' hb c.N1) ?_;show (bif !flV b c.N1 then _ else _)=_;cases flV b c.N1 with
  | false=>rfl
  | true=>
  rw [Bool.not_true,cond_false,Bool.true_and];refine bindI (nih' _ _ _) ?_;show (bif !inR 0 (b.D0 - 1) c.R1 then _ else _)=_;cases inR 0 (b.D0 - 1) c.R1 with
  | false=>rfl
  | true=>
  rw [Bool.not_true,cond_false,Bool.true_and];refine bindI (nih' _ _ _) ?_;show (bif !inR 0 2 c.Y1 then _ else _)=_;cases inR 0 2 c.Y1 <;> rfl) (by
  show ngc' (x.cars.length:Int) b.D0 b.E0 b.I0 b.Q0 b.J0 b.K0 b.P0 b.A0 x.press.1 x.press.2 x.kind x.car x.cars=_;unfold ngc';rw [decide_eq_false (Int.lt_irrefl _),cond_false]) x.cars.length 0 (by omega)) (by omega)
 rw [List.drop_zero,nqg'] at h;exact h
include hcode
theorem nj9' (c:Int×Int):nl7' b.D0 b.E0 b.I0 b.Q0 b.J0 b.K0 b.P0 b.A0 c.1 c.2=some ((nhy' b c,()),()):=by
 unfold nl7';refine bindI (nne' hb hcode) ?_;have e1:=nkk' c.1 (hallC b).1;have e2:=nkk' c.2 (hallC b).2;show Option.bind (bif IntKind.u32.wrap _==0 then some ((IntKind.u32.wrap _==0,()),()) else _) _=_;rw [e1,e2];unfold nhy' isZ;show Option.bind (bif (nr' c (hallC b)).1==0 then some (((nr' c (hallC b)).2==0,()),()) else _) _=_;cases (nr' c (hallC b)).1==0 with
 | false=>rfl
 | true=>rw [Bool.true_and,Bool.and_true]; rfl
theorem n5j' (x:Inp) (hx:x.cars.length≤1000):no5' b.D0 b.E0 b.I0 b.Q0 b.J0 b.K0 b.P0 b.A0 x.press.1 x.press.2 x.kind x.car x.cars=some ((isInV b x,()),()):=by
 have hc:=nn' hcode;have w:IntKind.i64.wrap ((b.A0.length:Int) - 1)=(b.A0.length:Int) - 1:=nc' (by omega) (by omega)
 unfold no5' isInV;rw [w]
 have fin:∀ g:Bool,Option.bind (some (((),(),!g,()),(b.tup,x.tup,()))) (fun y5:(Unit×Unit×Bool×Unit)×_=>bif y5.1.2.2.1 then some ((false,()),()) else (nib' (((),(),(0:Int),()),(y5.2.1,y5.2.2.1,()))).bind fun y6=>(match y6 with | .inl y7=>some ((true,()),()) | .inr y7=>some ((y7.1.1,()),())))=some (((g&&x.cars.all (nl5' b)),()),()):=by
  intro g;cases g with
  | false=>rfl
  | true=>
   refine bindI rfl ?_;show (bif !true then _ else _)=_;rw [Bool.not_true,cond_false,Bool.true_and];refine bindI (n2b' hb x hx) ?_;cases x.cars.all (nl5' b) <;> rfl
 rw [ny'];show Option.bind (Option.bind (some ((b.code,()),())) _) _=_;rw [hcode];cases h1:nhy' b x.press with
 | false=>
  refine bindI (bindI rfl (show (bif ((0:Int) != 0) then _ else _)=some (((),(),!false,()),(b.tup,x.tup,())) from bindI (nj9' hb hcode x.press) (by show (bif !nhy' b x.press then _ else _)=_; rw [h1]; rfl))) ?_
  exact fin false
 | true=>
 cases h2:inR 0 8 x.kind with
 | false=>
  refine bindI (bindI rfl (show (bif ((0:Int) != 0) then _ else _)=some (((),(),!false,()),(b.tup,x.tup,())) from bindI (nj9' hb hcode x.press) (by
   show (bif !nhy' b x.press then _ else _)=_;rw [h1,Bool.not_true,cond_false];refine bindI (nih' _ _ _) ?_;show (bif !inR 0 8 x.kind then _ else _)=_;rw [h2]; rfl))) ?_
  exact fin false
 | true=>
 cases h3:inR 0 ((b.A0.length:Int) - 1) x.car with
 | false=>
  refine bindI (bindI rfl (show (bif ((0:Int) != 0) then _ else _)=some (((),(),!false,()),(b.tup,x.tup,())) from bindI (nj9' hb hcode x.press) (by
   show (bif !nhy' b x.press then _ else _)=_;rw [h1,Bool.not_true,cond_false];refine bindI (nih' _ _ _) ?_;show (bif !inR 0 8 x.kind then _ else _)=_;rw [h2,Bool.not_true,cond_false];refine bindI (nih' _ _ _) ?_;show (bif !inR 0 ((b.A0.length:Int) - 1) x.car then _ else _)=_;rw [h3]; rfl))) ?_
  exact fin false
 | true=>
  refine bindI (bindI rfl (show (bif ((0:Int) != 0) then _ else _)=some (((),(),!(!(x.kind==0&&x.car != 0)&&((x.cars.length:Int)==(b.A0.length:Int))),()),(b.tup,x.tup,())) from bindI (nj9' hb hcode x.press) (by
   show (bif !nhy' b x.press then _ else _)=_;rw [h1,Bool.not_true,cond_false];refine bindI (nih' _ _ _) ?_;show (bif !inR 0 8 x.kind then _ else _)=_;rw [h2,Bool.not_true,cond_false];refine bindI (nih' _ _ _) ?_;show (bif !inR 0 ((b.A0.length:Int) - 1) x.car then _ else _)=_;rw [h3,Bool.not_true,cond_false];have hne:((x.cars.length:Int) != (b.A0.length:Int))=!((x.cars.length:Int)==(b.A0.length:Int)):=rfl;rw [hne];cases (x.cars.length:Int)==(b.A0.length:Int) <;> cases x.kind==0 <;> cases x.car != 0 <;> rfl))) ?_
  refine Eq.trans (fin (!(x.kind==0&&x.car != 0)&&((x.cars.length:Int)==(b.A0.length:Int)))) ?_;simp only [Bool.true_and,Bool.and_assoc]
end
end Go.Ovl
