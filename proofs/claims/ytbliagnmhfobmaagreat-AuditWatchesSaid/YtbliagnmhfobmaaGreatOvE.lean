/- The modernised car by the reference (layers 11 to 15): it answers. -/
import Derived.Test.YtbliagnmhfobmaaGreatOvA
import Derived.Test.YtbliagnmhfobmaaGreatOvD
import Derived.Test.YtbliagnmhfobmaaGreatOvB
namespace Go.Ovl
open Go Go.Ab
set_option maxRecDepth 100000
theorem nqj' (a b c:Int) (d:Bool) (e f:Int):nkn' a b c d e f=some (((),()),((f,0,c,d,e,()),())):=rfl
theorem no5' (a:Int):Sat (ndq' a) fun _=>True:=by
 unfold ndq';exact Sat.go
instance r12_more_ti (a:Int):SatT (ndq' a):=⟨no5' ..⟩
theorem nup' (a b c:Int) (d:Bool) (e:Int):Sat (nio' a b c d e) fun _=>True:=by
 unfold nio';simp only [nqj'];exact Sat.go
instance r12_nudged_ti (a b c:Int) (d:Bool) (e:Int):SatT (nio' a b c d e):=⟨nup' ..⟩
def dNC (a b c:Int) (d:Bool) (e:Int):NewCar:={ ncz' with O1:=a,N2:=b,E2:=c,P2:=d,G2:=e }
theorem ntt' (a b c:Int) (d:Bool) (e:Int):nd8' a b c d e=some ((np9' (dNC a b c d e),()),()):=nsd' (dNC a b c d e)
theorem n7z' {x:NewCar} (h:np9' x=true):0≤x.O1∧x.O1≤3:=by
 unfold np9' at h;by_cases g:x.O1=0
 ·omega
 ·rw [beq_f g] at h
  simp [inR,doorZ] at h;omega
theorem ntb' (c0 c1 c2 c3 c4 c5 c6 c7 c8 a b c:Int) (d:Bool) (e f:Int) (g h:Bool):Sat (ni7' c0 c1 c2 c3 c4 c5 c6 c7 c8 a b c d e f g h) fun _=>True:=by
 unfold ni7';rw [ntt'];refine Sat.bindS (Q:=fun y=>0≤y.2.2.1.1∧y.2.2.1.1≤3) ?_ (fun y h2=>?_)
 ·refine Sat.bindE rfl (Sat.bif (fun _=>Sat.ret ⟨Int.le_refl 0,show (0:Int)≤3 from by decide⟩) fun hh=>Sat.ret ?_)
  rw [Bool.not_eq_false'] at hh;exact n7z' (x:=dNC a b c d e) hh
 refine Sat.bif (fun _=>?_) (fun _=>?_)
 ·simp only [nqj']
  exact Sat.go
 refine Sat.bindS (Q:=fun y=>0≤y.2.2.1.1∧y.2.2.1.1≤3) ?_ (fun y h2=>?_)
 ·refine Sat.bif (fun _=>?_) (fun _=>Sat.ret h2)
  exact Sat.bindS (no5' _) fun _ _=>Sat.ret h2
 refine Sat.bindS (Q:=fun y=>0≤y.2.2.1.1∧y.2.2.1.1≤3) ?_ (fun y h2=>?_)
 ·exact Sat.bif (fun _=>Sat.ret h2) (fun _=>Sat.ret h2)
 refine Sat.bif (fun _=>?_) (fun _=>?_)
 ·exact Sat.bindE (nqj' _ _ _ _ _ _) (Sat.ret trivial)
 refine Sat.bindS (Q:=fun y=>0≤y.2.2.1.1∧y.2.2.1.1≤3) ?_ (fun y h2=>?_)
 ·exact Sat.bif (fun _=>Sat.ret h2) (fun _=>Sat.ret h2)
 refine Sat.bif (fun _=>Sat.ret trivial) (fun _=>?_)
 refine Sat.bif (fun _=>?_) (fun _=>?_)
 ·exact Sat.bindS (nup' _ _ _ _ _) fun _ _=>Sat.ret trivial
 refine Sat.bindS (Q:=fun y=>0≤y.2.1.1∧y.2.1.1≤3) ?_ (fun y h2=>?_)
 ·exact Sat.bif (fun _=>Sat.bif (fun _=>Sat.ret h2) (fun _=>Sat.ret h2)) (fun _=>Sat.ret h2)
 refine Sat.bif (fun _=>?_) (fun _=>?_)
 ·exact Sat.bindE (nqj' _ _ _ _ _ _) (Sat.ret trivial)
 refine Sat.bindS (Q:=fun y=>0≤y.2.1.1∧y.2.1.1≤3) ?_ (fun y h2=>?_)
 ·exact Sat.bif (fun _=>Sat.ret h2) (fun _=>Sat.ret h2)
 refine Sat.bif (fun _=>?_) (fun _=>?_)
 ·exact Sat.bindE (nqj' _ _ _ _ _ _) (Sat.bindS (no5' _) fun _ _=>Sat.ret trivial)
 refine Sat.bindS (no5' _) fun _ _=>?_
 exact Sat.bifT (na' h2.1 (by show _ < (4:Int); omega)) (Sat.ret trivial)
theorem nxw' (a b c:Int) (d:Bool) (e:Int):Sat (nly' a b c d e) fun _=>True:=by
 unfold nly';rw [ntt'];refine Sat.bindR ?_;exact Sat.go
theorem ny1' (c0 c1 c2 c3 c4 c5 c6 c7 c8 a b c:Int) (d:Bool) (e:Int):Sat (nk6' c0 c1 c2 c3 c4 c5 c6 c7 c8 a b c d e) fun _=>True:=by
 unfold nk6';exact Sat.go
instance r12_Step_ti (c0 c1 c2 c3 c4 c5 c6 c7 c8 a b c:Int) (d:Bool) (e f:Int) (g h:Bool):SatT (ni7' c0 c1 c2 c3 c4 c5 c6 c7 c8 a b c d e f g h):=⟨ntb' ..⟩
instance r12_Skip_ti (a b c:Int) (d:Bool) (e:Int):SatT (nly' a b c d e):=⟨nxw' ..⟩
instance r12_Late_ti (c0 c1 c2 c3 c4 c5 c6 c7 c8 a b c:Int) (d:Bool) (e:Int):SatT (nk6' c0 c1 c2 c3 c4 c5 c6 c7 c8 a b c d e):=⟨ny1' ..⟩
theorem n5r' (a b:Int):Sat (nfx' a b) fun _=>True:=⟨_,nu5' a b,trivial⟩
theorem n2p' (a b c:Int):Sat (ncv' a b c) fun _=>True:=by
 unfold ncv';exact Sat.go
theorem n52' (a b c:Int):Sat (nf1' a b c) fun _=>True:=by
 unfold nf1';exact Sat.go
instance r13_floor_ti (a b:Int):SatT (nfx' a b):=⟨n5r' ..⟩
instance r13_target_ti (a b c:Int):SatT (ncv' a b c):=⟨n2p' ..⟩
instance r13_later_ti (a b c:Int):SatT (nf1' a b c):=⟨n52' ..⟩
theorem n2h' (a b c d:Int):Sat (nb7' a b c d) fun _=>True:=by
 unfold nb7';exact Sat.go
instance r13_IsState_ti (a b c d:Int):SatT (nb7' a b c d):=⟨n2h' ..⟩
theorem nk0' (a b c d e:Int) (f:Bool) (g:Int) (h:Bool) (w:Int):Sat (ni5' a b c d e f g h w) fun _=>True:=by
 unfold ni5';exact Sat.go
theorem nxc' (a b c:Int):Sat (nmb' a b c) fun _=>True:=by
 unfold nmb';exact Sat.go
theorem nyr' (c0 c1 c2 c3 c4 c5 c6 c7 c8 a b c:Int):Sat (nk9' c0 c1 c2 c3 c4 c5 c6 c7 c8 a b c) fun _=>True:=by
 unfold nk9';exact Sat.go
instance r13_Step_ti (a b c d e:Int) (f:Bool) (g:Int) (h:Bool) (w:Int):SatT (ni5' a b c d e f g h w):=⟨nk0' ..⟩
instance r13_Skip_ti (a b c:Int):SatT (nmb' a b c):=⟨nxc' ..⟩
instance r13_Late_ti (c0 c1 c2 c3 c4 c5 c6 c7 c8 a b c:Int):SatT (nk9' c0 c1 c2 c3 c4 c5 c6 c7 c8 a b c):=⟨nyr' ..⟩
theorem nuz' (a b c d:Int):Sat (nc3' a b c d) fun _=>True:=by
 unfold nc3';exact Sat.go
theorem n5n' (a b c d:Int):Sat (ncn' a b c d) fun _=>True:=⟨_,nir' (a,b) (c,d),trivial⟩
instance r07_Has_ti (a b c d:Int):SatT (nc3' a b c d):=⟨nuz' ..⟩
instance r07_Minus_ti (a b c d:Int):SatT (ncn' a b c d):=⟨n5n' ..⟩
theorem n1z' (a b:Int):Sat (nca' a b) fun _=>True:=⟨_,nsb' { ncz' with K2:=a,C2:=b },trivial⟩
theorem n4b' (a b c d:Int):Sat (nex' a b c d) fun _=>True:=by
 unfold nex';exact Sat.go
theorem n2x' (a b c d e f:Int):Sat (ngm' a b c d e f) fun _=>True:=by
 unfold ngm';exact Sat.go
instance r11_IsSweep_ti (a b:Int):SatT (nca' a b):=⟨n1z' ..⟩
instance r11_proper_ti (a b c d:Int):SatT (nex' a b c d):=⟨n4b' ..⟩
instance r11_marked_ti (a b c d e f:Int):SatT (ngm' a b c d e f):=⟨n2x' ..⟩
theorem n18' (a b c d e f:Int):Sat (nfd' a b c d e f) fun _=>True:=by
 unfold nfd';exact Sat.go
instance r11_counted_ti (a b c d e f:Int):SatT (nfd' a b c d e f):=⟨n18' ..⟩
theorem n45' (z a b c d e f:Int):Sat (njt' z a b c d e f) fun _=>True:=by
 unfold njt';exact Sat.go
theorem n49' (a b c:Int) {f:Int} (hf:0≤f∧f < 100):Sat (njv' a b c f) fun _=>True:=by
 unfold njv';refine Sat.bindS (Q:=fun _=>True) ?_ (fun y _=>?_)
 ·refine Sat.loop (fun (k:Nat) x=>(0:Int)≤x.1.2.2.1∧(200:Int)≤x.1.2.2.1 + (k:Int)) (fun k x hx=>?_) 200 ?_ (by decide)
  ·unfold ntv'
   obtain ⟨h1,h2⟩:=hx;refine Sat.bif (fun g=>?_) (fun _=>Sat.ret trivial)
   have g:=of_decide_eq_true g;refine Sat.bifT (njr' _) (Sat.bif (fun _=>Sat.ret trivial) (fun _=>Sat.ret ⟨k - 1,by omega,?_,?_⟩))
   ·show 0≤IntKind.i64.wrap (x.1.2.2.1 + 1)
    rw [nc' (by omega) (by omega)]; omega
   ·show 200≤IntKind.i64.wrap (x.1.2.2.1 + 1) + _
    rw [nc' (by omega) (by omega)]; omega
  ·show (0:Int)≤IntKind.i64.wrap (f + 1)∧(200:Int)≤IntKind.i64.wrap (f + 1) + ((200:Nat):Int)
   rw [nc' (by omega) (by omega)]; omega
 ·cases y <;> exact Sat.ret trivial
theorem n44' (a b c:Int) {f:Int} (hf:0≤f∧f < 100):Sat (nju' a b c f) fun _=>True:=by
 unfold nju';refine Sat.bindS (Q:=fun _=>True) ?_ (fun y _=>?_)
 ·refine Sat.loop (fun (k:Nat) x=>x.1.2.2.1 < (200:Int)∧x.1.2.2.1 < (k:Int)) (fun k x hx=>?_) 200 ?_ (by decide)
  ·unfold ntp'
   obtain ⟨h1,h2⟩:=hx;refine Sat.bif (fun g=>?_) (fun _=>Sat.ret trivial)
   have g:=of_decide_eq_true g;refine Sat.bifT (njr' _) (Sat.bif (fun _=>Sat.ret trivial) (fun _=>Sat.ret ⟨k - 1,by omega,?_,?_⟩))
   ·show IntKind.i64.wrap (x.1.2.2.1 - 1) < 200
    rw [nc' (by omega) (by omega)]; omega
   ·show IntKind.i64.wrap (x.1.2.2.1 - 1) < _
    rw [nc' (by omega) (by omega)]; omega
  ·show IntKind.i64.wrap (f - 1) < (200:Int)∧IntKind.i64.wrap (f - 1) < ((200:Nat):Int)
   rw [nc' (by omega) (by omega)]; omega
 ·cases y <;> exact Sat.ret trivial
instance r11_Spent_ti (z a b c d e f:Int):SatT (njt' z a b c d e f):=⟨n45' ..⟩
theorem n78' (z a b:Int) {c:Int} (hf:0≤c∧c < 100) (d e f:Int):Sat (nle' z a b c d e f) fun _=>True:=by
 unfold nle';have k1:∀ x y w,SatT (njv' x y w c):=fun x y w=>⟨n49' x y w hf⟩
 have k2:∀ x y w,SatT (nju' x y w c):=fun x y w=>⟨n44' x y w hf⟩
 exact Sat.go
theorem n0c' (a b:Int) (c d e f g:Bool):Sat (ner' a b c d e f g) fun _=>True:=by
 unfold ner' ncy' ng5';exact Sat.go
theorem n17' (a:Int) (b c:Bool):Sat (nfj' a b c) fun _=>True:=by
 unfold nfj' ncy' ng5';exact Sat.go
instance r11_sweeping_ti (a b:Int) (c d e f g:Bool):SatT (ner' a b c d e f g):=⟨n0c' ..⟩
instance r11_turning_ti (a:Int) (b c:Bool):SatT (nfj' a b c):=⟨n17' ..⟩
theorem nuh' {z:Int} (hz:z≤32) (a b c d e f:Int):Sat (niu' z a b c d e f) fun _=>True:=by
 unfold niu' ncy' ng5';by_cases g1:c < 0
 ·have g:=decide_eq_true g1
  exact Sat.go
 by_cases g2:z≤c
 ·have g:=decide_eq_true g2
  exact Sat.go
 have hc:0≤c∧c < 100:=by omega
 have k1:∀ x y w p q r,SatT (nle' x y w c p q r):=fun x y w p q r=>⟨n78' x y w hc p q r⟩
 exact Sat.go
theorem n7w' {z:Int} (hz:z≤32) (a b c d e f:Int):Sat (npo' z a b c d e f) fun _=>True:=by
 unfold npo';have hch:=nuh' hz a b c d e f;exact Sat.go
def ucR (n:Int):Prop:=0≤n∧n < 4294967296
theorem ucR_w (n:Int):ucR (IntKind.u32.wrap n):=by
 unfold ucR;simp only [IntKind.wrap,IntKind.signed,IntKind.bits];simp;exact ⟨Int.emod_nonneg _ (by decide),Int.emod_lt_of_pos _ (by decide)⟩
section
variable {b:Bldg} (hb:b.small) (hcode:b.code=0) {car:Int} (hcar:inB car b.A0.length=true)
include hcar in
theorem n83' (i f:Int):Sat (no7' b.D0 b.E0 b.H0 b.R0 b.J0 b.K0 b.O0 b.A0 car i f) fun _=>True:=by
 unfold no7';rw [ny'];exact Sat.go
include hcar in
theorem nq6' (x:NewCar) (hx:ucR x.N1) (cmd:Int):Sat (nie' b.D0 b.E0 b.H0 b.R0 b.J0 b.K0 b.O0 b.A0 car x.K2 x.C2 x.O1 x.N2 x.E2 x.P2 x.G2 x.H1 x.V1 x.F1 x.N1 x.K3 x.T4 x.N3 cmd) fun y=>ucR y.2.1.2.2.2.2.2.2.2.2.2.2.1:=by
 unfold nie';refine Sat.bifT hcar (Sat.bindS (ny1' _ _ _ _ _ _ _ _ _ _ _ _ _ _) fun _ _=>Sat.bif (fun _=>Sat.ret ⟨Int.le_refl 0,show (0:Int) < 4294967296 from by decide⟩) fun _=>?_)
 exact Sat.bifT hcar (Sat.bindS (nyr' _ _ _ _ _ _ _ _ _ _ _ _) fun _ _=>Sat.bif (fun _=>Sat.ret ⟨Int.le_refl 0,show (0:Int) < 4294967296 from by decide⟩) fun _=>Sat.ret hx)
include hb hcar in
theorem n38' (x:NewCar) (hx:ucR x.N1) (f0:Int) (f1:Bool) (f2:Int) (f3:Bool) (h0 h1:Int):Sat (nl4' b.D0 b.E0 b.H0 b.R0 b.J0 b.K0 b.O0 b.A0 car x.K2 x.C2 x.O1 x.N2 x.E2 x.P2 x.G2 x.H1 x.V1 x.F1 x.N1 x.K3 x.T4 x.N3 f0 f1 f2 f3 h0 h1) fun y=>ucR y.2.1.2.2.2.2.2.2.2.2.2.2.1:=by
 have hz:=hb.hi;unfold nl4';refine Sat.bifT hcar (Sat.bindS (nuh' (by omega) _ _ _ _ _ _) fun _ _=>Sat.bindS (n7w' (by omega) _ _ _ _ _ _) fun _ _=>?_)
 refine Sat.bindS (Q:=fun y=>y.1.1=car∧y.2.1=b.tup∧ucR y.2.2.1.2.2.2.2.2.2.2.2.2.2.1) ?_ (fun y hy=>?_)
 ·refine Sat.bif (fun _=>Sat.bindS (ntb' _ _ _ _ _ _ _ _ _ _ _ _ _ _ _ _ _) fun _ _=>Sat.ret ⟨rfl,rfl,hx⟩) fun _=>?_
  refine Sat.bif (fun _=>Sat.bindS (nk0' _ _ _ _ _ _ _ _ _) fun _ _=>Sat.ret ⟨rfl,rfl,hx⟩) fun _=>?_
  refine Sat.bif (fun _=>Sat.bindS (nk0' _ _ _ _ _ _ _ _ _) fun _ _=>Sat.ret ⟨rfl,rfl,hx⟩) fun _=>?_
  refine Sat.bindS (n83' hcar _ _) fun _ _=>?_
  exact Sat.bif (fun _=>Sat.bindS (nk0' _ _ _ _ _ _ _ _ _) fun _ _=>Sat.ret ⟨rfl,rfl,hx⟩) fun _=>Sat.ret ⟨rfl,rfl,hx⟩
 ·obtain ⟨⟨y1,yr⟩,⟨yb,⟨a0,a1,a2,a3,a4,a5,a6,a7,a8,a9,a10,a11,a12,a13,_⟩,yt⟩⟩:=y
  obtain ⟨e1,e2,e3⟩:=hy;simp only at e1 e2;subst e1 e2;exact Sat.bindS (nq6' hcar (NewCar.mk a0 a1 a2 a3 a4 a5 a6 a7 a8 a9 a10 a11 a12 a13) e3 _) fun _ h=>Sat.ret h
include hb hcode
theorem nwj' (x:NewCar) (hx:ucR x.N1) (car:Int):njp' b.D0 b.E0 b.H0 b.R0 b.J0 b.K0 b.O0 b.A0 car x.K2 x.C2 x.O1 x.N2 x.E2 x.P2 x.G2 x.H1 x.V1 x.F1 x.N1 x.K3 x.T4 x.N3=some ((newOK b x&&(decide (0≤car)&&decide (car < (b.A0.length:Int))),()),()):=by
 unfold njp';rw [ni6' hb hcode x ⟨hx.1,by have:=hx.2; omega⟩]
 cases newOK b x with
 | false=>rfl
 | true=>cases h:decide (0≤car) <;> simp []
omit hb hcode in
theorem nw9' (f0:Int) (f1:Bool) (f2:Int) (f3:Bool):Sat (nhb' b.D0 b.E0 b.H0 b.R0 b.J0 b.K0 b.O0 b.A0 f0 f1 f2 f3) fun _=>True:=by
 unfold nhb';exact Sat.go
theorem n5u' (x:NewCar) (hx:ucR x.N1) (car:Int):Sat (nn0' b.D0 b.E0 b.H0 b.R0 b.J0 b.K0 b.O0 b.A0 car x.K2 x.C2 x.O1 x.N2 x.E2 x.P2 x.G2 x.H1 x.V1 x.F1 x.N1 x.K3 x.T4 x.N3) fun y=>ucR y.2.1.2.2.2.2.2.2.2.2.2.2.1:=by
 unfold nn0';rw [nwj' hb hcode x hx];refine Sat.bindR (Sat.bif (fun _=>Sat.ret ⟨Int.le_refl 0,show (0:Int) < 4294967296 from by decide⟩) fun g=>?_)
 refine Sat.bif (fun _=>Sat.ret hx) fun _=>?_
 have hcar:inB car b.A0.length=true:=by
  rw [Bool.not_eq_false'] at g;have g:=(Bool.and_eq_true_iff.1 (show (newOK b x&&(decide (0≤car)&&decide (car < (b.A0.length:Int))))=true from g)).2
  rw [Bool.and_eq_true_iff,decide_eq_true_iff,decide_eq_true_iff] at g;exact na' g.1 g.2
 refine Sat.bindS (nxw' _ _ _ _ _) fun u _=>?_
 refine Sat.bindS (nxc' _ _ _) fun v _=>?_
 exact Sat.bindS (nq6' hcar (NewCar.mk x.K2 x.C2 u.2.1.1 u.2.1.2.1 u.2.1.2.2.1 u.2.1.2.2.2.1 u.2.1.2.2.2.2.1 v.2.1.1 v.2.1.2.1 v.2.1.2.2.1 x.N1 x.K3 x.T4 x.N3) hx _) fun _ h=>Sat.ret h
theorem n7x' (x:NewCar) (hx:ucR x.N1) (car f0:Int) (f1:Bool) (f2:Int) (f3:Bool) (pr h0 h1:Int):Sat (npp' b.D0 b.E0 b.H0 b.R0 b.J0 b.K0 b.O0 b.A0 car x.K2 x.C2 x.O1 x.N2 x.E2 x.P2 x.G2 x.H1 x.V1 x.F1 x.N1 x.K3 x.T4 x.N3 f0 f1 f2 f3 pr h0 h1) fun y=>ucR y.2.1.2.2.2.2.2.2.2.2.2.2.1:=by
 unfold npp';rw [nwj' hb hcode x hx];refine Sat.bindR (Sat.bif (fun _=>Sat.ret ⟨Int.le_refl 0,show (0:Int) < 4294967296 from by decide⟩) fun g=>?_)
 have hcar:inB car b.A0.length=true:=by
  rw [Bool.not_eq_false'] at g;have g:=(Bool.and_eq_true_iff.1 (show (newOK b x&&(decide (0≤car)&&decide (car < (b.A0.length:Int))))=true from g)).2
  rw [Bool.and_eq_true_iff,decide_eq_true_iff,decide_eq_true_iff] at g;exact na' g.1 g.2
 refine Sat.bindS (nw9' _ _ _ _) fun _ _=>?_
 refine Sat.bif (fun _=>Sat.ret ⟨Int.le_refl 0,show (0:Int) < 4294967296 from by decide⟩) fun _=>?_
 refine Sat.bif (fun _=>Sat.ret hx) fun _=>?_
 refine Sat.bifT hcar (Sat.bifT (njr' _) (Sat.bifT (njr' _) ?_));refine Sat.bindS (Q:=fun y=>y.1.1=car∧y.2.1=b.tup) (Sat.bif (fun _=>Sat.ret ⟨rfl,rfl⟩) fun _=>Sat.ret ⟨rfl,rfl⟩) fun y3 h3=>?_
 refine Sat.bindS (Q:=fun y=>match y with
  | .inl y=>y.1.1=car∧y.2.1=b.tup∧ucR y.2.2.1.2.2.2.2.2.2.2.2.2.2.1
  | .inr y=>ucR y.2.1.2.2.2.2.2.2.2.2.2.2.1) ?_ (fun y hy=>?_)
 ·refine Sat.bindS (Q:=fun y=>y.1.1=car∧y.2.1=b.tup∧ucR y.2.2.1.2.2.2.2.2.2.2.2.2.2.1) ?_ (fun y4 h4=>?_)
  ·exact Sat.bif (fun _=>Sat.bif (fun _=>Sat.ret ⟨h3.1,h3.2,ucR_w _⟩) fun _=>Sat.ret ⟨h3.1,h3.2,ucR_w _⟩) fun _=>Sat.ret ⟨h3.1,h3.2,ucR_w _⟩
  refine Sat.bif (fun _=>?_) fun _=>Sat.ret h4
  refine Sat.bindS (nk0' _ _ _ _ _ _ _ _ _) fun y5 _=>?_
  refine Sat.bindS (Q:=fun y=>y.1.1=car∧y.2.1=b.tup∧ucR y.2.2.1.2.2.2.2.2.2.2.2.2.2.1) ?_ (fun y6 h6=>?_)
  ·exact Sat.bif (fun _=>Sat.bif (fun _=>Sat.ret h4) fun _=>Sat.ret h4) fun _=>Sat.ret h4
  refine Sat.bif (fun _=>?_) fun _=>Sat.ret h6
  refine Sat.bindS (Q:=fun y=>y.1.1=car∧y.2.1=b.tup∧ucR y.2.2.1.2.2.2.2.2.2.2.2.2.2.1) ?_ (fun y8 h8=>?_)
  ·refine Sat.bindS (Q:=fun y=>y.1.1=car∧y.2.1=b.tup∧ucR y.2.2.1.2.2.2.2.2.2.2.2.2.2.1) ?_ (fun y7 h7=>?_)
   ·exact Sat.bif (fun _=>Sat.ret h6) fun _=>Sat.ret h6
   exact Sat.bif (fun _=>Sat.ret h7) fun _=>Sat.ret h7
  obtain ⟨⟨y1,yr⟩,⟨yb,⟨a0,a1,a2,a3,a4,a5,a6,a7,a8,a9,a10,a11,a12,a13,_⟩,yt⟩⟩:=y8;obtain ⟨e1,e2,e3⟩:=h8;simp only at e1 e2;subst e1 e2;exact Sat.bindS (nq6' hcar (NewCar.mk a0 a1 a2 a3 a4 a5 a6 a7 a8 a9 a10 a11 a12 a13) e3 _) fun _ h=>Sat.ret h
 ·cases y with
  | inr y=>exact Sat.ret hy
  | inl y11=>
   refine Sat.bindS (Q:=fun y=>y.1.1=car∧y.2.1=b.tup∧ucR y.2.2.1.2.2.2.2.2.2.2.2.2.2.1) ?_ (fun y13 h13=>?_)
   ·refine Sat.bindS (Q:=fun y=>y.1.1=car∧y.2.1=b.tup∧ucR y.2.2.1.2.2.2.2.2.2.2.2.2.2.1) ?_ (fun y12 h12=>?_)
    ·exact Sat.bif (fun _=>Sat.ret hy) fun _=>Sat.ret hy
    exact Sat.bif (fun _=>Sat.ret h12) fun _=>Sat.ret h12
   refine Sat.bif (fun _=>?_) fun _=>?_
   ·obtain ⟨⟨y1,yr⟩,⟨yb,⟨a0,a1,a2,a3,a4,a5,a6,a7,a8,a9,a10,a11,a12,a13,_⟩,yt⟩⟩:=y13
    obtain ⟨e1,e2,e3⟩:=h13;simp only at e1 e2;subst e1 e2;exact Sat.bindS (n38' hb hcar (NewCar.mk a0 a1 a2 a3 a4 a5 a6 a7 a8 a9 a10 a11 a12 a13) e3 _ _ _ _ _ _) fun _ h=>Sat.ret h
   ·refine Sat.bindS (ntb' _ _ _ _ _ _ _ _ _ _ _ _ _ _ _ _ _) fun y15 _=>?_
    refine Sat.bindS (Q:=fun y=>y.1.1=car∧y.2.1=b.tup∧ucR y.2.2.1.2.2.2.2.2.2.2.2.2.2.1) ?_ (fun y16 h16=>?_)
    ·exact Sat.bif (fun _=>Sat.ret ⟨h13.1,h13.2.1,ucR_w _⟩) fun _=>Sat.ret h13
    refine Sat.bindS (Q:=fun y=>y.1.1=car∧y.2.1=b.tup∧ucR y.2.2.1.2.2.2.2.2.2.2.2.2.2.1) ?_ (fun y17 h17=>?_)
    ·exact Sat.bif (fun _=>Sat.ret h16) fun _=>Sat.ret h16
    obtain ⟨⟨y1,yr⟩,⟨yb,⟨a0,a1,a2,a3,a4,a5,a6,a7,a8,a9,a10,a11,a12,a13,_⟩,yt⟩⟩:=y17;obtain ⟨e1,e2,e3⟩:=h17;simp only at e1 e2;subst e1 e2;exact Sat.bindS (nq6' hcar (NewCar.mk a0 a1 a2 a3 a4 a5 a6 a7 a8 a9 a10 a11 0 a13) e3 _) fun _ h=>Sat.ret h
end
def putF {α:Type} (d:α) (g:Nat→α→α) (i:Nat) (l:List α):List α:=l.set i (g i (l.getD i d))
theorem n1k' {α:Type} (d:α) (g:Nat→α→α):∀ (m i:Nat) (l:List α),i + m=l.length→foldN (putF d g) m i l=l.take i++(List.range' i m).map (fun j=>g j (l.getD j d))
 | 0,i,l,h=>by
  rw [show i=l.length by omega,List.take_length]; simp [foldN]
 | m + 1,i,l,h=>by
  have hi:i < l.length:=by omega
  unfold foldN;rw [n1k' d g m (i + 1) _ (by rw [putF,List.length_set]; omega)]
  have e1:(putF d g i l).take (i + 1)=l.take i++[g i (l.getD i d)]:=by
   unfold putF;rw [List.take_add_one,List.take_set_of_le (by omega),List.getElem?_set_self (by omega)]; rfl
  rw [e1,List.range'_succ,List.map_cons,List.append_assoc,List.singleton_append];congr 2;apply List.map_congr_left;intro j hj;rw [List.mem_range'] at hj;obtain ⟨k,hk,rfl⟩:=hj;unfold putF;rw [List.getD_eq_getElem?_getD,List.getElem?_set_ne (by omega),← List.getD_eq_getElem?_getD]
theorem npq' {α:Type} (d:α) (g:Nat→α→α) (f:Nat→α) (n:Nat):foldN (putF d g) n 0 ((List.range n).map f)=(List.range n).map (fun j=>g j (f j)):=by
 rw [n1k' d g n 0 _ (by simp),List.take_zero,List.nil_append,← List.range_eq_range']
 apply List.map_congr_left;intro j hj;rw [List.mem_range] at hj;simp [List.getD_eq_getElem?_getD,hj]
theorem nfi' {α:Type} {l:List α} {i:Nat} (d x:α) (h:i < l.length):(l.set i x).getD i d=x:=by
 rw [List.getD_eq_getElem?_getD,List.getElem?_set_self h]; rfl
def g15 (fl t i:Nat) (c:Car):Car:=⟨c.S1,c.C3,c.F3,c.O2,((1 + t % 3:Nat):Int),((1 + t / 3 % 3:Nat):Int),((1 + t / 9 % 3:Nat):Int),((1 + t / 9 % 3 + t / 27 % 5:Nat):Int),(((i + t) % fl:Nat):Int)⟩
def g18 (t:Nat) (_:Nat) (c:Car):Car:={ c with S1:=((1 + t % 16:Nat):Int) }
def g27 (n1 n2:Nat) (_:Nat) (c:Car):Car:={ c with F3:=((1 + n2 % 4:Nat):Int),O2:=((n1 % 5:Nat):Int) }
def bld15 (fl ca t:Nat):Bldg:={ nq' fl ca with R0:=((1 + t % 7:Nat):Int),A0:=(List.range ca).map fun i=>g15 fl t i (nem' fl i) }
def bld18 (fl ca t:Nat):Bldg:={ bld15 fl ca t with A0:=(List.range ca).map fun i=>g18 t i (g15 fl t i (nem' fl i)) }
def bld27 (fl ca n1 n2:Nat):Bldg:={ bld15 fl ca n1 with E0:=((1 + n2 % 3:Nat):Int),H0:=((18 * ca + 24 + 6 * (n2 / 3):Nat):Int),A0:=(List.range ca).map fun i=>g27 n1 n2 i (g18 n1 i (g15 fl n1 i (nem' fl i))) }
theorem nbea' {n:Int} (h:0≤n) (h':n < 256):IntKind.u8.wrap n=n:=by
 simp only [IntKind.wrap,IntKind.signed,IntKind.bits]; simp; omega
theorem niw' (a b:Nat):Int.tmod (a:Int) (b:Int)=((a % b:Nat):Int):=by
 rw [Int.tmod_eq_emod_of_nonneg (by omega)]; norm_cast
theorem nbeo' (a b:Nat):Int.tdiv (a:Int) (b:Int)=((a / b:Nat):Int):=by
 rw [Int.tdiv_eq_ediv_of_nonneg (by omega)]; norm_cast
theorem nkq' {t:Nat} (k:Nat) (ht:t < 100000):IntKind.i64.wrap ((1:Int) + IntKind.i64.wrap (Int.tmod (t:Int) (k:Int)))=((1 + t % k:Nat):Int):=by
 have:t % k≤t:=Nat.mod_le _ _
 rw [niw'];generalize t % k=q at this ⊢;rw [nc' (n:=(q:Int)) (by omega) (by omega),nc' (by omega) (by omega)]; norm_cast
theorem nu2' {t:Nat} (k:Nat) (ht:t < 256):IntKind.u8.wrap (Int.tdiv (t:Int) (k:Int))=((t / k:Nat):Int):=by
 have:t / k≤t:=Nat.div_le_self _ _
 generalize hq:t / k=q at this;rw [nbeo',hq,nbea' (by omega) (by omega)]
theorem n8u' {fl ca t:Nat} (h1:1≤fl) (hf:fl≤100) (h2:ca≤8) (ht:t < 256) :
  ng9' (((t:Int),(),(),(0:Int),()),(Bldg.none.tup,(nq' fl ca).tup,()))=some (((t:Int),(),(),()),(Bldg.none.tup,({ nq' fl ca with A0:=(bld15 fl ca t).A0 }:Bldg).tup,())):=by
 have hl:(nq' fl ca).A0.length=ca:=by simp [nq']
 have h:=n0' (step:=fun x=>letI a:=x.2.2.1.2.2; letI b:=x.2.1.2.2; letI c:=b.2.2; letI d:=a.2.2; ndb' x.1.1 x.1.2.2.2.1 x.2.1.1 x.2.1.2.1 b.1 b.2.1 c.1 c.2.1 c.2.2.1 c.2.2.2.1 x.2.2.1.1 x.2.2.1.2.1 a.1 a.2.1 d.1 d.2.1 d.2.2.1 d.2.2.2.1) ca
  (fun i l=>(((t:Int),(),(),(i:Int),()),(Bldg.none.tup,({ nq' fl ca with A0:=l }:Bldg).tup,()))) (putF noCar (g15 fl t)) (fun _ l=>l.length=ca) (fun l=>(((t:Int),(),(),()),(Bldg.none.tup,({ nq' fl ca with A0:=l }:Bldg).tup,())))
  (fun i l hi hll=>by
   refine ⟨?_,by rw [putF,List.length_set,hll]⟩
   show ndb' (t:Int) (i:Int) Bldg.none.D0 Bldg.none.E0 Bldg.none.H0 Bldg.none.R0 Bldg.none.J0 Bldg.none.K0 Bldg.none.O0 Bldg.none.A0 (nq' fl ca).D0 (nq' fl ca).E0 (nq' fl ca).H0 (nq' fl ca).R0 (nq' fl ca).J0 (nq' fl ca).K0 (nq' fl ca).O0 l=_;unfold ndb';have hil:i < l.length:=by omega
   have hz:((nq' fl ca).D0 != 0)=true:=by show ((fl:Int) != 0)=true; simp; omega
   have w:IntKind.i64.wrap ((i:Int) + 1)=((i + 1:Nat):Int):=by rw [nc' (by omega) (by omega)]; omega
   have e1:IntKind.i64.wrap ((1:Int) + IntKind.i64.wrap (Int.tmod (t:Int) 3))=((1 + t % 3:Nat):Int):=nkq' 3 (by omega)
   have e2:IntKind.i64.wrap ((1:Int) + IntKind.i64.wrap (Int.tmod (IntKind.u8.wrap (Int.tdiv (t:Int) 3)) 3))=((1 + t / 3 % 3:Nat):Int):=by
    rw [show IntKind.u8.wrap (Int.tdiv (t:Int) 3)=((t / 3:Nat):Int) from nu2' 3 ht]; exact nkq' 3 (by omega)
   have e3:IntKind.i64.wrap ((1:Int) + IntKind.i64.wrap (Int.tmod (IntKind.u8.wrap (Int.tdiv (t:Int) 9)) 3))=((1 + t / 9 % 3:Nat):Int):=by
    rw [show IntKind.u8.wrap (Int.tdiv (t:Int) 9)=((t / 9:Nat):Int) from nu2' 9 ht]; exact nkq' 3 (by omega)
   have e4:IntKind.i64.wrap (((1 + t / 9 % 3:Nat):Int) + IntKind.i64.wrap (Int.tmod (IntKind.u8.wrap (Int.tdiv (t:Int) 27)) 5))=((1 + t / 9 % 3 + t / 27 % 5:Nat):Int):=by
    rw [show IntKind.u8.wrap (Int.tdiv (t:Int) 27)=((t / 27:Nat):Int) from nu2' 27 ht,show Int.tmod ((t / 27:Nat):Int) 5=((t / 27 % 5:Nat):Int) from niw' _ 5,nc' (n:=((t / 27 % 5:Nat):Int)) (by omega) (by omega),nc' (by omega) (by omega)]; norm_cast
   have e5:Int.tmod (IntKind.i64.wrap ((i:Int) + IntKind.i64.wrap (t:Int))) (nq' fl ca).D0=(((i + t) % fl:Nat):Int):=by
    show Int.tmod _ (fl:Int)=_;rw [nc' (n:=(t:Int)) (by omega) (by omega),nc' (by omega) (by omega)]
    exact niw' (i + t) fl
   rw [show Car.mk 0 0 0 0 0 0 0 0 0=noCar from rfl]
   simp only [decide_eq_true (show (i:Int) < (l.length:Int) by omega),na' (show (0:Int)≤(i:Int) by omega) (show (i:Int) < (l.length:Int) by omega),cond_true,Int.toNat_natCast,hz,w,nfi' noCar _ hil,List.set_set,e1,e2,e3,e4,e5]
   unfold putF g15
   rfl)
  (fun l hll=>by
   show ndb' (t:Int) (ca:Int) Bldg.none.D0 Bldg.none.E0 Bldg.none.H0 Bldg.none.R0 Bldg.none.J0 Bldg.none.K0 Bldg.none.O0 Bldg.none.A0 (nq' fl ca).D0 (nq' fl ca).E0 (nq' fl ca).H0 (nq' fl ca).R0 (nq' fl ca).J0 (nq' fl ca).K0 (nq' fl ca).O0 l=_;unfold ndb';rw [hll,decide_eq_false (Int.lt_irrefl (ca:Int))]; rfl)
  ca 0 (nq' fl ca).A0 (by omega) hl
 have h2:=nh' h.1 (by omega)
 rw [show (nq' fl ca).A0=(List.range ca).map (nem' fl) from rfl,npq'] at h2
 exact h2
theorem n74' {fl ca t:Nat} (_hf:fl≤100) (h2:ca≤8) (ht:t < 256) :
  ng0' (((t:Int),(),(),(0:Int),()),(Bldg.none.tup,(bld15 fl ca t).tup,()))=some (((),(),()),(Bldg.none.tup,(bld18 fl ca t).tup,())):=by
 have hl:(bld15 fl ca t).A0.length=ca:=by simp [bld15]
 have h:=n0' (step:=fun x=>letI a:=x.2.2.1.2.2; letI b:=x.2.1.2.2; letI c:=b.2.2; letI d:=a.2.2; ndk' x.1.1 x.1.2.2.2.1 x.2.1.1 x.2.1.2.1 b.1 b.2.1 c.1 c.2.1 c.2.2.1 c.2.2.2.1 x.2.2.1.1 x.2.2.1.2.1 a.1 a.2.1 d.1 d.2.1 d.2.2.1 d.2.2.2.1) ca
  (fun i l=>(((t:Int),(),(),(i:Int),()),(Bldg.none.tup,({ bld15 fl ca t with A0:=l }:Bldg).tup,()))) (putF noCar (g18 t)) (fun _ l=>l.length=ca) (fun l=>(((),(),()),(Bldg.none.tup,({ bld15 fl ca t with A0:=l }:Bldg).tup,())))
  (fun i l hi hll=>by
   refine ⟨?_,by rw [putF,List.length_set,hll]⟩
   show ndk' (t:Int) (i:Int) Bldg.none.D0 Bldg.none.E0 Bldg.none.H0 Bldg.none.R0 Bldg.none.J0 Bldg.none.K0 Bldg.none.O0 Bldg.none.A0 (bld15 fl ca t).D0 (bld15 fl ca t).E0 (bld15 fl ca t).H0 (bld15 fl ca t).R0 (bld15 fl ca t).J0 (bld15 fl ca t).K0 (bld15 fl ca t).O0 l=_;unfold ndk';have w:IntKind.i64.wrap ((i:Int) + 1)=((i + 1:Nat):Int):=by rw [nc' (by omega) (by omega)]; omega
   have e1:IntKind.i64.wrap ((1:Int) + IntKind.i64.wrap (Int.tmod (t:Int) 16))=((1 + t % 16:Nat):Int):=nkq' 16 (by omega)
   rw [show Car.mk 0 0 0 0 0 0 0 0 0=noCar from rfl]
   simp only [decide_eq_true (show (i:Int) < (l.length:Int) by omega),na' (show (0:Int)≤(i:Int) by omega) (show (i:Int) < (l.length:Int) by omega),cond_true,Int.toNat_natCast,w,e1]
   unfold putF g18
   rfl)
  (fun l hll=>by
   show ndk' (t:Int) (ca:Int) Bldg.none.D0 Bldg.none.E0 Bldg.none.H0 Bldg.none.R0 Bldg.none.J0 Bldg.none.K0 Bldg.none.O0 Bldg.none.A0 (bld15 fl ca t).D0 (bld15 fl ca t).E0 (bld15 fl ca t).H0 (bld15 fl ca t).R0 (bld15 fl ca t).J0 (bld15 fl ca t).K0 (bld15 fl ca t).O0 l=_;unfold ndk';rw [hll,decide_eq_false (Int.lt_irrefl (ca:Int))]; rfl)
  ca 0 (bld15 fl ca t).A0 (by omega) hl
 have h2:=nh' h.1 (by omega)
 rw [show (bld15 fl ca t).A0=(List.range ca).map (fun i=>g15 fl t i (nem' fl i)) from rfl,npq'] at h2
 exact h2
def pre27 (fl ca n1 n2:Nat):Bldg:={ bld27 fl ca n1 n2 with A0:=(bld18 fl ca n1).A0 }
theorem n81' {fl ca n0 n1 n2:Nat} (h2:ca≤8) (_h3:n1 < 256) (h4:n2 < 256) :
  new' (((),(),(),(0:Int),()),(((n0:Int),(n1:Int),(n2:Int),()),Bldg.none.tup,(pre27 fl ca n1 n2).tup,()))=some (((),(),()),(Bldg.none.tup,(bld27 fl ca n1 n2).tup,())):=by
 have hl:(pre27 fl ca n1 n2).A0.length=ca:=by simp [pre27,bld18]
 have h:=n0' (step:=fun x=>letI a:=x.2.2; letI b:=a.2.1.2.2; letI c:=a.1.2.2; letI d:=c.2.2; letI e:=b.2.2; ndp' x.1.2.2.2.1 x.2.1.1 x.2.1.2.1 x.2.1.2.2.1 a.1.1 a.1.2.1 c.1 c.2.1 d.1 d.2.1 d.2.2.1 d.2.2.2.1 a.2.1.1 a.2.1.2.1 b.1 b.2.1 e.1 e.2.1 e.2.2.1 e.2.2.2.1) ca
  (fun i l=>(((),(),(),(i:Int),()),(((n0:Int),(n1:Int),(n2:Int),()),Bldg.none.tup,({ pre27 fl ca n1 n2 with A0:=l }:Bldg).tup,()))) (putF noCar (g27 n1 n2)) (fun _ l=>l.length=ca) (fun l=>(((),(),()),(Bldg.none.tup,({ pre27 fl ca n1 n2 with A0:=l }:Bldg).tup,())))
  (fun i l hi hll=>by
   refine ⟨?_,by rw [putF,List.length_set,hll]⟩
   show ndp' (i:Int) (n0:Int) (n1:Int) (n2:Int) Bldg.none.D0 Bldg.none.E0 Bldg.none.H0 Bldg.none.R0 Bldg.none.J0 Bldg.none.K0 Bldg.none.O0 Bldg.none.A0 (pre27 fl ca n1 n2).D0 (pre27 fl ca n1 n2).E0 (pre27 fl ca n1 n2).H0 (pre27 fl ca n1 n2).R0 (pre27 fl ca n1 n2).J0 (pre27 fl ca n1 n2).K0 (pre27 fl ca n1 n2).O0 l=_;unfold ndp';have hil:i < l.length:=by omega
   have w:IntKind.i64.wrap ((i:Int) + 1)=((i + 1:Nat):Int):=by rw [nc' (by omega) (by omega)]; omega
   have e1:IntKind.i64.wrap ((1:Int) + IntKind.i64.wrap (Int.tmod (n2:Int) 4))=((1 + n2 % 4:Nat):Int):=nkq' 4 (by omega)
   have e2:IntKind.i64.wrap (Int.tmod (n1:Int) 5)=((n1 % 5:Nat):Int):=by
    rw [show Int.tmod (n1:Int) 5=((n1 % 5:Nat):Int) from niw' n1 5,nc' (by omega) (by omega)]
   rw [show Car.mk 0 0 0 0 0 0 0 0 0=noCar from rfl]
   simp only [decide_eq_true (show (i:Int) < (l.length:Int) by omega),na' (show (0:Int)≤(i:Int) by omega) (show (i:Int) < (l.length:Int) by omega),cond_true,Int.toNat_natCast,w,e1,e2,nfi' noCar _ hil,List.set_set,List.length_set]
   unfold putF g27
   rfl)
  (fun l hll=>by
   show ndp' (ca:Int) (n0:Int) (n1:Int) (n2:Int) Bldg.none.D0 Bldg.none.E0 Bldg.none.H0 Bldg.none.R0 Bldg.none.J0 Bldg.none.K0 Bldg.none.O0 Bldg.none.A0 (pre27 fl ca n1 n2).D0 (pre27 fl ca n1 n2).E0 (pre27 fl ca n1 n2).H0 (pre27 fl ca n1 n2).R0 (pre27 fl ca n1 n2).J0 (pre27 fl ca n1 n2).K0 (pre27 fl ca n1 n2).O0 l=_;unfold ndp';rw [hll,decide_eq_false (Int.lt_irrefl (ca:Int))]; rfl)
  ca 0 (pre27 fl ca n1 n2).A0 (by omega) hl
 have h2:=nh' h.1 (by omega)
 rw [show (pre27 fl ca n1 n2).A0=(List.range ca).map (fun i=>g18 n1 i (g15 fl n1 i (nem' fl i))) from rfl,npq'] at h2
 exact h2
def fl15 (n0:Nat):Nat:=2 + n0 % 5
def ca15 (n0:Nat):Nat:=1 + n0 / 5 % 3
theorem nvt' {n0 t:Nat} (hn:n0 < 256) (ht:t < 256):niy' (n0:Int) (t:Int)=some (((),()),((bld15 (fl15 n0) (ca15 n0) t).tup,())):=by
 have e1:IntKind.i64.wrap ((2:Int) + IntKind.i64.wrap (Int.tmod (n0:Int) 5))=((fl15 n0:Nat):Int):=by
  rw [show Int.tmod (n0:Int) 5=((n0 % 5:Nat):Int) from niw' n0 5,nc' (n:=((n0 % 5:Nat):Int)) (by omega) (by omega),nc' (by omega) (by omega)]; unfold fl15; norm_cast
 have e2:IntKind.i64.wrap ((1:Int) + IntKind.i64.wrap (Int.tmod (IntKind.u8.wrap (Int.tdiv (n0:Int) 5)) 3))=((ca15 n0:Nat):Int):=by
  rw [show IntKind.u8.wrap (Int.tdiv (n0:Int) 5)=((n0 / 5:Nat):Int) from nu2' 5 hn]; exact nkq' 3 (by omega)
 have hf:2≤fl15 n0∧fl15 n0≤6:=by unfold fl15; omega
 have hc:1≤ca15 n0∧ca15 n0≤3:=by unfold ca15; omega
 have e3:IntKind.i64.wrap ((1:Int) + IntKind.i64.wrap (Int.tmod (t:Int) 7))=((1 + t % 7:Nat):Int):=nkq' 7 (by omega)
 unfold niy';rw [e1,e2];refine bindI (nxz' (by omega) (by omega)) ?_
 refine bindI (n8u' (by omega) (by omega) (by omega) ht) ?_
 show some (((),()),(((fl15 n0:Nat):Int),(1:Int),(4000:Int),IntKind.i64.wrap ((1:Int) + IntKind.i64.wrap (Int.tmod (t:Int) 7)),_,_,_,_,()),())=_;rw [e3]; rfl
theorem nvv' {n0 t:Nat} (hn:n0 < 256) (ht:t < 256):ni4' (n0:Int) (t:Int)=some (((),()),((bld18 (fl15 n0) (ca15 n0) t).tup,())):=by
 have hf:2≤fl15 n0∧fl15 n0≤6:=by unfold fl15; omega
 have hc:1≤ca15 n0∧ca15 n0≤3:=by unfold ca15; omega
 unfold ni4';refine bindI (nvt' hn ht) ?_;exact bindI (n74' (by omega) (by omega) ht) rfl
theorem nvs' {n0 n1 n2:Nat} (h0:n0 < 256) (h1:n1 < 256) (h2:n2 < 256):ndm' (n0:Int) (n1:Int) (n2:Int)=some (((),()),((bld27 (fl15 n0) (ca15 n0) n1 n2).tup,())):=by
 have hf:2≤fl15 n0∧fl15 n0≤6:=by unfold fl15; omega
 have hc:1≤ca15 n0∧ca15 n0≤3:=by unfold ca15; omega
 have e1:IntKind.i64.wrap ((1:Int) + IntKind.i64.wrap (Int.tmod (n2:Int) 3))=((1 + n2 % 3:Nat):Int):=nkq' 3 (by omega)
 have hl:(bld18 (fl15 n0) (ca15 n0) n1).A0.length=ca15 n0:=by simp [bld18]
 have e2:IntKind.i64.wrap (IntKind.i64.wrap (IntKind.i64.wrap (18 * (((bld18 (fl15 n0) (ca15 n0) n1).A0.length:Nat):Int)) + 24) + IntKind.i64.wrap (6 * IntKind.i64.wrap (IntKind.u8.wrap (Int.tdiv (n2:Int) 3))))=((18 * ca15 n0 + 24 + 6 * (n2 / 3):Nat):Int):=by
  rw [hl,show IntKind.u8.wrap (Int.tdiv (n2:Int) 3)=((n2 / 3:Nat):Int) from nu2' 3 h2,nc' (n:=18 * ((ca15 n0:Nat):Int)) (by omega) (by omega),nc' (n:=18 * ((ca15 n0:Nat):Int) + 24) (by omega) (by omega),nc' (n:=((n2 / 3:Nat):Int)) (by omega) (by omega),nc' (n:=6 * ((n2 / 3:Nat):Int)) (by omega) (by omega),nc' (by omega) (by omega)]
  norm_cast
 unfold ndm';refine bindI (nvv' h0 h1) ?_;refine bindI (a:=(((),(),()),(Bldg.none.tup,(bld27 (fl15 n0) (ca15 n0) n1 n2).tup,()))) ?_ rfl;show new' (((),(),(),(0:Int),()),(((n0:Int),(n1:Int),(n2:Int),()),Bldg.none.tup,(((fl15 n0:Nat):Int),IntKind.i64.wrap ((1:Int) + IntKind.i64.wrap (Int.tmod (n2:Int) 3)),IntKind.i64.wrap (IntKind.i64.wrap (IntKind.i64.wrap (18 * (((bld18 (fl15 n0) (ca15 n0) n1).A0.length:Nat):Int)) + 24) + IntKind.i64.wrap (6 * IntKind.i64.wrap (IntKind.u8.wrap (Int.tdiv (n2:Int) 3)))),_,_,_,_,_,()),()))=_;rw [e1,e2];exact n81' (by omega) h1 h2
theorem n59' {fl ca n1 n2:Nat} (hf:2≤fl∧fl≤6) (hc:1≤ca∧ca≤3) (_h1:n1 < 256) (h2:n2 < 256):(bld27 fl ca n1 n2).small∧(bld27 fl ca n1 n2).code=0∧(bld27 fl ca n1 n2).A0.length=ca∧(bld27 fl ca n1 n2).D0=(fl:Int)∧18 * (ca:Int) + 24≤(bld27 fl ca n1 n2).H0∧(bld27 fl ca n1 n2).H0≤600:=by
 have hl:(bld27 fl ca n1 n2).A0.length=ca:=by simp [bld27]
 have hr:(bld27 fl ca n1 n2).H0=((18 * ca + 24 + 6 * (n2 / 3):Nat):Int):=rfl;refine ⟨⟨by show (2:Int)≤(fl:Int); omega,by show (fl:Int)≤8; omega⟩,?_,hl,rfl,by rw [hr]; omega,by rw [hr]; omega⟩
 unfold Bldg.code;have e1:inR 2 32 (bld27 fl ca n1 n2).D0=true:=ns'.2 (by show (2:Int)≤(fl:Int)∧(fl:Int)≤32; omega)
 have e2:inR 1 8 ((bld27 fl ca n1 n2).A0.length:Int)=true:=ns'.2 (by omega)
 have e3:inR 1 16 (bld27 fl ca n1 n2).E0=true:=ns'.2 (by show (1:Int)≤((1 + n2 % 3:Nat):Int)∧((1 + n2 % 3:Nat):Int)≤16; omega)
 have e4:inR 1 10000 (bld27 fl ca n1 n2).R0=true:=ns'.2 (by show (1:Int)≤((1 + n1 % 7:Nat):Int)∧((1 + n1 % 7:Nat):Int)≤10000; omega)
 have e5:(bld27 fl ca n1 n2).A0.all (ngj' (bld27 fl ca n1 n2).D0)=true:=by
  rw [List.all_eq_true];intro c hc';obtain ⟨i,_,rfl⟩:=List.mem_map.1 hc';have hm:(i + n1) % fl < fl:=Nat.mod_lt _ (by omega)
  show ngj' (fl:Int) (g27 n1 n2 i (g18 n1 i (g15 fl n1 i (nem' fl i))))=true;unfold ngj' g27 g18 g15 nem';simp only [List.all_cons,List.all_nil,Bool.and_true,Bool.and_eq_true,ns',decide_eq_true_eq];rw [nc' (n:=(fl:Int) - 1) (by omega) (by omega)]
  refine ⟨⟨?_,?_,?_,?_,?_,?_,?_⟩,?_,?_,?_⟩ <;> omega
 have e6:(bld27 fl ca n1 n2).loadsOK=true:=by
  show (nq' 2 1).loadsOK=true
  kernel_rfl
 have e7:inR (18 * ((bld27 fl ca n1 n2).A0.length:Int) + 24) 65536 (bld27 fl ca n1 n2).H0=true:=ns'.2 (by rw [hl,hr]; omega)
 rw [e1,e2,e3,e4,e5,e6,e7]; rfl
theorem wrapN {n:Nat} (h:n < 1000000000):IntKind.i64.wrap ((n:Int) + 1)=((n + 1:Nat):Int):=by
 rw [nc' (by omega) (by omega)]; omega
theorem u64N {n:Nat} (h:n < 1000000000):IntKind.u64.wrap (n:Int)=(n:Int):=nce' (by omega) (by omega)
theorem nxr' (l:List Int):(textU l).size=l.length:=by
 simp [textU,ByteArray.size]
def xi64 (x y:Int):Int:=IntKind.i64.wrap (stk x y (BitVec.toNat ((BitVec.ofInt (IntKind.bits IntKind.i64) x) ^^^ (BitVec.ofInt (IntKind.bits IntKind.i64) y))))
def st16 (_:Nat) (r:Int):Int:=bif decide (32768≤r) then xi64 (Int.tmod (IntKind.i64.wrap (r * 2)) 65536) 4129 else Int.tmod (IntKind.i64.wrap (r * 2)) 65536
def by16 (s:ByteArray) (i:Nat) (r:Int):Int:=foldN st16 8 0 (xi64 r (IntKind.i64.wrap (IntKind.i64.wrap (nbm' s i) * 256)))
def n34' (s:ByteArray):Int:=foldN (by16 s) s.size 0 65535
theorem n5l' (s:ByteArray) (r i:Int):njz' ((s,r,i,(0:Int),()),())=some ((s,foldN st16 8 0 r,i,()),()):=by
 have h:=n0' (step:=fun x=>nfg' x.1.1 x.1.2.1 x.1.2.2.1 x.1.2.2.2.1) 8 (fun k r=>((s,r,i,(k:Int),()),())) st16 (fun _ _=>True) (fun r=>((s,r,i,()),()))
  (fun k r hk _=>by
   refine ⟨?_,trivial⟩;show nfg' s r i (k:Int)=_;unfold nfg';simp only [decide_eq_true (show (k:Int) < 8 by omega),cond_true,wrapN (show k < 1000000000 by omega)]
   unfold st16 xi64;cases decide ((32768:Int)≤r) <;> rfl)
  (fun r _=>by
   show nfg' s r i 8=_;unfold nfg';rw [decide_eq_false (Int.lt_irrefl (8:Int))]; rfl) 8 0 r (by omega) trivial
 exact nh' h.1 (by omega)
theorem n4m' {s:ByteArray} (hs:s.size≤1000000):nnm' s=some ((IntKind.u16.wrap (n34' s),()),()):=by
 have h:=n0' (step:=fun x=>ne1' x.1.1 x.1.2.1 x.1.2.2.1) s.size (fun i r=>((s,r,(i:Int),()),())) (by16 s) (fun _ _=>True) (fun r=>((r,()),()))
  (fun i r hi _=>by
   refine ⟨?_,trivial⟩;show ne1' s r (i:Int)=_;unfold ne1';simp only [decide_eq_true (show (i:Int) < (s.size:Int) by omega),na' (show (0:Int)≤(i:Int) by omega) (show (i:Int) < (s.size:Int) by omega),cond_true,Int.toNat_natCast]
   refine bindI (n5l' s _ _) ?_;show some (Sum.inl ((s,_,IntKind.i64.wrap ((i:Int) + 1),()),()))=_;rw [wrapN (show i < 1000000000 by omega)]; rfl)
  (fun r _=>by
   show ne1' s r (s.size:Int)=_;unfold ne1';rw [decide_eq_false (Int.lt_irrefl (s.size:Int))]; rfl) s.size 0 65535 (by omega) trivial
 have h2:nj3' ((s,(65535:Int),(0:Int),()),())=_:=nh' h.1 (by omega)
 unfold nnm';exact bindI h2 rfl
def sealT (s:ByteArray):ByteArray:=textU [IntKind.u8.wrap (IntKind.u16.wrap (Int.tdiv (IntKind.u16.wrap (n34' s)) 256)),IntKind.u8.wrap (Int.tmod (IntKind.u16.wrap (n34' s)) 256)]
def sealV (s:ByteArray):ByteArray:=s++sealT s
theorem nxv' (s:ByteArray):(sealV s).size=s.size + 2:=by
 unfold sealV sealT;rw [ByteArray.size_append,nxr']; rfl
theorem nv0' {s:ByteArray} (hs:s.size≤1000000):nmj' s=some ((sealV s,()),()):=by
 unfold nmj';refine bindI (n4m' hs) ?_
 have:=nxv' s
 unfold sealV at this;rw [ByteArray.size_append] at this;show (bif Nat.ble (s.size + (sealT s).size) 4611686018427387904 then some ((s++sealT s,()),()) else none)=_;rw [ng' (by omega)]; rfl
def openV (s:ByteArray):ByteArray×Int:=bif decide ((s.size:Int) < 2) then (noB,4) else bif eqB (sealV (s.extract 0 (s.size - 2))) s then (s.extract 0 (s.size - 2),0) else (noB,5)
theorem n5i' {s:ByteArray} (hs:s.size≤1000000):npb' s=some (((openV s).1,(openV s).2,()),()):=by
 unfold npb' openV;by_cases h:(s.size:Int) < 2
 ·rw [decide_eq_true h]; rfl
 ·rw [decide_eq_false h,cond_false,cond_false]
  have w:IntKind.i64.wrap ((s.size:Int) - 2)=((s.size - 2:Nat):Int):=by rw [nc' (by omega) (by omega)]; omega
  simp only [w,Int.toNat_natCast];rw [decide_eq_true (show (0:Int)≤((s.size - 2:Nat):Int) by omega),decide_eq_true (show ((s.size - 2:Nat):Int)≤(s.size:Int) by omega),Bool.and_self,cond_true]
  refine bindI (nv0' (s:=s.extract 0 (s.size - 2)) (by rw [nbds' s (by omega)]; omega)) ?_
  show (bif eqB (sealV (s.extract 0 (s.size - 2))) s then _ else _)=_;cases eqB (sealV (s.extract 0 (s.size - 2))) s <;> rfl
def numL (n:Int) (k:Nat):List Int:=(List.range k).map fun i=>IntKind.u8.wrap (Int.fdiv n ((2:Int) ^ (Min.min (8 * i) (IntKind.bits .u64))))
def nmB (n:Int) (k:Nat):ByteArray:=textU (numL n k)
theorem nb1' (n:Int) (k:Nat):(nmB n k).size=k:=by
 unfold nmB; rw [nxr']; simp [numL]
theorem nb9' (n:Int) {k:Nat} (hk:k≤100):nbt' n (k:Int)=some ((nmB n k,()),()):=by
 have h:=n0' (step:=fun x=>nh5' x.1.1 x.1.2.1 x.1.2.2.1 x.1.2.2.2.1) k (fun i l=>((n,(k:Int),l,(i:Int),()),())) (putF 0 (fun i _=>IntKind.u8.wrap (Int.fdiv n ((2:Int) ^ (Min.min (8 * i) (IntKind.bits .u64)))))) (fun _ l=>l.length=k) (fun l=>((l,()),()))
  (fun i l hi hl=>by
   refine ⟨?_,by rw [putF,List.length_set,hl]⟩
   show nh5' n (k:Int) l (i:Int)=_;unfold nh5'
   have e:IntKind.u64.wrap (IntKind.i64.wrap (8 * (i:Int)))=((8 * i:Nat):Int):=by
    rw [nc' (n:=8 * (i:Int)) (by omega) (by omega),nce' (by omega) (by omega)]; norm_cast
   simp only [decide_eq_true (show (i:Int) < (k:Int) by omega),na' (show (0:Int)≤(i:Int) by omega) (show (i:Int) < (l.length:Int) by omega),cond_true,Int.toNat_natCast,e,decide_eq_true (show (0:Int)≤((8 * i:Nat):Int) by omega),wrapN (show i < 1000000000 by omega)]
   rfl)
  (fun l hl=>by
   show nh5' n (k:Int) l (k:Int)=_;unfold nh5';rw [decide_eq_false (Int.lt_irrefl (k:Int))]; rfl) k 0 (List.replicate k 0) (by omega) (by simp)
 have h2:=nh' h.1 (by omega)
 rw [show List.replicate k (0:Int)=(List.range k).map (fun _=>0) by simp [List.map_const'],npq'] at h2
 have h3:nno' ((n,(k:Int),(List.range k).map (fun _=>(0:Int)),(0:Int),()),())=_:=h2
 unfold nbt';rw [decide_eq_true (show (0:Int)≤(k:Int) by omega),decide_eq_true (Int.le_refl (k:Int)),decide_eq_true (show (k:Int)≤2147483648 by omega),Bool.and_self,Bool.and_self,cond_true,Int.toNat_natCast,show List.replicate k (0:Int)=(List.range k).map (fun _=>0) by simp [List.map_const']]
 exact bindI h3 rfl
def nr4' (c:Int×Int):ByteArray:=nmB (IntKind.u64.wrap c.1) 4++nmB (IntKind.u64.wrap c.2) 4
theorem nwl' (c:Int×Int):(nr4' c).size=8:=by
 unfold nr4'; rw [ByteArray.size_append,nb1',nb1']
theorem n3j' (c:Int×Int):nnh' c.1 c.2=some ((nr4' c,()),()):=by
 unfold nnh';refine bindI (nb9' (IntKind.u64.wrap c.1) (k:=4) (by omega)) ?_
 refine bindI (nb9' (IntKind.u64.wrap c.2) (k:=4) (by omega)) ?_
 show (bif Nat.ble ((nmB (IntKind.u64.wrap c.1) 4).size + (nmB (IntKind.u64.wrap c.2) 4).size) 4611686018427387904 then _ else _)=_;rw [nb1',nb1']; rfl
def or64 (x y:Int):Int:=IntKind.u64.wrap (stk x y (BitVec.toNat ((BitVec.ofInt (IntKind.bits IntKind.u64) x) ||| (BitVec.ofInt (IntKind.bits IntKind.u64) y))))
def bitS (l:List Bool) (i:Nat) (n:Int):Int:=bif l.getD i false then or64 n (IntKind.u64.wrap (1 * 2 ^ min i (IntKind.bits .u64))) else n
def bitsB (l:List Bool):ByteArray:=nmB (foldN (bitS l) l.length 0 0) 1
theorem nxm' (l:List Bool):(bitsB l).size=1:=nb1' _ _
theorem n5b' {l:List Bool} (hl:l.length≤100):npv' l=some ((bitsB l,()),()):=by
 have h:=n0' (step:=fun x=>ngn' x.1.1 x.1.2.1 x.1.2.2.1) l.length (fun i n=>((l,n,(i:Int),()),())) (bitS l) (fun _ _=>True) (fun n=>((n,()),()))
  (fun i n hi _=>by
   refine ⟨?_,trivial⟩;show ngn' l n (i:Int)=_;unfold ngn';simp only [decide_eq_true (show (i:Int) < (l.length:Int) by omega),na' (show (0:Int)≤(i:Int) by omega) (show (i:Int) < (l.length:Int) by omega),cond_true,Int.toNat_natCast,u64N (show i < 1000000000 by omega),decide_eq_true (show (0:Int)≤(i:Int) by omega),wrapN (show i < 1000000000 by omega)]
   unfold bitS or64;cases l.getD i false <;> rfl)
  (fun n _=>by
   show ngn' l n (l.length:Int)=_;unfold ngn';rw [decide_eq_false (Int.lt_irrefl (l.length:Int))]; rfl) l.length 0 0 (by omega) trivial
 have h2:nmg' ((l,(0:Int),(0:Int),()),())=_:=nh' h.1 (by omega)
 unfold npv';refine bindI h2 ?_;exact bindI (nb9' _ (k:=1) (by omega)) rfl
structure Inp where
 press:Int×Int
 kind:Int
 car:Int
 cars:List CarInput
def Inp.tup (x:Inp):Int×Int×Int×Int×List CarInput×Unit:=(x.press.1,x.press.2,x.kind,x.car,x.cars,())
def Inp.none:Inp:=⟨(0,0),0,0,[]⟩
def noCI:CarInput:=CarInput.mk 0 false false false false 0 false 0 false 0 0
def flV (b:Bldg) (n:Int):Bool:=Int.fdiv (IntKind.u64.wrap n) ((2:Int) ^ b.D0.toNat)==0
def nl1' (b:Bldg) (c:CarInput):Bool:=flV b c.A1&&(flV b c.N1&&(inR 0 (b.D0 - 1) c.R1&&inR 0 2 c.X1))
def nh4' (b:Bldg) (c:Int×Int):Bool:=isZ (nr' c (hallC b))
def isInV (b:Bldg) (x:Inp):Bool:=nh4' b x.press&&(inR 0 8 x.kind&&(inR 0 ((b.A0.length:Int) - 1) x.car&&(!(x.kind==0&&x.car != 0)&&((x.cars.length:Int)==(b.A0.length:Int)&&x.cars.all (nl1' b)))))
def carB (s:ByteArray) (c:CarInput):ByteArray:=s++nmB (IntKind.u64.wrap c.A1) 4++bitsB [c.U1,c.L1,c.M1,c.G1,c.L2,c.M2]++nmB (IntKind.u64.wrap c.R1) 1++nmB (IntKind.u64.wrap c.X1) 1++nmB (IntKind.u64.wrap c.N1) 4++nmB ((c.G3:Nat):Int) 8
theorem n0e' (s:ByteArray) (c:CarInput):(carB s c).size=s.size + 19:=by
 unfold carB;simp only [ByteArray.size_append,nb1',nxm']
def headB (b:Bldg) (x:Inp):ByteArray:=nmB 165 1++nmB (IntKind.u64.wrap (b.A0.length:Int)) 1++nr4' x.press++nmB (IntKind.u64.wrap x.kind) 1++nmB (IntKind.u64.wrap x.car) 1
theorem nyo' (b:Bldg) (x:Inp):(headB b x).size=12:=by
 unfold headB;simp only [ByteArray.size_append,nb1',nwl']
def inV (b:Bldg) (x:Inp):ByteArray:=sealV (x.cars.foldl carB (headB b x))
theorem nyz' (l:List CarInput) (s:ByteArray):(l.foldl carB s).size=s.size + 19 * l.length:=by
 induction l generalizing s with
 | nil=>simp
 | cons c t ih=>rw [List.foldl_cons,ih,n0e',List.length_cons]; omega
theorem nbdk' (b:Bldg) (x:Inp):(inV b x).size=14 + 19 * x.cars.length:=by
 unfold inV; rw [nxv',nyz',nyo']; omega
theorem nih' (n lo hi:Int):nkp' n lo hi=some ((inR lo hi n,()),()):=by
 unfold nkp' inR;cases decide (lo≤n) <;> rfl
section
variable {b:Bldg} (hb:b.small) (hcode:b.code=0)
include hb
theorem nty' (n:Int):nmf' b.D0 b.E0 b.H0 b.R0 b.J0 b.K0 b.O0 b.A0 n=some ((flV b n,()),()):=by
 have h1:=hb.1;have h2:=hb.2;have e:IntKind.u64.wrap b.D0=b.D0:=nce' (by omega) (by omega)
 have e2:Min.min b.D0.toNat (IntKind.bits .u64)=b.D0.toNat:=by show min b.D0.toNat 64=_; omega
 unfold nmf' flV;simp only [e,decide_eq_true (show (0:Int)≤b.D0 by omega),cond_true,e2]
theorem n2d' (x:Inp) (hx:x.cars.length≤1000):niv' (((),(),(0:Int),()),(b.tup,x.tup,()))=some (bif x.cars.all (nl1' b) then .inl ((),()) else .inr ((false,()),())):=by
 have h1:=hb.1;have h2:=hb.2
 have h:=nh' (nkx' (step:=fun x=>letI a:=x.2.1.2.2; letI b:=x.2.2.1; letI c:=a.2.2; ngh' x.1.2.2.1 x.2.1.1 x.2.1.2.1 a.1 a.2.1 c.1 c.2.1 c.2.2.1 c.2.2.2.1 b.1 b.2.1 b.2.2.1 b.2.2.2.1 b.2.2.2.2.1) x.cars noCI (nl1' b) (fun i=>(((),(),(i:Int),()),(b.tup,x.tup,()))) (.inl ((),())) (fun _=>.inr ((false,()),())) (fun i hi=>by
  show ngh' (i:Int) b.D0 b.E0 b.H0 b.R0 b.J0 b.K0 b.O0 b.A0 x.press.1 x.press.2 x.kind x.car x.cars=_;unfold ngh';rw [show CarInput.mk 0 false false false false 0 false 0 false 0 0=noCI from rfl]
  have w:IntKind.i64.wrap (b.D0 - 1)=b.D0 - 1:=nc' (by omega) (by omega)
  simp only [decide_eq_true (show (i:Int) < (x.cars.length:Int) by omega),cond_true,na' (show (0:Int)≤(i:Int) by omega) (show (i:Int) < (x.cars.length:Int) by omega),Int.toNat_natCast,wrapN (show i < 1000000000 by omega),w]
  generalize x.cars.getD i noCI=c;unfold nl1';refine bindI (nty' hb c.A1) ?_;show (bif !flV b c.A1 then _ else _)=_;cases flV b c.A1 with
  | false=>rfl
  | true=>
  rw [Bool.not_true,cond_false,Bool.true_and];refine bindI (nty' hb c.N1) ?_;show (bif !flV b c.N1 then _ else _)=_;cases flV b c.N1 with
  | false=>rfl
  | true=>
  rw [Bool.not_true,cond_false,Bool.true_and];refine bindI (nih' _ _ _) ?_;show (bif !inR 0 (b.D0 - 1) c.R1 then _ else _)=_;cases inR 0 (b.D0 - 1) c.R1 with
  | false=>rfl
  | true=>
  rw [Bool.not_true,cond_false,Bool.true_and];refine bindI (nih' _ _ _) ?_;show (bif !inR 0 2 c.X1 then _ else _)=_;cases inR 0 2 c.X1 <;> rfl) (by
  show ngh' (x.cars.length:Int) b.D0 b.E0 b.H0 b.R0 b.J0 b.K0 b.O0 b.A0 x.press.1 x.press.2 x.kind x.car x.cars=_;unfold ngh';rw [decide_eq_false (Int.lt_irrefl _),cond_false]) x.cars.length 0 (by omega)) (by omega)
 rw [List.drop_zero,nq1'] at h;exact h
include hcode
theorem nj4' (c:Int×Int):nli' b.D0 b.E0 b.H0 b.R0 b.J0 b.K0 b.O0 b.A0 c.1 c.2=some ((nh4' b c,()),()):=by
 unfold nli';refine bindI (nnq' hb hcode) ?_;have e1:=nko' c.1 (hallC b).1;have e2:=nko' c.2 (hallC b).2;show Option.bind (bif IntKind.u32.wrap _==0 then some ((IntKind.u32.wrap _==0,()),()) else _) _=_;rw [e1,e2];unfold nh4' isZ;show Option.bind (bif (nr' c (hallC b)).1==0 then some (((nr' c (hallC b)).2==0,()),()) else _) _=_;cases (nr' c (hallC b)).1==0 with
 | false=>rfl
 | true=>rw [Bool.true_and,Bool.and_true]; rfl
theorem n5q' (x:Inp) (hx:x.cars.length≤1000):nps' b.D0 b.E0 b.H0 b.R0 b.J0 b.K0 b.O0 b.A0 x.press.1 x.press.2 x.kind x.car x.cars=some ((isInV b x,()),()):=by
 have hc:=nn' hcode;have w:IntKind.i64.wrap ((b.A0.length:Int) - 1)=(b.A0.length:Int) - 1:=nc' (by omega) (by omega)
 unfold nps' isInV;rw [w]
 have fin:∀ g:Bool,Option.bind (some (((),(),!g,()),(b.tup,x.tup,()))) (fun y5:(Unit×Unit×Bool×Unit)×_=>bif y5.1.2.2.1 then some ((false,()),()) else (niv' (((),(),(0:Int),()),(y5.2.1,y5.2.2.1,()))).bind fun y6=>(match y6 with | .inl y7=>some ((true,()),()) | .inr y7=>some ((y7.1.1,()),())))=some (((g&&x.cars.all (nl1' b)),()),()):=by
  intro g;cases g with
  | false=>rfl
  | true=>
   refine bindI rfl ?_;show (bif !true then _ else _)=_;rw [Bool.not_true,cond_false,Bool.true_and];refine bindI (n2d' hb x hx) ?_;cases x.cars.all (nl1' b) <;> rfl
 rw [ny'];show Option.bind (Option.bind (some ((b.code,()),())) _) _=_;rw [hcode];cases h1:nh4' b x.press with
 | false=>
  refine bindI (bindI rfl (show (bif ((0:Int) != 0) then _ else _)=some (((),(),!false,()),(b.tup,x.tup,())) from bindI (nj4' hb hcode x.press) (by show (bif !nh4' b x.press then _ else _)=_; rw [h1]; rfl))) ?_
  exact fin false
 | true=>
 cases h2:inR 0 8 x.kind with
 | false=>
  refine bindI (bindI rfl (show (bif ((0:Int) != 0) then _ else _)=some (((),(),!false,()),(b.tup,x.tup,())) from bindI (nj4' hb hcode x.press) (by
   show (bif !nh4' b x.press then _ else _)=_;rw [h1,Bool.not_true,cond_false];refine bindI (nih' _ _ _) ?_;show (bif !inR 0 8 x.kind then _ else _)=_;rw [h2]; rfl))) ?_
  exact fin false
 | true=>
 cases h3:inR 0 ((b.A0.length:Int) - 1) x.car with
 | false=>
  refine bindI (bindI rfl (show (bif ((0:Int) != 0) then _ else _)=some (((),(),!false,()),(b.tup,x.tup,())) from bindI (nj4' hb hcode x.press) (by
   show (bif !nh4' b x.press then _ else _)=_;rw [h1,Bool.not_true,cond_false];refine bindI (nih' _ _ _) ?_;show (bif !inR 0 8 x.kind then _ else _)=_;rw [h2,Bool.not_true,cond_false];refine bindI (nih' _ _ _) ?_;show (bif !inR 0 ((b.A0.length:Int) - 1) x.car then _ else _)=_;rw [h3]; rfl))) ?_
  exact fin false
 | true=>
  refine bindI (bindI rfl (show (bif ((0:Int) != 0) then _ else _)=some (((),(),!(!(x.kind==0&&x.car != 0)&&((x.cars.length:Int)==(b.A0.length:Int))),()),(b.tup,x.tup,())) from bindI (nj4' hb hcode x.press) (by
   show (bif !nh4' b x.press then _ else _)=_;rw [h1,Bool.not_true,cond_false];refine bindI (nih' _ _ _) ?_;show (bif !inR 0 8 x.kind then _ else _)=_;rw [h2,Bool.not_true,cond_false];refine bindI (nih' _ _ _) ?_;show (bif !inR 0 ((b.A0.length:Int) - 1) x.car then _ else _)=_;rw [h3,Bool.not_true,cond_false];have hne:((x.cars.length:Int) != (b.A0.length:Int))=!((x.cars.length:Int)==(b.A0.length:Int)):=rfl;rw [hne];cases (x.cars.length:Int)==(b.A0.length:Int) <;> cases x.kind==0 <;> cases x.car != 0 <;> rfl))) ?_
  refine Eq.trans (fin (!(x.kind==0&&x.car != 0)&&((x.cars.length:Int)==(b.A0.length:Int)))) ?_;simp only [Bool.true_and,Bool.and_assoc]
end
end Go.Ovl
