/- The tick by the reference (layer 27): flags, calm cars and phases. -/
import Derived.Test.YtbliagnmhfobmaaGreatOvI
namespace Go.Ovl
open Go Go.Ab
set_option maxRecDepth 100000
theorem TI.wr {b:Bldg} {t:Tk} (h:TI b t) {im:Img} {s:Sto} {bu e:Int} (h1:ImgOK b im) (h2:bu < 9223372036854775808) (h3:im.B0=t.m.L0.B0):TI b (t.wr im s bu e):=
 ⟨h1,h.con,h.bel,h.beld,h.car,h.caru,h.lod,h.lit,by show t.m.J1.length=im.B0.length; rw [h3]; exact h.exl,h.exv,h2,h.oc,h.su⟩
theorem TL.wr {b:Bldg} {t:Tk} (h:TL b t) (im:Img) (s:Sto) (bu e:Int):TL b (t.wr im s bu e):=⟨h.shows,h.was,h.cmds⟩
def Tk.stat (t:Tk) (n:Int):Tk:={ t with out:={ t.out with C2:=n } }
theorem TI.stat {b:Bldg} {t:Tk} (h:TI b t) (n:Int):TI b (t.stat n):=⟨h.img,h.con,h.bel,h.beld,h.car,h.caru,h.lod,h.lit,h.exl,h.exv,h.bud,h.oc,h.su⟩
theorem TL.stat {b:Bldg} {t:Tk} (h:TL b t) (n:Int):TL b (t.stat n):=⟨h.shows,h.was,h.cmds⟩
section
variable {b:Bldg} (hb:b.small) (hcode:b.code=0) {x:Inp} {g:Bool} (hx:g=true→x.cars.length=b.A0.length∧0≤x.car∧x.car < (b.A0.length:Int))
include hb hcode in
theorem nbdu' {t:Tk} (hi:TI b t) (hl:TL b t):Sat (ncl' b.D0 b.E0 b.I0 b.Q0 b.J0 b.K0 b.P0 b.A0 t.m.L0.F0 t.m.L0.N0 t.m.L0.H0 t.m.L0.B0 t.m.Y0.h0 t.m.Y0.h1 t.m.Y0.sel t.m.C1 t.m.S0 t.m.A0 t.m.A2 t.m.J1 t.m.B3 t.m.I3 t.m.Q2 t.m.E2 x.press.1 x.press.2 x.kind x.car x.cars g t.shows t.was t.cmds t.budget t.e t.out.I1 t.out.A1 t.out.B1 t.out.X0 t.out.D3 t.out.K0 t.out.C2 t.out.A0) fun y=>∃ t',y=((),(t'.tup b x g,()))∧TI b t'∧TL b t':=by
 have hc:=nn' hcode;unfold ncl';refine Sat.bindS (Q:=fun y=>∃ l:List Record,y=(((),l,()),(t.tup b x g,()))∧l.length≤1000∧K456 l) ?_ fun y hy=>?_
 ·refine Sat.loop (fun (k:Nat) z=>∃ (l:List Record) (i:Nat),z=(((),l,(i:Int),()),(t.tup b x g,()))∧l.length≤i∧K456 l∧i + k=b.A0.length) (fun k z hz=>?_) b.A0.length ⟨[],0,rfl,Nat.le_refl 0,K1.nil.2,Nat.zero_add _⟩ (by omega)
  obtain ⟨l,i,rfl,h1,h2,hk⟩:=hz;unfold ngr';refine Sat.bif (fun gg=>?_) fun _=>Sat.ret ⟨l,rfl,by omega,h2⟩
  have gg:(i:Int) < (b.A0.length:Int):=of_decide_eq_true gg;have w:=wrapN (n:=i) (by omega)
  have i2:inB (i:Int) t.m.S0.length=true:=na' (by omega) (by rw [hi.bel]; exact gg)
  have i3:inB (i:Int) t.m.A0.length=true:=na' (by omega) (by rw [hi.car]; exact gg)
  have i4:inB (i:Int) t.was.length=true:=na' (by omega) (by rw [hl.was]; exact gg)
  have i5:inB (i:Int) t.m.L0.N0.length=true:=na' (by omega) (by rw [hi.img.lf]; exact gg)
  refine Sat.bifT i4 ?_;refine Sat.bindS (Q:=fun y=>∃ q:Bool,y=(((),l,(i:Int),q,()),(t.tup b x g,()))) ?_ fun y hy=>?_
  ·refine Sat.bindS (nca' _) fun _ _=>Sat.bif (fun _=>?_) fun _=>?_
   ·refine Sat.bifT i2 (Sat.bif (fun _=>Sat.bifT i5 (Sat.ret ⟨_,rfl⟩)) fun _=>?_)
    refine Sat.bindS (nb1' _) fun _ _=>Sat.bif (fun _=>?_) fun _=>Sat.ret ⟨_,rfl⟩
    exact Sat.bifT i3 (Sat.bif (fun _=>Sat.bifT i5 (Sat.ret ⟨_,rfl⟩)) fun _=>Sat.ret ⟨_,rfl⟩)
   ·refine Sat.bindS (nb1' _) fun _ _=>Sat.bif (fun _=>?_) fun _=>Sat.ret ⟨_,rfl⟩
    exact Sat.bifT i3 (Sat.bif (fun _=>Sat.bifT i5 (Sat.ret ⟨_,rfl⟩)) fun _=>Sat.ret ⟨_,rfl⟩)
  obtain ⟨q,rfl⟩:=hy;refine Sat.bif (fun _=>?_) fun _=>Sat.ret ⟨k - 1,by omega,l,i + 1,by first | (rw [← w]; rfl) | rw [← w],by omega,h2,by omega⟩
  refine Sat.bifT (nh' (show l.length + 1≤_ by omega)) (Sat.ret ⟨k - 1,by omega,l++[Record.mk 5 0 0 (i:Int) 1],i + 1,by first | (rw [← w]; rfl) | rw [← w],?_,h2.app (K1.r5 _ _ _ _).2,by omega⟩)
  rw [List.length_append];show l.length + 1≤_;omega
 ·obtain ⟨l,rfl,h1,h2⟩:=hy
  refine Sat.bindS (ntd' hb hcode hi.img hi.bud l (by omega)) fun y hy=>?_
  obtain ⟨im,s,bu,e,rfl,w1,w2,w3⟩:=hy;exact Sat.ret ⟨t.wr im s bu e,rfl,hi.wr w1 w2 (w3 h2),hl.wr _ _ _ _⟩
include hb hcode in
theorem n6f' {t:Tk} (hi:TI b t) (hxl:x.cars.length=b.A0.length):Sat (nbd' (r27_ticker.mk b.D0 b.E0 b.I0 b.Q0 b.J0 b.K0 b.P0 b.A0 t.m.L0.F0 t.m.L0.N0 t.m.L0.H0 t.m.L0.B0 t.m.Y0.h0 t.m.Y0.h1 t.m.Y0.sel t.m.C1 t.m.S0 t.m.A0 t.m.A2 t.m.J1 t.m.B3 t.m.I3 t.m.Q2 t.m.E2 x.press.1 x.press.2 x.kind x.car x.cars g t.shows t.was t.cmds t.budget t.e t.out.I1 t.out.A1 t.out.B1 t.out.X0 t.out.D3 t.out.K0 t.out.C2 t.out.A0)) fun y=>∃ c:List Bool,y=((c,()),())∧c.length=b.A0.length:=by
 have hc:=nn' hcode;unfold nbd'
 have hcap:((decide ((0:Int)≤(b.A0.length:Int))&&decide ((b.A0.length:Int)≤(b.A0.length:Int)))&&decide ((b.A0.length:Int)≤2147483648))=true:=by
  simp only [decide_eq_true (show (0:Int)≤(b.A0.length:Int) by omega),decide_eq_true (Int.le_refl (b.A0.length:Int)),decide_eq_true (show (b.A0.length:Int)≤2147483648 by omega),Bool.and_self]
 refine Sat.bifT hcap ?_;refine Sat.bindS (Q:=fun y=>∃ c:List Bool,y=((c,()),())∧c.length=b.A0.length) ?_ fun y hy=>by obtain ⟨c,rfl,h⟩:=hy; exact Sat.ret ⟨c,rfl,h⟩
 refine Sat.loop (fun (k:Nat) z=>∃ (c:List Bool) (i:Nat),z=((r27_ticker.mk b.D0 b.E0 b.I0 b.Q0 b.J0 b.K0 b.P0 b.A0 t.m.L0.F0 t.m.L0.N0 t.m.L0.H0 t.m.L0.B0 t.m.Y0.h0 t.m.Y0.h1 t.m.Y0.sel t.m.C1 t.m.S0 t.m.A0 t.m.A2 t.m.J1 t.m.B3 t.m.I3 t.m.Q2 t.m.E2 x.press.1 x.press.2 x.kind x.car x.cars g t.shows t.was t.cmds t.budget t.e t.out.I1 t.out.A1 t.out.B1 t.out.X0 t.out.D3 t.out.K0 t.out.C2 t.out.A0,c,(i:Int),()),())∧c.length=b.A0.length∧i + k=b.A0.length) (fun k z hz=>?_) b.A0.length ⟨_,0,rfl,by rw [List.length_replicate,Int.toNat_natCast],Nat.zero_add _⟩ (by omega)
 obtain ⟨c,i,rfl,h1,hk⟩:=hz;unfold nhd';refine Sat.bif (fun gg=>?_) fun _=>Sat.ret ⟨c,rfl,h1⟩
 have gg:(i:Int) < (c.length:Int):=of_decide_eq_true gg;have hin:i < b.A0.length:=by omega
 have w:=wrapN (n:=i) (by omega)
 have i1:inB (i:Int) t.m.L0.F0.length=true:=na' (by omega) (by rw [hi.img.lp]; omega)
 have i2:inB (i:Int) t.m.S0.length=true:=na' (by omega) (by rw [hi.bel]; omega)
 have i3:inB (i:Int) t.m.A0.length=true:=na' (by omega) (by rw [hi.car]; omega)
 have i4:inB (i:Int) c.length=true:=na' (by omega) gg
 have i5:inB (i:Int) x.cars.length=true:=na' (by omega) (by omega)
 have hbd:(t.m.S0.getD i noBlf).M0.length≤1000:=hi.beld _ (n5' _ (by rw [hi.bel]; exact hin))
 have hcu:ucR (t.m.A0.getD i nry').N1:=hi.caru _ (n5' _ (by rw [hi.car]; exact hin))
 refine Sat.bifT i1 (Sat.bindS (nca' _) fun _ _=>Sat.bif (fun _=>?_) fun _=>?_)
 ·refine Sat.bifT i2 (Sat.bindS (n5c' hb hcode hin (t.m.S0.getD i noBlf) hbd) fun y _=>Sat.bifT i4 ?_)
  exact Sat.ret ⟨k - 1,by omega,c.set i y.1.1,i + 1,by first | (rw [← w]; rfl) | rw [← w],by rw [List.length_set]; exact h1,by omega⟩
 refine Sat.bindS (nb1' _) fun _ _=>Sat.bif (fun _=>?_) fun _=>?_
 ·refine Sat.bifT i3 (Sat.bifT i5 (Sat.bindS (n40' hb hcode (t.m.A0.getD i nry') hcu _ _ _ _) fun y _=>Sat.bifT i4 ?_))
  exact Sat.ret ⟨k - 1,by omega,c.set i y.1.1,i + 1,by first | (rw [← w]; rfl) | rw [← w],by rw [List.length_set]; exact h1,by omega⟩
 ·exact Sat.ret ⟨k - 1,by omega,c,i + 1,by first | (rw [← w]; rfl) | rw [← w],h1,by omega⟩
include hb hcode hx in
theorem nbak' {t:Tk} (hi:TI b t) (hl:TL b t):Sat (nb5' b.D0 b.E0 b.I0 b.Q0 b.J0 b.K0 b.P0 b.A0 t.m.L0.F0 t.m.L0.N0 t.m.L0.H0 t.m.L0.B0 t.m.Y0.h0 t.m.Y0.h1 t.m.Y0.sel t.m.C1 t.m.S0 t.m.A0 t.m.A2 t.m.J1 t.m.B3 t.m.I3 t.m.Q2 t.m.E2 x.press.1 x.press.2 x.kind x.car x.cars g t.shows t.was t.cmds t.budget t.e t.out.I1 t.out.A1 t.out.B1 t.out.X0 t.out.D3 t.out.K0 t.out.C2 t.out.A0) fun y=>∃ t',(y=.inl ((),(t'.tup b x g,()))∨y=.inr ((),(t'.tup b x g,())))∧TI b t'∧TL b t':=by
 have hc:=nn' hcode;unfold nb5';refine Sat.bif (fun _=>Sat.ret ⟨t,.inl rfl,hi,hl⟩) fun hg=>?_
 rw [Bool.not_eq_false'] at hg;obtain ⟨hxl,hxc⟩:=hx hg;refine Sat.bifT (nh' (by show 0 + t.m.L0.N0.length≤_; rw [hi.img.lf]; omega)) ?_
 refine Sat.bindS (n6f' hb hcode hi hxl) fun y hy=>?_
 obtain ⟨c1,rfl,hc1⟩:=hy;refine Sat.bindS (n46' hb hi.img x.kind x.car hc1) fun y2 h2=>?_
 refine Sat.bindS (ntd' hb hcode (t:=t.stat y2.1.2.1) hi.img hi.bud y2.1.1 (by have:=h2.1; omega)) fun y hy=>?_
 obtain ⟨im,s,bu,e,rfl,w1,w2,w3⟩:=hy;have hi2:=(hi.stat y2.1.2.1).wr (s:=s) (e:=e) w1 w2 (w3 h2.2);have hl2:=(hl.stat y2.1.2.1).wr im s bu e;generalize (t.stat y2.1.2.1).wr im s bu e=t2 at hi2 hl2;refine Sat.bif (fun _=>Sat.ret ⟨t2,.inl rfl,hi2,hl2⟩) fun _=>?_
 refine Sat.bifT (nh' (by show 0 + t2.m.L0.N0.length≤_; rw [hi2.img.lf]; omega)) ?_
 refine Sat.bindS (n6f' hb hcode hi2 hxl) fun y hy=>?_
 obtain ⟨c2,rfl,hc2⟩:=hy;refine Sat.bindS (Q:=fun y=>∃ c:List Bool,y=(((),[]++t.m.L0.N0,[]++t2.m.L0.N0,c,()),(t2.tup b x g,()))∧c.length=b.A0.length) ?_ fun y hy=>?_
 ·refine Sat.bif (fun _=>?_) fun _=>Sat.ret ⟨c2,rfl,hc2⟩
  exact Sat.bifT (na' hxc.1 (by rw [hc2]; exact hxc.2)) (Sat.ret ⟨_,rfl,by rw [List.length_set]; exact hc2⟩)
 obtain ⟨c3,rfl,hc3⟩:=hy;refine Sat.bindS (n7p' hb hi2.img hc3) fun y6 h6=>?_
 refine Sat.bindS (ntd' hb hcode hi2.img hi2.bud y6.1.1 (by have:=h6.1; omega)) fun y hy=>?_
 obtain ⟨im',s',bu',e',rfl,v1,v2,v3⟩:=hy;have hi3:=hi2.wr (s:=s') (e:=e') v1 v2 (v3 h6.2);have hl3:=hl2.wr im' s' bu' e';have hfl2:=hi2.img.lf;generalize t2.wr im' s' bu' e'=t3 at hi3 hl3;refine Sat.bif (fun _=>Sat.ret ⟨t3,.inl rfl,hi3,hl3⟩) fun _=>?_
 refine Sat.bindS (Q:=fun y=>∃ t',y=((),(t'.tup b x g,()))∧TI b t'∧TL b t') ?_ fun y hy=>by obtain ⟨t',rfl,h⟩:=hy; exact Sat.ret ⟨t',.inr rfl,h⟩
 have hA:([]++t.m.L0.N0).length=b.A0.length:=by rw [List.nil_append]; exact hi.img.lf
 have hB:([]++t2.m.L0.N0).length=b.A0.length:=by rw [List.nil_append]; exact hfl2
 generalize []++t.m.L0.N0=fa at hA;generalize []++t2.m.L0.N0=fb at hB;refine Sat.loop (fun (k:Nat) z=>∃ (t':Tk) (i:Nat),z=(((),fa,fb,(i:Int),()),(t'.tup b x g,()))∧TI b t'∧TL b t'∧i + k=b.A0.length) (fun k z hz=>?_) b.A0.length ⟨t3,0,rfl,hi3,hl3,Nat.zero_add _⟩ (by omega)
 obtain ⟨t',i,rfl,hi,hl,hk⟩:=hz;unfold ngl';refine Sat.bif (fun gg=>?_) fun _=>Sat.ret ⟨t',rfl,hi,hl⟩
 have gg:(i:Int) < (t'.was.length:Int):=of_decide_eq_true gg;have hwl:=hl.was;have hin:i < b.A0.length:=by omega
 have w:=wrapN (n:=i) (by omega)
 have i1:inB (i:Int) t'.m.L0.F0.length=true:=na' (by omega) (by rw [hi.img.lp]; omega)
 have i2:inB (i:Int) t'.m.S0.length=true:=na' (by omega) (by rw [hi.bel]; omega)
 have i3:inB (i:Int) t'.m.A0.length=true:=na' (by omega) (by rw [hi.car]; omega)
 have i4:inB (i:Int) t'.was.length=true:=na' (by omega) gg
 have i5:inB (i:Int) t'.cmds.length=true:=na' (by omega) (by rw [hl.cmds]; omega)
 have i6:inB (i:Int) fa.length=true:=na' (by omega) (by omega)
 have i7:inB (i:Int) fb.length=true:=na' (by omega) (by omega)
 have hbd:(t'.m.S0.getD i noBlf).M0.length≤1000:=hi.beld _ (n5' _ (by rw [hi.bel]; exact hin))
 refine Sat.bifT i4 (Sat.bifT i1 ?_);refine Sat.bindS (Q:=fun y=>∃ q:Bool,y=(((),fa,fb,(i:Int),q,()),(t'.tup b x g,()))) ?_ fun y hy=>?_
 ·refine Sat.bif (fun _=>?_) fun _=>Sat.ret ⟨_,rfl⟩
  refine Sat.bindS (nca' _) fun _ _=>Sat.bif (fun _=>?_) fun _=>?_
  ·refine Sat.bindS (nca' _) fun _ _=>Sat.bif (fun _=>?_) fun _=>Sat.ret ⟨_,rfl⟩
   refine Sat.bindS (nb1' _) fun _ _=>Sat.bif (fun _=>?_) fun _=>Sat.ret ⟨_,rfl⟩
   exact Sat.bindS (nb1' _) fun _ _=>Sat.ret ⟨_,rfl⟩
  ·refine Sat.bindS (nb1' _) fun _ _=>Sat.bif (fun _=>?_) fun _=>Sat.ret ⟨_,rfl⟩
   exact Sat.bindS (nb1' _) fun _ _=>Sat.ret ⟨_,rfl⟩
 obtain ⟨q,rfl⟩:=hy;refine Sat.bif (fun _=>?_) fun _=>?_
 ·refine Sat.bindE rfl (Sat.bifT i2 (Sat.bifT i3 (Sat.bifT i5 ?_)))
  refine Sat.ret ⟨k - 1,by omega,(t'.sBel i (Belief.mk (-1) 0 0 [] 0 false)).sCar i (NewCar.mk 0 0 0 0 0 false 0 0 0 0 0 0 0 false) 0,i + 1,by first | (rw [← w]; rfl) | rw [← w],(hi.sBel i (Nat.zero_le _)).sCar i ⟨Int.le_refl 0,show (0:Int) < 4294967296 from by decide⟩ _,(hl.sBel i _).sCar i _ _,by omega⟩
 refine Sat.bindS (Q:=fun y=>∃ q:Bool,y=(((),fa,fb,(i:Int),q,()),(t'.tup b x g,()))) ?_ fun y hy=>?_
 ·exact Sat.bifT i6 (Sat.bif (fun _=>Sat.bifT i7 (Sat.ret ⟨_,rfl⟩)) fun _=>Sat.ret ⟨_,rfl⟩)
 obtain ⟨q,rfl⟩:=hy;refine Sat.bif (fun _=>?_) fun _=>Sat.ret ⟨k - 1,by omega,t',i + 1,by first | (rw [← w]; rfl) | rw [← w],hi,hl,by omega⟩
 refine Sat.bifT i2 (Sat.bindS (n3s' hb hcode hin (t'.m.S0.getD i noBlf) hbd) fun y5 h5=>Sat.bifT i2 (Sat.bifT i3 (Sat.bifT i5 ?_)))
 refine Sat.ret ⟨k - 1,by omega,(t'.sBel i (Belief.mk y5.2.1.1 y5.2.1.2.1 y5.2.1.2.2.1 y5.2.1.2.2.2.1 y5.2.1.2.2.2.2.1 y5.2.1.2.2.2.2.2.1)).sCar i (NewCar.mk 0 0 0 0 0 false 0 0 0 0 0 0 0 false) 0,i + 1,by first | (rw [← w]; rfl) | rw [← w],(hi.sBel i h5).sCar i ⟨Int.le_refl 0,show (0:Int) < 4294967296 from by decide⟩ _,(hl.sBel i _).sCar i _ _,by omega⟩
end
def outT (p:Outputs):Int×Int×Int×Int×Bool×Bool×Int×List CarOutput×Unit:=(p.I1,p.A1,p.B1,p.X0,p.D3,p.K0,p.C2,p.A0,())
def coT (x:CarOutput):Int×Int×Bool×Int×Int×Bool×Int×Int×Bool×Unit:=(x.T0,x.R0,x.D1,x.T1,x.H1,x.O3,x.D2,x.W0,x.P3,())
def goS (z:CarOutput×CarOutput) (co cm ph:Bool) (tr:Int):Bool×Bool×Bool×Int:=(co||!safeV z.1,cm||!ndr' z.1,ph||!edgO z,bif trV z.1 then tr + 1 else tr)
def goR:List (CarOutput×CarOutput)→Int×Int→Bool×Bool×Bool×Int→Option ((Int×Int)×Bool×Bool×Bool×Int)
 | [],c,s=>some (c,s)
 | z :: t,c,s=>bif !isZ (bothC c (lanC z.1)) then none else goR t (n1' c (lanC z.1)) (goS z s.1 s.2.1 s.2.2.1 s.2.2.2)
theorem n4l':∀ (l:List (CarOutput×CarOutput)) (c:Int×Int) (s:Bool×Bool×Bool×Int),goR l c s=bif twL (l.map (·.1)) c then none else some (litL (l.map (·.1)) c,s.1||!(l.map (·.1)).all safeV,s.2.1||!(l.map (·.1)).all ndr',s.2.2.1||!l.all edgO,trN (l.map (·.1)) s.2.2.2)
 | [],c,s=>by simp [goR,twL,litL,trN]
 | z :: t,c,s=>by
  unfold goR;simp only [List.map_cons,twL,litL,trN,List.all_cons];cases isZ (bothC c (lanC z.1)) with
  | false=>rfl
  | true=>
   rw [Bool.not_true,cond_false,Bool.false_or,n4l' t];simp only [goS,Bool.not_and,Bool.or_assoc]
theorem nbef' {p x:Outputs} (hx:x.A0.length≤1000) (_hp:p.A0.length≤1000) {i:Nat} (hi:i < x.A0.length) (hi2:i < p.A0.length) (co cm ph:Bool) (tr:Int) (h0:0≤tr) (h1:tr≤i) (c:Int×Int) :
  ndx' co cm ph tr (i:Int) p.I1 p.A1 p.B1 p.X0 p.D3 p.K0 p.C2 p.A0 x.I1 x.A1 x.B1 x.X0 x.D3 x.K0 x.C2 x.A0 c.1 c.2 =
   some (bif !isZ (bothC c (lanC (x.A0.getD i noCO))) then .inr (.inr ((1,()),())) else
    .inl (((),(),(),(goS (x.A0.getD i noCO,p.A0.getD i noCO) co cm ph tr).1,(goS (x.A0.getD i noCO,p.A0.getD i noCO) co cm ph tr).2.1,(goS (x.A0.getD i noCO,p.A0.getD i noCO) co cm ph tr).2.2.1,(goS (x.A0.getD i noCO,p.A0.getD i noCO) co cm ph tr).2.2.2,((i + 1:Nat):Int),()),
     (outT p,outT x,((n1' c (lanC (x.A0.getD i noCO))).1,(n1' c (lanC (x.A0.getD i noCO))).2,()),()))):=by
 unfold ndx';rw [show CarOutput.mk 0 0 false 0 0 false 0 0 false=noCO from rfl]
 simp only [decide_eq_true (show (i:Int) < (x.A0.length:Int) by omega),decide_eq_true (show (i:Int) < (p.A0.length:Int) by omega),na' (show (0:Int)≤(i:Int) by omega) (show (i:Int) < (x.A0.length:Int) by omega),cond_true,Int.toNat_natCast]
 generalize hq:x.A0.getD i noCO=q;have w:IntKind.i64.wrap ((i:Int) + 1)=((i + 1:Nat):Int):=by rw [nc' (by omega) (by omega)]; omega
 have w2:IntKind.i64.wrap (tr + 1)=tr + 1:=nc' (by omega) (by omega)
 refine bindI (njc' c (lanC q)) ?_;show (bif !isZ (bothC c (lanC q)) then _ else _)=_;cases isZ (bothC c (lanC q)) with
 | false=>rfl
 | true=>
 rw [Bool.not_true,cond_false,cond_false];refine bindI (nev' c (lanC q)) ?_
 refine bindI (a:=(((),(),(),(co||!safeV q),cm,ph,tr,(i:Int),(),()),(outT p,outT x,((n1' c (lanC q)).1,(n1' c (lanC q)).2,()),coT q,()))) (by
  cases co with
  | true=>rfl
  | false=>exact bindI (n5i' q) rfl) ?_
 refine bindI (a:=(((),(),(),(co||!safeV q),(cm||!ndr' q),ph,tr,(i:Int),(),()),(outT p,outT x,((n1' c (lanC q)).1,(n1' c (lanC q)).2,()),coT q,()))) (by
  cases cm with
  | true=>rfl
  | false=>exact bindI (ny8' q.W0 q.D2) rfl) ?_
 refine bindI (a:=(((),(),(),(co||!safeV q),(cm||!ndr' q),(ph||!edgO (q,p.A0.getD i noCO)),tr,(i:Int),(),()),(outT p,outT x,((n1' c (lanC q)).1,(n1' c (lanC q)).2,()),coT q,()))) (by
  show (bif inB (i:Int) p.A0.length then _ else _)=_;rw [na' (show (0:Int)≤(i:Int) by omega) (show (i:Int) < (p.A0.length:Int) by omega),cond_true]
  unfold edgO;simp only [Int.toNat_natCast];obtain ⟨u,hu0⟩:∃ u,p.A0.getD i noCO=u:=⟨_,rfl⟩;rw [hu0];have hc:(q.W0==u.W0)=(u.W0==q.W0):=by rw [Bool.eq_iff_iff,beq_iff_eq,beq_iff_eq]; exact eq_comm
  rw [hc];cases hu:u.W0==q.W0 with
  | true=>
   refine bindI (a:=(((),(),(),(co||!safeV q),(cm||!ndr' q),ph,tr,(i:Int),(),false,()),(outT p,outT x,((n1' c (lanC q)).1,(n1' c (lanC q)).2,()),coT q,()))) ?_ ?_
   ·show (bif (p.A0.getD i noCO).W0 != q.W0 then _ else _)=_
    rw [hu0,show (u.W0 != q.W0)=false by rw [bne,hu]; rfl]; rfl
   ·rw [Bool.true_or,Bool.not_true,Bool.or_false]; rfl
  | false=>
   refine bindI (a:=(((),(),(),(co||!safeV q),(cm||!ndr' q),ph,tr,(i:Int),(),!edgeB u.W0 q.W0,()),(outT p,outT x,((n1' c (lanC q)).1,(n1' c (lanC q)).2,()),coT q,()))) ?_ ?_
   ·show (bif (p.A0.getD i noCO).W0 != q.W0 then (nmg' (p.A0.getD i noCO).W0 q.W0).bind _ else _)=_
    rw [hu0,show (u.W0 != q.W0)=true by rw [bne,hu]; rfl,cond_true]
    exact bindI (n5q' u.W0 q.W0) rfl
   ·rw [Bool.false_or]
    show (bif !edgeB u.W0 q.W0 then _ else _)=_;cases edgeB u.W0 q.W0 with
    | true=>rw [Bool.not_true,Bool.or_false]; rfl
    | false=>rw [Bool.not_false,Bool.or_true]; rfl) ?_
 refine bindI (a:=(((),(),(),(co||!safeV q),(cm||!ndr' q),(ph||!edgO (q,p.A0.getD i noCO)),tr,(i:Int),trV q,()),(outT p,outT x,((n1' c (lanC q)).1,(n1' c (lanC q)).2,()),()))) (by
  unfold trV;show (bif q.W0==1 then _ else bif q.W0==2 then _ else _)=_;cases q.W0==1 <;> cases q.W0==2 <;> rfl) ?_
 show (bif trV q then _ else _)=_;unfold goS;simp only [w,w2];cases trV q <;> rfl
theorem nbeb' {p x:Outputs} (hx:x.A0.length≤1000) (hp:p.A0.length≤1000) (ph:Bool) :
  nh3' (((),(),(),false,false,ph,0,0,()),(outT p,outT x,(0,0,()),()))=some (match goR (x.A0.zip p.A0) (0,0) (false,false,ph,0) with
   | none=>.inr ((1,()),())
   | some y=>.inl (((),(),(),y.2.1,y.2.2.1,y.2.2.2.1,y.2.2.2.2,()),(outT p,outT x,(y.1.1,y.1.2,()),()))):=by
 have hz:(x.A0.zip p.A0).length=min x.A0.length p.A0.length:=List.length_zip
 have key:∀ (k i:Nat) (s:Bool×Bool×Bool×Int) (c:Int×Int),i + k=min x.A0.length p.A0.length→0≤s.2.2.2→s.2.2.2≤i →
   iter (fun x=>letI a:=x.2.2.1.2.2; letI b:=x.2.1.2.2; letI c:=x.1.2.2.2; letI d:=b.2.2; letI e:=a.2.2; ndx' c.1 c.2.1 c.2.2.1 c.2.2.2.1 c.2.2.2.2.1 x.2.1.1 x.2.1.2.1 b.1 b.2.1 d.1 d.2.1 d.2.2.1 d.2.2.2.1 x.2.2.1.1 x.2.2.1.2.1 a.1 a.2.1 e.1 e.2.1 e.2.2.1 e.2.2.2.1 x.2.2.2.1.1 x.2.2.2.1.2.1) (k + 1) (((),(),(),s.1,s.2.1,s.2.2.1,s.2.2.2,(i:Int),()),(outT p,outT x,(c.1,c.2,()),()))=some (match goR ((x.A0.zip p.A0).drop i) c s with
   | none=>.inr ((1,()),())
   | some y=>.inl (((),(),(),y.2.1,y.2.2.1,y.2.2.2.1,y.2.2.2.2,()),(outT p,outT x,(y.1.1,y.1.2,()),()))):=by
  intro k
  induction k with
  | zero=>
   intro i s c hi h0 h1;refine no' ?_;show ndx' s.1 s.2.1 s.2.2.1 s.2.2.2 (i:Int) p.I1 p.A1 p.B1 p.X0 p.D3 p.K0 p.C2 p.A0 x.I1 x.A1 x.B1 x.X0 x.D3 x.K0 x.C2 x.A0 c.1 c.2=_;rw [List.drop_eq_nil_of_le (by rw [hz]; omega)]
   unfold ndx';by_cases g:(i:Int) < (x.A0.length:Int)
   ·rw [decide_eq_true g,decide_eq_false (show ¬ (i:Int) < (p.A0.length:Int) by omega)]; rfl
   ·rw [decide_eq_false g]; rfl
  | succ k ih=>
   intro i s c hi h0 h1;have hi1:i < x.A0.length:=by omega
   have hi2:i < p.A0.length:=by omega
   have hs:=nbef' hx hp hi1 hi2 s.1 s.2.1 s.2.2.1 s.2.2.2 h0 h1 c;rw [nba' (noCO,noCO) (show i < (x.A0.zip p.A0).length by rw [hz]; omega),n3x' hi1 hi2]
   unfold goR;generalize x.A0.getD i noCO=q at hs ⊢;generalize p.A0.getD i noCO=u at hs ⊢;simp only at hs ⊢;cases hov:isZ (bothC c (lanC q)) with
   | false=>
    rw [hov] at hs;exact no' hs
   | true=>
    rw [hov] at hs;rw [Bool.not_true,cond_false];refine (nv' hs).trans ?_;refine ih (i + 1) (goS (q,u) s.1 s.2.1 s.2.2.1 s.2.2.2) _ (by omega) ?_ ?_
    ·unfold goS; cases trV q <;> simp <;> omega
    ·unfold goS; cases trV q <;> simp <;> omega
 have h:=key (min x.A0.length p.A0.length) 0 (false,false,ph,0) (0,0) (by omega) (by simp) (by simp)
 rw [List.drop_zero] at h;exact ng' h (by omega)
theorem nbce' (b:Bldg) (vs:List View) (ps:List Calls):∀ (m i:Nat) (s:Lan),(foldN (litS b vs ps) m i s).lit.length=s.lit.length + m∧(foldN (litS b vs ps) m i s).gong.length=s.gong.length + m
 | 0,_,_=>⟨rfl,rfl⟩
 | m + 1,i,s=>by
  obtain ⟨h1,h2⟩:=nbce' b vs ps m (i + 1) (litS b vs ps i s);have e1:(litS b vs ps i s).lit.length=s.lit.length + 1:=by unfold litS; show (s.lit++[_]).length=_; rw [List.length_append]; rfl
  have e2:(litS b vs ps i s).gong.length=s.gong.length + 1:=by unfold litS; show (s.gong++[_]).length=_; rw [List.length_append]; rfl
  exact ⟨by show (foldN (litS b vs ps) m (i + 1) (litS b vs ps i s)).lit.length=_; omega,by show (foldN (litS b vs ps) m (i + 1) (litS b vs ps i s)).gong.length=_; omega⟩
theorem n9b' (b:Bldg) (m:Img) (xs:List Int) (vs:List View) (ps:List Calls) (press:Int×Int) (good:Bool):(tickV b m xs vs ps press good).lan.lit.length=vs.length∧(tickV b m xs vs ps press good).lan.gong.length=vs.length:=by
 show (tickX b m xs vs ps press good).lan.lit.length=vs.length∧(tickX b m xs vs ps press good).lan.gong.length=vs.length;unfold tickX;cases good with
 | true=>
  rw [cond_true,n2m'];obtain ⟨h1,h2⟩:=nbce' b vs ps vs.length 0 Lan.none;exact ⟨h1.trans (Nat.zero_add _),h2.trans (Nat.zero_add _)⟩
 | false=>exact ⟨List.length_replicate,List.length_replicate⟩
structure TJ (b:Bldg) (t:Tk):Prop where
 img:ImgOK b t.m.L0
 con:t.m.C1.length=b.A0.length
 bel:t.m.S0.length=b.A0.length
 beld:∀ x ∈ t.m.S0,x.M0.length≤1000
 car:t.m.A0.length=b.A0.length
 caru:∀ x ∈ t.m.A0,ucR x.N1
 lod:t.m.A2.length=b.A0.length
 lit:t.m.B3.length=b.A0.length
 exl:t.m.J1.length≤1000
 su:u32C (servC t.out)
 cmds:t.cmds.length=b.A0.length
theorem TJ.sBel {b:Bldg} {t:Tk} (h:TJ b t) (i:Nat) {v:Belief} (hv:v.M0.length≤1000):TJ b (t.sBel i v):=
 ⟨h.img,h.con,by show (t.m.S0.set i v).length=_; rw [List.length_set]; exact h.bel,nz1' h.beld hv i,h.car,h.caru,h.lod,h.lit,h.exl,h.su,h.cmds⟩
def Tk.exp (t:Tk) (xs:List Int) (rf:Int) (fu:Bool):Tk:={ t with m:={ t.m with J1:=xs,E2:=rf },out:={ t.out with K0:=fu } }
theorem n19' (a c:Int):Sat (nd4' a c) fun _=>True:=by
 unfold nd4';exact Sat.go
structure RI (b:Bldg) (r:Rnd):Prop where
 recs:r.recs.length≤1000
 lit:r.lan.lit.length=b.A0.length
 gong:r.lan.gong.length=b.A0.length
 xs:r.xs.length≤1000
section
variable {b:Bldg} (hb:b.small) (hcode:b.code=0) (hc3:b.A0.length≤3) (hld:b.loads) {x:Inp} {g:Bool} (hx:g=true→x.cars.length=b.A0.length∧0≤x.car∧x.car < (b.A0.length:Int))
include hb hcode hc3 hx in
theorem nbep' {t:Tk} (hi:TI b t) (hl:TL b t):Sat (ncm' b.D0 b.E0 b.I0 b.Q0 b.J0 b.K0 b.P0 b.A0 t.m.L0.F0 t.m.L0.N0 t.m.L0.H0 t.m.L0.B0 t.m.Y0.h0 t.m.Y0.h1 t.m.Y0.sel t.m.C1 t.m.S0 t.m.A0 t.m.A2 t.m.J1 t.m.B3 t.m.I3 t.m.Q2 t.m.E2 x.press.1 x.press.2 x.kind x.car x.cars g t.shows t.was t.cmds t.budget t.e t.out.I1 t.out.A1 t.out.B1 t.out.X0 t.out.D3 t.out.K0 t.out.C2 t.out.A0) fun y=>∃ (r:Rnd) (t':Tk),y=(((),()),(r.tup,t'.tup b x g,()))∧RI b r∧TJ b t'∧t'.out.A0=[]:=by
 have hc:=nn' hcode;unfold ncm';refine Sat.bindS (Q:=fun y=>∃ vs:List View,y=(((),(),vs,()),(Rnd.none.tup,t.tup b x g,()))∧vs.length=b.A0.length∧okViews vs) ?_ fun y hy=>?_
 ·refine Sat.loop (fun (k:Nat) z=>∃ (vs:List View) (i:Nat),z=(((),(),vs,(i:Int),()),(Rnd.none.tup,t.tup b x g,()))∧vs.length=i∧okViews vs∧i + k=b.A0.length) (fun k z hz=>?_) b.A0.length ⟨[],0,rfl,rfl,fun v h=>(by cases h),Nat.zero_add _⟩ (by omega)
  obtain ⟨vs,i,rfl,h1,h2,hk⟩:=hz;unfold ngt';refine Sat.bif (fun gg=>?_) fun gg=>Sat.ret ⟨vs,rfl,?_,h2⟩
  ·have gg:(i:Int) < (b.A0.length:Int):=of_decide_eq_true gg
   have hin:i < b.A0.length:=by omega
   have w:=wrapN (n:=i) (by omega)
   have i4:inB (i:Int) t.was.length=true:=na' (by omega) (by rw [hl.was]; exact gg)
   have i6:inB (i:Int) t.shows.length=true:=na' (by omega) (by rw [hl.shows]; exact gg)
   have app:∀ v:View,v.ok→okViews (vs++[v]):=fun v hv u hu=>by
    rcases List.mem_append.1 hu with hu | hu
    ·exact h2 u hu
    ·rw [List.mem_singleton] at hu; subst hu; exact hv
   have ln:∀ v:View,(vs++[v]).length=i + 1:=fun v=>by rw [List.length_append,h1]; rfl
   refine Sat.bindS (nwi' hi.img hin) fun y1 u1=>Sat.bif (fun hg=>?_) fun _=>?_
   ·obtain ⟨hxl,_⟩:=hx hg
    have i7:inB (i:Int) x.cars.length=true:=na' (by omega) (by rw [hxl]; exact gg)
    refine Sat.bifT i7 (Sat.bindS (n78' hb hi.img hi.bel hi.car hi.lod hi.beld hi.caru hin _ _ _ _) fun y2 u2=>?_)
    refine Sat.bifT i4 (Sat.bindS (nca' _) fun _ _=>Sat.bif (fun _=>?_) fun _=>?_)
    ·refine Sat.bifT i6 (Sat.bifT (nh' (show vs.length + 1≤_ by omega)) (Sat.ret ⟨k - 1,by omega,vs++[View.mk y2.2.1.1 y2.2.1.2.1 y2.2.1.2.2.1 y2.2.1.2.2.2.1 y2.2.1.2.2.2.2.1 y2.2.1.2.2.2.2.2.1 y2.2.1.2.2.2.2.2.2.1 (t.shows.getD i (Calls.mk 0 0)).Up (t.shows.getD i (Calls.mk 0 0)).G5 y2.2.1.2.2.2.2.2.2.2.2.2.1 y2.2.1.2.2.2.2.2.2.2.2.2.2.1 y2.2.1.2.2.2.2.2.2.2.2.2.2.2.1],i + 1,by first | (rw [← w]; rfl) | rw [← w],ln _,app _ ⟨u2.1,u2.2.1,u2.2.2⟩,by omega⟩))
    ·exact Sat.bifT (nh' (show vs.length + 1≤_ by omega)) (Sat.ret ⟨k - 1,by omega,vs++[View.mk y2.2.1.1 y2.2.1.2.1 y2.2.1.2.2.1 y2.2.1.2.2.2.1 y2.2.1.2.2.2.2.1 y2.2.1.2.2.2.2.2.1 y2.2.1.2.2.2.2.2.2.1 y2.2.1.2.2.2.2.2.2.2.1 y2.2.1.2.2.2.2.2.2.2.2.1 y2.2.1.2.2.2.2.2.2.2.2.2.1 y2.2.1.2.2.2.2.2.2.2.2.2.2.1 y2.2.1.2.2.2.2.2.2.2.2.2.2.2.1],i + 1,by first | (rw [← w]; rfl) | rw [← w],ln _,app _ ⟨u2.1,u2.2.1,u2.2.2⟩,by omega⟩)
   ·exact Sat.bifT (nh' (show vs.length + 1≤_ by omega)) (Sat.ret ⟨k - 1,by omega,vs++[View.mk y1.2.1.1 y1.2.1.2.1 y1.2.1.2.2.1 y1.2.1.2.2.2.1 y1.2.1.2.2.2.2.1 y1.2.1.2.2.2.2.2.1 y1.2.1.2.2.2.2.2.2.1 y1.2.1.2.2.2.2.2.2.2.1 y1.2.1.2.2.2.2.2.2.2.2.1 y1.2.1.2.2.2.2.2.2.2.2.2.1 y1.2.1.2.2.2.2.2.2.2.2.2.2.1 y1.2.1.2.2.2.2.2.2.2.2.2.2.2.1],i + 1,by first | (rw [← w]; rfl) | rw [← w],ln _,app _ ⟨u1.1,u1.2.1,u1.2.2⟩,by omega⟩)
  ·have gg:¬ (i:Int) < (b.A0.length:Int):=of_decide_eq_false gg
   omega
 ·obtain ⟨vs,rfl,hv1,hv2⟩:=hy
  have hP:PlanW b t.m.L0 vs t.m.J1:=⟨hb,hcode,by omega,hi.img,⟨hv1,hv2⟩,hi.exl,hi.exv⟩
  have ht:=n41' hP (ps:=t.m.B3) hi.lit x.press g;have hlan:=n9b' b t.m.L0 t.m.J1 vs t.m.B3 x.press g;obtain ⟨hok,hrl⟩:=nwm' hb hcode hi.img hi.exl (vs:=vs) t.m.B3 x.press g;have he:=nbf' hb hok.img;have hpl:=n0m' b (tickX b t.m.L0 t.m.J1 vs t.m.B3 x.press g).img (tickX b t.m.L0 t.m.J1 vs t.m.B3 x.press g).xs vs
  have hRI:RI b (tickV b t.m.L0 t.m.J1 vs t.m.B3 x.press g):=⟨by
   show ((tickX b t.m.L0 t.m.J1 vs t.m.B3 x.press g).recs++(planV b (tickX b t.m.L0 t.m.J1 vs t.m.B3 x.press g).img (tickX b t.m.L0 t.m.J1 vs t.m.B3 x.press g).xs vs).1).length≤1000;rw [List.length_append]; omega,by omega,by omega,by
   show (planV b (tickX b t.m.L0 t.m.J1 vs t.m.B3 x.press g).img (tickX b t.m.L0 t.m.J1 vs t.m.B3 x.press g).xs vs).2.1.length≤1000
   omega⟩
  generalize tickV b t.m.L0 t.m.J1 vs t.m.B3 x.press g=R at ht hRI;refine Sat.bindE ht (Sat.bindR ?_);refine Sat.bindS (ntd' hb hcode hi.img hi.bud R.recs (by have:=hRI.recs; omega)) fun y hy=>?_
  obtain ⟨im,s,bu,e,rfl,w1,w2,w3⟩:=hy;have fin:∀ (n:Int) (f:Bool),TJ b ((t.wr im s bu e).exp R.xs n f):=fun n f=>⟨w1,hi.con,hi.bel,hi.beld,hi.car,hi.caru,hi.lod,hi.lit,hRI.xs,hi.su,hl.cmds⟩
  refine Sat.bif (fun _=>?_) fun _=>?_
  ·exact Sat.bindS (npm' _) fun y5 _=>Sat.ret ⟨R,(t.wr im s bu e).exp R.xs y5.1.1 true,rfl,hRI,fin _ _,hi.oc⟩
  ·exact Sat.ret ⟨R,(t.wr im s bu e).exp R.xs t.m.E2 t.out.K0,rfl,hRI,fin _ _,hi.oc⟩
def Tk.srv (t:Tk) (c:Int×Int):Tk:={ t with out:={ t.out with B1:=c.1,X0:=c.2 } }
def Tk.lmp (t:Tk) (c:Int×Int) (bad:Bool):Tk:={ t with out:={ t.out with I1:=c.1,A1:=c.2,D3:=bad } }
def Tk.oCar (t:Tk) (c:CarOutput):Tk:={ t with out:={ t.out with A0:=t.out.A0++[c] } }
def Tk.sLit (t:Tk) (l:List Calls):Tk:={ t with m:={ t.m with B3:=l } }
include hb hcode in
theorem nbbg' {r:Rnd} {t:Tk} (hr:RI b r) (hi:TJ b t) (ho:t.out.A0=[]):Sat (nb8' r.recs r.img.F0 r.img.N0 r.img.H0 r.img.B0 r.xs r.lan.lit r.lan.gong r.lan.cl.1 r.lan.cl.2 r.ref.1 r.ref.2 b.D0 b.E0 b.I0 b.Q0 b.J0 b.K0 b.P0 b.A0 t.m.L0.F0 t.m.L0.N0 t.m.L0.H0 t.m.L0.B0 t.m.Y0.h0 t.m.Y0.h1 t.m.Y0.sel t.m.C1 t.m.S0 t.m.A0 t.m.A2 t.m.J1 t.m.B3 t.m.I3 t.m.Q2 t.m.E2 x.press.1 x.press.2 x.kind x.car x.cars g t.shows t.was t.cmds t.budget t.e t.out.I1 t.out.A1 t.out.B1 t.out.X0 t.out.D3 t.out.K0 t.out.C2 t.out.A0) fun y=>∃ t':Tk,y=((),(t'.tup b x g,()))∧TJ b t'∧t'.out.A0.length=b.A0.length:=by
 have hc:=nn' hcode;have hrr:=hr.recs;unfold nb8';refine Sat.bindS (Q:=fun y=>∃ t':Tk,y=(((),(),(),()),(r.tup,t'.tup b x g,()))∧TJ b t'∧t'.out.A0=[]) ?_ fun y hy=>?_
 ·refine Sat.loop (fun (k:Nat) z=>∃ (t':Tk) (i:Nat),z=(((),(),(),(i:Int),()),(r.tup,t'.tup b x g,()))∧TJ b t'∧t'.out.A0=[]∧i + k=r.recs.length) (fun k z hz=>?_) r.recs.length ⟨t,0,rfl,hi,ho,Nat.zero_add _⟩ (by omega)
  obtain ⟨t',i,rfl,hi,ho,hk⟩:=hz;unfold nf6';refine Sat.bif (fun gg=>?_) fun _=>Sat.ret ⟨t',rfl,hi,ho⟩
  have gg:(i:Int) < (r.recs.length:Int):=of_decide_eq_true gg;have w:=wrapN (n:=i) (by omega)
  refine Sat.bifT (na' (show (0:Int)≤(i:Int) by omega) gg) (Sat.bif (fun _=>?_) fun _=>Sat.ret ⟨k - 1,by omega,t',i + 1,by first | (rw [← w]; rfl) | rw [← w],hi,ho,by omega⟩)
  refine Sat.bindE (niv' _ _) (Sat.bindE (nev' (servC t'.out) _) ?_);refine Sat.ret ⟨k - 1,by omega,t'.srv (n1' (servC t'.out) (oneC (r.recs.getD i (Record.mk 0 0 0 0 0)).C0 (r.recs.getD i (Record.mk 0 0 0 0 0)).G0)),i + 1,by first | (rw [← w]; rfl) | rw [← w],⟨hi.img,hi.con,hi.bel,hi.beld,hi.car,hi.caru,hi.lod,hi.lit,hi.exl,nban' _ _,hi.cmds⟩,ho,by omega⟩
 obtain ⟨t1,rfl,hi,ho⟩:=hy;have he:=nbf' hb hi.img
 have hlm:nnm' t1.m.L0.F0 t1.m.L0.N0 t1.m.L0.H0 t1.m.L0.B0=some (((),()),(((ofC t1.m.L0.B0 (0,0)).1,(ofC t1.m.L0.B0 (0,0)).2,()),())):=by
  unfold nnm';exact bindq (n80' (by omega)) rfl
 refine Sat.bindE hlm ?_;refine Sat.bindS (Q:=fun y=>∃ t':Tk,y=(((),(),()),(r.tup,t'.tup b x g,()))∧TJ b t'∧t'.out.A0.length=b.A0.length) ?_ fun y hy=>?_
 ·refine Sat.loop (fun (k:Nat) z=>∃ (t':Tk) (i:Nat),z=(((),(),(),(i:Int),()),(r.tup,t'.tup b x g,()))∧TJ b t'∧t'.out.A0.length=i∧i + k=b.A0.length) (fun k z hz=>?_) b.A0.length ⟨t1.lmp (ofC t1.m.L0.B0 (0,0)) (!g),0,rfl,⟨hi.img,hi.con,hi.bel,hi.beld,hi.car,hi.caru,hi.lod,hi.lit,hi.exl,hi.su,hi.cmds⟩,by show t1.out.A0.length=0; rw [ho]; rfl,Nat.zero_add _⟩ (by omega)
  obtain ⟨t',i,rfl,hi,hol,hk⟩:=hz;unfold ngj';refine Sat.bif (fun gg=>?_) fun gg=>Sat.ret ⟨t',rfl,hi,?_⟩
  ·have gg:(i:Int) < (b.A0.length:Int):=of_decide_eq_true gg
   have hin:i < b.A0.length:=by omega
   have w:=wrapN (n:=i) (by omega)
   have he:=nbf' hb hi.img;have hp:=hi.img.lp;have hmx:100000≤maxLen:=by decide
   have i1:inB (i:Int) t'.m.L0.F0.length=true:=na' (by omega) (by rw [hi.img.lp]; omega)
   have i5:inB (i:Int) t'.m.L0.N0.length=true:=na' (by omega) (by rw [hi.img.lf]; exact gg)
   have il:inB (i:Int) r.lan.lit.length=true:=na' (by omega) (by rw [hr.lit]; exact gg)
   have ig:inB (i:Int) r.lan.gong.length=true:=na' (by omega) (by rw [hr.gong]; exact gg)
   refine Sat.bifT i1 ?_;refine Sat.bindS (Q:=fun y=>∃ (u:Tk) (p:Int),y=(((),(),(),(i:Int),p,()),(r.tup,u.tup b x g,()))∧TJ b u∧u.out.A0.length=i∧u.m.L0=t'.m.L0) ?_ fun y hy=>?_
   ·refine Sat.bindS (Q:=fun y=>∃ (p:Int) (q:Bool),y=(((),(),(),(i:Int),p,q,()),(r.tup,t'.tup b x g,()))) ?_ fun y hy=>?_
    ·exact Sat.bindS (nca' _) fun _ _=>Sat.bif (fun _=>Sat.bifT i5 (Sat.ret ⟨_,_,rfl⟩)) fun _=>Sat.ret ⟨_,_,rfl⟩
    obtain ⟨p,q,rfl⟩:=hy;have i2:inB (i:Int) t'.m.S0.length=true:=na' (by omega) (by rw [hi.bel]; omega)
    have hbd:(t'.m.S0.getD i noBlf).M0.length≤1000:=hi.beld _ (n5' _ (by rw [hi.bel]; exact hin))
    refine Sat.bif (fun _=>?_) fun _=>Sat.ret ⟨t',p,rfl,hi,hol,rfl⟩
    refine Sat.bifT i2 (Sat.bindS (nou' hi.img) fun rd _=>?_)
    refine Sat.bindE (nqn' hb rd.1.1 t'.m.L0 (by omega) (by omega) (i:Int)) ?_
    refine Sat.bindS (n4p' hb hcode hin (t'.m.S0.getD i noBlf) hbd _ _) fun y5 h5=>Sat.bifT i2 ?_
    exact Sat.ret ⟨t'.sBel i (Belief.mk y5.2.1.1 y5.2.1.2.1 y5.2.1.2.2.1 y5.2.1.2.2.2.1 y5.2.1.2.2.2.2.1 y5.2.1.2.2.2.2.2.1),p,rfl,hi.sBel i h5,hol,rfl⟩
   obtain ⟨u,p,rfl,hu,huo,hum⟩:=hy;have j2:inB (i:Int) u.m.S0.length=true:=na' (by omega) (by rw [hu.bel]; omega)
   have j3:inB (i:Int) u.cmds.length=true:=na' (by omega) (by rw [hu.cmds]; omega)
   have j5:inB (i:Int) u.m.L0.N0.length=true:=na' (by omega) (by rw [hu.img.lf]; exact gg)
   have hbd:(u.m.S0.getD i noBlf).M0.length≤1000:=hu.beld _ (n5' _ (by rw [hu.bel]; exact hin))
   refine Sat.bifT j2 (Sat.bindS (n5b' hb hcode hin p (u.m.S0.getD i noBlf) hbd) fun y7 _=>?_)
   refine Sat.bifT il (Sat.bifT ig (Sat.bifT j5 ?_));refine Sat.bindS (Q:=fun y=>∃ c:CarOutput,y=(((),(),(),(i:Int),(),()),(r.tup,coT c,u.tup b x g,()))) ?_ fun y hy=>?_
   ·refine Sat.bifT j3 (Sat.bindS (n19' _ _) fun _ _=>Sat.bif (fun _=>Sat.bifT j3 (Sat.ret ⟨CarOutput.mk y7.2.1.1 y7.2.1.2.1 y7.2.1.2.2.1 (r.lan.lit.getD i (Calls.mk 0 0)).Up (r.lan.lit.getD i (Calls.mk 0 0)).G5 (r.lan.gong.getD i false) (u.cmds.getD i 0) p (u.m.L0.N0.getD i false),rfl⟩)) fun _=>Sat.ret ⟨CarOutput.mk y7.2.1.1 y7.2.1.2.1 y7.2.1.2.2.1 (r.lan.lit.getD i (Calls.mk 0 0)).Up (r.lan.lit.getD i (Calls.mk 0 0)).G5 (r.lan.gong.getD i false) 0 p (u.m.L0.N0.getD i false),rfl⟩)
   obtain ⟨c,rfl⟩:=hy;refine Sat.bifT (nh' (show u.out.A0.length + 1≤_ by omega)) (Sat.ret ⟨k - 1,by omega,u.oCar c,i + 1,by first | (rw [← w]; rfl) | rw [← w],⟨hu.img,hu.con,hu.bel,hu.beld,hu.car,hu.caru,hu.lod,hu.lit,hu.exl,hu.su,hu.cmds⟩,?_,by omega⟩)
   show (u.out.A0++[c]).length=i + 1;rw [List.length_append,huo]; rfl
  ·have gg:¬ (i:Int) < (b.A0.length:Int):=of_decide_eq_false gg
   omega
 obtain ⟨t2,rfl,hi,ho⟩:=hy;exact Sat.ret ⟨t2.sLit r.lan.lit,rfl,⟨hi.img,hi.con,hi.bel,hi.beld,hi.car,hi.caru,hi.lod,hr.lit,hi.exl,hi.su,hi.cmds⟩,ho⟩
end
structure MW (b:Bldg) (m:Mch):Prop where
 fit:m.fit
 caru:∀ x ∈ m.A0,ucR x.N1
 beld:∀ x ∈ m.S0,x.M0.length≤1000
def OW (b:Bldg) (o:Outputs):Prop:=u32C (servC o)∧o.A0.length=b.A0.length
theorem TJ.mw {b:Bldg} (hb:b.small) (hcode:b.code=0) {t:Tk} (h:TJ b t):MW b t.m:=by
 have hc:=nn' hcode;have h1:=h.con;have h2:=h.bel;have h3:=h.car;have h4:=h.lod;have h5:=h.lit;have h6:=h.exl;exact ⟨⟨nbgd' hb hcode h.img,by omega,by omega,fun x hx=>by have:=h.beld x hx; omega,by omega,by omega,by omega,by omega⟩,h.caru,h.beld⟩
theorem nbdl' {b:Bldg} {s:ByteArray} (h:((readI b s).2==0)=true):(readI b s).1.cars.length=b.A0.length∧0≤(readI b s).1.car∧(readI b s).1.car < (b.A0.length:Int):=by
 have h:=eq_of_beq h;unfold readI at h ⊢;cases h1:openR b s != 0 with
 | true=>
  rw [h1] at h;have h2:openR b s=0:=h;rw [h2] at h1;exact absurd h1 (by decide)
 | false=>
  rw [h1] at h;cases h2:isInV b (rawV b.A0.length s)&&eqB (inV b (rawV b.A0.length s)) s with
  | false=>rw [h2] at h; exact absurd (show (31:Int)=0 from h) (by decide)
  | true=>
   have h3:=(Bool.and_eq_true_iff.1 h2).1;unfold isInV at h3;simp only [Bool.and_eq_true,beq_iff_eq] at h3;obtain ⟨_,_,h4,_,h5,_⟩:=h3;have h4:=ns'.1 h4;simp only [cond_false,cond_true];omega
section
variable {b:Bldg} (hb:b.small) (hcode:b.code=0) (hc3:b.A0.length≤3) (hld:b.loads)
include hb hcode hc3 hld
theorem n8m' {m:Mch} (hm:MW b m) {s:ByteArray} (hs:s.size≤1000000) {bud:Int} (hbud:bud < 9223372036854775808):Sat (npr' b.D0 b.E0 b.I0 b.Q0 b.J0 b.K0 b.P0 b.A0 m.L0.F0 m.L0.N0 m.L0.H0 m.L0.B0 m.Y0.h0 m.Y0.h1 m.Y0.sel m.C1 m.S0 m.A0 m.A2 m.J1 m.B3 m.I3 m.Q2 m.E2 s bud) fun y=>y.1.2.2.1=0→∃ (m':Mch) (o:Outputs),y.2=(m'.tup,outT o,())∧MW b m'∧OW b o:=by
 have hc:=nn' hcode;unfold npr';refine Sat.bindE (np1' hb hcode hm.fit fun x hx=>by have:=hm.caru x hx; unfold ucR at this; omega) ?_
 refine Sat.bif (fun _=>Sat.ret fun h=>absurd (show (1:Int)=0 from h) (by decide)) fun hv=>?_
 rw [Bool.not_eq_false'] at hv;have hv:nvl' b m=true:=hv;unfold nvl' fitsV eachN nqx' at hv;simp only [Bool.and_eq_true,beq_iff_eq] at hv;obtain ⟨⟨v1,_⟩,_,v3,v4,_,⟨v6,_⟩,⟨v7,_⟩,⟨v8,_⟩,⟨v9,_⟩,v10⟩:=hv;have himg:=Img.ok_iff.1 v1;refine Sat.bif (fun _=>Sat.ret fun h=>absurd (show (1:Int)=0 from h) (by decide)) fun _=>?_
 refine Sat.bifT (nh' (by show 0 + m.C1.length≤_; omega)) (Sat.bifT (nh' (by show 0 + m.S0.length≤_; omega)) (Sat.bifT (nh' (by show 0 + m.A0.length≤_; omega)) (Sat.bifT (nh' (by show 0 + m.A2.length≤_; omega)) ?_)))
 refine Sat.bindE (n2c' hb hcode s hs) ?_;have hx:=nbdl' (b:=b) (s:=s);generalize (readI b s).1=x at hx;generalize hg:((readI b s).2==0)=g at hx
 have hT:TI b ⟨{ m with C1:=[]++m.C1,S0:=[]++m.S0,A0:=[]++m.A0,A2:=[]++m.A2 },[],[],[],bud,0,⟨0,0,0,0,false,false,0,[]⟩⟩:=by
  refine ⟨himg,?_,?_,?_,?_,?_,?_,?_,?_,?_,hbud,rfl,⟨⟨Int.le_refl 0,show (0:Int) < 4294967296 from by decide⟩,⟨Int.le_refl 0,show (0:Int) < 4294967296 from by decide⟩⟩⟩
  ·show ([]++m.C1).length=_; rw [List.nil_append]; omega
  ·show ([]++m.S0).length=_; rw [List.nil_append]; omega
  ·show ∀ x ∈ []++m.S0,_; rw [List.nil_append]; exact hm.beld
  ·show ([]++m.A0).length=_; rw [List.nil_append]; omega
  ·show ∀ x ∈ []++m.A0,_; rw [List.nil_append]; exact hm.caru
  ·show ([]++m.A2).length=_; rw [List.nil_append]; omega
  ·show m.B3.length=_; omega
  ·show m.J1.length=m.L0.B0.length; omega
  ·exact fun y hy=>ns'.1 (List.all_eq_true.1 v4 y hy)
 have hrd:=nbfh' hcode hld (fun h=>(hx h).1) hT
 refine Sat.bindS (Q:=fun y=>∃ t':Tk,y.2.2.2.1=t'.tup b x g∧TI b t') ?_ fun y5 h5=>?_
 ·refine Sat.bindS hrd fun y3 h3=>?_
  obtain ⟨t',h3,hi⟩:=h3;rcases h3 with rfl | rfl
  ·exact Sat.ret ⟨t',rfl,hi⟩
  ·exact Sat.ret ⟨t',rfl,hi⟩
 obtain ⟨ya,yb,yc,yt,yu⟩:=y5;obtain ⟨t5,e5,i5⟩:=h5;simp only at e5;subst e5;refine Sat.bindS (nbff' hb hcode (fun h=>(hx h).1) i5) fun y6 h6=>?_
 obtain ⟨t6,rfl,i6,l6⟩:=h6;refine Sat.bindS (nbdu' hb hcode i6 l6) fun y7 h7=>?_
 obtain ⟨t7,rfl,i7,l7⟩:=h7;refine Sat.bindS (Q:=fun y=>∃ t':Tk,y.2.2.2.1=t'.tup b x g∧TI b t'∧TL b t') ?_ fun y11 h11=>?_
 ·refine Sat.bif (fun _=>?_) fun _=>Sat.ret ⟨t7,rfl,i7,l7⟩
  refine Sat.bindS (Q:=fun y=>∃ t':Tk,y.2.2.2.1=t'.tup b x g∧TI b t'∧TL b t') ?_ fun y10 h10=>Sat.ret h10
  refine Sat.bindS (nbak' hb hcode hx i7 l7) fun y8 h8=>?_
  obtain ⟨t',h8,hi⟩:=h8;rcases h8 with rfl | rfl
  ·exact Sat.ret ⟨t',rfl,hi⟩
  ·exact Sat.ret ⟨t',rfl,hi⟩
 obtain ⟨za,zb,zc,zt,zu⟩:=y11;obtain ⟨t11,e11,i11,l11⟩:=h11;simp only at e11;subst e11
 refine Sat.bindS (Q:=fun y=>match y with
  | .inl y=>∃ t':Tk,y.2.2.2.1=t'.tup b x g∧t'.e ≠ 0
  | .inr y=>∃ (m':Mch) (o:Outputs),y.2.1=m'.tup∧y.2.2.1=outT o∧MW b m'∧OW b o) ?_ fun y14 h14=>?_
 ·refine Sat.bif (fun _=>?_) fun h=>Sat.ret ⟨t11,rfl,fun hh=>by have h:(t11.e==0)=false:=h; rw [hh] at h; cases h⟩
  refine Sat.bindS (nbep' hb hcode hc3 hx i11 l11) fun y12 h12=>?_
  obtain ⟨r,t12,rfl,hr,j12,o12⟩:=h12;refine Sat.bif (fun _=>?_) fun h=>Sat.ret ⟨t12,rfl,fun hh=>by have h:(t12.e==0)=false:=h; rw [hh] at h; cases h⟩
  refine Sat.bindS (nbbg' hb hcode hr j12 o12) fun y13 h13=>?_
  obtain ⟨t13,rfl,j13,o13⟩:=h13;exact Sat.ret ⟨t13.m,t13.out,rfl,rfl,j13.mw hb hcode,j13.su,o13⟩
 ·cases y14 with
  | inl y=>
   obtain ⟨wa,wb,wc,wt,wu⟩:=y;obtain ⟨t',e',he⟩:=h14;simp only at e';subst e';exact Sat.ret fun h=>absurd (show t'.e=0 from h) he
  | inr y=>
   obtain ⟨wa,wb,wc,wt⟩:=y;obtain ⟨m',o,e1,e2,h1,h2⟩:=h14;simp only at e1 e2;subst e1 e2;exact Sat.ret fun _=>⟨m',o,rfl,h1,h2⟩
theorem nbas' {m:Mch} (hm:MW b m) {fr:List ByteArray} (hfr:∀ s ∈ fr,s.size≤1000000):Sat (nkx' b.D0 b.E0 b.I0 b.Q0 b.J0 b.K0 b.P0 b.A0 m.L0.F0 m.L0.N0 m.L0.H0 m.L0.B0 m.Y0.h0 m.Y0.h1 m.Y0.sel m.C1 m.S0 m.A0 m.A2 m.J1 m.B3 m.I3 m.Q2 m.E2 fr) fun y=>y.1.2.1.length≤fr.length∧∀ o ∈ y.1.2.1,OW b o:=by
 unfold nkx';refine Sat.bindE (np1' hb hcode hm.fit fun x hx=>by have:=hm.caru x hx; unfold ucR at this; omega) ?_
 refine Sat.bif (fun _=>Sat.ret ⟨Nat.zero_le _,fun o h=>by cases h⟩) fun _=>Sat.bif (fun _=>Sat.ret ⟨Nat.zero_le _,fun o h=>by cases h⟩) fun hl=>?_
 have hl:=of_decide_eq_false hl
 refine Sat.bindS (Q:=fun y=>match y with
  | .inl y=>y.1.2.2.1.length≤fr.length∧∀ o ∈ y.1.2.2.1,OW b o
  | .inr y=>y.1.2.1.length≤fr.length∧∀ o ∈ y.1.2.1,OW b o) ?_ fun y hy=>by
   cases y with
   | inl y=>exact Sat.ret hy
   | inr y=>exact Sat.ret hy
 refine Sat.loop (fun (k:Nat) z=>∃ (m:Mch) (out:List Outputs) (i:Nat),z=((fr,(),(),(),out,(i:Int),()),(b.tup,m.tup,Mch.none.tup,()))∧MW b m∧(∀ o ∈ out,OW b o)∧out.length=i∧i + k=fr.length) (fun k z hz=>?_) fr.length ⟨m,[],0,rfl,hm,fun o h=>(by cases h),rfl,Nat.zero_add _⟩ (by omega)
 obtain ⟨m,out,i,rfl,hm,ho,hol,hk⟩:=hz;unfold nwj';refine Sat.bif (fun gg=>?_) fun _=>Sat.ret (show out.length≤fr.length∧∀ o ∈ out,OW b o from ⟨by omega,ho⟩)
 have gg:(i:Int) < (fr.length:Int):=of_decide_eq_true gg;have w:=wrapN (n:=i) (by omega)
 refine Sat.bifT (na' (show (0:Int)≤(i:Int) by omega) gg) ?_
 refine Sat.bindS (n8m' hb hcode hc3 hld hm (hfr _ (n5' _ (show (i:Int).toNat < fr.length by omega))) (show (1048576:Int) < 9223372036854775808 from by decide)) fun y1 h1=>?_
 refine Sat.bif (fun _=>Sat.ret (show ([]:List Outputs).length≤fr.length∧∀ o ∈ ([]:List Outputs),OW b o from ⟨Nat.zero_le _,fun o h=>by cases h⟩)) fun hz=>?_
 obtain ⟨ya,yb⟩:=y1
 have hz:ya.2.2.1=0:=by
  have hz:(ya.2.2.1 != 0)=false:=hz;rw [bne,Bool.not_eq_false'] at hz;exact eq_of_beq hz
 obtain ⟨m',o,e,h2,h3⟩:=h1 hz;simp only at e;subst e;refine Sat.bindR (Sat.bifT (nh' (show out.length + 1≤_ by omega)) (Sat.ret ⟨k - 1,by omega,m',out++[o],i + 1,by first | (rw [← w]; rfl) | rw [← w],h2,fun u hu=>?_,by rw [List.length_append,hol]; rfl,by omega⟩))
 rcases List.mem_append.1 hu with hu | hu
 ·exact ho u hu
 ·rw [List.mem_singleton] at hu; subst hu; exact h3
end
end Go.Ovl
