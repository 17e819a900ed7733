import Derived.Test.YtefkhaccplcieaaGreatDoorOvC
import Derived.Test.YtefkhaccplcieaaGreatDoorOvD
import Derived.Test.YtefkhaccplcieaaGreatDoorOvB
import Derived.Test.YtefkhaccplcieaaGreatDoorOvA
import Derived.Test.YtefkhaccplcieaaGreatDoorOvL
set_option linter.all false
open Bool renaming false->A,true->B
open Option renaming some->C
open Go.Ovl renaming phA->D,Img->E,Record->J
open Go.Ovl.Sto renaming out->H,no->aA
open Go.Ovl.Sat renaming bindE->N,ret->aC,bifT->aD
open List renaming replicate->O,mem_append_left->aG
open Go.Ovl.Record renaming mk->aB
open ByteArray renaming mk->aE
open Go.IntKind renaming i64->aF
namespace Go.Ovl
open Go Go.Ab
variable{half:Int}{s:Sto}{d:ByteArray}
def OL(room:Int)(h0 h1:ByteArray)(sel:Int):Hz room h0 h1 sel=C ((decide (Sto.ok room ⟨h0,h1,sel⟩),()),()):=by
 unfold Hz Sto.ok;by_cases a:1≤room
 ·by_cases b:room≤65536
  ·by_cases c:(h0.size:Int)≤room
   ·by_cases d:(h1.size:Int)≤room
    ·by_cases e:sel=0
     ·simp[a,b,c,d,e]
     ·by_cases f:sel=1<;>simp[a,b,c,d,e,f,Ao]
    ·simp[a,b,c,d]
   ·simp[a,b,c]
  ·simp[a,b]
 ·simp[a]
def QE(room:Int)(h0 h1:ByteArray)(sel half bud:Int):LT room h0 h1 sel half bud=C ((Sto.chk room ⟨h0,h1,sel⟩ half bud,()),()):=by
 unfold LT Sto.chk;rw[OL];by_cases a:Sto.ok room ⟨h0,h1,sel⟩
 ·by_cases b:half=0
  ·by_cases c:bud<0<;>simp[a,b,c]
  ·by_cases d:half=1
   ·by_cases c:bud<0<;>simp[a,c,d]
   ·simp[a,b,d,GT]
 ·simp[a]
def Bcd(room:Int)(h0 h1:ByteArray)(sel half bud:Int)(hb:bud<9223372036854775808):Rt room h0 h1 sel half bud=C (H (Sto.erase room ⟨h0,h1,sel⟩ half bud)):=by
 unfold Rt Sto.erase Sto.act;rw[QE];generalize hc:Sto.chk room ⟨h0,h1,sel⟩ half bud=c;by_cases h:c=0
 ·subst h;obtain⟨_,hh,hb0⟩:=QR hc;by_cases h2:bud=0
  ·simp[h2,H]
  ·have hin:inB half 2=B:=Ac ω ω;rw[Aa (n:=bud-1) ω ω];have e:(bud==0)=A:=by simpa using h2
   rcases hh with rfl | rfl<;>simp[hin,e,h2,H,Sto.set,noB]<;>rfl
 ·simp[h,H,aA,noB,GT]
def Avx(room:Int)(h0 h1:ByteArray)(sel half bud:Int)(hb:bud<9223372036854775808):PC room h0 h1 sel half bud=C (H (Sto.choose room ⟨h0,h1,sel⟩ half bud)):=by
 unfold PC Sto.choose Sto.act;rw[QE];generalize hc:Sto.chk room ⟨h0,h1,sel⟩ half bud=c;by_cases h:c=0
 ·subst h;obtain⟨_,hh,hb0⟩:=QR hc;by_cases h2:bud=0
  ·simp[h2,H]
  ·rw[Aa (n:=bud-1) ω ω];have e:(bud==0)=A:=by simpa using h2
   simp[e,h2,H]
 ·simp[h,H,aA,noB,GT]
def Abr(h0 h1:ByteArray)(sel:Int):Oh h0 h1 sel=C ((Sto.cur ⟨h0,h1,sel⟩,()),()):=by unfold Oh Sto.cur;by_cases h:sel=1<;>simp[h,Ao]
def Arx(hh:half=0∨half=1)(x:ByteArray):(s.set half x).get half=x:=by rcases hh with rfl | rfl<;>rfl
def set_set(hh:half=0∨half=1)(x y:ByteArray):(s.set half x).set half y=s.set half y:=by rcases hh with rfl | rfl<;>rfl
def Asn(hh:half=0∨half=1):s.set half (s.get half)=s:=by rcases hh with rfl | rfl<;>rfl
def Ai4(hh:half=0∨half=1):List.getD [s.h0,s.h1] half.toNat (aE (Array.mk []))=s.get half:=by rcases hh with rfl | rfl<;>rfl
def Bb5(hh:half=0∨half=1)(x:ByteArray):((bif Nat.beq half.toNat 0 then x else s.h0),((bif Nat.beq half.toNat 1 then x else s.h1),(s.sel,())))=(s.set half x).tup:=by rcases hh with rfl | rfl<;>rfl
def Ak1{bud i:Int}{t:Sto}(h:(d.size:Int)≤i):
  Dt half d bud i s.h0 s.h1 s.sel t.h0 t.h1 t.sel=C (.inr (.inl ((bud,((),((),()))),(s.tup,(t.tup,()))))):=by
 unfold Dt;have e:decide (i<(d.size:Int))=A:=by simp;omega
 rw[e];rfl
def Ah0{i:Int}{t:Sto}(h:i<(d.size:Int)):
  Dt half d 0 i s.h0 s.h1 s.sel t.h0 t.h1 t.sel=C (.inr (.inr (((),(0,(8,()))),(s.tup,())))):=by
 unfold Dt;have e:decide (i<(d.size:Int))=B:=by simpa using h
 rw[e];rfl
def Aot(hh:half=0∨half=1){bud:Int}{i:Nat}{t:Sto}(h:i<d.size)(hd:d.size<1000000)(hb:0<bud)(hb':bud<9223372036854775808)(hs:(s.get half).size<1000000):
  Dt half d bud i s.h0 s.h1 s.sel t.h0 t.h1 t.sel=
   C (.inl ((half,(d,(bud-1,((),((),(((i+1:Nat):Int),())))))),((s.set half (s.get half++d.extract i (i+1))).tup,(t.tup,())))):=by
 unfold Dt;have e:decide ((i:Int)<(d.size:Int))=B:=by simp;omega
 have e1:(bud==0)=A:=Ao ω;have e2:inB half 2=B:=Ac ω ω;have w:aF.wrap ((i:Int)+1)=((i+1:Nat):Int):=by rw[Aa ω ω];omega
 have w2:aF.wrap (bud-1)=bud-1:=Aa ω ω;have e3:(decide ((0:Int)≤((i+1:Nat):Int))&&decide (((i+1:Nat):Int)≤(d.size:Int)))=B:=by simp;omega
 have e4:(decide ((0:Int)≤(i:Int))&&decide ((i:Int)≤((Int.toNat ((i+1:Nat):Int):Nat):Int)))=B:=by simp;omega
 have e5:Int.toNat ((i+1:Nat):Int)=i+1:=ω;have e6:Int.toNat (i:Int)=i:=ω;simp only[e,e1,e2,w,w2,e3,e4,d_,c_,Ai4 hh];simp only[e5,e6];have e7:Nat.ble ((s.get half).size+(d.extract i (i+1)).size) 4611686018427387904=B:=Az (by simp;omega);rw[e7,d_,Bb5 hh];rfl
def Aos{half:Int}(hh:half=0∨half=1){d:ByteArray}{t:Sto}(hd:d.size≤65536):∀(n i:Nat) (bud:Int) (s:Sto),d.size-i=n→i≤d.size→0≤bud→bud<9223372036854775808→(s.get half).size+(d.size-i)≤65536→
  BX (λx=>Dt x.1.1 x.1.2.1 x.1.2.2.1 x.1.2.2.2.2.2.1 x.2.1.1 x.2.1.2.1 x.2.1.2.2.1 x.2.2.1.1 x.2.2.1.2.1 x.2.2.1.2.2.1) (n+1)
    ((half,(d,(bud,((),((),((i:Int),())))))),(s.tup,(t.tup,())))=
   C (if bud<(d.size:Int)-i then .inr (((),(0,(8,()))),((s.set half (s.get half++d.extract i (i+bud.toNat))).tup,()))
    else .inl ((bud-((d.size:Int)-i),((),((),()))),((s.set half (s.get half++d.extract i d.size)).tup,(t.tup,()))))
 |0,i,bud,s,hn,hi,hb,hb',hs=>by
  have:i=d.size:=ω
  subst this;refine AE (y:=_) ?_;rw[if_neg ω,Aiw,Adx,Asn hh];show Dt half d bud (d.size:Int) s.h0 s.h1 s.sel t.h0 t.h1 t.sel=_;rw[Ak1 (c7_ _)];simp
 |n+1,i,bud,s,hn,hi,hb,hb',hs=>by
  by_cases h0:bud=0
  ·subst h0;refine AE (y:=_) ?_;rw[if_pos ω];show Dt half d 0 (i:Int) s.h0 s.h1 s.sel t.h0 t.h1 t.sel=_;rw[Ah0 ω];simp only[Int.toNat_zero,c0_,Aiw,Adx,Asn hh]
  ·rw[BO (show Dt half d bud (i:Int) s.h0 s.h1 s.sel t.h0 t.h1 t.sel=_ from Aot hh ω ω ω hb' ω),
    Aos hh hd n (i+1) (bud-1) _ ω ω ω ω (by rw[Arx hh];simp;omega)]
   rw[Arx hh,set_set hh,set_set hh,ByteArray.append_assoc,ByteArray.append_assoc];by_cases h1:bud<(d.size:Int)-i
   ·rw[if_pos h1,if_pos ω,Ana d ω ω,show i+1+(bud-1).toNat=i+bud.toNat by omega]
   ·rw[if_neg h1,if_neg ω,Ana d ω ω];congr 3
    have:bud-1-((d.size:Int)-((i+1:Nat):Int))=bud-((d.size:Int)-i):=ω
    rw[this]
def Agc(room:Int)(h0 h1:ByteArray)(sel half:Int)(d:ByteArray)(bud:Int)(hb:bud<9223372036854775808)(hd:d.size<1000000) :
  Ru room h0 h1 sel half d bud=C (H (Sto.write room ⟨h0,h1,sel⟩ half d bud)):=by
 unfold Ru Sto.write;rw[QE];generalize hc:Sto.chk room ⟨h0,h1,sel⟩ half bud=c;by_cases h:c=0
 ·subst h;obtain⟨⟨o1,o2,o3,o4,o5⟩,hh,hb0⟩:=QR hc;simp only at o3 o4;have hin:inB half 2=B:=Ac ω ω;have hg:List.getD [h0,h1] half.toNat (aE (Array.mk []))=Sto.get ⟨h0,h1,sel⟩ half:=Ai4 (s:=⟨h0,h1,sel⟩) hh;have hgs:((Sto.get ⟨h0,h1,sel⟩ half).size:Int)≤room:=by rcases hh with rfl | rfl<;>simpa[Sto.get]
  simp only[a_,hin,d_,hg];rw[Aa (n:=((Sto.get ⟨h0,h1,sel⟩ half).size:Int)+d.size) ω ω];by_cases h2:room<((Sto.get ⟨h0,h1,sel⟩ half).size:Int)+d.size
  ·simp[h2,H,aA,noB]
  ·have hl:=Aos (t:=aA) hh (d:=d) ω d.size 0 bud ⟨h0,h1,sel⟩ ω ω hb0 hb ω;have hl':LG ((half,(d,(bud,((),((),((0:Int),())))))),((Sto.tup ⟨h0,h1,sel⟩),(Sto.no.tup,())))=_:=Ak hl ω;have e:decide (room<((Sto.get ⟨h0,h1,sel⟩ half).size:Int)+d.size)=A:=by simpa using h2
   have z:((0:Int) !=0)=A:=rfl;simp only[z,c_,h2,e4_,ne_eq,not_true_eq_false];show(LG ((half,(d,(bud,((),((),((0:Int),())))))),((Sto.tup ⟨h0,h1,sel⟩),(Sto.no.tup,())))).bind _=_;rw[hl'];by_cases h3:bud<d.size
   ·rw[if_pos ω,if_pos h3];simp[H,Sto.tup]
   ·rw[if_neg ω,if_neg h3];simp[H,Sto.tup]
 ·simp[h,H,aA,noB,GT]
end Go.Ovl
namespace Go.Ovl
open Go Go.Ab
set_option maxRecDepth 100000
variable{b:Bldg}{bud room:Int}{r:J}{m:Mch}{s:ByteArray}{i:Nat}{g:Bool}{x:Inp}
def Aov(hb:b.small)(hc:b.B0.length≤100){rs:List J}(hl:rs.length≤100000):Rv b.C0 b.F0 b.H0 b.M0 b.K0 b.L0 b.N0 b.B0 rs=C ((txt (rs.flatMap λr=>bl (HM b r)),()),()):=by
 have h:=AQ (step:=λx=>letI a:=x.2.1.2.2;letI c:=a.2.2;IT x.1.1 x.1.2.2.1 x.1.2.2.2.1 x.2.1.1 x.2.1.2.1 a.1 a.2.1 c.1 c.2.1 c.2.2.1 c.2.2.2.1) rs.length (λi (l:List UInt8)=>((rs,(),txt l,(i:Int),()),(b.tup,()))) (λi l=>l++bl (HM b (rs.getD i (aB 0 0 0 0 0)))) (λi l=>l.length≤6*i) (λl=>((txt l,()),())) (λi l hi hs=>by
  have he:=Ais b (rs.getD i (aB 0 0 0 0 0));refine⟨?_,by rw[i_];omega⟩;show IT rs (txt l) (i:Int) b.C0 b.F0 b.H0 b.M0 b.K0 b.L0 b.N0 b.B0=_;unfold IT;simp only[b_ (ω:(i:Int)<(rs.length:Int)),Ac (ω:(0:Int)≤(i:Int)) (ω:(i:Int)<(rs.length:Int)),d_,h_,Ak2 hb hc,a_,ER hi (show rs.length≤AL by unfold AL;omega)];rw[Az (show(txt l).size+(HM b (rs.getD i (aB 0 0 0 0 0))).size≤4611686018427387904 by rw[FS,← DP];omega)];rw[show txt l++HM b (rs.getD i (aB 0 0 0 0 0))=txt (l++bl (HM b (rs.getD i (aB 0 0 0 0 0))))by rw[← Aib,Btw]];rfl) (λl _=>by
  show IT rs (txt l) (rs.length:Int) b.C0 b.F0 b.H0 b.M0 b.K0 b.L0 b.N0 b.B0=_;unfold IT;simp only[f_ (M_ (rs.length:Int)),c_]) rs.length 0 [] ω σ
 have h':=Ak h.1 ω;rw[HT (λi=>bl (HM b (rs.getD i (aB 0 0 0 0 0)))),a1_,NE (λr=>bl (HM b r)) (aB 0 0 0 0 0) rs 0 rs.length ω,P_]at h';unfold Rv;rw[show Ow ((rs,(),aE (Array.mk []),(0:Int),()),((b.C0,b.F0,b.H0,b.M0,b.K0,b.L0,b.N0,b.B0,()),()))=_ from h'];rfl
def Ajs(hcode:b.code=0)(s:Sto)(bud:Int):TJ b.C0 b.F0 b.H0 b.M0 b.K0 b.L0 b.N0 b.B0 s.h0 s.h1 s.sel bud=C ((decide (s.ok b.H0)&&decide (0≤bud),()),()):=by unfold TJ;rw[Ia,hcode,OL];simp only[a_,l_,d_];rw[show Sto.mk s.h0 s.h1 s.sel=s from rfl];cases decide (s.ok b.H0)<;>rfl
def Bju{s:Sto}{half:Int}{t:Sto}(h:(s.act room half bud t).2.2≠0):(s.act room half bud t).2.1=0:=by
 unfold Sto.act at*;split
 ·rfl
 ·split
  ·rfl
  ·rename_i h1 h2;rw[if_neg h1,if_neg h2]at h;exact absurd rfl h
def Bcv{s:Sto}{half:Int}{d:ByteArray}(h:(s.write room half d bud).2.2≠0):(s.write room half d bud).2.1=0:=by
 unfold Sto.write at*;split
 ·rfl
 ·split
  ·rfl
  ·split
   ·rfl
   ·rename_i h1 h2 h3;rw[if_neg h1,if_neg h2,if_neg h3]at h;exact absurd rfl h
def Bbs(bud:Int):decide (bud<0)=!decide (0≤bud):=Ue bud 0
def Ah1(hb:b.small)(hcode:b.code=0)(s:Sto){m:E}(hf:m.fit)(hl:m.A0.length≤5000)(hbud:bud<9223372036854775808):
  Oi b.C0 b.F0 b.H0 b.M0 b.K0 b.L0 b.N0 b.B0 s.h0 s.h1 s.sel m.G0 m.O0 m.J0 m.A0 bud=C (H (DF b s m bud)):=by
 have hmx:100000≤maxLen:=by decide
 have hp:=hf.p;have he:=hf.e;have hcars:=Aj hcode;unfold Oi DF;rw[Ajs hcode,QY hb m ω ω,Afk hb hf,Bbs];simp only[a_];by_cases hs:s.ok b.H0
 ·rw[b_ hs];by_cases hb0:0≤bud
  ·rw[b_ hb0];cases hok:m.ok b with
   |false=>rfl
   |true=>
    have hm:=Img.ok_iff.1 hok;have hlp:=hm.lp;have hsn:VB b m=CR m:=by unfold VB;rw[hok];rfl
    have hsl:=ZC m;have hby:=Aov hb ω (rs:=CR m) (by rw[hsl];omega);rw[Acb (Tr hm)]at hby;have hsel:aF.wrap (1-s.sel)=1-s.sel:=by obtain⟨_,_,_,_,h5⟩:=hs;exact Aa ω ω
    simp only[a0_,o_,c_,hsn,hby,a_,hsel,Bcd _ _ _ _ _ _ hbud,H];have hb1:=Aq8 b.H0 s (1-s.sel) bud (s.set (1-s.sel) noB) hbud;have he1:(s.erase b.H0 (1-s.sel) bud).2.2≠0→(s.erase b.H0 (1-s.sel) bud).2.1=0:=Bju;rw[show s.act b.H0 (1-s.sel) bud (s.set (1-s.sel) noB)=s.erase b.H0 (1-s.sel) bud from rfl]at hb1;rw[show Sto.mk s.h0 s.h1 s.sel=s from rfl];generalize s.erase b.H0 (1-s.sel) bud=r1 at hb1 he1⊢;by_cases hq:r1.2.2=0
    ·have hdl:(txt ((CR m).flatMap Ce)).size<1000000:=by rw[FS,Aac,hsl];omega
     simp only[hq,Q_,c_,l_,d_,Agc _ _ _ _ _ _ _ hb1 hdl,a_,H];have hb2:=Akf b.H0 r1.1 (1-s.sel) (txt ((CR m).flatMap Ce)) r1.2.1 hb1;have he2:(r1.1.write b.H0 (1-s.sel) (txt ((CR m).flatMap Ce)) r1.2.1).2.2≠0→(r1.1.write b.H0 (1-s.sel) (txt ((CR m).flatMap Ce)) r1.2.1).2.1=0:=Bcv;rw[show Sto.mk r1.1.h0 r1.1.h1 r1.1.sel=r1.1 from rfl];generalize r1.1.write b.H0 (1-s.sel) (txt ((CR m).flatMap Ce)) r1.2.1=r2 at hb2 he2⊢;by_cases hq2:r2.2.2=0
     ·simp only[hq2,Q_,c_,l_,d_,Avx _ _ _ _ _ _ hb2,a_,H]
     ·rw[GT hq2,Ao hq2,d_,c_,he2 hq2]
    ·rw[GT hq,Ao hq,d_,c_,he1 hq]
  ·rw[f_ hb0];rfl
 ·rw[f_ hs];rfl
def Ah3(hb:b.small)(hcode:b.code=0)(s:Sto)(hs:s.cur.size≤5000)(hbud:bud<9223372036854775808)(hR:Kk b.C0 b.F0 b.H0 b.M0 b.K0 b.L0 b.N0 b.B0 s.h0 s.h1 s.sel=C (((),()),((CB b s).tup,()))):
  Ok b.C0 b.F0 b.H0 b.M0 b.K0 b.L0 b.N0 b.B0 s.h0 s.h1 s.sel bud=C (Bci (Dm b s bud).1 (Dm b s bud).2.1 (Dm b s bud).2.2.1 (Dm b s bud).2.2.2):=by
 have hc:=Aj hcode;obtain⟨hok,hle,hf⟩:=Ajv hcode s ω;have hle2:(CB b s).A0.length≤900:=by have h2:=(UR (Xv hcode) (rs:=JX b s.cur) λr hr=>RI b _ _ r hr).2;have h3:=Vu b s.cur.size (bl s.cur);rw[DP]at h3;have h4:(EQ b).A0.length=0:=rfl;have h5:(JX b s.cur).length=(IF b s.cur.size (bl s.cur)).length:=rfl;show(Ai (EQ b) (JX b s.cur)).A0.length≤_;omega
 unfold Ok;rw[Ajs hcode,hR];simp only[a_,Img.tup];rw[Ah1 hb hcode s hf ω hbud];simp only[a_,H];unfold Dm;cases hq:decide (s.ok b.H0)&&decide (0≤bud)with
 |false=>
  have e:DF b s (CB b s) bud=(aA,0,1):=by
   unfold DF;rw[Bbs];rw[Bool.and_eq_false_iff]at hq;rcases hq with hq | hq
   ·rw[hq];rfl
   ·rw[hq];cases decide (s.ok b.H0)<;>rfl
  rw[e];rfl
 |true=>generalize DF b s (CB b s) bud=w;cases w.2.2 !=0<;>rfl
def Ak5(hcode:b.code=0):Kk b.C0 b.F0 b.H0 b.M0 b.K0 b.L0 b.N0 b.B0 Sto.no.h0 Sto.no.h1 Sto.no.sel=C (((),()),((CB b aA).tup,())):=by have hcars:=Aj hcode;unfold Kk;rw[Ah2 hcode ω,Abr];simp only[a_];have h:∀t,PT ((noB,(),([]:List J),(0:Int),()),t)=C (([],0,()),()):=λt=>Ak (f:=1) (AE rfl) τ;unfold WD;rw[show Sto.cur ⟨Sto.no.h0,Sto.no.h1,Sto.no.sel⟩=noB from rfl,h];simp only[a_];have h2:∀a c d,Nw (((),(),(),([]:List J),(0:Int),()),(a,c,d,()))=C (((),(),()),(c,d,())):=λa c d=>Ak (f:=1) (AE rfl) τ;rw[h2];rfl
def Aqv(hb:b.small)(m:E)(hc:b.B0.length≤100000)(hf:m.fit):PG b.C0 b.F0 b.H0 b.M0 b.K0 b.L0 b.N0 b.B0 m.G0 m.O0 m.J0 m.A0=C ((Te b m,()),()):=by
 have hmx:100000≤maxLen:=by decide
 have hp:=hf.p;have he:=hf.e;unfold PG Te;rw[QY hb m ω ω];simp only[a_,Bqd hc he];cases m.ok b<;>rfl
def Alz(b:Bldg)(hc:b.B0.length≤1000)(m:E)(z o:Mch)(ho:o.U0=[]):LH (((),(),(),(b.B0.length:Int),(),(0:Int),()),(b.tup,m.tup,z.tup,o.tup,()))=C (((),(),(),(),()),(b.tup,m.tup,z.tup,(o.withB (O b.B0.length Wq)).tup,())):=by
 have h:=AQ (step:=λx=>letI d:=x.2.2.2;letI j:=d.2.1.2;letI a:=j.2.2.2.2;letI k:=d.1.2;letI c:=k.2.2.2.2;letI e:=c.2.2.2.2;letI f:=a.2.2.2.2;letI g:=x.2.1.2.2;letI n:=e.2.2;letI q:=f.2.2;letI r:=g.2.2;letI s:=x.2.2.1;IU x.1.2.2.2.1 x.1.2.2.2.2.2.1 x.2.1.1 x.2.1.2.1 g.1 g.2.1 r.1 r.2.1 r.2.2.1 r.2.2.2.1 s.1 s.2.1 s.2.2.1 s.2.2.2.1 d.1.1 k.1 k.2.1 k.2.2.1 k.2.2.2.1 c.1 c.2.1 c.2.2.1 c.2.2.2.1 e.1 e.2.1 n.1 n.2.1 n.2.2.1 n.2.2.2.1 n.2.2.2.2.1 d.2.1.1 j.1 j.2.1 j.2.2.1 j.2.2.2.1 a.1 a.2.1 a.2.2.1 a.2.2.2.1 f.1 f.2.1 q.1 q.2.1 q.2.2.1 q.2.2.2.1 q.2.2.2.2.1) b.B0.length (λi (l:List Belief)=>(((),(),(),(b.B0.length:Int),(),(i:Int),()),(b.tup,m.tup,z.tup,(o.withB l).tup,()))) (λ_ l=>l++[Wq]) (λi l=>l.length≤i) (λl=>(((),(),(),(),()),(b.tup,m.tup,z.tup,(o.withB l).tup,()))) (λi l hi hl=>by
  refine⟨?_,by rw[i_,G_];omega⟩;show IU (b.B0.length:Int) (i:Int) b.C0 b.F0 b.H0 b.M0 b.K0 b.L0 b.N0 b.B0 m.G0 m.O0 m.J0 m.A0 z.E0.G0 z.E0.O0 z.E0.J0 z.E0.A0 z.B1.h0 z.B1.h1 z.B1.sel z.J1 z.U0 z.B0 z.C3 z.B2 z.Y2 z.Z3 z.H3 z.R2 (o.withB l).E0.G0 (o.withB l).E0.O0 (o.withB l).E0.J0 (o.withB l).E0.A0 (o.withB l).B1.h0 (o.withB l).B1.h1 (o.withB l).B1.sel (o.withB l).J1 (o.withB l).U0 (o.withB l).B0 (o.withB l).C3 (o.withB l).B2 (o.withB l).Y2 (o.withB l).Z3 (o.withB l).H3 (o.withB l).R2=_;unfold IU Pa;simp only[b_ (ω:(i:Int)<(b.B0.length:Int)),d_,a_,ER hi (show b.B0.length≤AL by unfold AL;omega)];rw[Az (show(o.withB l).U0.length+[Belief.mk (-1) 0 0 [] 0 A].length≤2147483648 by show l.length+1≤_;omega)];rfl) (λl _=>by
  show IU (b.B0.length:Int) (b.B0.length:Int) b.C0 b.F0 b.H0 b.M0 b.K0 b.L0 b.N0 b.B0 m.G0 m.O0 m.J0 m.A0 z.E0.G0 z.E0.O0 z.E0.J0 z.E0.A0 z.B1.h0 z.B1.h1 z.B1.sel z.J1 z.U0 z.B0 z.C3 z.B2 z.Y2 z.Z3 z.H3 z.R2 (o.withB l).E0.G0 (o.withB l).E0.O0 (o.withB l).E0.J0 (o.withB l).E0.A0 (o.withB l).B1.h0 (o.withB l).B1.h1 (o.withB l).B1.sel (o.withB l).J1 (o.withB l).U0 (o.withB l).B0 (o.withB l).C3 (o.withB l).B2 (o.withB l).Y2 (o.withB l).Z3 (o.withB l).H3 (o.withB l).R2=_;unfold IU;simp only[f_ (M_ (b.B0.length:Int)),c_];rfl) b.B0.length 0 [] ω σ
 have h':=Ak h.1 ω;rw[HT (λ_=>[Wq]),Ao2,a1_]at h';rw[show o.tup=(o.withB []).tup by unfold Mch.withB Mch.tup;rw[ho]];exact h'
def Al0(b:Bldg)(m:E)(hl:m.A0.length≤100000)(hcar:∀e∈m.A0,e.R0<(b.B0.length:Int))(z o:Mch)(ho:o.B2=[]):LI (((),(),(),(),(0:Int),()),(b.tup,m.tup,z.tup,o.tup,()))=C (((),(),()),(z.tup,(o.withE (m.A0.map (Tt b))).tup,())):=by
 have h:=AQ (step:=λx=>letI d:=x.2.2.2;letI l:=d.2.1.2;letI a:=l.2.2.2.2;letI n:=d.1.2;letI c:=n.2.2.2.2;letI f:=c.2.2.2.2;letI j:=a.2.2.2.2;letI k:=x.2.1.2.2;letI r:=f.2.2;letI s:=j.2.2;letI u:=k.2.2;letI w:=x.2.2.1;IV x.1.2.2.2.2.1 x.2.1.1 x.2.1.2.1 k.1 k.2.1 u.1 u.2.1 u.2.2.1 u.2.2.2.1 w.1 w.2.1 w.2.2.1 w.2.2.2.1 d.1.1 n.1 n.2.1 n.2.2.1 n.2.2.2.1 c.1 c.2.1 c.2.2.1 c.2.2.2.1 f.1 f.2.1 r.1 r.2.1 r.2.2.1 r.2.2.2.1 r.2.2.2.2.1 d.2.1.1 l.1 l.2.1 l.2.2.1 l.2.2.2.1 a.1 a.2.1 a.2.2.1 a.2.2.2.1 j.1 j.2.1 s.1 s.2.1 s.2.2.1 s.2.2.2.1 s.2.2.2.2.1) m.A0.length (λi (q:List Int)=>(((),(),(),(),(i:Int),()),(b.tup,m.tup,z.tup,(o.withE q).tup,()))) (λi q=>q++[Tt b (m.A0.getD i noE)]) (λi q=>q.length≤i) (λq=>(((),(),()),(z.tup,(o.withE q).tup,()))) (λi q hi hq=>by
  refine⟨?_,by rw[i_,G_];omega⟩;have hc:=hcar _ (BU noE hi);have b1:∀v:Int,Nat.ble ((o.withE q).B2.length+[v].length) 2147483648=B:=λv=>Az (by show q.length+1≤_;omega);show IV (i:Int) b.C0 b.F0 b.H0 b.M0 b.K0 b.L0 b.N0 b.B0 m.G0 m.O0 m.J0 m.A0 z.E0.G0 z.E0.O0 z.E0.J0 z.E0.A0 z.B1.h0 z.B1.h1 z.B1.sel z.J1 z.U0 z.B0 z.C3 z.B2 z.Y2 z.Z3 z.H3 z.R2 (o.withE q).E0.G0 (o.withE q).E0.O0 (o.withE q).E0.J0 (o.withE q).E0.A0 (o.withE q).B1.h0 (o.withE q).B1.h1 (o.withE q).B1.sel (o.withE q).J1 (o.withE q).U0 (o.withE q).B0 (o.withE q).C3 (o.withE q).B2 (o.withE q).Y2 (o.withE q).Z3 (o.withE q).H3 (o.withE q).R2=_;unfold IV;rw[show Entry.mk 0 0 0 0 A=noE from rfl];simp only[b_ (ω:(i:Int)<(m.A0.length:Int)),Ac (ω:(0:Int)≤(i:Int)) (ω:(i:Int)<(m.A0.length:Int)),d_,h_];have hex:Tt b (m.A0.getD i noE)=bif decide (0≤(m.A0.getD i noE).R0)then(Kx b (m.A0.getD i noE).R0.toNat).I1 else 0:=rfl;rw[hex];by_cases g:0≤(m.A0.getD i noE).R0
  ·rw[b_ g,Ac g hc];simp only[d_,a_,b1,ER hi (show m.A0.length≤AL by unfold AL;omega)];rfl
  ·rw[f_ g];simp only[c_,d_,a_,b1,ER hi (show m.A0.length≤AL by unfold AL;omega)];rfl) (λq _=>by
  show IV (m.A0.length:Int) b.C0 b.F0 b.H0 b.M0 b.K0 b.L0 b.N0 b.B0 m.G0 m.O0 m.J0 m.A0 z.E0.G0 z.E0.O0 z.E0.J0 z.E0.A0 z.B1.h0 z.B1.h1 z.B1.sel z.J1 z.U0 z.B0 z.C3 z.B2 z.Y2 z.Z3 z.H3 z.R2 (o.withE q).E0.G0 (o.withE q).E0.O0 (o.withE q).E0.J0 (o.withE q).E0.A0 (o.withE q).B1.h0 (o.withE q).B1.h1 (o.withE q).B1.sel (o.withE q).J1 (o.withE q).U0 (o.withE q).B0 (o.withE q).C3 (o.withE q).B2 (o.withE q).Y2 (o.withE q).Z3 (o.withE q).H3 (o.withE q).R2=_;unfold IV;simp only[f_ (M_ (m.A0.length:Int)),c_];rfl) m.A0.length 0 [] ω σ
 have h':=Ak h.1 ω;rw[HT (λi=>[Tt b (m.A0.getD i noE)]),NE (λe=>[Tt b e]) noE m.A0 0 m.A0.length ω,P_,Bfq,a1_]at h';rw[show o.tup=(o.withE []).tup by unfold Mch.withE Mch.tup;rw[ho]];exact h'
def Aow(hb:b.small)(m:E)(hf:m.fit)(hc:b.B0.length≤1000)(s:Sto):Rw b.C0 b.F0 b.H0 b.M0 b.K0 b.L0 b.N0 b.B0 m.G0 m.O0 m.J0 m.A0 s.h0 s.h1 s.sel=C (((),(Qo b m s).2,()),((Qo b m s).1.tup,())):=by
 unfold Rw Qo;rw[Aqv hb m ω hf,OL];simp only[a_];cases hq:Te b m with
 |false=>rfl
 |true=>
  have hm:ImgOK b m:=by unfold Te at hq;rw[e_]at hq;exact Img.ok_iff.1 hq.1
  by_cases hs:s.ok b.H0
  ·rw[b_ (show Sto.ok b.H0 ⟨s.h0,s.h1,s.sel⟩from hs)];have e:=hf.e
   let o:Mch:=⟨m,s,O b.B0.length Fy,[],O b.B0.length Bw,O b.B0.length Acx,[],O b.B0.length Ahs,0,0,0⟩
   have l0:=Alz b hc m Mch.none o rfl;have l1:=Al0 b m e (λx hx=>(CM.1 (hm.en x hx)).2.1.2) Mch.none (o.withB (O b.B0.length Wq)) rfl;simp only[Mch.tup,Img.tup,Bldg.tup,Mch.withB,Mch.withE,Mch.none,Img.none,aA,noB,o]at l0 l1;have dl:∀n:Nat,n≤1000→(decide ((0:Int)≤(n:Int))&&decide ((n:Int)≤(n:Int))&&decide ((n:Int)≤(2147483648:Int)))=B:=λn hn=>by rw[b_ (ω:(0:Int)≤(n:Int)),b_ (c7_ (n:Int)),b_ (ω:(n:Int)≤2147483648)];rfl
   simp only[o_,c_,d_,dl _ hc,h_];rw[show Debounced.mk 0 A A A A 0 0 0 0 0 0 0 0 0 0 0 0 0 0 0 0 0 0 0 0 0 0 0 0 0 0 0 0 0 0 0 0 0 0 0 0=Fy from rfl,show NewCar.mk 0 0 0 0 0 A 0 0 0 0 0 0 0 A=Bw from rfl,show Loaded.mk 0=Acx from rfl,show Calls.mk 0 0=Ahs from rfl];rw[l0];simp only[a_];rw[l1];rfl
  ·rw[f_ (show ¬Sto.ok b.H0 ⟨s.h0,s.h1,s.sel⟩from hs)];rfl
def Aqu(hb:b.small)(hcode:b.code=0)(s:Sto)(hs:s.cur.size≤5000)(hbud:bud<9223372036854775808)(hR:Kk b.C0 b.F0 b.H0 b.M0 b.K0 b.L0 b.N0 b.B0 s.h0 s.h1 s.sel=C (((),()),((CB b s).tup,()))):PF b.C0 b.F0 b.H0 b.M0 b.K0 b.L0 b.N0 b.B0 s.h0 s.h1 s.sel bud=C (((),(Qf b s bud).2.1,(Qf b s bud).2.2,()),((Qf b s bud).1.tup,())):=by
 have hc:=Aj hcode;unfold PF Qf;rw[Ah3 hb hcode s hs hbud hR];have hf:=Bk3 hcode s ω bud;simp only[a_,Bci,Img.tup];generalize Dm b s bud=w at hf⊢;cases w.2.2.2 !=0 with
 |true=>rfl
 |false=>simp only[c_];rw[Aow hb w.2.1 hf ω w.1];simp only[a_,Mch.tup];generalize Qo b w.2.1 w.1=f;cases f.2 !=0<;>rfl
def Aox(hb:b.small)(hcode:b.code=0):LV b.C0 b.F0 b.H0 b.M0 b.K0 b.L0 b.N0 b.B0=C (((),(Ix b).2,()),((Ix b).1.tup,())):=by unfold LV Ix;rw[hcode];simp only[l_,d_];rw[show PF b.C0 b.F0 b.H0 b.M0 b.K0 b.L0 b.N0 b.B0 (aE (Array.mk [])) (aE (Array.mk [])) 0 1048576=_ from Aqu hb hcode aA τ (bud:=1048576) ω (Ak5 hcode)];rfl
section
variable{b:Bldg}(hw:BW b)
include hw
theorem PM.fit(h:PM b m):m.fit:=by
 have hcc:=Aj hw.code;have h1:=DQ hw.small h.jst.img
 have:=h.exl
 refine⟨h.jst.ents.2,by rw[h.con];omega,by rw[h.bel];omega,λx hx=>?_,by rw[h.car];omega,by rw[h.lod];omega,ω,by rw[h.lit];omega⟩;obtain⟨i,hi,rfl⟩:=g1_ hx;have h2:=((h.belv i (by rw[← h.bel];exact hi)).dut).len hw.small;rw[k_,j_ hi]at h2;have h2:m.U0[i].W0.length≤30:=h2;omega
theorem PM.isM_eq(h:PM b m):Gn b.C0 b.F0 b.H0 b.M0 b.K0 b.L0 b.N0 b.B0 m.E0.G0 m.E0.O0 m.E0.J0 m.E0.A0 m.B1.h0 m.B1.h1 m.B1.sel m.J1 m.U0 m.B0 m.C3 m.B2 m.Y2 m.Z3 m.H3 m.R2=C ((B,()),()):=by
 have hf:=h.fit hw;have hcc:=Aj hw.code;have he:=DQ hw.small h.jst.img;have hl:=h.exl;have c5:=Aaz hw.small hw.code h.con λx hx=>(h.conv x hx).1;have c6:=Ag0 hw.small hw.code h.bel (λi hi=>(Aig hw.small).2 (h.belv i (by rw[← h.bel];exact hi))) hf.du;have c7:=Ag2 hw.small hw.code h.car h.carv;have c8:=Ag1 (n:=(b.B0.length:Int)) hf.lo (by rw[h.lod]) h.lodv;have hS:Sat (Gn b.C0 b.F0 b.H0 b.M0 b.K0 b.L0 b.N0 b.B0 m.E0.G0 m.E0.O0 m.E0.J0 m.E0.A0 m.B1.h0 m.B1.h1 m.B1.sel m.J1 m.U0 m.B0 m.C3 m.B2 m.Y2 m.Z3 m.H3 m.R2) λy=>y=((B,()),()):=by
  unfold Gn;refine N (Afp hw.small m.E0 ω hf.im) (Sat.bifF (by rw[Arw h.jst.img h.jst.fits];rfl) (N (Ji ..) (Sat.bifF (by show(!decide (m.B1.ok b.H0))=A;rw[b_ h.jst.ok];rfl) (Sat.bifF (by rw[hl,Q_]) (N (SG ω h.exv) (Sat.bifF rfl (N (SG (xs:=[m.Z3,m.H3,m.R2]) (by show 3≤100000;omega) λx hx=>?_) (Sat.bifF rfl (N c5 (N c6 (N c7 (N c8 ?_))))))))))))
  ·simp only[s_,h3_,or_false]at hx;rcases hx with rfl | rfl | rfl
   ·exact h.tick
   ·exact h.flt
   ·exact h.ref
  ·refine aC ?_;show((((m.Y2.length:Int)==(b.B0.length:Int)),()),())=_;rw[h.lit,l_]
 obtain⟨y,h1,h2⟩:=hS;rw[h1,h2]
theorem XR:PM b (Ix b).1∧(Ix b).1.E0=EQ b∧(Ix b).2=0:=by
 have hcode:=hw.code;have j0:=Jst.first hcode;have hcc:=Aj hcode;have hfit:=j0.fits;have hroom:=hw.room;have hs:Ix b=((Qf b aA 1048576).1,(Qf b aA 1048576).2.2):=by unfold Ix;rw[hcode];rfl
 rw[hs];rcases Bj0 hw.small j0.ok j0.img (j0.replay hw.small) ω (bud:=1048576) ω with⟨_,q2,q3⟩ | ⟨q1,_⟩
 ·rw[q2];have rep:∀{α:Type}{P:α→Prop}{a:α}{n:Nat},P a→∀x∈O n a,P x:=λh x hx=>by rw[(List.mem_replicate.1 hx).2];exact h
  have he:(EQ b).A0=[]:=rfl;refine⟨⟨q3,T_,rep ⟨Bfy (Amq hcode),c7_ 0,show(0:Int)<4294967296 by decide⟩,T_,λi hi=>?_,T_,rep (ND hw.small),T_,rep (show(0:Int)≤0∧(0:Int)≤4 by decide),T_,c9_ _,?_,i00,i00,i00⟩,rfl,rfl⟩
  ·show BelOK b i ((O b.B0.length Wq).getD i GV);rw[k_,List.getElem?_replicate,if_pos hi];exact BelOK.new hw
  ·intro x hx;rw[show(Aev b (EQ b) { Sto.no.set (1-Sto.no.sel) (txt ((CR (EQ b)).flatMap Ce))with sel:=1-Sto.no.sel }).B2=[]from rfl]at hx;cases hx
 ·omega
omit hw in
theorem Btm(hm:m.fit):Oe m.E0.G0 m.E0.O0 m.E0.J0 m.E0.A0 m.B1.h0 m.B1.h1 m.B1.sel m.J1 m.U0 m.B0 m.C3 m.B2 m.Y2 m.Z3 m.H3 m.R2=C (((),()),(m.tup,())):=by
 have hl:Sat (Jo (((),(),(m.U0.length:Int),(0:Int),()),(m.tup,Mch.none.tup,()))) λy=>y=(((),(),()),(m.tup,Mch.none.tup,())):=by have hbe:=hm.be;unfold Jo;refine Sat.loop (λ(k:Nat) z=>∃(i:Nat),z=(((),(),(m.U0.length:Int),(i:Int),()),(m.tup,Mch.none.tup,()))∧i+k=m.U0.length) (λk z hz=>?_) m.U0.length ⟨0,rfl,p_ _⟩ ω;obtain⟨i,rfl,hk⟩:=hz;show Sat (PX (m.U0.length:Int) (i:Int) m.E0.G0 m.E0.O0 m.E0.J0 m.E0.A0 m.B1.h0 m.B1.h1 m.B1.sel m.J1 m.U0 m.B0 m.C3 m.B2 m.Y2 m.Z3 m.H3 m.R2 [] [] [] [] noB noB 0 [] [] [] [] [] [] 0 0 0) _;unfold PX;refine Sat.bic (λq=>?_) λ_=>aC rfl;have q:(i:Int)<(m.U0.length:Int):=m_ q;have hi:i<m.U0.length:=ω;have w:=Dn (n:=i) ω;have ib:inB (i:Int) m.U0.length=B:=Ac ω q;have hd:(m.U0.getD i GV).W0.length≤100000:=hm.du _ (BU _ hi);refine aD ib (N (show Et (m.U0.getD (Int.toNat (i:Int)) GV).W0=C (((m.U0.getD i GV).W0,()),())from Da _ hd) (aD ib ?_));refine aC ⟨k-1,ω,i+1,?_,ω⟩;have e:m.U0.set i (Belief.mk (m.U0.getD i GV).D0 (m.U0.getD i GV).I0 (m.U0.getD i GV).F3 (m.U0.getD i GV).W0 (m.U0.getD i GV).Z2 (m.U0.getD i GV).R3)=m.U0:=Ao5 GV rfl;rw[← w];exact f5_ (λL=>(((),(),(m.U0.length:Int),aF.wrap ((i:Int)+1),()),(({ m with U0:=L }:Mch).tup,Mch.none.tup,()))) e
 obtain⟨y,hl,rfl⟩:=hl;have him:=hm.im;unfold Oe;refine Ae (Da m.E0.G0 him.p) (Ae (Da m.E0.O0 him.f) (Ae (Da m.E0.J0 him.l) (Ae (Da m.E0.A0 him.e) (Ae (Da m.J1 hm.co) (Ae (Da m.B0 hm.ca) (Ae (Da m.C3 hm.lo) (Ae (Da m.B2 hm.ex) (Ae (Da m.Y2 hm.li) (Ae (Da m.U0 hm.be) (Ae hl rfl))))))))))
def pk0(b:Bldg)(m:Mch)(bud:Int):Pk:=⟨m,bud,0,O b.B0.length A,O b.B0.length (Calls.mk 0 0),O b.B0.length A,⟨0,0,0,0,A,A,0,O b.B0.length AB⟩⟩
@[reducible] def outP(o:Outputs):=(o.Y3,o.N3,o.X2,o.L2,o.X5,o.L0,o.U5,o.B0,())
def Avr:Outputs:=⟨0,0,0,0,A,A,0,[]⟩
def Bh4(b:Bldg)(m:Mch)(s:ByteArray)(bud:Int)(e:Int)(m':Mch)(o:Outputs):Prop:=∃(x:Inp) (t':Pk),((Ee b s=0∧InOK b x)∨(Ee b s≠0∧x=Inp.none))∧Eo b.C0 b.F0 b.H0 b.M0 b.K0 b.L0 b.N0 b.B0 s=C (((),Ee b s,()),(x.tup,()))∧RunR b x (Ee b s==0) (pk0 b m bud) t'∧e=t'.e∧(e=0→m'=t'.m∧o=t'.out)∧(e≠0→m'={ Mch.none with B1:=t'.m.B1 }∧o=Avr)
theorem Btt(hm:PM b m)(hs:Fr b s)(hb:0≤bud∧bud<9223372036854775808):Sat (HZ b.C0 b.F0 b.H0 b.M0 b.K0 b.L0 b.N0 b.B0 m.E0.G0 m.E0.O0 m.E0.J0 m.E0.A0 m.B1.h0 m.B1.h1 m.B1.sel m.J1 m.U0 m.B0 m.C3 m.B2 m.Y2 m.Z3 m.H3 m.R2 s bud) λy=>∃e m' o,y=(((),(),e,()),(m'.tup,outP o,()))∧Bh4 b m s bud e m' o:=by
 have hcc:=Aj hw.code;have hf:=hm.fit hw;obtain⟨x,hrd,hx1,hx2⟩:=Aet hw.small hw.code hs;have hcap:((decide ((0:Int)≤(b.B0.length:Int))&&decide ((b.B0.length:Int)≤(b.B0.length:Int)))&&decide ((b.B0.length:Int)≤2147483648))=B:=by simp only[e_,t_];omega
 unfold HZ;refine N hrd (aD hcap (aD hcap (aD hcap (aD hcap ?_))));refine N (Da m.J1 hf.co) (N (Da m.U0 hf.be) (N (Da m.B0 hf.ca) (N (Da m.C3 hf.lo) ?_)));have hxx:(Ee b s==0)=B→InOK b x:=λh=>hx2 (eq_of_beq h);have hr0:PR b (pk0 b m bud):=⟨T_,T_,T_,T_⟩;have hrun:=Bwl hw hxx (t:=pk0 b m bud) hm hr0 ⟨rfl,hb⟩;refine Sat.bindS (Q:=λy=>∃t',y=(((),(),(),()),(Mch.none.tup,outP Avr,t'.tup b x (Ee b s==0),()))∧RunR b x (Ee b s==0) (pk0 b m bud) t') ?_ λy8 h8=>?_
 ·refine Sat.bindS hrun λy6 h6=>?_;obtain⟨t',e | e,h⟩:=h6
  ·subst e;exact aC ⟨t',rfl,h⟩
  ·subst e;exact aC ⟨t',rfl,h⟩
 obtain⟨t',rfl,hR⟩:=h8;have hxo:(Ee b s=0∧InOK b x)∨(Ee b s≠0∧x=Inp.none):=by
  by_cases h:Ee b s=0
  ·exact .inl ⟨h,hx2 h⟩
  ·exact .inr ⟨h,hx1 h⟩
 refine Sat.bic (λq=>?_) λq=>?_
 ·have q:(t'.e !=0)=B:=q;have q:t'.e≠0:=by simpa using q
  exact aC ⟨t'.e,{ Mch.none with B1:=t'.m.B1 },Avr,rfl,x,t',hxo,hrd,hR,rfl,λh=>absurd h q,λ_=>⟨rfl,rfl⟩⟩
 ·have q:(t'.e !=0)=A:=q;have q:t'.e=0:=by simpa using q
  exact aC ⟨0,t'.m,t'.out,rfl,x,t',hxo,hrd,hR,q.symm,λ_=>⟨rfl,rfl⟩,λh=>absurd rfl h⟩
end
inductive Runs(b:Bldg):Mch→List ByteArray→Mch→List Outputs→Prop
 |nil (m:Mch):Runs b m [] m []
 |cons {m m1 m2:Mch}{s:ByteArray}{fs:List ByteArray}{o:Outputs}{os:List Outputs}(h:HZ b.C0 b.F0 b.H0 b.M0 b.K0 b.L0 b.N0 b.B0 m.E0.G0 m.E0.O0 m.E0.J0 m.E0.A0 m.B1.h0 m.B1.h1 m.B1.sel m.J1 m.U0 m.B0 m.C3 m.B2 m.Y2 m.Z3 m.H3 m.R2 s 1048576=some (((),(),0,()),(m1.tup,outP o,()))) (h2:Runs b m1 fs m2 os):Runs b m (s::fs) m2 (o::os)
def Runs.app{m1 m2 m3:Mch}{f g:List ByteArray}{x y:List Outputs}(h:Runs b m1 f m2 x)(k:Runs b m2 g m3 y):Runs b m1 (f++g) m3 (x++y):=by
 induction h with
 |nil m=>exact k
 |cons h _ ih=>exact .cons h (ih k)
def Runs.len{m1 m2:Mch}{f:List ByteArray}{x:List Outputs}(h:Runs b m1 f m2 x):x.length=f.length:=by
 induction h with
 |nil m=>rfl
 |cons _ _ ih=>rw[C_,C_,ih]
section
variable{b:Bldg}(hw:BW b)
include hw
theorem Bla(hm:PM b m)(hs:Fr b s):∃m' o,HZ b.C0 b.F0 b.H0 b.M0 b.K0 b.L0 b.N0 b.B0 m.E0.G0 m.E0.O0 m.E0.J0 m.E0.A0 m.B1.h0 m.B1.h1 m.B1.sel m.J1 m.U0 m.B0 m.C3 m.B2 m.Y2 m.Z3 m.H3 m.R2 s 1048576=C (((),(),0,()),(m'.tup,outP o,()))∧PM b m'∧o.B0.length=b.B0.length∧Bh4 b m s 1048576 0 m' o:=by
 obtain⟨y,h,e,m',o,rfl,hR⟩:=Btt hw hm hs (bud:=1048576) τ;have hR':=hR;obtain⟨x,t',_,_,hr,he,h0,h1⟩:=hR;rcases hr.cases hw ⟨rfl,show(0:Int)≤1048576 by decide,show(1048576:Int)<9223372036854775808 by decide⟩with⟨k1,k2,k3,_⟩ | ⟨_,k2⟩
 ·rw[k1]at he;subst he;obtain⟨rfl,rfl⟩:=h0 rfl;exact⟨_,_,h,k2,k3,hR'⟩
 ·exact absurd (show(1048576:Int)<300000 from k2) τ
end
def Avi{b:Bldg}:∀{l:List J}(n:E),(∀r∈l,Tf b r)→(Ai n l).G0=n.G0∧(Ai n l).J0=n.J0
 |[],_,_=>⟨rfl,rfl⟩
 |r::l,n,h=>by obtain⟨e1,e2⟩:=Avi (l:=l) (Am n r) λr hr=>h r (r_ _ hr);obtain⟨i,_,rfl⟩:=h r (q_ ..);exact⟨e1,e2⟩
structure TickF(b:Bldg)(m:Mch)(x:Inp)(g:Bool)(m':Mch)(o:Outputs)(l1 l2:List Record)(u:Mch)(vs:List View)(X:Rnd):Prop where
 fl:∀r∈l1,Tf b r
 op:(g=false∧l2=[])∨(g=true∧∃(i:Nat) (cm:List Bool) (fr:Bool),x.car=(i:Int)∧i<b.B0.length∧cm.length=b.B0.length∧l2=Iw b (Ai m.E0 l1) x.kind i cm fr)
 pu:PM b u
 iu:u.E0=Ai (Ai m.E0 l1) l2
 va:VA b u.E0 g vs
 hX:X=EA b u.E0 u.B2 vs u.Y2 x.press g
 rg:Rg b u.E0 X
 img:m'.E0=X.img
 pm:PM b m'
 oc:o.B0.length=b.B0.length
 cars:∀i,i<b.B0.length→∃c d,An5 X i c d∧FinO m'.E0 i d (o.B0.getD i AB)
 lu:o.Y3=(ofC m'.E0.A0 (0,0)).1
 ld:o.N3=(ofC m'.E0.A0 (0,0)).2
 bad:o.X5=!g
 served:(o.X2,o.L2)=Gj X.recs (0,0)
 full:o.L0=!isZ X.ref
 free:g=true→∃(i:Nat) (cm:List Bool) (fr:Bool),i<b.B0.length∧l2=Iw b (Ai m.E0 l1) x.kind i cm fr∧CY (Ai m.E0 l1).G0 (Ai m.E0 l1).O0 (Ai m.E0 l1).J0 (Ai m.E0 l1).A0=some ((fr,()),())∧x.car=(i:Int)∧cm.length=b.B0.length∧∀j,j<b.B0.length→cm.getD j false=true→(DS (phA m.E0 j)=true∧(m'.J1.getD j Fy).D1=true)∨(ZX (phA m.E0 j)=true∧(x.cars.getD j OW).Y1=true∧(x.cars.getD j OW).L1=2)
def TickF.of(hw:BW b){t1 t2 t3 t4 t':Pk}{l1 l2:List J}{vs:List View}(hxl:g=B→x.cars.length=b.B0.length)(f1:FixR (pk0 b m bud) t1)(hl1:∀r∈l1,Tf b r)(o2:t2.out={ t1.out with B0:=t2.out.B0 }∧(g=B→∀j,j<b.B0.length→DS (D t1.m.E0 j)=B→DC t2 j))(a2:Al b t1 t2 l1)(hop:(g=A∧t3=t2∧l2=[])∨(g=B∧Opr b x g t2 t3 l2))(a3:Al b t2 t3 l2)(hd:Dsp b x g t3 t4 vs)(a4:Al b t3 t4 (Qy b x g t3 vs).recs)(hf:Fin b g t4 t'):TickF b m x g t'.m t'.out l1 l2 t3.m vs (Qy b x g t3 vs):=by
 have i1:t1.m.E0=m.E0:=f1.im;have i2:t2.m.E0=Ai m.E0 l1:=by rw[a2.im,i1]
 have out1:t2.out={ (pk0 b m bud).out with B0:=t2.out.B0 }:=by rw[o2.1,f1.out]
 have out3:∃s,t3.out={ t2.out with U5:=s }:=by
  rcases hop with⟨_,rfl,_⟩ | ⟨_,h⟩
  ·exact⟨t3.out.U5,rfl⟩
  ·obtain⟨_,_,_,_,_,_,_,e,_⟩:=h.how;exact⟨_,e⟩
 obtain⟨s,out3⟩:=out3;refine⟨hl1,?_,a3.m,by rw[a3.im,i2],hd.va,rfl,hd.rg,by rw[hf.im,a4.im,hd.rg.img],hf.m,hf.oc,λi hi=>?_,?_,?_,?_,?_,?_,λhg=>?_⟩
 ·rcases hop with⟨h1,_,h2⟩ | ⟨h1,h⟩
  ·exact .inl ⟨h1,h2⟩
  ·obtain⟨i,cm,fr,h2,h3,h4,h5,_⟩:=h.how;exact .inr ⟨h1,i,cm,fr,h2,h3,h4,by rw[← i2];exact h5⟩
 ·refine⟨_,_,hd.cars i hi,?_⟩;rw[hf.im];exact hf.cars i hi
 ·rw[hf.out,hf.im]
 ·rw[hf.out,hf.im]
 ·rw[hf.out]
 ·rw[hf.out];show(t4.out.X2,t4.out.L2)=_;rw[hd.out,out3,out1];rfl
 ·rw[hf.out];show t4.out.L0=_;rw[hd.out]
 ·rcases hop with⟨h1,_⟩ | ⟨_,h⟩
  ·rw[hg]at h1;cases h1
  ·obtain⟨i,cm,fr,h2,h3,h4,h5,_,h7,h8⟩:=h.how;rw[i2]at h5 h8;refine⟨i,cm,fr,h3,h5,h8,h2,h4,λj hj hc=>?_⟩;obtain⟨_,e,cm',rfl,_,hp⟩:=Bal hw (x:=x) (g:=g) a2.m (hxl hg);rw[h7]at e;have e:cm=cm':=(Prod.mk.inj (Prod.mk.inj (H_ e)).1).1;have hph:D t2.m.E0 j=D m.E0 j:=by rw[i2];unfold D;rw[(Avi m.E0 hl1).1]
   have hq:=hp j hj (by rw[← e];exact hc);unfold UY at hq;rw[hph]at hq;rcases hq with⟨q1,q2⟩ | q
   ·refine .inl ⟨q1,?_⟩
    have:=o2.2 hg j hj (by rw[i1];exact q1) q2
    rw[hf.con,a4.con,a3.con];exact this
   ·exact .inr q
def RunR.fact(hw:BW b)(hxl:g=B→x.cars.length=b.B0.length){t':Pk}(h:RunR b x g (pk0 b m bud) t')(h0:t'.e=0):∃l1 l2 u vs X,TickF b m x g t'.m t'.out l1 l2 u vs X:=by
 have no:∀{u v:Pk}{l:List J},De b u v l→v.e=0→False:=λd e=>by have:=d.e;omega
 obtain⟨t1,t2,l1,m1,r1,f1,hl1,hn1,o2,⟨d,rfl⟩ | ⟨a2,t3,l2,hop,h⟩⟩:=h
 ·exact(no d h0).elim
 rcases h with⟨d,rfl⟩ | ⟨a3,t4,vs,hd,h⟩
 ·exact(no d h0).elim
 rcases h with⟨h8,rfl⟩ | ⟨_,hf⟩
 ·omega
 rcases hd.res with a4 | d
 ·exact⟨l1,l2,t3.m,vs,_,.of hw hxl f1 hl1 o2 a2 hop a3 hd a4 hf⟩
 ·have:=hf.e
  exact(no d ω).elim
def Bdr(m:E)(h:r.Q0≠4∧r.Q0≠5∧r.Q0≠6):(Am m r).G0=m.G0∧(Am m r).O0=m.O0∧(Am m r).J0=m.J0:=by unfold Am;rw[Ao h.1,Ao h.2.1,Ao h.2.2];simp only[c_];cases DR r.D0 r.I0 m.A0 0==-1<;>cases r.Q0==1<;>cases r.Q0==2<;>cases r.Q0==3<;>cases r.Q0==7<;>exact⟨rfl,rfl,rfl⟩
def Yv:∀{l:List J}(m:E),(∀r∈l,r.Q0≠4∧r.Q0≠5∧r.Q0≠6)→(Ai m l).G0=m.G0∧(Ai m l).O0=m.O0∧(Ai m l).J0=m.J0
 |[],_,_=>⟨rfl,rfl,rfl⟩
 |r::t,m,h=>by obtain⟨h1,h2,h3⟩:=Bdr m (h r (q_ ..));obtain⟨k1,k2,k3⟩:=Yv (Am m r) λx hx=>h x (r_ _ hx);exact⟨k1.trans h1,k2.trans h2,k3.trans h3⟩
def Ae3{α:Type}(get:E→α)(p:J→Prop)(v:J→α)(I:E→Prop):∀{l:List J}{m:E},(∀r∈l,∀n,I n→I (Am n r)∧((p r∧get (Am n r)=v r)∨(¬p r∧get (Am n r)=get n)))→I m→(get (Ai m l)=get m∧∀r∈l,¬p r)∨∃r∈l,p r∧get (Ai m l)=v r
 |[],_,_,_=>.inl ⟨rfl,λr h=>by cases h⟩
 |r::l,m,h,hm=>by
  obtain⟨h1,h2⟩:=h r (q_ ..) m hm;rcases Ae3 get p v I (l:=l) (λs hs=>h s (r_ _ hs)) h1 with⟨e,n⟩ | ⟨s,hs,e⟩
  ·rcases h2 with⟨q,e2⟩ | ⟨q,e2⟩
   ·exact .inr ⟨r,q_ ..,q,e.trans e2⟩
   ·refine .inl ⟨e.trans e2,λs hs=>?_⟩;rcases s_.1 hs with rfl | hs
    ·exact q
    ·exact n s hs
  ·exact .inr ⟨s,r_ _ hs,e⟩
def Img.fits(b:Bldg)(m:E):Prop:=m.G0.length=b.B0.length∧m.O0.length=b.B0.length
def ImgOK.fits{m:E}(h:ImgOK b m):m.fits b:=⟨h.lp,h.lf⟩
def Bd3(hr:JA b r){n:E}(hn:n.fits b){c:Nat}(hc:c<b.B0.length):(Am n r).fits b∧D (Am n r) c=(bif r.Q0==4&&r.R0==(c:Int)then r.S1 else D n c)∧flA (Am n r) c=(bif r.Q0==5&&r.R0==(c:Int)then r.S1==1 else flA n c):=by
 obtain⟨i,k,v,hi,rfl,h⟩:=hr;have hk:k=4∨k=5∨k=6:=ω;rcases hk with rfl | rfl | rfl
 ·refine⟨⟨by show(n.G0.set i v).length=_;rw[y_];exact hn.1,hn.2⟩,?_,rfl⟩;show(n.G0.set i v).getD c 0=bif(i:Int)==(c:Int)then v else n.G0.getD c 0;by_cases e:i=c
  ·subst e;rw[l_,d_,Bb _ _ (by rw[hn.1];exact hc)]
  ·rw[Ao (ω:¬(i:Int)=(c:Int)),c_,Cb _ _ e]
 ·refine⟨⟨hn.1,by show(n.O0.set i (v==1)).length=_;rw[y_];exact hn.2⟩,rfl,?_⟩;show(n.O0.set i (v==1)).getD c A=bif(i:Int)==(c:Int)then v==1 else n.O0.getD c A;by_cases e:i=c
  ·subst e;rw[l_,d_,Bb _ _ (by rw[hn.2];exact hc)]
  ·rw[Ao (ω:¬(i:Int)=(c:Int)),c_,Cb _ _ e]
 ·exact⟨hn,rfl,rfl⟩
section
variable{b:Bldg}{l:List J}(hl:∀r∈l,JA b r){m:E}(hm:m.fits b){c:Nat}(hc:c<b.B0.length)
include hl hm hc
theorem Ac1:(D (Ai m l) c=D m c∧∀r∈l,¬(r.Q0=4∧r.R0=(c:Int)))∨∃r∈l,(r.Q0=4∧r.R0=(c:Int))∧D (Ai m l) c=r.S1:=
 Ae3 (λn=>D n c) (λr=>r.Q0=4∧r.R0=(c:Int)) (λr=>r.S1) (λn=>n.fits b) (λr hr n hn=>by
  obtain⟨h1,h2,_⟩:=Bd3 (hl r hr) hn hc;refine⟨h1,?_⟩;by_cases q:r.Q0=4∧r.R0=(c:Int)
  ·exact .inl ⟨q,by show D (Am n r) c=_;rw[h2,q.1,q.2,l_,l_];rfl⟩
  ·refine .inr ⟨q,?_⟩;show D (Am n r) c=_;rw[h2,show(r.Q0==4&&r.R0==(c:Int))=A by rw[Bool.and_eq_false_iff,beq_eq_false_iff_ne,beq_eq_false_iff_ne];omega];rfl) hm
omit hc in
theorem Bex:(Ai m l).fits b:=by
 induction l generalizing m with
 |nil=>exact hm
 |cons r t ih=>
  refine ih (m:=Am m r) (λx hx=>hl x (r_ _ hx)) ?_;obtain⟨i,k,v,hi,rfl,h⟩:=hl r (q_ ..);have hk:k=4∨k=5∨k=6:=ω;rcases hk with rfl | rfl | rfl
  ·exact⟨by show(m.G0.set i v).length=_;rw[y_];exact hm.1,hm.2⟩
  ·exact⟨hm.1,by show(m.O0.set i (v==1)).length=_;rw[y_];exact hm.2⟩
  ·exact hm
end
def Ba7(h:Tf b r):JA b r:=by obtain⟨i,hi,rfl⟩:=h;exact⟨i,5,1,hi,rfl,.inr ⟨.inl rfl,τ⟩⟩
def Acz(m:E)(kind:Int)(hi:i<b.B0.length)(cm:List Bool)(fr:Bool):∀r∈Iw b m kind i cm fr,JA b r:=λr hr=>by
 unfold Iw at hr;rcases n_.1 hr with h | h
 ·exact(Zl m kind hi _ fr).1 r h
 ·exact Agm _ _ _ (A_ _) r h
def ZZ(a z:Int):Prop:=(a=0∧z=1)∨(a=1∧z=0)∨(a=1∧z=2)∨(a=2∧z=0)∨(a=2∧z=3)∨(a=3∧z=2)∨(a=3∧z=4)∨(a=4∧z=2)
def Aai{m:E}{kind:Int}{calm fr:Bool}(h:r∈(Md m kind i calm fr).1):r.R0=(i:Int)∧kind≠0∧((r.Q0=4∧ZZ (D m i) r.S1∧(r.S1=2→D m i=3∧calm=B))∨r.Q0=6∨(r.Q0=5∧kind=8)):=by
 unfold Md NS at h;have ite:∀(c:Bool) {p:Prop}{x y:List J×Int},r∈(bif c then x else y).1→(c=B→r∈x.1→p)→(c=A→r∈y.1→p)→p:=λc p x y h h1 h2=>by
  cases c
  ·exact h2 rfl h
  ·exact h1 rfl h
 have one:∀{q:J}{e:Int},r∈([q],e).1→r=q:=λh=>E_.1 h;refine ite _ h (λ_ h=>by cases h) λh0 h=>?_;have h0:kind≠0:=by simpa using h0
 have two:∀{c d:Bool},(c&&d)=B→c=B∧d=B:=λ{c d} h=>by simpa using h
 refine ite _ h (λq h=>ite _ h (λ_ h=>?_) λ_ h=>by cases h) λ_ h=>?_
 ·obtain⟨_,q2⟩:=two q;rw[one h];exact⟨rfl,h0,.inl ⟨rfl,.inl ⟨eq_of_beq q2,rfl⟩,λh=>absurd h (show ¬(1:Int)=2 by decide)⟩⟩
 refine ite _ h (λq h=>?_) λ_ h=>?_
 ·obtain⟨_,q2⟩:=two q;rw[one h];exact⟨rfl,h0,.inl ⟨rfl,.inr (.inl ⟨eq_of_beq q2,rfl⟩),λh=>absurd h (show ¬(0:Int)=2 by decide)⟩⟩
 refine ite _ h (λq h=>?_) λ_ h=>?_
 ·obtain⟨_,q2⟩:=two q;rw[one h];exact⟨rfl,h0,.inl ⟨rfl,.inr (.inr (.inr (.inl ⟨eq_of_beq q2,rfl⟩))),λh=>absurd h (show ¬(0:Int)=2 by decide)⟩⟩
 refine ite _ h (λq h=>?_) λ_ h=>?_
 ·rw[one h];exact⟨rfl,h0,.inr (.inl rfl)⟩
 refine ite _ h (λq h=>?_) λ_ h=>?_
 ·obtain⟨_,q2⟩:=two q;rw[one h];exact⟨rfl,h0,.inl ⟨rfl,.inr (.inr (.inr (.inr (.inl ⟨eq_of_beq q2,rfl⟩)))),λh=>absurd h (show ¬(3:Int)=2 by decide)⟩⟩
 refine ite _ h (λq h=>ite _ h (λhc h=>?_) λ_ h=>by cases h) λ_ h=>?_
 ·obtain⟨_,q2⟩:=two q;rw[one h];exact⟨rfl,h0,.inl ⟨rfl,.inr (.inr (.inr (.inr (.inr (.inl ⟨eq_of_beq q2,rfl⟩))))),λ_=>⟨eq_of_beq q2,hc⟩⟩⟩
 refine ite _ h (λq h=>ite _ h (λ_ h=>?_) λ_ h=>by cases h) λ_ h=>?_
 ·obtain⟨_,q2⟩:=two q;rw[one h];exact⟨rfl,h0,.inl ⟨rfl,.inr (.inr (.inr (.inr (.inr (.inr (.inl ⟨eq_of_beq q2,rfl⟩)))))),λh=>absurd h (show ¬(4:Int)=2 by decide)⟩⟩
 refine ite _ h (λq h=>ite _ h (λ_ h=>?_) λ_ h=>by cases h) λ_ h=>?_
 ·rw[one h];exact⟨rfl,h0,.inr (.inl rfl)⟩
 refine ite _ h (λq h=>?_) λ_ h=>by cases h
 obtain⟨q1,_⟩:=two q;rw[one h];exact⟨rfl,h0,.inr (.inr ⟨rfl,eq_of_beq q1⟩)⟩
def Abw{m:E}{calm:List Bool}:∀{n:Nat}{r:J},r∈DO m calm n→∃i:Nat,i<n∧r.R0=(i:Int)∧OD m calm i=B∧((r.Q0=4∧r.S1=2)∨r.Q0=6∨(r.Q0=5∧r.S1=0))∧⟨4,0,0,(i:Int),2⟩∈DO m calm n
 |0,_,h=>by cases h
 |n+1,r,h=>by
  rcases n_.1 h with h | h
  ·obtain⟨i,h1,h2,h3,h4,h5⟩:=Abw h;exact⟨i,ω,h2,h3,h4,aG _ h5⟩
  ·unfold Ox at h;cases hg:OD m calm n with
   |false=>rw[hg]at h;cases h
   |true=>
    have hi:(⟨4,0,0,(n:Int),2⟩:J)∈DO m calm (n+1):=List.mem_append_right _ (by unfold Ox;rw[hg,d_];exact aG _ (aG _ (E_.2 rfl)));rw[hg,d_]at h;refine⟨n,ω,?_⟩;rcases n_.1 h with h | h
    ·rcases n_.1 h with h | h
     ·rw[E_.1 h];exact⟨rfl,hg,.inl ⟨rfl,rfl⟩,hi⟩
     ·cases hl:HP m n with
      |false=>rw[hl]at h;cases h
      |true=>rw[hl]at h;rw[E_.1 h];exact⟨rfl,hg,.inr (.inl rfl),hi⟩
    ·cases hl:flA m n with
     |false=>rw[hl]at h;cases h
     |true=>rw[hl]at h;rw[E_.1 h];exact⟨rfl,hg,.inr (.inr ⟨rfl,rfl⟩),hi⟩
def Bkm{m:E}{calm:List Bool}(h:OD m calm i=B):calm.getD i A=B∧(D m i=1∨D m i=4)∧Oz m i=A:=by unfold OD HP at h;simp only[e_,S_,U_,a4_]at h;exact⟨h.1,ω,h.2.2⟩
section
variable{b:Bldg}{m:E}(hm:m.fits b){kind:Int}{i:Nat}(hi:i<b.B0.length){cm:List Bool}(hcm:cm.length=b.B0.length){fr:Bool}{c:Nat}(hc:c<b.B0.length)
include hm hi hcm hc
theorem Bf3(hr:r∈Iw b m kind i cm fr)(hrc:r.R0=(c:Int)):(r∈(Md m kind i (cm.getD i A) fr).1∧c=i∧kind≠0)∨(cm.getD c A=B∧(kind≠0→c≠i)∧(D m c=1∨D m c=4)∧Oz m c=A∧((r.Q0=4∧r.S1=2)∨r.Q0=6∨(r.Q0=5∧r.S1=0))∧(⟨4,0,0,(c:Int),2⟩:J)∈Iw b m kind i cm fr):=by
 have ok1:=(Zl (b:=b) m kind hi (cm.getD i A) fr).1;have hent:(Ai m (Md m kind i (cm.getD i A) fr).1).A0=m.A0:=NR _ λr hr=>by obtain⟨j,k,v,_,rfl,h⟩:=ok1 r hr;show k=4∨k=5∨k=6;omega
 unfold Iw at hr⊢;rcases n_.1 hr with h | h
 ·have h1:=Aai h;exact .inl ⟨h,ω,h1.2.1⟩
 ·obtain⟨j,hj,h2,hg,h3,h4⟩:=Abw h;obtain rfl:j=c:=ω;obtain⟨g1,g2,g3⟩:=Bkm hg;have hne:kind≠0→j≠i:=λhk e=>by
   subst e;rw[GT hk,d_,Bb _ _ ω]at g1;cases g1
  have hcmj:cm.getD j A=B:=by
   by_cases hk:kind=0
   ·subst hk;exact g1
   ·rw[GT hk,d_,Cb _ _ (e9_ (hne hk))]at g1;exact g1
  refine .inr ⟨hcmj,hne,?_,?_,h3,List.mem_append_right _ h4⟩
  ·rcases Ac1 ok1 hm hj with⟨e,_⟩ | ⟨r',hr',⟨_,hc'⟩,_⟩
   ·rw[e]at g2;exact g2
   ·have h5:=Aai hr';exact absurd (ω:j=i) (hne h5.2.1)
  ·unfold Oz at g3⊢;rw[hent]at g3;exact g3
theorem Bb2:D (Ai m (Iw b m kind i cm fr)) c=D m c∨ZZ (D m c) (D (Ai m (Iw b m kind i cm fr)) c):=by
 rcases Ac1 (Acz m kind hi cm fr) hm hc with⟨e,_⟩ | ⟨r,hr,⟨hk,hrc⟩,e⟩
 ·exact .inl e
 ·rw[e];right;rcases Bf3 hm hi hcm hc hr hrc with⟨h,rfl,_⟩ | ⟨_,_,h,_,h2,_⟩
  ·rcases(Aai h).2.2 with⟨_,h,_⟩ | h | ⟨h,_⟩
   ·exact h
   ·omega
   ·omega
  ·unfold ZZ;omega
end
end Go.Ovl
