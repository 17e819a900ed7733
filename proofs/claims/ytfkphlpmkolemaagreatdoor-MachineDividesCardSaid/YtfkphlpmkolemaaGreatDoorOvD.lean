/- Layer 9: the bytes of a record, and the records of bytes. -/
import Derived.Test.YtfkphlpmkolemaaGreatDoorOvC
import Derived.Test.YtfkphlpmkolemaaGreatDoorOvB
set_option linter.all false
open Go.Ovl renaming Bldg->B,Sto->C,Record->E,Img->J
open Bool renaming false->D,true->I
open Option renaming some->H
open Go.Ovl.Sto renaming no->L,cur->aC
open Array renaming mk->N
open ByteArray renaming mk->O
open Go.Ovl.Img renaming none->aA
open Go.Ovl.Record renaming mk->aB
open Go.IntKind renaming i64->aD,u8->aF
open List renaming replicate->aE
namespace Go.Ovl
open Go Go.Ab
set_option maxRecDepth 100000
variable{b:B}{s:C}{m:J}{r:E}{bud room:Int}{l t:List UInt8}
def u8n(n:Int):UInt8:=UInt8.ofNat n.toNat
def SC{n:Int}(h:0≤n∧n<256):((u8n n).toNat:Int)=n:=by
 unfold u8n;rw[UInt8.toNat_ofNat'];omega
def txt(l:List UInt8):ByteArray:=⟨l.toArray⟩
def FP(l:List UInt8):bl (txt l)=l:=Bq7 l
def Bp2(s:ByteArray):txt (bl s)=s:=Pe (FP _)
def Agd(a c:List UInt8):txt a++txt c=txt (a++c):=Pe (by rw[KL,FP,FP,FP])
def Ft(l:List UInt8):(txt l).size=l.length:=by rw[← GD,FP]
def Abf(l:List Int):GU l=txt (l.map u8n):=rfl
def Aa9(r:E):List UInt8:=[u8n r.U0,u8n r.E0,u8n r.J0,u8n (r.S0+2),u8n r.E2]
def Cl(r:E):List UInt8:=Aa9 r++[u8n ((Sl (Aa9 r):Nat):Int)]
def HF(r:E):(Cl r).length=6:=rfl
def QA(hb:b.small){f d:Int}(h:Aj b f d=I):(0≤f∧f<100)∧(1≤d∧d≤2):=by
 have lo:=hb.lo;have hi:=hb.hi;unfold Aj Pg at h;simp only[f_,b4_,Z_,Am]at h;omega
structure RecOK(r:Record):Prop where
 k:1≤r.U0∧r.U0≤7
 f:0≤r.E0∧r.E0<100
 d:0≤r.J0∧r.J0<100
 c:-2≤r.S0∧r.S0<100
 v:0≤r.E2∧r.E2<256
def UW(hb:b.small)(hc:b.B0.length≤100)(h:Ay b r=I):RecOK r:=by
 have hk:=(ZH h).2
 have hcar:(r.U0=4∨r.U0=5∨r.U0=6)→r.E0=0∧r.J0=0:=λhq=>by
  unfold Ay Tb at h;rcases hq with q | q | q
  all_goals
   rw[q]at h;simp only[show((4:Int)==1)=D from rfl,show((4:Int)==2)=D from rfl,show((4:Int)==3)=D from rfl,show((5:Int)==1)=D from rfl,show((5:Int)==2)=D from rfl,show((5:Int)==3)=D from rfl,show((5:Int)==4)=D from rfl,show((6:Int)==1)=D from rfl,show((6:Int)==2)=D from rfl,show((6:Int)==3)=D from rfl,show((6:Int)==4)=D from rfl,show((6:Int)==5)=D from rfl,k_,d_,c_,f_,Z_]at h
   exact h.2.1.2
 rcases hk with h1 | h1 | h1 | h1 | h1 | h1 | h1
 ·have:=QA hb h1.2.1
  exact⟨ω,this.1,ω,ω,ω⟩
 ·have:=QA hb h1.2.1
  exact⟨ω,this.1,ω,ω,ω⟩
 ·have:=QA hb h1.2.1
  exact⟨ω,this.1,ω,ω,ω⟩
 ·have:=hcar ω
  exact⟨ω,ω,ω,ω,ω⟩
 ·have:=hcar ω
  exact⟨ω,ω,ω,ω,ω⟩
 ·have:=hcar ω
  exact⟨ω,ω,ω,ω,ω⟩
 ·have:=QA hb h1.2.1
  exact⟨ω,this.1,ω,ω,ω⟩
def Bgc(h:RecOK r):GU [aF.wrap r.U0,aF.wrap r.E0,aF.wrap r.J0,aF.wrap (IntKind.wrap aD (r.S0+2)),aF.wrap r.E2]=txt (Aa9 r):=by
 obtain⟨h1,h2,h3,h4,h5⟩:=h;rw[Qh (n:=r.U0) ω ω,Qh (n:=r.E0) ω ω,Qh (n:=r.J0) ω ω,Ac (n:=r.S0+2) ω ω,Qh (n:=r.S0+2) ω ω,Qh (n:=r.E2) ω ω]
 rfl
def Hg(b:B)(r:E):ByteArray:=bif Ay b r then txt (Cl r)else txt []
section
variable{b:B}(hb:b.small)(hc:b.B0.length≤100)
include hb hc
theorem Tu(r:E):Iw b.C0 b.F0 b.I0 b.N0 b.K0 b.M0 b.O0 b.B0 r.U0 r.E0 r.J0 r.S0 r.E2=H ((Hg b r,(bif Ay b r then 0 else 1),()),()):=by
 unfold Iw Hg;rw[Uq hb hc r];simp only[a_];cases hv:Ay b r with
 |false=>rfl
 |true=>
  have h:=UW hb hc hv;simp only[m_,c_,d_,Bgc h];rw[Anv (by rw[Ft];show 5≤1000000;omega)]
  simp only[a_,FP,Abf];rw[At (by rw[Ft,Ft];show 5+1≤4611686018427387904;omega),Agd]
  rfl
theorem Aiw(r:E):Ou b.C0 b.F0 b.I0 b.N0 b.K0 b.M0 b.O0 b.B0 r.U0 r.E0 r.J0 r.S0 r.E2=H ((Hg b r,(bif Ay b r then 0 else 1),()),()):=by
 unfold Ou Hg;rw[Ame hb hc r];simp only[a_];cases hv:Ay b r with
 |false=>rfl
 |true=>
  have h:=UW hb hc hv;simp only[m_,c_,d_,Bgc h];rw[Aob (by rw[Ft];show 5≤1000000;omega)]
  simp only[a_,FP,Abf];rw[At (by rw[Ft,Ft];show 5+1≤4611686018427387904;omega),Agd]
  rfl
end
def fld(l:List UInt8)(i:Nat):Int:=((l.getD i 0).toNat:Int)
def As4(l:List UInt8):E:=⟨fld l 0,fld l 1,fld l 2,fld l 3-2,fld l 4⟩
def Acb(b:B)(l:List UInt8):Option E:=
 bif l.length==6&&(((((Sl (l.take 5):Nat):Int))==fld l 5)&&Ay b (As4 l))then H (As4 l)else none
def Axy(h:Acb b l=H r):Ay b r=I:=by
 unfold Acb at h;cases hq:(l.length==6&&(((((Sl (l.take 5):Nat):Int))==fld l 5)&&Ay b (As4 l)))with
 |false=>rw[hq]at h;cases h
 |true=>
  rw[hq]at h;cases h;rw[f_,f_]at hq;exact hq.2.2
def Bgt(hb:b.small)(hc:b.B0.length≤100)(h:Ay b r=I):Acb b (Cl r)=H r:=by
 obtain⟨h1,h2,h3,h4,h5⟩:=UW hb hc h;have hs:=Aqc (Aa9 r)
 have e:As4 (Cl r)=r:=by
  show aB ((u8n r.U0).toNat:Int) ((u8n r.E0).toNat:Int) ((u8n r.J0).toNat:Int) (((u8n (r.S0+2)).toNat:Int)-2) ((u8n r.E2).toNat:Int)=r;rw[SC ω,SC ω,SC ω,SC ω,SC ω,show r.S0+2-2=r.S0 by omega]
 have e5:fld (Cl r) 5=((Sl (Aa9 r):Nat):Int):=by
  show((u8n ((Sl (Aa9 r):Nat):Int)).toNat:Int)=_;exact SC ω
 unfold Acb;rw[e,h,e5,show(Cl r).take 5=Aa9 r from rfl,HF]
 simp
def ME(b:B):Nat→List UInt8→List E
 |0,_=>[]
 |k+1,l=>if 6≤l.length then match Acb b (l.take 6)with | some r=>r::ME b k (l.drop 6) | none=>[]else []
def Ny(b:B)(s:ByteArray):List E:=ME b s.size (bl s)
def Yi(b:B):∀(k:Nat) (l:List UInt8),6*(ME b k l).length≤l.length
 |0,_=>by simp[ME]
 |k+1,l=>by
  simp only[ME];split
  ·split
   ·rename_i h _ r _
    have:=Yi b k (l.drop 6)
    rw[V_]at this;rw[x_];omega
   ·simp
  ·simp
def US(b:B):∀(k:Nat) (l:List UInt8),∀r∈ME b k l,Ay b r=I
 |0,_,_,h=>by simp[ME]at h
 |k+1,l,r,h=>by
  simp only[ME]at h;split at h
  ·split at h
   ·rename_i _ _ r' hr
    rcases y_.1 h with rfl | h
    ·exact Axy hr
    ·exact US b k _ r h
   ·cases h
  ·cases h
def Amj{b:B}(hb:b.small)(hc:b.B0.length≤100){t:List UInt8}(ht:t.length<6):∀(rs:List E) (k:Nat),rs.length≤k→(∀r∈rs,Ay b r=I)→ME b k (rs.flatMap Cl++t)=rs
 |[],0,_,_=>rfl
 |[],k+1,_,_=>by
  simp only[ME,List.flatMap_nil,a0_];rw[if_neg ω]
 |r::rs,0,h,_=>by simp at h
 |r::rs,k+1,h,hv=>by
  have e1:(r::rs).flatMap Cl++t=Cl r++(rs.flatMap Cl++t):=by rw[a1_,L_]
  have e2:(Cl r++(rs.flatMap Cl++t)).take 6=Cl r:=e6_ (HF r);have e3:(Cl r++(rs.flatMap Cl++t)).drop 6=rs.flatMap Cl++t:=List.drop_left' (HF r);simp only[ME];rw[e1,e2,e3,Bgt hb hc (hv r (M_ ..)),if_pos (by rw[h_,HF];omega),Amj hb hc ht rs k (by simp at h;omega) λx hx=>hv x (O_ _ hx)]
def Kr(l:List UInt8):List Int:=l.map λx=>(x.toNat:Int)
def Att(l:List UInt8):GU (Kr l)=txt l:=by
 rw[Abf];unfold Kr;rw[List.map_map];congr 1
 conv=>rhs;rw[← List.map_id l]
 refine List.map_congr_left λx _=>?_
 show UInt8.ofNat (Int.toNat (x.toNat:Int))=x;rw[j_,UInt8.ofNat_toNat]
def Bcj(l:List UInt8):(Kr l).all (λn=>decide (0≤n)&&decide (n<256))=I:=by
 rw[F_];intro n hn;obtain⟨x,_,rfl⟩:=c1_.1 hn
 have:x.toNat<256:=UInt8.toNat_lt x
 simp only[f_,A_];omega
def Avp(h:l≠[]):Fh (Kr l)=H ((txt l,()),(((),Kr l,()),())):=by
 unfold Fh
 rw[Bcj,Att,show Atl (Kr l)=I by
  cases l with
  |nil=>exact absurd rfl h
  |cons a t=>rfl]
 rfl
def Bak(s:ByteArray)(h:l.length+s.size≤2147483648):DC s (Kr l)=H (((s.size:Int),(),()),(((),Kr (l++bl s),()),())):=by
 unfold DC wsF;rw[show(Kr l).length=l.length from d2_ _,At h]
 unfold Kr bl;rw[List.map_append];rfl
def Agv(b:B)(r:E):(bl (Hg b r)).length≤6:=by
 unfold Hg;cases Ay b r with
 |true=>rw[d_,FP,HF];omega
 |false=>rw[c_,FP];simp
def VX(h:Ay b r=I):Hg b r=txt (Cl r):=by unfold Hg;rw[h];rfl
def Aaf{b:B}:∀{rs:List E},(∀r∈rs,Ay b r=I)→rs.flatMap (λr=>bl (Hg b r))=rs.flatMap Cl
 |[],_=>rfl
 |r::t,h=>by
  rw[a1_,a1_,VX (h r (M_ ..)),FP,Aaf λx hx=>h x (O_ _ hx)]
def YN(rs:List E):(rs.flatMap Cl).length=6*rs.length:=by
 induction rs with
 |nil=>rfl
 |cons r t ih=>rw[a1_,h_,ih,HF,x_];omega
section
variable{b:B}(hb:b.small)(hc:b.B0.length≤100)
include hb hc
theorem Ajs(bud:Int){rs:List E}(hl:rs.length≤1000000)(s t:C):Lr ((bud,(),(),(),(),rs,(rs.length:Int),(0:Int),()),(b.tup,(s.h0,s.h1,s.sel,()),(t.h0,t.h1,t.sel,()),((),[],()),()))=H ((bud,(),(),(),(),()),(b.tup,(s.h0,s.h1,s.sel,()),(t.h0,t.h1,t.sel,()),((),Kr (rs.flatMap λr=>bl (Hg b r)),()),())):=by
 have h:=AR (step:=λx=>letI a:=x.2.1.2.2;letI c:=x.1.2.2.2.2.2;letI d:=x.2.2;letI f:=a.2.2;GL x.1.1 c.1 c.2.1 c.2.2.1 x.2.1.1 x.2.1.2.1 a.1 a.2.1 f.1 f.2.1 f.2.2.1 f.2.2.2.1 d.1.1 d.1.2.1 d.1.2.2.1 d.2.1.1 d.2.1.2.1 d.2.1.2.2.1 d.2.2.1.2.1) rs.length
  (λi (l:List UInt8)=>((bud,(),(),(),(),rs,(rs.length:Int),(i:Int),()),(b.tup,(s.h0,s.h1,s.sel,()),(t.h0,t.h1,t.sel,()),((),Kr l,()),()))) (λi l=>l++bl (Hg b (rs.getD i (aB 0 0 0 0 0)))) (λi l=>l.length≤6*i) (λl=>((bud,(),(),(),(),()),(b.tup,(s.h0,s.h1,s.sel,()),(t.h0,t.h1,t.sel,()),((),Kr l,()),()))) (λi l hi hs=>by
   have he:=Agv b (rs.getD i (aB 0 0 0 0 0));refine⟨?_,by rw[h_];omega⟩
   show GL bud rs (rs.length:Int) (i:Int) b.C0 b.F0 b.I0 b.N0 b.K0 b.M0 b.O0 b.B0 s.h0 s.h1 s.sel t.h0 t.h1 t.sel (Kr l)=_;unfold GL;simp only[b_ (ω:(i:Int)<(rs.length:Int)),Aa (ω:(0:Int)≤(i:Int)) (ω:(i:Int)<(rs.length:Int)),d_,j_,Tu hb hc,a_,Bak (Hg b (rs.getD i (aB 0 0 0 0 0))) (l:=l) (by rw[← GD];omega),CD hi (show rs.length≤AA by unfold AA;omega)]
   rfl) (λl _=>by
   show GL bud rs (rs.length:Int) (rs.length:Int) b.C0 b.F0 b.I0 b.N0 b.K0 b.M0 b.O0 b.B0 s.h0 s.h1 s.sel t.h0 t.h1 t.sel (Kr l)=_;unfold GL;simp only[e_ (C_ (rs.length:Int)),c_]
   rfl) rs.length 0 [] ω (by simp)
 have h':=Ah h.1 ω
 have e:BC (λi l=>l++bl (Hg b (rs.getD i (aB 0 0 0 0 0)))) rs.length 0 []=rs.flatMap λr=>bl (Hg b r):=by
  rw[Hk (λi=>bl (Hg b (rs.getD i (aB 0 0 0 0 0)))),a0_,MD (λr=>bl (Hg b r)) (aB 0 0 0 0 0) rs 0 rs.length ω,R_]
 rw[e]at h';exact h'
end
def Dl(b:B)(s:C)(m:J)(bud:Int):C×Int×Int:=
 bif !(decide (s.ok b.I0))then(L,0,1)else bif decide (bud<0)then(L,0,1)else bif !(m.ok b)then(L,0,1)else
 bif((s.erase b.I0 (1-s.sel) bud).2.2==0)then
  (bif(((s.erase b.I0 (1-s.sel) bud).1.write b.I0 (1-s.sel) (txt ((CH m).flatMap Cl)) (s.erase b.I0 (1-s.sel) bud).2.1).2.2==0)then
   ((s.erase b.I0 (1-s.sel) bud).1.write b.I0 (1-s.sel) (txt ((CH m).flatMap Cl)) (s.erase b.I0 (1-s.sel) bud).2.1).1.choose b.I0 (1-s.sel) ((s.erase b.I0 (1-s.sel) bud).1.write b.I0 (1-s.sel) (txt ((CH m).flatMap Cl)) (s.erase b.I0 (1-s.sel) bud).2.1).2.1
  else(s.erase b.I0 (1-s.sel) bud).1.write b.I0 (1-s.sel) (txt ((CH m).flatMap Cl)) (s.erase b.I0 (1-s.sel) bud).2.1)
 else s.erase b.I0 (1-s.sel) bud
def Aov(room:Int)(s:C)(half bud:Int)(t:C)(hb:bud<9223372036854775808):(s.act room half bud t).2.1<9223372036854775808:=by
 unfold Sto.act;split
 ·show(0:Int)<_;omega
 ·split
  ·show(0:Int)<_;omega
  ·show bud-1<_;omega
def Aia(room:Int)(s:C)(half:Int)(d:ByteArray)(bud:Int)(hb:bud<9223372036854775808):(s.write room half d bud).2.1<9223372036854775808:=by
 unfold Sto.write;split
 ·show(0:Int)<_;omega
 ·split
  ·show(0:Int)<_;omega
  ·split
   ·show(0:Int)<_;omega
   ·show bud-(d.size:Int)<_;omega
def Afi(hb:b.small)(hc:b.B0.length≤100)(s:C)(hf:m.fit)(hbud:bud<9223372036854775808):
  Na b.C0 b.F0 b.I0 b.N0 b.K0 b.M0 b.O0 b.B0 s.h0 s.h1 s.sel m.D0 m.L0 m.H0 m.A0 bud=H (Sto.out (Dl b s m bud)):=by
 have hmx:100000≤maxLen:=by decide
 have hp:=hf.p;have he:=hf.e;unfold Na Dl;rw[Iy,CL hb m ω ω,Adc hb hf]
 simp only[a_];by_cases hs:s.ok b.I0
 ·rw[b_ (show Sto.ok b.I0 ⟨s.h0,s.h1,s.sel⟩from hs)]
  by_cases hb0:bud<0
  ·rw[b_ hb0];rfl
  rw[e_ hb0];cases hok:m.ok b with
  |false=>rfl
  |true=>
   have hm:=Img.ok_iff.1 hok;have hcars:=Ak hm.code;have hlp:=hm.lp;have hsn:Ux b m=CH m:=by unfold Ux;rw[hok];rfl
   have hsl:=Yq m
   have hne:(CH m).flatMap Cl≠[]:=λh0=>by
    have h1:=YN (CH m);rw[h0,hsl,d1_]at h1;omega
   have hloop:=Ajs hb hc bud (rs:=CH m) (by rw[hsl];omega) s L
   rw[Aaf (Sj hm)]at hloop;simp only[Bldg.tup,L,noB]at hloop
   have hsel:aD.wrap (1-s.sel)=1-s.sel:=by
    obtain⟨_,_,_,_,h5⟩:=hs;exact Ac ω ω
   simp only[m_,c_,hsn,hloop,a_,hsel,Atx _ _ _ _ _ _ hbud,Sto.out];have hb1:=Aov b.I0 s (1-s.sel) bud (s.set (1-s.sel) noB) hbud;rw[show s.act b.I0 (1-s.sel) bud (s.set (1-s.sel) noB)=s.erase b.I0 (1-s.sel) bud from rfl]at hb1
   rw[show Sto.mk s.h0 s.h1 s.sel=s from rfl]
   generalize s.erase b.I0 (1-s.sel) bud=r1 at hb1⊢;cases hq:r1.2.2==0 with
   |false=>
    simp only[c_,a_,hq]
   |true=>
    simp only[d_,Avp hne,a_,SI _ _ _ _ _ _ _ hb1,Sto.out];have hb2:=Aia b.I0 r1.1 (1-s.sel) (txt ((CH m).flatMap Cl)) r1.2.1 hb1;rw[show Sto.mk r1.1.h0 r1.1.h1 r1.1.sel=r1.1 from rfl]
    generalize r1.1.write b.I0 (1-s.sel) (txt ((CH m).flatMap Cl)) r1.2.1=r2 at hb2⊢;cases hq2:r2.2.2==0 with
    |false=>simp only[c_]
    |true=>
     simp only[d_,Aos _ _ _ _ _ _ hb2,a_,Sto.out]
 ·rw[e_ (show ¬Sto.ok b.I0 ⟨s.h0,s.h1,s.sel⟩from hs)]
  rfl
def Jd(b:B)(m:J)(r:E):Bool:=r.U0==1&&(!(FG (As r.E0 r.J0) m.A0)&&!(QE b m))
def FH(b:B)(s:C)(m:J)(r:E)(bud:Int):C×Int×Int:=
 bif decide ((6:Int)≤b.I0-(s.cur.size:Int))then s.write b.I0 s.sel (txt (Cl r)) bud else Dl b s (AD m r) bud
def Ve(b:B)(s:C)(m:J)(r:E)(bud:Int):C×J×Int×Int:=
 bif !(m.ok b&&Ay b r)then(L,aA,0,1)else bif !(decide (s.ok b.I0))then(L,aA,0,1)else bif decide (bud<0)then(L,aA,0,1)else
 bif Jd b m r then(L,aA,0,7)else
 bif(FH b s m r bud).2.2==0 then((FH b s m r bud).1,AD m r,(FH b s m r bud).2.1,(FH b s m r bud).2.2)
 else bif(FH b s m r bud).2.2==8 then((FH b s m r bud).1,m,0,(FH b s m r bud).2.2)else(L,aA,0,(FH b s m r bud).2.2)
def Aj3(r:C×J×Int×Int):(Unit×Unit×Int×Int×Unit)×((ByteArray×ByteArray×Int×Unit)×(List Int×List Bool×List Bool×List Entry×Unit)×Unit):=(((),(),r.2.2.1,r.2.2.2,()),((r.1.h0,r.1.h1,r.1.sel,()),r.2.1.tup,()))
def Aij(hb:b.small)(hc:b.B0.length≤100)(s:C)(hp:m.D0.length≤100000)(hl:m.A0.length≤10000)(r:E)(hbud:bud<9223372036854775808):
    Ok b.C0 b.F0 b.I0 b.N0 b.K0 b.M0 b.O0 b.B0 s.h0 s.h1 s.sel m.D0 m.L0 m.H0 m.A0 r.U0 r.E0 r.J0 r.S0 r.E2 bud=H (Aj3 (Ve b s m r bud)):=by
  unfold Ok Ve
  rw[XQ hb hc m hp hl r,Iy]
  unfold Xl
  cases hq:m.ok b&&Ay b r with
  |false=>rfl
  |true=>
    rw[f_]at hq
    have hm:=Img.ok_iff.1 hq.1
    simp only[a_,d_,N_,c_,m_]
    by_cases hs:s.ok b.I0
    · rw[b_ (show Sto.ok b.I0 ⟨s.h0,s.h1,s.sel⟩from hs)]
      by_cases hb0:bud<0
      · rw[b_ hb0];rfl
      rw[e_ hb0]
      obtain⟨hm2,hl2⟩:=QP hm hq.2
      have h1:=hm.lp
      have h2:=hm.lf
      have h3:=hm.ll
      have g1:=hm2.lp
      have g2:=hm2.lf
      have g3:=hm2.ll
      have hf2:(AD m r).fit:=⟨ω,ω,ω,ω⟩
      have hcur:(s.cur.size:Int)≤b.I0:=by
        obtain⟨_,_,h3,h4,_⟩:=hs
        unfold aC
        split
        · exact h4
        · exact h3
      have hroom:=Xr hm.code
      have wr:aD.wrap (b.I0-(s.cur.size:Int))=b.I0-(s.cur.size:Int):=Ac ω ω
      have hsz:((Hg b r).size:Int)=6:=by rw[VX hq.2,Ft,HF];rfl
      rw[ZC m hm.so ω]
      have step:∀q:Bool,q=Jd b m r→(bif q then H (((),(),(0:Int),(7:Int),()),(((O (N [])),(O (N [])),(0:Int),()),(([]:List Int),([]:List Bool),([]:List Bool),([]:List Entry),()),()))else
          H (Aj3 (bif(FH b s m r bud).2.2==0 then((FH b s m r bud).1,AD m r,(FH b s m r bud).2.1,(FH b s m r bud).2.2)else bif(FH b s m r bud).2.2==8 then((FH b s m r bud).1,m,0,(FH b s m r bud).2.2)else(L,aA,0,(FH b s m r bud).2.2))))=
        H (Aj3 (bif Jd b m r then(L,aA,0,7)else(bif(FH b s m r bud).2.2==0 then((FH b s m r bud).1,AD m r,(FH b s m r bud).2.1,(FH b s m r bud).2.2)else bif(FH b s m r bud).2.2==8 then((FH b s m r bud).1,m,0,(FH b s m r bud).2.2)else(L,aA,0,(FH b s m r bud).2.2)))):=by
        rintro q rfl
        cases Jd b m r<;>rfl
      simp only[m_,c_,a_]
      rw[← step _ rfl]
      have e5 : ∀ q : Bool, (bif (r.U0 == (1 : Int)) then
              bif(!(FG (As r.E0 r.J0) m.A0))then
                (Mi b.C0 b.F0 b.I0 b.N0 b.K0 b.M0 b.O0 b.B0 m.D0 m.L0 m.H0 m.A0).bind λy4=>
                H ((bud,(),(),(),(),(),(),(),(!y4.1.1),()),((b.C0,b.F0,b.I0,b.N0,b.K0,b.M0,b.O0,b.B0,()),(s.h0,s.h1,s.sel,()),(m.D0,m.L0,m.H0,m.A0,()),(r.U0,r.E0,r.J0,r.S0,r.E2,()),((O (N [])),(O (N [])),(0:Int),()),(([]:List Int),([]:List Bool),([]:List Bool),([]:List Entry),()),(AD m r).tup,()))
              else
                H ((bud,(),(),(),(),(),(),(),D,()),((b.C0,b.F0,b.I0,b.N0,b.K0,b.M0,b.O0,b.B0,()),(s.h0,s.h1,s.sel,()),(m.D0,m.L0,m.H0,m.A0,()),(r.U0,r.E0,r.J0,r.S0,r.E2,()),((O (N [])),(O (N [])),(0:Int),()),(([]:List Int),([]:List Bool),([]:List Bool),([]:List Entry),()),(AD m r).tup,()))
            else
              H ((bud,(),(),(),(),(),(),(),D,()),((b.C0,b.F0,b.I0,b.N0,b.K0,b.M0,b.O0,b.B0,()),(s.h0,s.h1,s.sel,()),(m.D0,m.L0,m.H0,m.A0,()),(r.U0,r.E0,r.J0,r.S0,r.E2,()),((O (N [])),(O (N [])),(0:Int),()),(([]:List Int),([]:List Bool),([]:List Bool),([]:List Entry),()),(AD m r).tup,())))=H ((bud,(),(),(),(),(),(),(),Jd b m r,()),((b.C0,b.F0,b.I0,b.N0,b.K0,b.M0,b.O0,b.B0,()),(s.h0,s.h1,s.sel,()),(m.D0,m.L0,m.H0,m.A0,()),(r.U0,r.E0,r.J0,r.S0,r.E2,()),((O (N [])),(O (N [])),(0:Int),()),(([]:List Int),([]:List Bool),([]:List Bool),([]:List Entry),()),(AD m r).tup,())):=λ_=>by
        rw[ZB hb m ω hp ω]
        unfold Jd
        cases r.U0==1<;>cases FG (As r.E0 r.J0) m.A0<;>rfl
      have e5':=e5 I
      simp only[Img.tup]at e5'⊢
      rw[e5']
      simp only[a_]
      cases Jd b m r with
      |true=>rfl
      |false=>
        simp only[c_]
        rw[Tu hb hc,Xf]
        simp only[a_,hsz]
        rw[show aC ⟨s.h0,s.h1,s.sel⟩=s.cur from rfl,wr,VX hq.2]
        have hw:HX b.I0 s.h0 s.h1 s.sel s.sel (txt (Cl r)) bud=_:=SI b.I0 s.h0 s.h1 s.sel s.sel (txt (Cl r)) bud hbud
        have hcp:=Afi hb hc s hf2 hbud
        rw[hw,hcp]
        simp only[a_]
        have e10:∀{A:Type}(f:C×Int×Int→A),(bif decide ((6:Int)≤b.I0-(s.cur.size:Int))then H (f (s.write b.I0 s.sel (txt (Cl r)) bud))else H (f (Dl b s (AD m r) bud)))=H (f (FH b s m r bud)):=λf=>by
          unfold FH
          cases decide ((6:Int)≤b.I0-(s.cur.size:Int))<;>rfl
        rw[show Sto.mk s.h0 s.h1 s.sel=s from rfl]
        have e10':=e10 λw=>((w.2.1,(),(),(),(),(),w.2.2,()),((w.1.h0,w.1.h1,w.1.sel,()),(m.D0,m.L0,m.H0,m.A0,()),((O (N [])),(O (N [])),(0:Int),()),(([]:List Int),([]:List Bool),([]:List Bool),([]:List Entry),()),(AD m r).tup,()))
        simp only[Img.tup]at e10'
        simp only[Sto.out]
        rw[e10']
        simp only[a_]
        generalize FH b s m r bud=w
        cases w.2.2==0 with
        |true=>rfl
        |false=>
          simp only[c_]
          cases w.2.2==8 with
          |true=>
            rw[XT m hp ω ω ω]
            rfl
          |false=>rfl
    · rw[e_ (show ¬Sto.ok b.I0 ⟨s.h0,s.h1,s.sel⟩from hs)]
      rfl
def Ct(b:B)(s:C):J:=AK (Gt b) (Ny b s.cur)
def sB:B:=Kl 4 2 30
def sM1:J:=⟨[0,0],[D,D],[D,D],[⟨2,1,-1,0,D⟩]⟩
def sM2:J:=⟨[0,0],[D,D],[D,D],[⟨2,1,0,0,D⟩]⟩
def Ap9:sB.code=0:=Aqy ω ω ω ω ⟨ω,ω⟩
def ok1:sM1.ok sB=I:=by
 unfold Img.ok Em GQ Aj;rw[Ap9];rfl
def ok2:sM2.ok sB=I:=by
 unfold Img.ok Em GQ Aj;rw[Ap9];rfl
section
variable{s:C}{room half bud:Int}(hs:s.ok room)(hh:half=0∨half=1)(hb:0≤bud)
include hs hh hb
theorem Axo:s.chk room half bud=0:=by
 unfold Sto.chk;rw[if_pos hs,if_neg ω]
theorem Am5(hr:((s.get half).size:Int)+(t.length:Int)≤room):s.write room half (txt t) bud=if bud<(t.length:Int)then(s.set half (s.get half++txt (t.take bud.toNat)),0,8)else(s.set half (s.get half++txt t),bud-(t.length:Int),0):=by
 have he:(txt t).extract 0 bud.toNat=txt (t.take bud.toNat):=Pe (by rw[SY,FP,FP];simp)
 unfold Sto.write;rw[Axo hs hh hb,if_neg ω,Ft,if_neg ω,he]
theorem Axa(t:C):s.act room half bud t=if bud=0 then(s,0,8)else(t,bud-1,0):=by
 unfold Sto.act;rw[Axo hs hh hb,if_neg ω]
end
def TA{half:Int}(hs:s.ok room){x:ByteArray}(hx:(x.size:Int)≤room):(s.set half x).ok room:=by
 obtain⟨h1,h2,h3,h4,h5⟩:=hs;unfold Sto.set Sto.ok;split
 ·exact⟨h1,h2,hx,h4,h5⟩
 ·exact⟨h1,h2,h3,hx,h5⟩
def Azl{half:Int}(hs:s.ok room)(hh:half=0∨half=1):Sto.ok room { s with sel:=half }:=by
 obtain⟨h1,h2,h3,h4,_⟩:=hs;exact⟨h1,h2,h3,h4,hh⟩
def Yn(hs:s.ok room):s.sel=0∨s.sel=1:=hs.2.2.2.2
def Ao5(hh:s.sel=0∨s.sel=1):s.cur=s.get s.sel:=by
 unfold aC Sto.get;rcases hh with h | h<;>rw[h]<;>rfl
def Ao6(hh:s.sel=0∨s.sel=1)(x:ByteArray):(s.set s.sel x).cur=x:=by
  obtain⟨h0,h1,sel⟩:=s
  rcases hh with h | h<;>
    (simp only at h
     subst h;simp[aC,Sto.set])
def Agr(hh:s.sel=0∨s.sel=1)(x:ByteArray):(s.set (1-s.sel) x).cur=s.cur:=by
  obtain⟨h0,h1,sel⟩:=s
  rcases hh with h | h<;>
    (simp only at h
     subst h;simp[aC,Sto.set])
def Ag7(hh:s.sel=0∨s.sel=1)(x:ByteArray):(s.set (1-s.sel) x).get (1-s.sel)=x:=by
  obtain⟨h0,h1,sel⟩:=s
  rcases hh with h | h<;>
    (simp only at h
     subst h;simp[Sto.set,Sto.get])
def Ahz(hh:s.sel=0∨s.sel=1)(x y:ByteArray):(s.set (1-s.sel) x).set (1-s.sel) y=s.set (1-s.sel) y:=by
  obtain⟨h0,h1,sel⟩:=s
  rcases hh with h | h<;>
    (simp only at h
     subst h;simp[Sto.set])
def Aca(hh:s.sel=0∨s.sel=1)(x:ByteArray):aC { s.set (1-s.sel) x with sel:=1-s.sel }=x:=by
  obtain⟨h0,h1,sel⟩:=s
  rcases hh with h | h<;>
    (simp only at h
     subst h;simp[aC,Sto.set])
def Yk(hb:b.small)(hc:b.B0.length≤100){rs:List E}(h:bl s.cur=rs.flatMap Cl++t)(ht:t.length<6)(hv:∀r∈rs,Ay b r=I):Ct b s=AK (Gt b) rs:=by
 unfold Ct Ny;have hl:s.cur.size=6*rs.length+t.length:=by rw[← GD,h,h_,YN]
 rw[h,Amj hb hc ht rs s.cur.size ω hv]
structure Jst(b:Bldg)(s:Sto)(m:Img):Prop where
 ok:s.ok b.I0
 img:ImgOK b m
 rs:∃rs:List Record,bl s.cur=rs.flatMap Cl∧(∀r∈rs,Ay b r=true)∧AK (Gt b) rs=m
 fits:18*((b.B0.length:Int)+(m.A0.length:Int))+6≤b.I0
def Agi(hs:Bp m.A0)(h:r.U0=1→FG (As r.E0 r.J0) m.A0=I):(AD m r).A0.length≤m.A0.length:=by
 unfold AD;cases r.U0==4 with
 |true=>exact z_ _
 |false=>
 cases r.U0==5 with
 |true=>exact z_ _
 |false=>
 cases r.U0==6 with
 |true=>exact z_ _
 |false=>
 simp only[c_];have hf:=QZ (c:=As r.E0 r.J0) 0 hs;rw[show DD r.E0 r.J0 m.A0 0=_ from hf]
 cases hq:FG (As r.E0 r.J0) m.A0 with
 |false=>
  simp only[c_,k_,d_];by_cases k1:r.U0=1
  ·rw[h k1]at hq;cases hq
  ·rw[Ar k1];exact z_ _
 |true=>
  rw[d_,Ar (ω:¬((0+Az (As r.E0 r.J0) m.A0:Nat):Int)=-1),c_]
  cases r.U0==2 with
  |true=>
   show(m.A0.take _++m.A0.drop _).length≤_;rw[h_,r_,V_];omega
  |false=>
  cases r.U0==3 with
  |true=>show(m.A0.set _ _).length≤_;rw[v_];exact z_ _
  |false=>
  cases r.U0==7 with
  |true=>show(m.A0.set _ _).length≤_;rw[v_];exact z_ _
  |false=>exact z_ _
def Ag2(hj:Jst b s m)(hv:Ay b r=I)(hfull:Jd b m r=D):18*((b.B0.length:Int)+((AD m r).A0.length:Int))+6≤b.I0:=by
 have h0:=hj.fits;have h2:=(QP hj.img hv).2;by_cases hk:r.U0=1
 ·cases hq:FG (As r.E0 r.J0) m.A0 with
  |true=>have:=Agi hj.img.so λ_=>hq;omega
  |false=>
   unfold Jd QE at hfull;rw[hk,hq,Img.ok_iff.2 hj.img]at hfull;simp at hfull;omega
 ·have:=Agi hj.img.so (r:=r) λh=>absurd h hk
  omega
def Abg(h:ImgOK b m):(((CH m).flatMap Cl).length:Int)=18*((b.B0.length:Int)+(m.A0.length:Int)):=by
 rw[YN,Yq,h.lp];omega
def Ab6(hs:s.ok b.I0)(hm:ImgOK b m)(hb0:0≤bud)(hfit:18*((b.B0.length:Int)+(m.A0.length:Int))≤b.I0):
  (2+18*((b.B0.length:Int)+(m.A0.length:Int))≤bud∧Dl b s m bud=({ s.set (1-s.sel) (txt ((CH m).flatMap Cl))with sel:=1-s.sel },bud-(2+18*((b.B0.length:Int)+(m.A0.length:Int))),0))∨
  (bud<2+18*((b.B0.length:Int)+(m.A0.length:Int))∧∃s',Dl b s m bud=(s',0,8)∧s'.ok b.I0∧s'.cur=s.cur):=by
 have hsel:=Yn hs;have hh:1-s.sel=0∨1-s.sel=1:=ω
 have hL:=Abg hm;have hroom:=hs.1;have he:s.erase b.I0 (1-s.sel) bud=if bud=0 then(s,0,8)else(s.set (1-s.sel) noB,bud-1,0):=Axa hs hh hb0 _
 unfold Dl;rw[b_ hs,e_ (ω:¬bud<0),Img.ok_iff.2 hm]
 simp only[m_,c_];generalize hT:(CH m).flatMap Cl=T at hL⊢;by_cases h0:bud=0
 ·right
  rw[he,if_pos h0];exact⟨ω,s,rfl,hs,rfl⟩
 ·rw[if_neg h0]at he
  rw[he];have hs1:(s.set (1-s.sel) noB).ok b.I0:=TA hs (by show(0:Int)≤_;omega)
  have hw:=Am5 (t:=T) hs1 hh (ω:0≤bud-1) (by rw[Ag7 hsel];show((0:Nat):Int)+_≤_;omega)
  rw[Ag7 hsel,Ahz hsel,Ahz hsel]at hw;have nb:∀x:ByteArray,noB++x=x:=λx=>Pe (by rw[KL];rfl)
  rw[nb,nb]at hw;simp only[k_,d_,hw];by_cases h1:bud-1<(T.length:Int)
  ·right
   rw[if_pos h1];refine⟨ω,_,rfl,TA hs ?_,Agr hsel _⟩
   rw[Ft,r_];omega
  ·rw[if_neg h1]
   have hs2:(s.set (1-s.sel) (txt T)).ok b.I0:=TA hs (by rw[Ft];omega)
   have hc:=Axa hs2 hh (ω:0≤bud-1-(T.length:Int)) { s.set (1-s.sel) (txt T)with sel:=1-s.sel }
   have hc':(s.set (1-s.sel) (txt T)).choose b.I0 (1-s.sel) (bud-1-(T.length:Int))=_:=hc;simp only[k_,d_,hc'];by_cases h2:bud-1-(T.length:Int)=0
   ·right
    rw[if_pos h2];exact⟨ω,_,rfl,hs2,Agr hsel _⟩
   ·left
    rw[if_neg h2,show bud-1-(T.length:Int)-1=bud-(2+18*((b.B0.length:Int)+(m.A0.length:Int)))by omega]
    exact⟨ω,rfl⟩
def Ul(b:B)(s:C)(m:J)(r:E):Int:=if(s.cur.size:Int)+6≤b.I0 then 6 else 2+18*((b.B0.length:Int)+((AD m r).A0.length:Int))
def Axe(hb:b.small)(hj:Jst b s m)(hv:Ay b r=I)(hfull:Jd b m r=D)(hb0:0≤bud):
  (Ul b s m r≤bud∧∃s',Ve b s m r bud=(s',AD m r,bud-Ul b s m r,0)∧Jst b s' (AD m r))∨
  (bud<Ul b s m r∧∃s',Ve b s m r bud=(s',m,0,8)∧s'.ok b.I0∧Ct b s'=m):=by
 have hcars:=Ak hj.img.code;have hc:b.B0.length≤100:=ω
 have hm2:=(QP hj.img hv).1;have hfit:=Ag2 hj hv hfull;obtain⟨rs,e1,e2,e3⟩:=hj.rs;have hsel:=Yn hj.ok;unfold Ve;rw[Img.ok_iff.2 hj.img,hv,b_ hj.ok,e_ (ω:¬bud<0),hfull]
 simp only[S_,m_,c_];unfold Ul FH;by_cases g:(s.cur.size:Int)+6≤b.I0
 ·rw[if_pos g,b_ (ω:(6:Int)≤b.I0-(s.cur.size:Int)),d_]
  have hw:=Am5 (t:=Cl r) hj.ok hsel hb0 (by rw[← Ao5 hsel,HF];omega)
  rw[HF,← Ao5 hsel]at hw;rw[hw];by_cases h1:bud<((6:Nat):Int)
  ·right
   rw[if_pos h1];have hl:((Cl r).take bud.toNat).length<6:=by rw[r_,HF];omega
   refine⟨ω,_,rfl,TA hj.ok ?_,?_⟩
   ·rw[← GD,KL,FP,h_,GD];omega
   ·rw[Yk hb hc (rs:=rs) (t:=(Cl r).take bud.toNat) (by rw[Ao6 hsel,KL,FP,e1]) hl e2,e3]
  ·left
   rw[if_neg h1];refine⟨ω,_,rfl,TA hj.ok ?_,hm2,⟨rs++[r],?_,?_,?_⟩,hfit⟩
   ·rw[← GD,KL,FP,h_,GD,HF];omega
   ·rw[Ao6 hsel,KL,FP,e1,List.flatMap_append]
    simp
   ·intro x hx
    rcases q_.1 hx with hx | hx
    ·exact e2 x hx
    ·rw[Q_.1 hx];exact hv
   ·rw[Ew,e3];rfl
 ·rw[if_neg g,e_ (ω:¬(6:Int)≤b.I0-(s.cur.size:Int)),c_]
  rcases Ab6 hj.ok hm2 hb0 ω with⟨q1,q2⟩ | ⟨q1,s',q2,q3,q4⟩
  ·left
   rw[q2];refine⟨q1,_,rfl,Azl (TA hj.ok ?_) ω,hm2,⟨CH (AD m r),?_,Sj hm2,Ad0 hm2⟩,hfit⟩
   ·rw[Ft,Abg hm2];omega
   ·rw[Aca hsel,FP]
  ·right
   rw[q2];refine⟨q1,s',rfl,q3,?_⟩;rw[Yk hb hc (rs:=rs) (t:=[]) (by rw[q4,e1,a8_]) (by simp) e2,e3]
def Jst.replay(hb:b.small)(hj:Jst b s m):Ct b s=m:=by
 have hcars:=Ak hj.img.code;obtain⟨rs,e1,e2,e3⟩:=hj.rs;rw[Yk hb ω (rs:=rs) (t:=[]) (by rw[e1,a8_]) (by simp) e2,e3]
def Jst.first(hcode:b.code=0):Jst b L (Gt b):=by
 have hr:=Xr hcode;have hcars:=Ak hcode;refine⟨⟨ω,ω,?_,?_,.inl rfl⟩,Aam hcode,⟨[],rfl,(λr h=>by cases h),rfl⟩,?_⟩
 ·show(0:Int)≤_;omega
 ·show(0:Int)≤_;omega
 ·show 18*((b.B0.length:Int)+((0:Nat):Int))+6≤_;omega
def Jst.ents(hj:Jst b s m):m.A0.length≤4000∧m.fit:=by
 have h1:=hj.fits;have h2:=(Xr hj.img.code).2;have h3:=Ak hj.img.code;have g1:=hj.img.lp;have g2:=hj.img.lf;have g3:=hj.img.ll;exact⟨ω,ω,ω,ω,ω⟩
def Azh(s:C)(m:J)(bud e:Int):(Unit×Unit×Int×Int×Unit)×((ByteArray×ByteArray×Int×Unit)×(List Int×List Bool×List Bool×List Entry×Unit)×Unit):=(((),(),bud,e,()),((s.h0,s.h1,s.sel,()),m.tup,()))
def CT(b:B)(s:C)(bud:Int):C×J×Int×Int:=
 bif(Dl b s (Ct b s) bud).2.2 !=0 then((Dl b s (Ct b s) bud).1,aA,0,(Dl b s (Ct b s) bud).2.2)
 else((Dl b s (Ct b s) bud).1,Ct b s,(Dl b s (Ct b s) bud).2.1,0)
def Aht(hcode:b.code=0)(s:C)(hs:s.cur.size≤500000):ImgOK b (Ct b s)∧(Ct b s).A0.length≤90000∧(Ct b s).fit:=by
 have hc:=Ak hcode;obtain⟨h1,h2⟩:=TQ (Aam hcode) (rs:=Ny b s.cur) λr hr=>US b _ _ r hr
 have h3:=Yi b s.cur.size (bl s.cur);rw[GD]at h3;have h4:(Gt b).A0.length=0:=rfl;have h5:(Ny b s.cur).length=(ME b s.cur.size (bl s.cur)).length:=rfl;have g1:=h1.lp;have g2:=h1.lf;have g3:=h1.ll;exact⟨h1,by show(AK (Gt b) (Ny b s.cur)).A0.length≤_;omega,by show(AK (Gt b) (Ny b s.cur)).D0.length≤_;omega,by show(AK (Gt b) (Ny b s.cur)).L0.length≤_;omega,by show(AK (Gt b) (Ny b s.cur)).H0.length≤_;omega,by show(AK (Gt b) (Ny b s.cur)).A0.length≤_;omega⟩
def Pq(b:B)(m:J):Bool:=m.ok b&&decide (18*((b.B0.length:Int)+(m.A0.length:Int))+6≤b.I0)
def Bmp{a b:Nat}(h:a≤100000)(h':b≤100000):aD.wrap (IntKind.wrap aD (18*aD.wrap ((a:Int)+(b:Int)))+6)=18*((a:Int)+(b:Int))+6:=by
 rw[Ac (n:=(a:Int)+(b:Int)) ω ω,Ac (n:=18*((a:Int)+(b:Int))) ω ω,Ac ω ω]
def Ads(hb:b.small)(m:J)(hc:b.B0.length≤100000)(hf:m.fit):Mq b.C0 b.F0 b.I0 b.N0 b.K0 b.M0 b.O0 b.B0 m.D0 m.L0 m.H0 m.A0=H ((Pq b m,()),()):=by
 have hmx:100000≤maxLen:=by decide
 have hp:=hf.p;have he:=hf.e;unfold Mq Pq;rw[CL hb m ω ω]
 simp only[a_,Bmp hc he];cases m.ok b<;>rfl
def Vp:Belief:=⟨-1,0,0,[],0,D⟩
def HE(b:B)(i:Nat):Car:=b.B0.getD i ⟨0,0,0,0,0,0,0,0,0⟩
def Sn(b:B)(e:Entry):Int:=bif decide (0≤e.S0)then(HE b e.S0.toNat).G1 else 0
def Mch.none:Mch:=⟨aA,L,[],[],[],[],[],[],0,0,0⟩
def Acy(b:B)(m:J)(s:C):Mch:=⟨m,s,aE b.B0.length Cn,aE b.B0.length Vp,aE b.B0.length AT,aE b.B0.length Ha,m.A0.map (Sn b),aE b.B0.length Afp,0,0,0⟩
def Mch.withB(m:Mch)(l:List Belief):Mch:={ m with W0:=l }
def Mch.withE(m:Mch)(l:List Int):Mch:={ m with Z1:=l }
def Amo{α:Type}(a:α):∀k i:Nat,(List.range' i k).flatMap (λ_=>[a])=aE k a
 |0,_=>rfl
 |k+1,i=>by rw[e8_,a1_,Amo a k (i+1),List.replicate_succ];rfl
def Bcg{α β:Type}(f:α→β)(l:List α):l.flatMap (λx=>[f x])=l.map f:=by
 induction l with
 |nil=>rfl
 |cons a t ih=>rw[a1_,ih];rfl
def Ps(b:B)(m:J)(s:C):Mch×Int:=bif Pq b m&&decide (s.ok b.I0)then(Acy b m s,0)else(Mch.none,1)
def Pf(b:B)(s:C)(bud:Int):Mch×Int×Int:=
 bif(CT b s bud).2.2.2 !=0 then({ Mch.none with Y0:=(CT b s bud).1 },0,(CT b s bud).2.2.2)
 else bif(Ps b (CT b s bud).2.1 (CT b s bud).1).2 !=0 then(Mch.none,0,(Ps b (CT b s bud).2.1 (CT b s bud).1).2)
 else((Ps b (CT b s bud).2.1 (CT b s bud).1).1,(CT b s bud).2.2.1,0)
def Bhh(hcode:b.code=0)(s:C)(hs:s.cur.size≤500000)(bud:Int):(CT b s bud).2.1.fit:=by
 obtain⟨_,_,hf⟩:=Aht hcode s hs;unfold CT;cases(Dl b s (Ct b s) bud).2.2 !=0 with
 |true=>exact⟨a5_ _,a5_ _,a5_ _,a5_ _⟩
 |false=>exact hf
def DQ(b:B):Mch×Int:=bif b.code==0 then((Pf b L 1048576).1,(Pf b L 1048576).2.2)else(Mch.none,1)
def App:∀{l:List Nat}{a n:Nat},l.Pairwise (· < ·)→(∀x∈l,a≤x∧x<n)→l.length+a≤n∨l=[]
 |[],_,_,_,_=>.inr rfl
 |x::t,a,n,h,hr=>by
  left;obtain⟨h1,h2⟩:=f6_.1 h;have hx:=hr x (M_ ..);rcases App (a:=x+1) (n:=n) h2 (λy hy=>⟨h1 y hy,(hr y (O_ _ hy)).2⟩)with q | q
  ·rw[x_];omega
  ·subst q
   simp;omega
def Bgx(hb:b.small)(hm:ImgOK b m):(m.A0.length:Int)≤2*(b.C0-1):=by
 have lo:=hb.lo;have hi:=hb.hi
 let ix:Int×Int→Nat:=λp=>if p.1=0 then 0 else if p.1=b.C0-1 then(2*b.C0-3).toNat else(2*p.1+p.2-2).toNat
 have hv:∀p∈m.A0.map HD,(p.2=1∧0≤p.1∧p.1≤b.C0-2)∨(p.2=2∧1≤p.1∧p.1≤b.C0-1):=λp hp=>by
  obtain⟨e,he,rfl⟩:=c1_.1 hp;have h1:=(FC.1 (hm.en e he)).1;unfold Aj Pg at h1;simp only[f_,b4_,Z_,Am]at h1;show(e.J0=1∧0≤e.E0∧e.E0≤b.C0-2)∨(e.J0=2∧1≤e.E0∧e.E0≤b.C0-1);omega
 have hp:((m.A0.map HD).map ix).Pairwise (· < ·):=by
  rw[List.pairwise_map];refine List.Pairwise.imp_of_mem (λ{p q} hp hq h=>?_) hm.so
  have v1:=hv p hp;have v2:=hv q hq;unfold ltC at h;show ix p<ix q;simp only[ix];split<;>split<;>(try split)<;>(try split)<;>omega
 rcases App (a:=0) (n:=(2*b.C0-2).toNat) hp (λx hx=>by
  obtain⟨p,hp,rfl⟩:=c1_.1 hx;have v1:=hv p hp;refine⟨a5_ _,?_⟩;show ix p<_;simp only[ix];split
  ·omega
  ·split<;>omega)with q | q
 ·rw[d2_,d2_]at q;omega
 ·have:=e9_ List.length q
  rw[d2_,d2_,d1_]at this;omega
def Apl(hm:ImgOK b m)(hfit:18*((b.B0.length:Int)+(m.A0.length:Int))+6≤b.I0):Pq b m=I:=by
 unfold Pq;rw[Img.ok_iff.2 hm,b_ hfit];rfl
def Aai(hm:ImgOK b m)(hfit:18*((b.B0.length:Int)+(m.A0.length:Int))+6≤b.I0)(hs:s.ok b.I0):Ps b m s=(Acy b m s,0):=by
 unfold Ps;rw[Apl hm hfit,b_ hs];rfl
def Bgn(_hb:b.small)(hs:s.ok b.I0)(hm:ImgOK b m)(hrep:Ct b s=m)(hfit:18*((b.B0.length:Int)+(m.A0.length:Int))+6≤b.I0)(hb0:0≤bud):
  (2+18*((b.B0.length:Int)+(m.A0.length:Int))≤bud∧Pf b s bud=(Acy b m { s.set (1-s.sel) (txt ((CH m).flatMap Cl))with sel:=1-s.sel },bud-(2+18*((b.B0.length:Int)+(m.A0.length:Int))),0)∧Jst b { s.set (1-s.sel) (txt ((CH m).flatMap Cl))with sel:=1-s.sel } m)∨
  (bud<2+18*((b.B0.length:Int)+(m.A0.length:Int))∧∃s',Pf b s bud=({ Mch.none with Y0:=s' },0,8)∧s'.ok b.I0∧Ct b s'=m):=by
 have hsel:=Yn hs;unfold Pf CT;rw[hrep];rcases Ab6 hs hm hb0 ω with⟨q1,q2⟩ | ⟨q1,s',q2,q3,q4⟩
 ·left
  have hj:Jst b { s.set (1-s.sel) (txt ((CH m).flatMap Cl))with sel:=1-s.sel } m:=by
   refine⟨Azl (TA hs ?_) ω,hm,⟨CH m,?_,Sj hm,Ad0 hm⟩,hfit⟩
   ·rw[Ft,Abg hm];omega
   ·rw[Aca hsel,FP]
  rw[q2];refine⟨q1,?_,hj⟩;simp only[N_,c_];rw[Aai hm hfit hj.ok];rfl
 ·right
  rw[q2];refine⟨q1,s',rfl,q3,?_⟩;rw[← hrep];unfold Ct;rw[q4]
end Go.Ovl
