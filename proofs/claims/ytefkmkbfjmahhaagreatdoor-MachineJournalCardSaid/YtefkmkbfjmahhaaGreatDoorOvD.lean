import Derived.Test.YtefkmkbfjmahhaaGreatDoorOvC
import Derived.Test.YtefkmkbfjmahhaaGreatDoorOvB
import Derived.Test.YtefkmkbfjmahhaaGreatDoorOvA
set_option linter.all false
open Option renaming some->B
open Go.Ovl renaming Bldg->C,Sto->D,Record->I,Img->L
open Go renaming b_->E
open Bool renaming false->H,true->J
open Go.Ovl.Sto renaming no->O,cur->aC
open Array renaming mk->P
open ByteArray renaming mk->Q
open Go.Ovl.Img renaming none->aA
open Go.Ovl.Mch renaming tup->aB
open Go.IntKind renaming i64->aD,u8->aG
open Go.Ovl.Record renaming mk->aE
open List renaming replicate->aF
namespace Go.Ovl
open Go Go.Ab
set_option maxRecDepth 100000
variable{b:C}{s:D}{m:L}{r:I}{bud room:Int}{l t:List UInt8}
def u8n(n:Int):UInt8:=UInt8.ofNat n.toNat
def To{n:Int}(h:0≤n∧n<256):((u8n n).toNat:Int)=n:=by unfold u8n;rw[UInt8.toNat_ofNat'];omega
def txt(l:List UInt8):ByteArray:=⟨l.toArray⟩
def FU(l:List UInt8):bl (txt l)=l:=Bs4 l
def Br1(s:ByteArray):txt (bl s)=s:=PS (FU _)
def Ahw(a c:List UInt8):txt a++txt c=txt (a++c):=PS (by rw[Lg,FU,FU,FU])
def Fw(l:List UInt8):(txt l).size=l.length:=by rw[← DW,FU]
def Acr(l:List Int):GW l=txt (l.map u8n):=rfl
def Acl(r:I):List UInt8:=[u8n r.Q0,u8n r.E0,u8n r.J0,u8n (r.R0+2),u8n r.J1]
def Cy(r:I):List UInt8:=Acl r++[u8n ((RB (Acl r):Nat):Int)]
def Gp(r:I):(Cy r).length=6:=rfl
def Rq(hb:b.small){f d:Int}(h:Ao b f d=J):(0≤f∧f<100)∧(1≤d∧d≤2):=by have lo:=hb.lo;have hi:=hb.hi;unfold Ao NW at h;simp only[e_,a2_,U_,Ar]at h;omega
structure RecOK(r:Record):Prop where
 k:1≤r.Q0∧r.Q0≤7
 f:0≤r.E0∧r.E0<100
 d:0≤r.J0∧r.J0<100
 c:-2≤r.R0∧r.R0<100
 v:0≤r.J1∧r.J1<256
def VL(hb:b.small)(hc:b.B0.length≤100)(h:As b r=J):RecOK r:=by
 have hk:=(VK h).2;have hcar:(r.Q0=4∨r.Q0=5∨r.Q0=6)→r.E0=0∧r.J0=0:=λhq=>by
  unfold As TO at h;rcases hq with q | q | q
  all_goals
   rw[q]at h;simp only[show((4:Int)==1)=H from rfl,show((4:Int)==2)=H from rfl,show((4:Int)==3)=H from rfl,show((5:Int)==1)=H from rfl,show((5:Int)==2)=H from rfl,show((5:Int)==3)=H from rfl,show((5:Int)==4)=H from rfl,show((6:Int)==1)=H from rfl,show((6:Int)==2)=H from rfl,show((6:Int)==3)=H from rfl,show((6:Int)==4)=H from rfl,show((6:Int)==5)=H from rfl,l_,d_,E,e_,U_]at h;exact h.2.1.2
 rcases hk with h1 | h1 | h1 | h1 | h1 | h1 | h1
 ·have:=Rq hb h1.2.1
  exact⟨ω,this.1,ω,ω,ω⟩
 ·have:=Rq hb h1.2.1
  exact⟨ω,this.1,ω,ω,ω⟩
 ·have:=Rq hb h1.2.1
  exact⟨ω,this.1,ω,ω,ω⟩
 ·have:=hcar ω
  exact⟨ω,ω,ω,ω,ω⟩
 ·have:=hcar ω
  exact⟨ω,ω,ω,ω,ω⟩
 ·have:=hcar ω
  exact⟨ω,ω,ω,ω,ω⟩
 ·have:=Rq hb h1.2.1
  exact⟨ω,this.1,ω,ω,ω⟩
def Bh9(h:RecOK r):GW [aG.wrap r.Q0,aG.wrap r.E0,aG.wrap r.J0,aG.wrap (IntKind.wrap aD (r.R0+2)),aG.wrap r.J1]=txt (Acl r):=by obtain⟨h1,h2,h3,h4,h5⟩:=h;rw[QS (n:=r.Q0) ω ω,QS (n:=r.E0) ω ω,QS (n:=r.J0) ω ω,Aa (n:=r.R0+2) ω ω,QS (n:=r.R0+2) ω ω,QS (n:=r.J1) ω ω];rfl
def Hj(b:C)(r:I):ByteArray:=bif As b r then txt (Cy r)else txt []
section
variable{b:C}(hb:b.small)(hc:b.B0.length≤100)
include hb hc
theorem Uk(r:I):IF b.D0 b.G0 b.I0 b.M0 b.L0 b.N0 b.O0 b.B0 r.Q0 r.E0 r.J0 r.R0 r.J1=B ((Hj b r,(bif As b r then 0 else 1),()),()):=by
 unfold IF Hj;rw[Ve hb hc r];simp only[a_];cases hv:As b r with
 |false=>rfl
 |true=>have h:=VL hb hc hv;simp only[m_,E,d_,Bh9 h];rw[Apk (by rw[Fw];show 5≤1000000;omega)];simp only[a_,FU,Acr];rw[Ap (by rw[Fw,Fw];show 5+1≤4611686018427387904;omega),Ahw];rfl
theorem Aki(r:I):Pd b.D0 b.G0 b.I0 b.M0 b.L0 b.N0 b.O0 b.B0 r.Q0 r.E0 r.J0 r.R0 r.J1=B ((Hj b r,(bif As b r then 0 else 1),()),()):=by
 unfold Pd Hj;rw[Ui hb hc r];simp only[a_];cases hv:As b r with
 |false=>rfl
 |true=>have h:=VL hb hc hv;simp only[m_,E,d_,Bh9 h];rw[Aa2 (by rw[Fw];show 5≤1000000;omega)];simp only[a_,FU,Acr];rw[Ap (by rw[Fw,Fw];show 5+1≤4611686018427387904;omega),Ahw];rfl
end
def fld(l:List UInt8)(i:Nat):Int:=((l.getD i 0).toNat:Int)
def Xw(l:List UInt8):I:=⟨fld l 0,fld l 1,fld l 2,fld l 3-2,fld l 4⟩
def SN(b:C)(l:List UInt8):Option I:=bif l.length==6&&(((((RB (l.take 5):Nat):Int))==fld l 5)&&As b (Xw l))then B (Xw l)else none
def Yx(l:List UInt8)(i:Nat):0≤fld l i∧fld l i<256:=by have h:(l.getD i 0).toNat<256:=UInt8.toNat_lt _;unfold fld;omega
def Azm(h:SN b l=B r):As b r=J:=by
 unfold SN at h;cases hq:(l.length==6&&(((((RB (l.take 5):Nat):Int))==fld l 5)&&As b (Xw l)))with
 |false=>rw[hq]at h;cases h
 |true=>rw[hq]at h;cases h;rw[e_,e_]at hq;exact hq.2.2
def Bit(hb:b.small)(hc:b.B0.length≤100)(h:As b r=J):SN b (Cy r)=B r:=by
 obtain⟨h1,h2,h3,h4,h5⟩:=VL hb hc h;have hs:=Ar2 (Acl r);have e:Xw (Cy r)=r:=by show aE ((u8n r.Q0).toNat:Int) ((u8n r.E0).toNat:Int) ((u8n r.J0).toNat:Int) (((u8n (r.R0+2)).toNat:Int)-2) ((u8n r.J1).toNat:Int)=r;rw[To ω,To ω,To ω,To ω,To ω,show r.R0+2-2=r.R0 by omega]
 have e5:fld (Cy r) 5=((RB (Acl r):Nat):Int):=by show((u8n ((RB (Acl r):Nat):Int)).toNat:Int)=_;exact To ω
 unfold SN;rw[e,h,e5,show(Cy r).take 5=Acl r from rfl,Gp];simp
def Ia(b:C):Nat→List UInt8→List I
 |0,_=>[]
 |k+1,l=>if 6≤l.length then match SN b (l.take 6)with | some r=>r::Ia b k (l.drop 6) | none=>[]else []
def Jy(b:C)(s:ByteArray):List I:=Ia b s.size (bl s)
def Vd(b:C):∀(k:Nat) (l:List UInt8),6*(Ia b k l).length≤l.length
 |0,_=>by simp[Ia]
 |k+1,l=>by
  simp only[Ia];split
  ·split
   ·rename_i h _ r _
    have:=Vd b k (l.drop 6)
    rw[Y_]at this;rw[E_];omega
   ·simp
  ·simp
def Rx(b:C):∀(k:Nat) (l:List UInt8),∀r∈Ia b k l,As b r=J
 |0,_,_,h=>by simp[Ia]at h
 |k+1,l,r,h=>by
  simp only[Ia]at h;split at h
  ·split at h
   ·rename_i _ _ r' hr;rcases t_.1 h with rfl | h
    ·exact Azm hr
    ·exact Rx b k _ r h
   ·cases h
  ·cases h
def Aoc{b:C}(hb:b.small)(hc:b.B0.length≤100){t:List UInt8}(ht:t.length<6):∀(rs:List I) (k:Nat),rs.length≤k→(∀r∈rs,As b r=J)→Ia b k (rs.flatMap Cy++t)=rs
 |[],0,_,_=>rfl
 |[],k+1,_,_=>by simp only[Ia,List.flatMap_nil,W_];rw[if_neg ω]
 |r::rs,0,h,_=>by simp at h
 |r::rs,k+1,h,hv=>by
  have e1:(r::rs).flatMap Cy++t=Cy r++(rs.flatMap Cy++t):=by rw[a8_,F_]
  have e2:(Cy r++(rs.flatMap Cy++t)).take 6=Cy r:=e8_ (Gp r);have e3:(Cy r++(rs.flatMap Cy++t)).drop 6=rs.flatMap Cy++t:=List.drop_left' (Gp r);simp only[Ia];rw[e1,e2,e3,Bit hb hc (hv r (s_ ..)),if_pos (by rw[h_,Gp];omega),Aoc hb hc ht rs k (by simp at h;omega) λx hx=>hv x (u_ _ hx)]
def KN(l:List UInt8):List Int:=l.map λx=>(x.toNat:Int)
def Avn(l:List UInt8):GW (KN l)=txt l:=by
 rw[Acr];unfold KN;rw[List.map_map];congr 1
 conv=>rhs;rw[← List.map_id l]
 refine List.map_congr_left λx _=>?_;show UInt8.ofNat (Int.toNat (x.toNat:Int))=x;rw[i_,UInt8.ofNat_toNat]
def Bee(l:List UInt8):(KN l).all (λn=>decide (0≤n)&&decide (n<256))=J:=by
 rw[M_];intro n hn;obtain⟨x,_,rfl⟩:=b8_.1 hn
 have:x.toNat<256:=UInt8.toNat_lt x
 simp only[e_,v_];omega
def Axe(h:l≠[]):Fp (KN l)=B ((txt l,()),(((),KN l,()),())):=by
 unfold Fp;rw[Bee,Avn,show Avf (KN l)=J by
  cases l with
  |nil=>exact absurd rfl h
  |cons a t=>rfl]
 rfl
def Bcc(s:ByteArray)(h:l.length+s.size≤2147483648):Eb s (KN l)=B (((s.size:Int),(),()),(((),KN (l++bl s),()),())):=by unfold Eb wsF;rw[show(KN l).length=l.length from d1_ _,Ap h];unfold KN bl;rw[List.map_append];rfl
def Aif(b:C)(r:I):(bl (Hj b r)).length≤6:=by
 unfold Hj;cases As b r with
 |true=>rw[d_,FU,Gp];omega
 |false=>rw[E,FU];simp
def WQ(h:As b r=J):Hj b r=txt (Cy r):=by unfold Hj;rw[h];rfl
def Abt{b:C}:∀{rs:List I},(∀r∈rs,As b r=J)→rs.flatMap (λr=>bl (Hj b r))=rs.flatMap Cy
 |[],_=>rfl
 |r::t,h=>by rw[a8_,a8_,WQ (h r (s_ ..)),FU,Abt λx hx=>h x (u_ _ hx)]
def ZO(rs:List I):(rs.flatMap Cy).length=6*rs.length:=by
 induction rs with
 |nil=>rfl
 |cons r t ih=>rw[a8_,h_,ih,Gp,E_];omega
section
variable{b:C}(hb:b.small)(hc:b.B0.length≤100)
include hb hc
theorem Ald(bud:Int){rs:List I}(hl:rs.length≤1000000)(s t:D):LQ ((bud,(),(),(),(),rs,(rs.length:Int),(0:Int),()),(b.tup,(s.h0,s.h1,s.sel,()),(t.h0,t.h1,t.sel,()),((),[],()),()))=B ((bud,(),(),(),(),()),(b.tup,(s.h0,s.h1,s.sel,()),(t.h0,t.h1,t.sel,()),((),KN (rs.flatMap λr=>bl (Hj b r)),()),())):=by
 have h:=AP (step:=λx=>letI a:=x.2.1.2.2;letI c:=x.1.2.2.2.2.2;letI d:=x.2.2;letI f:=a.2.2;GP x.1.1 c.1 c.2.1 c.2.2.1 x.2.1.1 x.2.1.2.1 a.1 a.2.1 f.1 f.2.1 f.2.2.1 f.2.2.2.1 d.1.1 d.1.2.1 d.1.2.2.1 d.2.1.1 d.2.1.2.1 d.2.1.2.2.1 d.2.2.1.2.1) rs.length
  (λi (l:List UInt8)=>((bud,(),(),(),(),rs,(rs.length:Int),(i:Int),()),(b.tup,(s.h0,s.h1,s.sel,()),(t.h0,t.h1,t.sel,()),((),KN l,()),()))) (λi l=>l++bl (Hj b (rs.getD i (aE 0 0 0 0 0)))) (λi l=>l.length≤6*i) (λl=>((bud,(),(),(),(),()),(b.tup,(s.h0,s.h1,s.sel,()),(t.h0,t.h1,t.sel,()),((),KN l,()),()))) (λi l hi hs=>by
   have he:=Aif b (rs.getD i (aE 0 0 0 0 0));refine⟨?_,by rw[h_];omega⟩;show GP bud rs (rs.length:Int) (i:Int) b.D0 b.G0 b.I0 b.M0 b.L0 b.N0 b.O0 b.B0 s.h0 s.h1 s.sel t.h0 t.h1 t.sel (KN l)=_;unfold GP;simp only[c_ (ω:(i:Int)<(rs.length:Int)),Ac (ω:(0:Int)≤(i:Int)) (ω:(i:Int)<(rs.length:Int)),d_,i_,Uk hb hc,a_,Bcc (Hj b (rs.getD i (aE 0 0 0 0 0))) (l:=l) (by rw[← DW];omega),Ef hi (show rs.length≤AN by unfold AN;omega)];rfl) (λl _=>by
   show GP bud rs (rs.length:Int) (rs.length:Int) b.D0 b.G0 b.I0 b.M0 b.L0 b.N0 b.O0 b.B0 s.h0 s.h1 s.sel t.h0 t.h1 t.sel (KN l)=_;unfold GP;simp only[f_ (J_ (rs.length:Int)),E];rfl) rs.length 0 [] ω σ
 have h':=Aj h.1 ω;have e:BL (λi l=>l++bl (Hj b (rs.getD i (aE 0 0 0 0 0)))) rs.length 0 []=rs.flatMap λr=>bl (Hj b r):=by rw[Hq (λi=>bl (Hj b (rs.getD i (aE 0 0 0 0 0)))),W_,Nd (λr=>bl (Hj b r)) (aE 0 0 0 0 0) rs 0 rs.length ω,P_]
 rw[e]at h';exact h'
end
def DQ(b:C)(s:D)(m:L)(bud:Int):D×Int×Int:=
 bif !(decide (s.ok b.I0))then(O,0,1)else bif decide (bud<0)then(O,0,1)else bif !(m.ok b)then(O,0,1)else
 bif((s.erase b.I0 (1-s.sel) bud).2.2==0)then
  (bif(((s.erase b.I0 (1-s.sel) bud).1.write b.I0 (1-s.sel) (txt ((Db m).flatMap Cy)) (s.erase b.I0 (1-s.sel) bud).2.1).2.2==0)then
   ((s.erase b.I0 (1-s.sel) bud).1.write b.I0 (1-s.sel) (txt ((Db m).flatMap Cy)) (s.erase b.I0 (1-s.sel) bud).2.1).1.choose b.I0 (1-s.sel) ((s.erase b.I0 (1-s.sel) bud).1.write b.I0 (1-s.sel) (txt ((Db m).flatMap Cy)) (s.erase b.I0 (1-s.sel) bud).2.1).2.1
  else(s.erase b.I0 (1-s.sel) bud).1.write b.I0 (1-s.sel) (txt ((Db m).flatMap Cy)) (s.erase b.I0 (1-s.sel) bud).2.1)
 else s.erase b.I0 (1-s.sel) bud
def Aqk(room:Int)(s:D)(half bud:Int)(t:D)(hb:bud<9223372036854775808):(s.act room half bud t).2.1<9223372036854775808:=by
 unfold Sto.act;split
 ·show(0:Int)<_;omega
 ·split
  ·show(0:Int)<_;omega
  ·show bud-1<_;omega
def Ajw(room:Int)(s:D)(half:Int)(d:ByteArray)(bud:Int)(hb:bud<9223372036854775808):(s.write room half d bud).2.1<9223372036854775808:=by
 unfold Sto.write;split
 ·show(0:Int)<_;omega
 ·split
  ·show(0:Int)<_;omega
  ·split
   ·show(0:Int)<_;omega
   ·show bud-(d.size:Int)<_;omega
def Ag2(hb:b.small)(hc:b.B0.length≤100)(s:D)(hf:m.fit)(hbud:bud<9223372036854775808):
  NB b.D0 b.G0 b.I0 b.M0 b.L0 b.N0 b.O0 b.B0 s.h0 s.h1 s.sel m.F0 m.K0 m.H0 m.A0 bud=B (Sto.out (DQ b s m bud)):=by
 have hmx:100000≤maxLen:=by decide
 have hp:=hf.p;have he:=hf.e;unfold NB DQ;rw[IH,Do hb m ω ω,Aem hb hf];simp only[a_];by_cases hs:s.ok b.I0
 ·rw[c_ (show Sto.ok b.I0 ⟨s.h0,s.h1,s.sel⟩from hs)];by_cases hb0:bud<0
  ·rw[c_ hb0];rfl
  rw[f_ hb0];cases hok:m.ok b with
  |false=>rfl
  |true=>
   have hm:=Img.ok_iff.1 hok;have hcars:=An hm.code;have hlp:=hm.lp;have hsn:Vk b m=Db m:=by unfold Vk;rw[hok];rfl
   have hsl:=Zq m;have hne:(Db m).flatMap Cy≠[]:=λh0=>by have h1:=ZO (Db m);rw[h0,hsl,d6_]at h1;omega
   have hloop:=Ald hb hc bud (rs:=Db m) (by rw[hsl];omega) s O;rw[Abt (Tc hm)]at hloop;simp only[Bldg.tup,O,noB]at hloop;have hsel:aD.wrap (1-s.sel)=1-s.sel:=by obtain⟨_,_,_,_,h5⟩:=hs;exact Aa ω ω
   simp only[m_,E,hsn,hloop,a_,hsel,Avq _ _ _ _ _ _ hbud,Sto.out];have hb1:=Aqk b.I0 s (1-s.sel) bud (s.set (1-s.sel) noB) hbud;rw[show s.act b.I0 (1-s.sel) bud (s.set (1-s.sel) noB)=s.erase b.I0 (1-s.sel) bud from rfl]at hb1;rw[show Sto.mk s.h0 s.h1 s.sel=s from rfl];generalize s.erase b.I0 (1-s.sel) bud=r1 at hb1⊢;cases hq:r1.2.2==0 with
   |false=>simp only[E,a_,hq]
   |true=>
    simp only[d_,Axe hne,a_,Tw _ _ _ _ _ _ _ hb1,Sto.out];have hb2:=Ajw b.I0 r1.1 (1-s.sel) (txt ((Db m).flatMap Cy)) r1.2.1 hb1;rw[show Sto.mk r1.1.h0 r1.1.h1 r1.1.sel=r1.1 from rfl];generalize r1.1.write b.I0 (1-s.sel) (txt ((Db m).flatMap Cy)) r1.2.1=r2 at hb2⊢;cases hq2:r2.2.2==0 with
    |false=>simp only[E]
    |true=>simp only[d_,Aqh _ _ _ _ _ _ hb2,a_,Sto.out]
 ·rw[f_ (show ¬Sto.ok b.I0 ⟨s.h0,s.h1,s.sel⟩from hs)];rfl
def IV(b:C)(m:L)(r:I):Bool:=r.Q0==1&&(!(FI (Av r.E0 r.J0) m.A0)&&!(Oc b m))
def Fv(b:C)(s:D)(m:L)(r:I)(bud:Int):D×Int×Int:=bif decide ((6:Int)≤b.I0-(s.cur.size:Int))then s.write b.I0 s.sel (txt (Cy r)) bud else DQ b s (Ak m r) bud
def QB(b:C)(s:D)(m:L)(r:I)(bud:Int):D×L×Int×Int:=
 bif !(m.ok b&&As b r)then(O,aA,0,1)else bif !(decide (s.ok b.I0))then(O,aA,0,1)else bif decide (bud<0)then(O,aA,0,1)else
 bif IV b m r then(O,aA,0,7)else
 bif(Fv b s m r bud).2.2==0 then((Fv b s m r bud).1,Ak m r,(Fv b s m r bud).2.1,(Fv b s m r bud).2.2)
 else bif(Fv b s m r bud).2.2==8 then((Fv b s m r bud).1,m,0,(Fv b s m r bud).2.2)else(O,aA,0,(Fv b s m r bud).2.2)
def Alo(r:D×L×Int×Int):(Unit×Unit×Int×Int×Unit)×((ByteArray×ByteArray×Int×Unit)×(List Int×List Bool×List Bool×List Entry×Unit)×Unit):=(((),(),r.2.2.1,r.2.2.2,()),((r.1.h0,r.1.h1,r.1.sel,()),r.2.1.tup,()))
def Aj5(hb:b.small)(hc:b.B0.length≤100)(s:D)(hp:m.F0.length≤100000)(hl:m.A0.length≤10000)(r:I)(hbud:bud<9223372036854775808):
    OU b.D0 b.G0 b.I0 b.M0 b.L0 b.N0 b.O0 b.B0 s.h0 s.h1 s.sel m.F0 m.K0 m.H0 m.A0 r.Q0 r.E0 r.J0 r.R0 r.J1 bud=B (Alo (QB b s m r bud)):=by
  unfold OU QB;rw[YN hb hc m hp hl r,IH];unfold PP;cases hq:m.ok b&&As b r with
  |false=>rfl
  |true=>
    rw[e_]at hq;have hm:=Img.ok_iff.1 hq.1;simp only[a_,d_,Q_,E,m_];by_cases hs:s.ok b.I0
    · rw[c_ (show Sto.ok b.I0 ⟨s.h0,s.h1,s.sel⟩from hs)]
      by_cases hb0:bud<0
      · rw[c_ hb0];rfl
      rw[f_ hb0];obtain⟨hm2,hl2⟩:=Kl hm hq.2;have h1:=hm.lp;have h2:=hm.lf;have h3:=hm.ll;have g1:=hm2.lp;have g2:=hm2.lf;have g3:=hm2.ll;have hf2:(Ak m r).fit:=⟨ω,ω,ω,ω⟩
      have hcur:(s.cur.size:Int)≤b.I0:=by
        obtain⟨_,_,h3,h4,_⟩:=hs;unfold aC;split
        · exact h4
        · exact h3
      have hroom:=Ym hm.code;have wr:aD.wrap (b.I0-(s.cur.size:Int))=b.I0-(s.cur.size:Int):=Aa ω ω;have hsz:((Hj b r).size:Int)=6:=by rw[WQ hq.2,Fw,Gp];rfl
      rw[Aaz m hm.so ω];have step:∀q:Bool,q=IV b m r→(bif q then B (((),(),(0:Int),(7:Int),()),(((Q (P [])),(Q (P [])),(0:Int),()),(([]:List Int),([]:List Bool),([]:List Bool),([]:List Entry),()),()))else
          B (Alo (bif(Fv b s m r bud).2.2==0 then((Fv b s m r bud).1,Ak m r,(Fv b s m r bud).2.1,(Fv b s m r bud).2.2)else bif(Fv b s m r bud).2.2==8 then((Fv b s m r bud).1,m,0,(Fv b s m r bud).2.2)else(O,aA,0,(Fv b s m r bud).2.2))))=
        B (Alo (bif IV b m r then(O,aA,0,7)else(bif(Fv b s m r bud).2.2==0 then((Fv b s m r bud).1,Ak m r,(Fv b s m r bud).2.1,(Fv b s m r bud).2.2)else bif(Fv b s m r bud).2.2==8 then((Fv b s m r bud).1,m,0,(Fv b s m r bud).2.2)else(O,aA,0,(Fv b s m r bud).2.2)))):=by
        rintro q rfl;cases IV b m r<;>rfl
      simp only[m_,E,a_];rw[← step _ rfl];have e5 : ∀ q : Bool, (bif (r.Q0 == (1 : Int)) then
              bif(!(FI (Av r.E0 r.J0) m.A0))then
                (MG b.D0 b.G0 b.I0 b.M0 b.L0 b.N0 b.O0 b.B0 m.F0 m.K0 m.H0 m.A0).bind λy4=>
                B ((bud,(),(),(),(),(),(),(),(!y4.1.1),()),((b.D0,b.G0,b.I0,b.M0,b.L0,b.N0,b.O0,b.B0,()),(s.h0,s.h1,s.sel,()),(m.F0,m.K0,m.H0,m.A0,()),(r.Q0,r.E0,r.J0,r.R0,r.J1,()),((Q (P [])),(Q (P [])),(0:Int),()),(([]:List Int),([]:List Bool),([]:List Bool),([]:List Entry),()),(Ak m r).tup,()))
              else
                B ((bud,(),(),(),(),(),(),(),H,()),((b.D0,b.G0,b.I0,b.M0,b.L0,b.N0,b.O0,b.B0,()),(s.h0,s.h1,s.sel,()),(m.F0,m.K0,m.H0,m.A0,()),(r.Q0,r.E0,r.J0,r.R0,r.J1,()),((Q (P [])),(Q (P [])),(0:Int),()),(([]:List Int),([]:List Bool),([]:List Bool),([]:List Entry),()),(Ak m r).tup,()))
            else
              B ((bud,(),(),(),(),(),(),(),H,()),((b.D0,b.G0,b.I0,b.M0,b.L0,b.N0,b.O0,b.B0,()),(s.h0,s.h1,s.sel,()),(m.F0,m.K0,m.H0,m.A0,()),(r.Q0,r.E0,r.J0,r.R0,r.J1,()),((Q (P [])),(Q (P [])),(0:Int),()),(([]:List Int),([]:List Bool),([]:List Bool),([]:List Entry),()),(Ak m r).tup,())))=B ((bud,(),(),(),(),(),(),(),IV b m r,()),((b.D0,b.G0,b.I0,b.M0,b.L0,b.N0,b.O0,b.B0,()),(s.h0,s.h1,s.sel,()),(m.F0,m.K0,m.H0,m.A0,()),(r.Q0,r.E0,r.J0,r.R0,r.J1,()),((Q (P [])),(Q (P [])),(0:Int),()),(([]:List Int),([]:List Bool),([]:List Bool),([]:List Entry),()),(Ak m r).tup,())):=λ_=>by
        rw[Aay hb m ω hp ω];unfold IV;cases r.Q0==1<;>cases FI (Av r.E0 r.J0) m.A0<;>rfl
      have e5':=e5 J;simp only[Img.tup]at e5'⊢;rw[e5'];simp only[a_];cases IV b m r with
      |true=>rfl
      |false=>
        simp only[E];rw[Uk hb hc,XZ];simp only[a_,hsz];rw[show aC ⟨s.h0,s.h1,s.sel⟩=s.cur from rfl,wr,WQ hq.2];have hw:Ii b.I0 s.h0 s.h1 s.sel s.sel (txt (Cy r)) bud=_:=Tw b.I0 s.h0 s.h1 s.sel s.sel (txt (Cy r)) bud hbud;have hcp:=Ag2 hb hc s hf2 hbud;rw[hw,hcp];simp only[a_];have e10:∀{A:Type}(f:D×Int×Int→A),(bif decide ((6:Int)≤b.I0-(s.cur.size:Int))then B (f (s.write b.I0 s.sel (txt (Cy r)) bud))else B (f (DQ b s (Ak m r) bud)))=B (f (Fv b s m r bud)):=λf=>by unfold Fv;cases decide ((6:Int)≤b.I0-(s.cur.size:Int))<;>rfl
        rw[show Sto.mk s.h0 s.h1 s.sel=s from rfl];have e10':=e10 λw=>((w.2.1,(),(),(),(),(),w.2.2,()),((w.1.h0,w.1.h1,w.1.sel,()),(m.F0,m.K0,m.H0,m.A0,()),((Q (P [])),(Q (P [])),(0:Int),()),(([]:List Int),([]:List Bool),([]:List Bool),([]:List Entry),()),(Ak m r).tup,()))
        simp only[Img.tup]at e10';simp only[Sto.out];rw[e10'];simp only[a_];generalize Fv b s m r bud=w;cases w.2.2==0 with
        |true=>rfl
        |false=>
          simp only[E];cases w.2.2==8 with
          |true=>rw[YQ m hp ω ω ω];rfl
          |false=>rfl
    · rw[f_ (show ¬Sto.ok b.I0 ⟨s.h0,s.h1,s.sel⟩from hs)]
      rfl
def Cf(b:C)(s:D):L:=Ag (FN b) (Jy b s.cur)
def sB:C:=KH 4 2 30
def sM1:L:=⟨[0,0],[H,H],[H,H],[⟨2,1,-1,0,H⟩]⟩
def sM2:L:=⟨[0,0],[H,H],[H,H],[⟨2,1,0,0,H⟩]⟩
def Arz:sB.code=0:=Asp ω ω ω ω ⟨ω,ω⟩
def ok1:sM1.ok sB=J:=by unfold Img.ok FL Hk Ao;rw[Arz];rfl
def ok2:sM2.ok sB=J:=by unfold Img.ok FL Hk Ao;rw[Arz];rfl
section
variable{s:D}{room half bud:Int}(hs:s.ok room)(hh:half=0∨half=1)(hb:0≤bud)
include hs hh hb
theorem Azc:s.chk room half bud=0:=by unfold Sto.chk;rw[if_pos hs,if_neg ω]
theorem Acw(hr:((s.get half).size:Int)+(t.length:Int)≤room):s.write room half (txt t) bud=if bud<(t.length:Int)then(s.set half (s.get half++txt (t.take bud.toNat)),0,8)else(s.set half (s.get half++txt t),bud-(t.length:Int),0):=by have he:(txt t).extract 0 bud.toNat=txt (t.take bud.toNat):=PS (by rw[PQ,FU,FU];simp);unfold Sto.write;rw[Azc hs hh hb,if_neg ω,Fw,if_neg ω,he]
theorem Ayx(t:D):s.act room half bud t=if bud=0 then(s,0,8)else(t,bud-1,0):=by unfold Sto.act;rw[Azc hs hh hb,if_neg ω]
end
def Ut{half:Int}(hs:s.ok room){x:ByteArray}(hx:(x.size:Int)≤room):(s.set half x).ok room:=by
 obtain⟨h1,h2,h3,h4,h5⟩:=hs;unfold Sto.set Sto.ok;split
 ·exact⟨h1,h2,hx,h4,h5⟩
 ·exact⟨h1,h2,h3,hx,h5⟩
def Bbe{half:Int}(hs:s.ok room)(hh:half=0∨half=1):Sto.ok room { s with sel:=half }:=by obtain⟨h1,h2,h3,h4,_⟩:=hs;exact⟨h1,h2,h3,h4,hh⟩
def Vj(hs:s.ok room):s.sel=0∨s.sel=1:=hs.2.2.2.2
def Agf(hh:s.sel=0∨s.sel=1):s.cur=s.get s.sel:=by unfold aC Sto.get;rcases hh with h | h<;>rw[h]<;>rfl
def Aqs(hh:s.sel=0∨s.sel=1)(x:ByteArray):(s.set s.sel x).cur=x:=by
  obtain⟨h0,h1,sel⟩:=s;rcases hh with h | h<;>
    (simp only at h
     subst h;simp[aC,Sto.set])
def Aia(hh:s.sel=0∨s.sel=1)(x:ByteArray):(s.set (1-s.sel) x).cur=s.cur:=by
  obtain⟨h0,h1,sel⟩:=s;rcases hh with h | h<;>
    (simp only at h
     subst h;simp[aC,Sto.set])
def Ais(hh:s.sel=0∨s.sel=1)(x:ByteArray):(s.set (1-s.sel) x).get (1-s.sel)=x:=by
  obtain⟨h0,h1,sel⟩:=s;rcases hh with h | h<;>
    (simp only at h
     subst h;simp[Sto.set,Sto.get])
def Ajk(hh:s.sel=0∨s.sel=1)(x y:ByteArray):(s.set (1-s.sel) x).set (1-s.sel) y=s.set (1-s.sel) y:=by
  obtain⟨h0,h1,sel⟩:=s;rcases hh with h | h<;>
    (simp only at h
     subst h;simp[Sto.set])
def Ado(hh:s.sel=0∨s.sel=1)(x:ByteArray):aC { s.set (1-s.sel) x with sel:=1-s.sel }=x:=by
  obtain⟨h0,h1,sel⟩:=s;rcases hh with h | h<;>
    (simp only at h
     subst h;simp[aC,Sto.set])
def Zj(hb:b.small)(hc:b.B0.length≤100){rs:List I}(h:bl s.cur=rs.flatMap Cy++t)(ht:t.length<6)(hv:∀r∈rs,As b r=J):Cf b s=Ag (FN b) rs:=by
 unfold Cf Jy;have hl:s.cur.size=6*rs.length+t.length:=by rw[← DW,h,h_,ZO]
 rw[h,Aoc hb hc ht rs s.cur.size ω hv]
structure Jst(b:Bldg)(s:Sto)(m:Img):Prop where
 ok:s.ok b.I0
 img:ImgOK b m
 rs:∃rs:List Record,bl s.cur=rs.flatMap Cy∧(∀r∈rs,As b r=true)∧Ag (FN b) rs=m
 fits:18*((b.B0.length:Int)+(m.A0.length:Int))+6≤b.I0
def Ah2(hs:Bz m.A0)(h:r.Q0=1→FI (Av r.E0 r.J0) m.A0=J):(Ak m r).A0.length≤m.A0.length:=by
 unfold Ak;cases r.Q0==4 with
 |true=>exact A_ _
 |false=>
 cases r.Q0==5 with
 |true=>exact A_ _
 |false=>
 cases r.Q0==6 with
 |true=>exact A_ _
 |false=>
 simp only[E];have hf:=RR (c:=Av r.E0 r.J0) 0 hs;rw[show CV r.E0 r.J0 m.A0 0=_ from hf];cases hq:FI (Av r.E0 r.J0) m.A0 with
 |false=>
  simp only[E,l_,d_];by_cases k1:r.Q0=1
  ·rw[h k1]at hq;cases hq
  ·rw[Am k1];exact A_ _
 |true=>
  rw[d_,Am (ω:¬((0+Ay (Av r.E0 r.J0) m.A0:Nat):Int)=-1),E];cases r.Q0==2 with
  |true=>show(m.A0.take _++m.A0.drop _).length≤_;rw[h_,w_,Y_];omega
  |false=>
  cases r.Q0==3 with
  |true=>show(m.A0.set _ _).length≤_;rw[r_];exact A_ _
  |false=>
  cases r.Q0==7 with
  |true=>show(m.A0.set _ _).length≤_;rw[r_];exact A_ _
  |false=>exact A_ _
def Yw(hj:Jst b s m)(hv:As b r=J)(hfull:IV b m r=H):18*((b.B0.length:Int)+((Ak m r).A0.length:Int))+6≤b.I0:=by
 have h0:=hj.fits;have h2:=(Kl hj.img hv).2;by_cases hk:r.Q0=1
 ·cases hq:FI (Av r.E0 r.J0) m.A0 with
  |true=>have:=Ah2 hj.img.so λ_=>hq;omega
  |false=>unfold IV Oc at hfull;rw[hk,hq,Img.ok_iff.2 hj.img]at hfull;simp at hfull;omega
 ·have:=Ah2 hj.img.so (r:=r) λh=>absurd h hk
  omega
def Acs(h:ImgOK b m):(((Db m).flatMap Cy).length:Int)=18*((b.B0.length:Int)+(m.A0.length:Int)):=by rw[ZO,Zq,h.lp];omega
def WI(hs:s.ok b.I0)(hm:ImgOK b m)(hb0:0≤bud)(hfit:18*((b.B0.length:Int)+(m.A0.length:Int))≤b.I0):
  (2+18*((b.B0.length:Int)+(m.A0.length:Int))≤bud∧DQ b s m bud=({ s.set (1-s.sel) (txt ((Db m).flatMap Cy))with sel:=1-s.sel },bud-(2+18*((b.B0.length:Int)+(m.A0.length:Int))),0))∨
  (bud<2+18*((b.B0.length:Int)+(m.A0.length:Int))∧∃s',DQ b s m bud=(s',0,8)∧s'.ok b.I0∧s'.cur=s.cur):=by
 have hsel:=Vj hs;have hh:1-s.sel=0∨1-s.sel=1:=ω;have hL:=Acs hm;have hroom:=hs.1;have he:s.erase b.I0 (1-s.sel) bud=if bud=0 then(s,0,8)else(s.set (1-s.sel) noB,bud-1,0):=Ayx hs hh hb0 _
 unfold DQ;rw[c_ hs,f_ (ω:¬bud<0),Img.ok_iff.2 hm];simp only[m_,E];generalize hT:(Db m).flatMap Cy=T at hL⊢;by_cases h0:bud=0
 ·right;rw[he,if_pos h0];exact⟨ω,s,rfl,hs,rfl⟩
 ·rw[if_neg h0]at he;rw[he];have hs1:(s.set (1-s.sel) noB).ok b.I0:=Ut hs (by show(0:Int)≤_;omega);have hw:=Acw (t:=T) hs1 hh (ω:0≤bud-1) (by rw[Ais hsel];show((0:Nat):Int)+_≤_;omega);rw[Ais hsel,Ajk hsel,Ajk hsel]at hw;have nb:∀x:ByteArray,noB++x=x:=λx=>PS (by rw[Lg];rfl);rw[nb,nb]at hw;simp only[l_,d_,hw];by_cases h1:bud-1<(T.length:Int)
  ·right;rw[if_pos h1];refine⟨ω,_,rfl,Ut hs ?_,Aia hsel _⟩;rw[Fw,w_];omega
  ·rw[if_neg h1];have hs2:(s.set (1-s.sel) (txt T)).ok b.I0:=Ut hs (by rw[Fw];omega);have hc:=Ayx hs2 hh (ω:0≤bud-1-(T.length:Int)) { s.set (1-s.sel) (txt T)with sel:=1-s.sel };have hc':(s.set (1-s.sel) (txt T)).choose b.I0 (1-s.sel) (bud-1-(T.length:Int))=_:=hc;simp only[l_,d_,hc'];by_cases h2:bud-1-(T.length:Int)=0
   ·right;rw[if_pos h2];exact⟨ω,_,rfl,hs2,Aia hsel _⟩
   ·left;rw[if_neg h2,show bud-1-(T.length:Int)-1=bud-(2+18*((b.B0.length:Int)+(m.A0.length:Int)))by omega];exact⟨ω,rfl⟩
def Rw(b:C)(s:D)(m:L)(r:I):Int:=if(s.cur.size:Int)+6≤b.I0 then 6 else 2+18*((b.B0.length:Int)+((Ak m r).A0.length:Int))
def Ay1(hb:b.small)(hj:Jst b s m)(hv:As b r=J)(hfull:IV b m r=H)(hb0:0≤bud):
  (Rw b s m r≤bud∧∃s',QB b s m r bud=(s',Ak m r,bud-Rw b s m r,0)∧Jst b s' (Ak m r))∨
  (bud<Rw b s m r∧∃s',QB b s m r bud=(s',m,0,8)∧s'.ok b.I0∧Cf b s'=m):=by
 have hcars:=An hj.img.code;have hc:b.B0.length≤100:=ω;have hm2:=(Kl hj.img hv).1;have hfit:=Yw hj hv hfull;obtain⟨rs,e1,e2,e3⟩:=hj.rs;have hsel:=Vj hj.ok;unfold QB;rw[Img.ok_iff.2 hj.img,hv,c_ hj.ok,f_ (ω:¬bud<0),hfull];simp only[S_,m_,E];unfold Rw Fv;by_cases g:(s.cur.size:Int)+6≤b.I0
 ·rw[if_pos g,c_ (ω:(6:Int)≤b.I0-(s.cur.size:Int)),d_];have hw:=Acw (t:=Cy r) hj.ok hsel hb0 (by rw[← Agf hsel,Gp];omega);rw[Gp,← Agf hsel]at hw;rw[hw];by_cases h1:bud<((6:Nat):Int)
  ·right;rw[if_pos h1];have hl:((Cy r).take bud.toNat).length<6:=by rw[w_,Gp];omega
   refine⟨ω,_,rfl,Ut hj.ok ?_,?_⟩
   ·rw[← DW,Lg,FU,h_,DW];omega
   ·rw[Zj hb hc (rs:=rs) (t:=(Cy r).take bud.toNat) (by rw[Aqs hsel,Lg,FU,e1]) hl e2,e3]
  ·left;rw[if_neg h1];refine⟨ω,_,rfl,Ut hj.ok ?_,hm2,⟨rs++[r],?_,?_,?_⟩,hfit⟩
   ·rw[← DW,Lg,FU,h_,DW,Gp];omega
   ·rw[Aqs hsel,Lg,FU,e1,List.flatMap_append];simp
   ·intro x hx;rcases o_.1 hx with hx | hx
    ·exact e2 x hx
    ·rw[C_.1 hx];exact hv
   ·rw[Bp,e3];rfl
 ·rw[if_neg g,f_ (ω:¬(6:Int)≤b.I0-(s.cur.size:Int)),E];rcases WI hj.ok hm2 hb0 ω with⟨q1,q2⟩ | ⟨q1,s',q2,q3,q4⟩
  ·left;rw[q2];refine⟨q1,_,rfl,Bbe (Ut hj.ok ?_) ω,hm2,⟨Db (Ak m r),?_,Tc hm2,Afe hm2⟩,hfit⟩
   ·rw[Fw,Acs hm2];omega
   ·rw[Ado hsel,FU]
  ·right;rw[q2];refine⟨q1,s',rfl,q3,?_⟩;rw[Zj hb hc (rs:=rs) (t:=[]) (by rw[q4,e1,a0_]) σ e2,e3]
def Jst.replay(hb:b.small)(hj:Jst b s m):Cf b s=m:=by have hcars:=An hj.img.code;obtain⟨rs,e1,e2,e3⟩:=hj.rs;rw[Zj hb ω (rs:=rs) (t:=[]) (by rw[e1,a0_]) σ e2,e3]
def Jst.first(hcode:b.code=0):Jst b O (FN b):=by
 have hr:=Ym hcode;have hcars:=An hcode;refine⟨⟨ω,ω,?_,?_,.inl rfl⟩,Xi hcode,⟨[],rfl,(λr h=>by cases h),rfl⟩,?_⟩
 ·show(0:Int)≤_;omega
 ·show(0:Int)≤_;omega
 ·show 18*((b.B0.length:Int)+((0:Nat):Int))+6≤_;omega
def Jst.ents(hj:Jst b s m):m.A0.length≤4000∧m.fit:=by have h1:=hj.fits;have h2:=(Ym hj.img.code).2;have h3:=An hj.img.code;have g1:=hj.img.lp;have g2:=hj.img.lf;have g3:=hj.img.ll;exact⟨ω,ω,ω,ω,ω⟩
def Bap(hs:s.ok room):(s.cur.size:Int)≤room:=by
 obtain⟨_,_,h3,h4,_⟩:=hs;unfold aC;split
 ·exact h4
 ·exact h3
def Ba9(s:D)(m:L)(bud e:Int):(Unit×Unit×Int×Int×Unit)×((ByteArray×ByteArray×Int×Unit)×(List Int×List Bool×List Bool×List Entry×Unit)×Unit):=(((),(),bud,e,()),((s.h0,s.h1,s.sel,()),m.tup,()))
def Dv(b:C)(s:D)(bud:Int):D×L×Int×Int:=
 bif(DQ b s (Cf b s) bud).2.2 !=0 then((DQ b s (Cf b s) bud).1,aA,0,(DQ b s (Cf b s) bud).2.2)
 else((DQ b s (Cf b s) bud).1,Cf b s,(DQ b s (Cf b s) bud).2.1,0)
def Zk(hcode:b.code=0)(s:D)(hs:s.cur.size≤500000):ImgOK b (Cf b s)∧(Cf b s).A0.length≤90000∧(Cf b s).fit:=by have hc:=An hcode;obtain⟨h1,h2⟩:=UH (Xi hcode) (rs:=Jy b s.cur) λr hr=>Rx b _ _ r hr;have h3:=Vd b s.cur.size (bl s.cur);rw[DW]at h3;have h4:(FN b).A0.length=0:=rfl;have h5:(Jy b s.cur).length=(Ia b s.cur.size (bl s.cur)).length:=rfl;have g1:=h1.lp;have g2:=h1.lf;have g3:=h1.ll;exact⟨h1,by show(Ag (FN b) (Jy b s.cur)).A0.length≤_;omega,by show(Ag (FN b) (Jy b s.cur)).F0.length≤_;omega,by show(Ag (FN b) (Jy b s.cur)).K0.length≤_;omega,by show(Ag (FN b) (Jy b s.cur)).H0.length≤_;omega,by show(Ag (FN b) (Jy b s.cur)).A0.length≤_;omega⟩
def SS(b:C)(m:L):Bool:=m.ok b&&decide (18*((b.B0.length:Int)+(m.A0.length:Int))+6≤b.I0)
def Bol{a b:Nat}(h:a≤100000)(h':b≤100000):aD.wrap (IntKind.wrap aD (18*aD.wrap ((a:Int)+(b:Int)))+6)=18*((a:Int)+(b:Int))+6:=by rw[Aa (n:=(a:Int)+(b:Int)) ω ω,Aa (n:=18*((a:Int)+(b:Int))) ω ω,Aa ω ω]
def Ae4(hb:b.small)(m:L)(hc:b.B0.length≤100000)(hf:m.fit):MO b.D0 b.G0 b.I0 b.M0 b.L0 b.N0 b.O0 b.B0 m.F0 m.K0 m.H0 m.A0=B ((SS b m,()),()):=by
 have hmx:100000≤maxLen:=by decide
 have hp:=hf.p;have he:=hf.e;unfold MO SS;rw[Do hb m ω ω];simp only[a_,Bol hc he];cases m.ok b<;>rfl
def Wd:Belief:=⟨-1,0,0,[],0,H⟩
def Kb(b:C)(i:Nat):Car:=b.B0.getD i ⟨0,0,0,0,0,0,0,0,0⟩
def Te(b:C)(e:Entry):Int:=bif decide (0≤e.R0)then(Kb b e.R0.toNat).G1 else 0
def Mch.none:Mch:=⟨aA,O,[],[],[],[],[],[],0,0,0⟩
def Ad7(b:C)(m:L)(s:D):Mch:=⟨m,s,aF b.B0.length Ht,aF b.B0.length Wd,aF b.B0.length BG,aF b.B0.length Ace,m.A0.map (Te b),aF b.B0.length Ag9,0,0,0⟩
def Mch.withB(m:Mch)(l:List Belief):Mch:={ m with X0:=l }
def Mch.withE(m:Mch)(l:List Int):Mch:={ m with X1:=l }
def Aog{α:Type}(a:α):∀k i:Nat,(List.range' i k).flatMap (λ_=>[a])=aF k a
 |0,_=>rfl
 |k+1,i=>by rw[f1_,a8_,Aog a k (i+1),List.replicate_succ];rfl
def Bec{α β:Type}(f:α→β)(l:List α):l.flatMap (λx=>[f x])=l.map f:=by
 induction l with
 |nil=>rfl
 |cons a t ih=>rw[a8_,ih];rfl
def Qd(b:C)(m:L)(s:D):Mch×Int:=bif SS b m&&decide (s.ok b.I0)then(Ad7 b m s,0)else(Mch.none,1)
def PT(b:C)(s:D)(bud:Int):Mch×Int×Int:=
 bif(Dv b s bud).2.2.2 !=0 then({ Mch.none with U0:=(Dv b s bud).1 },0,(Dv b s bud).2.2.2)
 else bif(Qd b (Dv b s bud).2.1 (Dv b s bud).1).2 !=0 then(Mch.none,0,(Qd b (Dv b s bud).2.1 (Dv b s bud).1).2)
 else((Qd b (Dv b s bud).2.1 (Dv b s bud).1).1,(Dv b s bud).2.2.1,0)
def Bjm(hcode:b.code=0)(s:D)(hs:s.cur.size≤500000)(bud:Int):(Dv b s bud).2.1.fit:=by
 obtain⟨_,_,hf⟩:=Zk hcode s hs;unfold Dv;cases(DQ b s (Cf b s) bud).2.2 !=0 with
 |true=>exact⟨a6_ _,a6_ _,a6_ _,a6_ _⟩
 |false=>exact hf
def Qn(b:C):Mch×Int:=bif b.code==0 then((PT b O 1048576).1,(PT b O 1048576).2.2)else(Mch.none,1)
def Arb:∀{l:List Nat}{a n:Nat},l.Pairwise (· < ·)→(∀x∈l,a≤x∧x<n)→l.length+a≤n∨l=[]
 |[],_,_,_,_=>.inr rfl
 |x::t,a,n,h,hr=>by
  left;obtain⟨h1,h2⟩:=f3_.1 h;have hx:=hr x (s_ ..);rcases Arb (a:=x+1) (n:=n) h2 (λy hy=>⟨h1 y hy,(hr y (u_ _ hy)).2⟩)with q | q
  ·rw[E_];omega
  ·subst q;simp;omega
def Bi0(hb:b.small)(hm:ImgOK b m):(m.A0.length:Int)≤2*(b.D0-1):=by
 have lo:=hb.lo;have hi:=hb.hi
 let ix:Int×Int→Nat:=λp=>if p.1=0 then 0 else if p.1=b.D0-1 then(2*b.D0-3).toNat else(2*p.1+p.2-2).toNat
 have hv:∀p∈m.A0.map Dm,(p.2=1∧0≤p.1∧p.1≤b.D0-2)∨(p.2=2∧1≤p.1∧p.1≤b.D0-1):=λp hp=>by obtain⟨e,he,rfl⟩:=b8_.1 hp;have h1:=(DL.1 (hm.en e he)).1;unfold Ao NW at h1;simp only[e_,a2_,U_,Ar]at h1;show(e.J0=1∧0≤e.E0∧e.E0≤b.D0-2)∨(e.J0=2∧1≤e.E0∧e.E0≤b.D0-1);omega
 have hp:((m.A0.map Dm).map ix).Pairwise (· < ·):=by rw[List.pairwise_map];refine List.Pairwise.imp_of_mem (λ{p q} hp hq h=>?_) hm.so;have v1:=hv p hp;have v2:=hv q hq;unfold ltC at h;show ix p<ix q;simp only[ix];split<;>split<;>(try split)<;>(try split)<;>omega
 rcases Arb (a:=0) (n:=(2*b.D0-2).toNat) hp (λx hx=>by
  obtain⟨p,hp,rfl⟩:=b8_.1 hx;have v1:=hv p hp;refine⟨a6_ _,?_⟩;show ix p<_;simp only[ix];split
  ·omega
  ·split<;>omega)with q | q
 ·rw[d1_,d1_]at q;omega
 ·have:=f2_ List.length q
  rw[d1_,d1_,d6_]at this;omega
def Aq7(hm:ImgOK b m)(hfit:18*((b.B0.length:Int)+(m.A0.length:Int))+6≤b.I0):SS b m=J:=by unfold SS;rw[Img.ok_iff.2 hm,c_ hfit];rfl
def Abw(hm:ImgOK b m)(hfit:18*((b.B0.length:Int)+(m.A0.length:Int))+6≤b.I0)(hs:s.ok b.I0):Qd b m s=(Ad7 b m s,0):=by unfold Qd;rw[Aq7 hm hfit,c_ hs];rfl
def Bim(_hb:b.small)(hs:s.ok b.I0)(hm:ImgOK b m)(hrep:Cf b s=m)(hfit:18*((b.B0.length:Int)+(m.A0.length:Int))+6≤b.I0)(hb0:0≤bud):
  (2+18*((b.B0.length:Int)+(m.A0.length:Int))≤bud∧PT b s bud=(Ad7 b m { s.set (1-s.sel) (txt ((Db m).flatMap Cy))with sel:=1-s.sel },bud-(2+18*((b.B0.length:Int)+(m.A0.length:Int))),0)∧Jst b { s.set (1-s.sel) (txt ((Db m).flatMap Cy))with sel:=1-s.sel } m)∨
  (bud<2+18*((b.B0.length:Int)+(m.A0.length:Int))∧∃s',PT b s bud=({ Mch.none with U0:=s' },0,8)∧s'.ok b.I0∧Cf b s'=m):=by
 have hsel:=Vj hs;unfold PT Dv;rw[hrep];rcases WI hs hm hb0 ω with⟨q1,q2⟩ | ⟨q1,s',q2,q3,q4⟩
 ·left;have hj:Jst b { s.set (1-s.sel) (txt ((Db m).flatMap Cy))with sel:=1-s.sel } m:=by
   refine⟨Bbe (Ut hs ?_) ω,hm,⟨Db m,?_,Tc hm,Afe hm⟩,hfit⟩
   ·rw[Fw,Acs hm];omega
   ·rw[Ado hsel,FU]
  rw[q2];refine⟨q1,?_,hj⟩;simp only[Q_,E];rw[Abw hm hfit hj.ok];rfl
 ·right;rw[q2];refine⟨q1,s',rfl,q3,?_⟩;rw[← hrep];unfold Cf;rw[q4]
def Fs{X Y:Type}{step:X→Option (Sum X Y)}{N:Nat}(hN:N≤100000)(g:Nat→X){y:Y}(h1:∀i,i<N→step (g i)=B (.inl (g (i+1))))(h2:step (g N)=B (.inr y)):BJ step CZ (g 0)=B y:=Aj (Ana N g y h1 h2 N 0 (p_ N)) ω
def HP{i n:Nat}(hn:n≤100000)(h:i<n):aD.wrap ((i:Int)+1)=((i+1:Nat):Int):=Ef h (by unfold AN;omega)
def Aht(a:List Calls)(h:a.length≤100000):LL a a=B ((J,()),()):=by have l:Ju ((a,a,(0:Int),()),())=B (.inl ((),())):=Fs h (λi=>((a,a,(i:Int),()),())) (λi hi=>by simp only[lp,Un.u,Nk,Mr hi,FM hi,HP h hi,l_,S_,m_,d_,E]) (by simp only[lp,Un.u,Nk,IW,E]);unfold LL;rw[l];simp
def Akn(a:List Int)(h:a.length≤100000):MN a a=B ((J,()),()):=by have l:KE ((a,a,(0:Int),()),())=B (.inl ((),())):=Fs h (λi=>((a,a,(i:Int),()),())) (λi hi=>by simp only[lp,Un.u,On,Mr hi,FM hi,HP h hi,Q_,d_,E]) (by simp only[lp,Un.u,On,IW,E]);unfold MN;rw[l];simp
def Bev(x:Belief)(h:x.W0.length≤100000):SE x.E0 x.J0 x.D3 x.W0 x.T2 x.H3 x.E0 x.J0 x.D3 x.W0 x.T2 x.H3=B ((J,()),()):=by have l:Pz (((),(),(0:Int),()),(x.tup,x.tup,()))=B (.inl ((),())):=Fs h (λi=>(((),(),(i:Int),()),(x.tup,x.tup,()))) (λi hi=>by unfold Belief.tup;simp only[lp,Un.u,Tx,Mr hi,FM hi,HP h hi,l_,S_,m_,d_,E]) (by unfold Belief.tup;simp only[lp,Un.u,Tx,IW,E]);unfold SE;simp only[Belief.tup]at l;rw[l];simp
def Bew{m:Mch}(hm:m.fit):Ph m.C0.F0 m.C0.K0 m.C0.H0 m.C0.A0 m.U0.h0 m.U0.h1 m.U0.sel m.R1 m.X0 m.B0 m.M2 m.X1 m.I3 m.U3 m.Q2 m.G2 m.C0.F0 m.C0.K0 m.C0.H0 m.C0.A0 m.U0.h0 m.U0.h1 m.U0.sel m.R1 m.X0 m.B0 m.M2 m.X1 m.I3 m.U3 m.Q2 m.G2=B ((J,()),()):=by have l0:PA (((),(),(0:Int),()),(m.tup,m.tup,()))=B (.inl (((),(),()),(m.tup,m.tup,()))):=Fs hm.co (λi=>(((),(),(i:Int),()),(m.tup,m.tup,()))) (λi hi=>by unfold aB;simp only[lp,Un.u,Tz,Mr hi,FM hi,HP hm.co hi,l_,S_,m_,d_,E]) (by unfold aB;simp only[lp,Un.u,Tz,IW,E]);have l1:PB (((),(),(0:Int),()),(m.tup,m.tup,()))=B (.inl (((),(),()),(m.tup,m.tup,()))):=Fs hm.be (λi=>(((),(),(i:Int),()),(m.tup,m.tup,()))) (λi hi=>by have hd:=Bev (m.X0.getD i HX) (hm.du _ (by rw[k_,j_ hi];exact b3_ hi));rw[HX]at hd;unfold aB;simp only[lp,Un.u,TA,Mr hi,FM hi,HP hm.be hi,i_,hd,a_,m_,d_,E]) (by unfold aB;simp only[lp,Un.u,TA,IW,E]);have l2:PC (((),(),(0:Int),()),(m.tup,m.tup,()))=B (.inl (((),(),()),(m.tup,m.tup,()))):=Fs hm.ca (λi=>(((),(),(i:Int),()),(m.tup,m.tup,()))) (λi hi=>by unfold aB;simp only[lp,Un.u,TB,Mr hi,FM hi,HP hm.ca hi,l_,S_,m_,d_,E]) (by unfold aB;simp only[lp,Un.u,TB,IW,E]);have l3:PD (((),(),(0:Int),()),(m.tup,m.tup,()))=B (.inl ((),())):=Fs hm.lo (λi=>(((),(),(i:Int),()),(m.tup,m.tup,()))) (λi hi=>by unfold aB;simp only[lp,Un.u,TC,Mr hi,FM hi,HP hm.lo hi,l_,S_,m_,d_,E]) (by unfold aB;simp only[lp,Un.u,TC,IW,E]);simp only[aB]at l0 l1 l2 l3;unfold Ph;rw[Aa3 hm.im (c:=m.C0),Afa,Aht _ hm.li,Akn _ hm.ex];simp only[a_,Bdc,l_,Q_,S_,m_,E,l0,l1,l2,l3]
end Go.Ovl
