import Derived.Test.YtefkhaccplcieaaGreatDoorOvC
import Derived.Test.YtefkhaccplcieaaGreatDoorOvB
import Derived.Test.YtefkhaccplcieaaGreatDoorOvA
set_option linter.all false
open Go.Ovl renaming bl->B,Sto->E,Bldg->H,Record->I,Img->L
open Option renaming some->C
open Bool renaming false->D,true->J
open Go.Ovl.Sto renaming no->O,cur->aA
open Array renaming mk->P
open ByteArray renaming mk->Q
open Go.Ovl.Img renaming none->R
open Go.Ovl.Record renaming mk->S
open Go.IntKind renaming i64->aB,u8->aE
open Int renaming toNat->aC
open List renaming replicate->aD
namespace Go.Ovl
open Go Go.Ab
set_option maxRecDepth 100000
variable{b:H}{s:E}{m:L}{r:I}{bud room:Int}{l t:List UInt8}
def u8n(n:Int):UInt8:=UInt8.ofNat n.toNat
def TD{n:Int}(h:0≤n∧n<256):((u8n n).toNat:Int)=n:=by unfold u8n;rw[UInt8.toNat_ofNat'];omega
def txt(l:List UInt8):ByteArray:=⟨l.toArray⟩
def Gp(l:List UInt8):B (txt l)=l:=Bu4 l
def Btw(s:ByteArray):txt (B s)=s:=Qe (Gp _)
def Aib(a c:List UInt8):txt a++txt c=txt (a++c):=Qe (by rw[LJ,Gp,Gp,Gp])
def FS(l:List UInt8):(txt l).size=l.length:=by rw[← DP,Gp]
def Adh(l:List Int):Hu l=txt (l.map u8n):=rfl
def Ac5(r:I):List UInt8:=[u8n r.Q0,u8n r.D0,u8n r.I0,u8n (r.R0+2),u8n r.S1]
def Ce(r:I):List UInt8:=Ac5 r++[u8n ((RN (Ac5 r):Nat):Int)]
def GJ(r:I):(Ce r).length=6:=rfl
def RC(hb:b.small){f d:Int}(h:Ap b f d=J):(0≤f∧f<100)∧(1≤d∧d≤2):=by have lo:=hb.lo;have hi:=hb.hi;unfold Ap OA at h;simp only[e_,S_,U_,As]at h;omega
structure RecOK(r:Record):Prop where
 k:1≤r.Q0∧r.Q0≤7
 f:0≤r.D0∧r.D0<100
 d:0≤r.I0∧r.I0<100
 c:-2≤r.R0∧r.R0<100
 v:0≤r.S1∧r.S1<256
def Wa(hb:b.small)(hc:b.B0.length≤100)(h:Au b r=J):RecOK r:=by
 have hk:=(VZ h).2;have hcar:(r.Q0=4∨r.Q0=5∨r.Q0=6)→r.D0=0∧r.I0=0:=λhq=>by
  unfold Au Ub at h;rcases hq with q | q | q
  all_goals
   rw[q]at h;simp only[show((4:Int)==1)=D from rfl,show((4:Int)==2)=D from rfl,show((4:Int)==3)=D from rfl,show((5:Int)==1)=D from rfl,show((5:Int)==2)=D from rfl,show((5:Int)==3)=D from rfl,show((5:Int)==4)=D from rfl,show((6:Int)==1)=D from rfl,show((6:Int)==2)=D from rfl,show((6:Int)==3)=D from rfl,show((6:Int)==4)=D from rfl,show((6:Int)==5)=D from rfl,l_,d_,c_,e_,U_]at h;exact h.2.1.2
 rcases hk with h1 | h1 | h1 | h1 | h1 | h1 | h1
 ·have:=RC hb h1.2.1
  exact⟨ω,this.1,ω,ω,ω⟩
 ·have:=RC hb h1.2.1
  exact⟨ω,this.1,ω,ω,ω⟩
 ·have:=RC hb h1.2.1
  exact⟨ω,this.1,ω,ω,ω⟩
 ·have:=hcar ω
  exact⟨ω,ω,ω,ω,ω⟩
 ·have:=hcar ω
  exact⟨ω,ω,ω,ω,ω⟩
 ·have:=hcar ω
  exact⟨ω,ω,ω,ω,ω⟩
 ·have:=RC hb h1.2.1
  exact⟨ω,this.1,ω,ω,ω⟩
def Bjl(h:RecOK r):Hu [aE.wrap r.Q0,aE.wrap r.D0,aE.wrap r.I0,aE.wrap (IntKind.wrap aB (r.R0+2)),aE.wrap r.S1]=txt (Ac5 r):=by obtain⟨h1,h2,h3,h4,h5⟩:=h;rw[Rh (n:=r.Q0) ω ω,Rh (n:=r.D0) ω ω,Rh (n:=r.I0) ω ω,Aa (n:=r.R0+2) ω ω,Rh (n:=r.R0+2) ω ω,Rh (n:=r.S1) ω ω];rfl
def HM(b:H)(r:I):ByteArray:=bif Au b r then txt (Ce r)else txt []
section
variable{b:H}(hb:b.small)(hc:b.B0.length≤100)
include hb hc
theorem Uy(r:I):Jf b.C0 b.F0 b.H0 b.M0 b.K0 b.L0 b.N0 b.B0 r.Q0 r.D0 r.I0 r.R0 r.S1=C ((HM b r,(bif Au b r then 0 else 1),()),()):=by
 unfold Jf HM;rw[Qv hb hc r];simp only[a_];cases hv:Au b r with
 |false=>rfl
 |true=>have h:=Wa hb hc hv;simp only[o_,c_,d_,Bjl h];rw[Abe (by rw[FS];show 5≤1000000;omega)];simp only[a_,Gp,Adh];rw[Az (by rw[FS,FS];show 5+1≤4611686018427387904;omega),Aib];rfl
theorem Ak2(r:I):PD b.C0 b.F0 b.H0 b.M0 b.K0 b.L0 b.N0 b.B0 r.Q0 r.D0 r.I0 r.R0 r.S1=C ((HM b r,(bif Au b r then 0 else 1),()),()):=by
 unfold PD HM;rw[Aou hb hc r];simp only[a_];cases hv:Au b r with
 |false=>rfl
 |true=>have h:=Wa hb hc hv;simp only[o_,c_,d_,Bjl h];rw[Aqo (by rw[FS];show 5≤1000000;omega)];simp only[a_,Gp,Adh];rw[Az (by rw[FS,FS];show 5+1≤4611686018427387904;omega),Aib];rfl
end
def fld(l:List UInt8)(i:Nat):Int:=((l.getD i 0).toNat:Int)
def XJ(l:List UInt8):I:=⟨fld l 0,fld l 1,fld l 2,fld l 3-2,fld l 4⟩
def SX(b:H)(l:List UInt8):Option I:=bif l.length==6&&(((((RN (l.take 5):Nat):Int))==fld l 5)&&Au b (XJ l))then C (XJ l)else none
def YO(l:List UInt8)(i:Nat):0≤fld l i∧fld l i<256:=by have h:(l.getD i 0).toNat<256:=UInt8.toNat_lt _;unfold fld;omega
def Bay(h:SX b l=C r):Au b r=J:=by
 unfold SX at h;cases hq:(l.length==6&&(((((RN (l.take 5):Nat):Int))==fld l 5)&&Au b (XJ l)))with
 |false=>rw[hq]at h;cases h
 |true=>rw[hq]at h;cases h;rw[e_,e_]at hq;exact hq.2.2
def Bj7(hb:b.small)(hc:b.B0.length≤100)(h:Au b r=J):SX b (Ce r)=C r:=by
 obtain⟨h1,h2,h3,h4,h5⟩:=Wa hb hc h;have hs:=Asp (Ac5 r);have e:XJ (Ce r)=r:=by show S ((u8n r.Q0).toNat:Int) ((u8n r.D0).toNat:Int) ((u8n r.I0).toNat:Int) (((u8n (r.R0+2)).toNat:Int)-2) ((u8n r.S1).toNat:Int)=r;rw[TD ω,TD ω,TD ω,TD ω,TD ω,show r.R0+2-2=r.R0 by omega]
 have e5:fld (Ce r) 5=((RN (Ac5 r):Nat):Int):=by show((u8n ((RN (Ac5 r):Nat):Int)).toNat:Int)=_;exact TD ω
 unfold SX;rw[e,h,e5,show(Ce r).take 5=Ac5 r from rfl,GJ];simp
def Ac6(hb:b.small)(hc:b.B0.length≤100)(hcode:b.code=0)(s:ByteArray)(_hs:s.size≤1000000):
  ∃(e:Int) (r0:I),Mn b.C0 b.F0 b.H0 b.M0 b.K0 b.L0 b.N0 b.B0 s=C (((),e,()),((r0.Q0,r0.D0,r0.I0,r0.R0,r0.S1,()),()))∧(e !=0)=(SX b (B s)).isNone∧∀r,SX b (B s)=C r→r0=r:=by
 unfold Mn;rw[AR,hcode];simp only[a_,Q_,c_];unfold SX;by_cases h6:s.size=6
 ·have l6:(B s).length=6:=by rw[DP];exact h6
  have ib:∀i:Int,0≤i→i<6→inB i s.size=J:=λi h h'=>Ac h ω;have x5:B (s.extract 0 5)=(B s).take 5:=by rw[Qd];rfl
  rw[show((s.size:Int) !=6)=D by rw[h6];rfl,b_ (ω:(5:Int)≤(s.size:Int)),Abe (by rw[← DP,x5,v_];omega),x5];simp only[c_,d_,a_,ib 5 ω ω,ib 0 ω ω,ib 1 ω ω,ib 2 ω ω,ib 3 ω ω,ib 4 ω ω,KN];rw[l6,show aC 5=5 from rfl,show aC 0=0 from rfl,show aC 1=1 from rfl,show aC 2=2 from rfl,show aC 3=3 from rfl,show aC 4=4 from rfl];simp only[show ∀i:Nat,(((B s).getD i 0).toNat:Int)=fld (B s) i from λ_=>rfl];have f0:=YO (B s) 0;have f1:=YO (B s) 1;have f2:=YO (B s) 2;have f3:=YO (B s) 3;have f4:=YO (B s) 4;rw[Aa (n:=fld (B s) 0) ω ω,Aa (n:=fld (B s) 1) ω ω,Aa (n:=fld (B s) 2) ω ω,Aa (n:=fld (B s) 3) ω ω,Aa (n:=fld (B s) 3-2) ω ω,Aa (n:=fld (B s) 4) ω ω];simp only[bne];cases hq:(((RN ((B s).take 5):Nat):Int))==fld (B s) 5 with
  |false=>exact⟨5,⟨0,0,0,0,0⟩,rfl,rfl,λr h=>by cases h⟩
  |true=>
   have hv:=Qv hb hc (XJ (B s));unfold XJ at hv;simp only at hv;simp only[o_,c_,hv,a_];show ∃e r0,(bif !(Au b (XJ (B s)))then _ else _)=_∧_;cases Au b (XJ (B s))with
   |false=>exact⟨9,⟨0,0,0,0,0⟩,rfl,rfl,λr h=>by cases h⟩
   |true=>exact⟨0,XJ (B s),rfl,rfl,λr h=>H_ h⟩
 ·rw[show((s.size:Int) !=6)=J from GT ω,show((B s).length==6)=D from Ao (by rw[DP];exact h6)];exact⟨4,⟨0,0,0,0,0⟩,rfl,rfl,λr h=>by cases h⟩
def IF(b:H):Nat→List UInt8→List I
 |0,_=>[]
 |k+1,l=>if 6≤l.length then match SX b (l.take 6)with | some r=>r::IF b k (l.drop 6) | none=>[]else []
def JX(b:H)(s:ByteArray):List I:=IF b s.size (B s)
def Vu(b:H):∀(k:Nat) (l:List UInt8),6*(IF b k l).length≤l.length
 |0,_=>by simp[IF]
 |k+1,l=>by
  simp only[IF];split
  ·split
   ·rename_i h _ r _
    have:=Vu b k (l.drop 6)
    rw[W_]at this;rw[C_];omega
   ·simp
  ·simp
def RI(b:H):∀(k:Nat) (l:List UInt8),∀r∈IF b k l,Au b r=J
 |0,_,_,h=>by simp[IF]at h
 |k+1,l,r,h=>by
  simp only[IF]at h;split at h
  ·split at h
   ·rename_i _ _ r' hr;rcases s_.1 h with rfl | h
    ·exact Bay hr
    ·exact RI b k _ r h
   ·cases h
  ·cases h
def Aoz{b:H}(hb:b.small)(hc:b.B0.length≤100){t:List UInt8}(ht:t.length<6):∀(rs:List I) (k:Nat),rs.length≤k→(∀r∈rs,Au b r=J)→IF b k (rs.flatMap Ce++t)=rs
 |[],0,_,_=>rfl
 |[],k+1,_,_=>by simp only[IF,List.flatMap_nil,a1_];rw[if_neg ω]
 |r::rs,0,h,_=>by simp at h
 |r::rs,k+1,h,hv=>by
  have e1:(r::rs).flatMap Ce++t=Ce r++(rs.flatMap Ce++t):=by rw[a3_,O_]
  have e2:(Ce r++(rs.flatMap Ce++t)).take 6=Ce r:=f2_ (GJ r);have e3:(Ce r++(rs.flatMap Ce++t)).drop 6=rs.flatMap Ce++t:=List.drop_left' (GJ r);simp only[IF];rw[e1,e2,e3,Bj7 hb hc (hv r (q_ ..)),if_pos (by rw[i_,GJ];omega),Aoz hb hc ht rs k (by simp at h;omega) λx hx=>hv x (r_ _ hx)]
def Ah7(hb:b.small)(hc:b.B0.length≤100)(hcode:b.code=0)(s:ByteArray)(hs:s.size≤1000000):
  ∃n:Int,Ol b.C0 b.F0 b.H0 b.M0 b.K0 b.L0 b.N0 b.B0 s=C ((JX b s,n,()),()):=by
 have key:∀(k n:Nat) (l:List I),s.size≤n+6*k→n≤s.size→l.length≤n→∃y:Int,BX (λx=>letI a:=x.2.1.2.2;letI c:=a.2.2;EO x.1.1 x.1.2.2.1 x.1.2.2.2.1 x.2.1.1 x.2.1.2.1 a.1 a.2.1 c.1 c.2.1 c.2.2.1 c.2.2.2.1) (k+1) ((s,(),l,(n:Int),()),(b.tup,()))=C ((l++IF b k ((B s).drop n),y,()),()):=by
  intro k;induction k with
  |zero=>intro n l h1 h2 _;refine⟨(n:Int),AE ?_⟩;show EO s l (n:Int) b.C0 b.F0 b.H0 b.M0 b.K0 b.L0 b.N0 b.B0=_;unfold EO;rw[Aa (n:=(n:Int)+6) ω ω,f_ (ω:¬(n:Int)+6≤(s.size:Int))];simp only[c_,IF,a2_]
  |succ k ih=>
   intro n l h1 h2 h3;have w:aB.wrap ((n:Int)+6)=((n+6:Nat):Int):=by rw[Aa ω ω];omega
   by_cases g:n+6≤s.size
   ·have hbl:((B s).drop n).length=s.size-n:=by rw[W_,DP]
    have hx:B (s.extract n (n+6))=((B s).drop n).take 6:=by rw[Qd,show n+6-n=6 by omega]
    obtain⟨e,r0,d1,d2,d3⟩:=Ac6 hb hc hcode (s.extract n (n+6)) (by rw[← DP,hx,v_];omega);rw[hx]at d2 d3;have hstep:∀X,(bif(e !=0)then C (Sum.inr ((l,(n:Int),()),()))else C (Sum.inl ((s,(),(l++[r0]),((n+6:Nat):Int),()),(b.tup,()))))=X→EO s l (n:Int) b.C0 b.F0 b.H0 b.M0 b.K0 b.L0 b.N0 b.B0=X:=by rintro X rfl;unfold EO;simp only[w,b_ (ω:((n+6:Nat):Int)≤(s.size:Int)),b_ (ω:(0:Int)≤((n+6:Nat):Int)),b_ (ω:(0:Int)≤(n:Int)),h_,b_ (ω:(n:Int)≤((n+6:Nat):Int)),a0_,d_,d1,a_];rw[Az (show l.length+[S r0.Q0 r0.D0 r0.I0 r0.R0 r0.S1].length≤2147483648 by rw[G_];omega)];rfl
    cases hd:SX b (((B s).drop n).take 6)with
    |none=>rw[hd]at d2;rw[d2]at hstep;refine⟨(n:Int),(AE (hstep _ rfl)).trans ?_⟩;simp only[IF,hbl,hd];rw[if_pos ω,a2_]
    |some r=>rw[hd]at d2;rw[d2]at hstep;obtain rfl:=d3 r hd;obtain⟨y,hy⟩:=ih (n+6) (l++[r0]) ω g (by rw[i_,G_];omega);refine⟨y,(BO (hstep _ rfl)).trans (hy.trans ?_)⟩;simp only[IF,hbl,hd];rw[if_pos ω,O_,List.drop_drop];rfl
   ·refine⟨(n:Int),AE ?_⟩;show EO s l (n:Int) b.C0 b.F0 b.H0 b.M0 b.K0 b.L0 b.N0 b.B0=_;unfold EO;rw[w,f_ (ω:¬((n+6:Nat):Int)≤(s.size:Int))];simp only[c_,IF];rw[if_neg (by rw[W_,DP];omega),a2_]
 obtain⟨y,hy⟩:=key s.size 0 [] ω ω σ;have hy':=Ak hy ω;refine⟨y,?_⟩;unfold Ol;rw[show Mx ((s,(),[],(0:Int),()),((b.C0,b.F0,b.H0,b.M0,b.K0,b.L0,b.N0,b.B0,()),()))=_ from hy'];rw[P_,a1_];rfl
def Ls(l:List UInt8):List Int:=l.map λx=>(x.toNat:Int)
def Awo(l:List UInt8):Hu (Ls l)=txt l:=by
 rw[Adh];unfold Ls;rw[List.map_map];congr 1
 conv=>rhs;rw[← List.map_id l]
 refine List.map_congr_left λx _=>?_;show UInt8.ofNat (aC (x.toNat:Int))=x;rw[h_,UInt8.ofNat_toNat]
def Bfs(l:List UInt8):(Ls l).all (λn=>decide (0≤n)&&decide (n<256))=J:=by
 rw[N_];intro n hn;obtain⟨x,_,rfl⟩:=b6_.1 hn
 have:x.toNat<256:=UInt8.toNat_lt x
 simp only[e_,t_];omega
def Ayh(h:l≠[]):FI (Ls l)=C ((txt l,()),(((),Ls l,()),())):=by
 unfold FI;rw[Bfs,Awo,show Awg (Ls l)=J by
  cases l with
  |nil=>exact absurd rfl h
  |cons a t=>rfl]
 rfl
def Bdm(s:ByteArray)(h:l.length+s.size≤2147483648):DZ s (Ls l)=C (((s.size:Int),(),()),(((),Ls (l++B s),()),())):=by unfold DZ wsF;rw[show(Ls l).length=l.length from c9_ _,Az h];unfold Ls B;rw[List.map_append];rfl
def Ais(b:H)(r:I):(B (HM b r)).length≤6:=by
 unfold HM;cases Au b r with
 |true=>rw[d_,Gp,GJ];omega
 |false=>rw[c_,Gp];simp
def Xd(h:Au b r=J):HM b r=txt (Ce r):=by unfold HM;rw[h];rfl
def Acb{b:H}:∀{rs:List I},(∀r∈rs,Au b r=J)→rs.flatMap (λr=>B (HM b r))=rs.flatMap Ce
 |[],_=>rfl
 |r::t,h=>by rw[a3_,a3_,Xd (h r (q_ ..)),Gp,Acb λx hx=>h x (r_ _ hx)]
def Aac(rs:List I):(rs.flatMap Ce).length=6*rs.length:=by
 induction rs with
 |nil=>rfl
 |cons r t ih=>rw[a3_,i_,ih,GJ,C_];omega
section
variable{b:H}(hb:b.small)(hc:b.B0.length≤100)
include hb hc
theorem Alx(bud:Int){rs:List I}(hl:rs.length≤1000000)(s t:E):Ms ((bud,(),(),(),(),rs,(rs.length:Int),(0:Int),()),(b.tup,(s.h0,s.h1,s.sel,()),(t.h0,t.h1,t.sel,()),((),[],()),()))=C ((bud,(),(),(),(),()),(b.tup,(s.h0,s.h1,s.sel,()),(t.h0,t.h1,t.sel,()),((),Ls (rs.flatMap λr=>B (HM b r)),()),())):=by
 have h:=AQ (step:=λx=>letI a:=x.2.1.2.2;letI c:=x.1.2.2.2.2.2;letI d:=x.2.2;letI f:=a.2.2;Hp x.1.1 c.1 c.2.1 c.2.2.1 x.2.1.1 x.2.1.2.1 a.1 a.2.1 f.1 f.2.1 f.2.2.1 f.2.2.2.1 d.1.1 d.1.2.1 d.1.2.2.1 d.2.1.1 d.2.1.2.1 d.2.1.2.2.1 d.2.2.1.2.1) rs.length
  (λi (l:List UInt8)=>((bud,(),(),(),(),rs,(rs.length:Int),(i:Int),()),(b.tup,(s.h0,s.h1,s.sel,()),(t.h0,t.h1,t.sel,()),((),Ls l,()),()))) (λi l=>l++B (HM b (rs.getD i (S 0 0 0 0 0)))) (λi l=>l.length≤6*i) (λl=>((bud,(),(),(),(),()),(b.tup,(s.h0,s.h1,s.sel,()),(t.h0,t.h1,t.sel,()),((),Ls l,()),()))) (λi l hi hs=>by
   have he:=Ais b (rs.getD i (S 0 0 0 0 0));refine⟨?_,by rw[i_];omega⟩;show Hp bud rs (rs.length:Int) (i:Int) b.C0 b.F0 b.H0 b.M0 b.K0 b.L0 b.N0 b.B0 s.h0 s.h1 s.sel t.h0 t.h1 t.sel (Ls l)=_;unfold Hp;simp only[b_ (ω:(i:Int)<(rs.length:Int)),Ac (ω:(0:Int)≤(i:Int)) (ω:(i:Int)<(rs.length:Int)),d_,h_,Uy hb hc,a_,Bdm (HM b (rs.getD i (S 0 0 0 0 0))) (l:=l) (by rw[← DP];omega),ER hi (show rs.length≤AL by unfold AL;omega)];rfl) (λl _=>by
   show Hp bud rs (rs.length:Int) (rs.length:Int) b.C0 b.F0 b.H0 b.M0 b.K0 b.L0 b.N0 b.B0 s.h0 s.h1 s.sel t.h0 t.h1 t.sel (Ls l)=_;unfold Hp;simp only[f_ (M_ (rs.length:Int)),c_];rfl) rs.length 0 [] ω σ
 have h':=Ak h.1 ω;have e:Bo (λi l=>l++B (HM b (rs.getD i (S 0 0 0 0 0)))) rs.length 0 []=rs.flatMap λr=>B (HM b r):=by rw[HT (λi=>B (HM b (rs.getD i (S 0 0 0 0 0)))),a1_,NE (λr=>B (HM b r)) (S 0 0 0 0 0) rs 0 rs.length ω,P_]
 rw[e]at h';exact h'
end
def DF(b:H)(s:E)(m:L)(bud:Int):E×Int×Int:=
 bif !(decide (s.ok b.H0))then(O,0,1)else bif decide (bud<0)then(O,0,1)else bif !(m.ok b)then(O,0,1)else
 bif((s.erase b.H0 (1-s.sel) bud).2.2==0)then
  (bif(((s.erase b.H0 (1-s.sel) bud).1.write b.H0 (1-s.sel) (txt ((CR m).flatMap Ce)) (s.erase b.H0 (1-s.sel) bud).2.1).2.2==0)then
   ((s.erase b.H0 (1-s.sel) bud).1.write b.H0 (1-s.sel) (txt ((CR m).flatMap Ce)) (s.erase b.H0 (1-s.sel) bud).2.1).1.choose b.H0 (1-s.sel) ((s.erase b.H0 (1-s.sel) bud).1.write b.H0 (1-s.sel) (txt ((CR m).flatMap Ce)) (s.erase b.H0 (1-s.sel) bud).2.1).2.1
  else(s.erase b.H0 (1-s.sel) bud).1.write b.H0 (1-s.sel) (txt ((CR m).flatMap Ce)) (s.erase b.H0 (1-s.sel) bud).2.1)
 else s.erase b.H0 (1-s.sel) bud
def Aq8(room:Int)(s:E)(half bud:Int)(t:E)(hb:bud<9223372036854775808):(s.act room half bud t).2.1<9223372036854775808:=by
 unfold Sto.act;split
 ·show(0:Int)<_;omega
 ·split
  ·show(0:Int)<_;omega
  ·show bud-1<_;omega
def Akf(room:Int)(s:E)(half:Int)(d:ByteArray)(bud:Int)(hb:bud<9223372036854775808):(s.write room half d bud).2.1<9223372036854775808:=by
 unfold Sto.write;split
 ·show(0:Int)<_;omega
 ·split
  ·show(0:Int)<_;omega
  ·split
   ·show(0:Int)<_;omega
   ·show bud-(d.size:Int)<_;omega
def Ahj(hb:b.small)(hc:b.B0.length≤100)(s:E)(hf:m.fit)(hbud:bud<9223372036854775808):
  Ob b.C0 b.F0 b.H0 b.M0 b.K0 b.L0 b.N0 b.B0 s.h0 s.h1 s.sel m.G0 m.O0 m.J0 m.A0 bud=C (Sto.out (DF b s m bud)):=by
 have hmx:100000≤maxLen:=by decide
 have hp:=hf.p;have he:=hf.e;unfold Ob DF;rw[Ji,Db hb m ω ω,Ae9 hb hf];simp only[a_];by_cases hs:s.ok b.H0
 ·rw[b_ (show Sto.ok b.H0 ⟨s.h0,s.h1,s.sel⟩from hs)];by_cases hb0:bud<0
  ·rw[b_ hb0];rfl
  rw[f_ hb0];cases hok:m.ok b with
  |false=>rfl
  |true=>
   have hm:=Img.ok_iff.1 hok;have hcars:=Aj hm.code;have hlp:=hm.lp;have hsn:VB b m=CR m:=by unfold VB;rw[hok];rfl
   have hsl:=ZC m;have hne:(CR m).flatMap Ce≠[]:=λh0=>by have h1:=Aac (CR m);rw[h0,hsl,d6_]at h1;omega
   have hloop:=Alx hb hc bud (rs:=CR m) (by rw[hsl];omega) s O;rw[Acb (Tr hm)]at hloop;simp only[Bldg.tup,O,noB]at hloop;have hsel:aB.wrap (1-s.sel)=1-s.sel:=by obtain⟨_,_,_,_,h5⟩:=hs;exact Aa ω ω
   simp only[o_,c_,hsn,hloop,a_,hsel,Aws _ _ _ _ _ _ hbud,Sto.out];have hb1:=Aq8 b.H0 s (1-s.sel) bud (s.set (1-s.sel) noB) hbud;rw[show s.act b.H0 (1-s.sel) bud (s.set (1-s.sel) noB)=s.erase b.H0 (1-s.sel) bud from rfl]at hb1;rw[show Sto.mk s.h0 s.h1 s.sel=s from rfl];generalize s.erase b.H0 (1-s.sel) bud=r1 at hb1⊢;cases hq:r1.2.2==0 with
   |false=>simp only[c_,a_,hq]
   |true=>
    simp only[d_,Ayh hne,a_,TK _ _ _ _ _ _ _ hb1,Sto.out];have hb2:=Akf b.H0 r1.1 (1-s.sel) (txt ((CR m).flatMap Ce)) r1.2.1 hb1;rw[show Sto.mk r1.1.h0 r1.1.h1 r1.1.sel=r1.1 from rfl];generalize r1.1.write b.H0 (1-s.sel) (txt ((CR m).flatMap Ce)) r1.2.1=r2 at hb2⊢;cases hq2:r2.2.2==0 with
    |false=>simp only[c_]
    |true=>simp only[d_,Aq5 _ _ _ _ _ _ hb2,a_,Sto.out]
 ·rw[f_ (show ¬Sto.ok b.H0 ⟨s.h0,s.h1,s.sel⟩from hs)];rfl
def JC(b:H)(m:L)(r:I):Bool:=r.Q0==1&&(!(Gf (Aw r.D0 r.I0) m.A0)&&!(JY b m))
def FQ(b:H)(s:E)(m:L)(r:I)(bud:Int):E×Int×Int:=bif decide ((6:Int)≤b.H0-(s.cur.size:Int))then s.write b.H0 s.sel (txt (Ce r)) bud else DF b s (Am m r) bud
def QN(b:H)(s:E)(m:L)(r:I)(bud:Int):E×L×Int×Int:=
 bif !(m.ok b&&Au b r)then(O,R,0,1)else bif !(decide (s.ok b.H0))then(O,R,0,1)else bif decide (bud<0)then(O,R,0,1)else
 bif JC b m r then(O,R,0,7)else
 bif(FQ b s m r bud).2.2==0 then((FQ b s m r bud).1,Am m r,(FQ b s m r bud).2.1,(FQ b s m r bud).2.2)
 else bif(FQ b s m r bud).2.2==8 then((FQ b s m r bud).1,m,0,(FQ b s m r bud).2.2)else(O,R,0,(FQ b s m r bud).2.2)
def Al9(r:E×L×Int×Int):(Unit×Unit×Int×Int×Unit)×((ByteArray×ByteArray×Int×Unit)×(List Int×List Bool×List Bool×List Entry×Unit)×Unit):=(((),(),r.2.2.1,r.2.2.2,()),((r.1.h0,r.1.h1,r.1.sel,()),r.2.1.tup,()))
def Akp(hb:b.small)(hc:b.B0.length≤100)(s:E)(hp:m.G0.length≤100000)(hl:m.A0.length≤10000)(r:I)(hbud:bud<9223372036854775808):
    Pw b.C0 b.F0 b.H0 b.M0 b.K0 b.L0 b.N0 b.B0 s.h0 s.h1 s.sel m.G0 m.O0 m.J0 m.A0 r.Q0 r.D0 r.I0 r.R0 r.S1 bud=C (Al9 (QN b s m r bud)):=by
  unfold Pw QN;rw[Zc hb hc m hp hl r,Ji];unfold Yw;cases hq:m.ok b&&Au b r with
  |false=>rfl
  |true=>
    rw[e_]at hq;have hm:=Img.ok_iff.1 hq.1;simp only[a_,d_,Q_,c_,o_];by_cases hs:s.ok b.H0
    · rw[b_ (show Sto.ok b.H0 ⟨s.h0,s.h1,s.sel⟩from hs)]
      by_cases hb0:bud<0
      · rw[b_ hb0];rfl
      rw[f_ hb0];obtain⟨hm2,hl2⟩:=KM hm hq.2;have h1:=hm.lp;have h2:=hm.lf;have h3:=hm.ll;have g1:=hm2.lp;have g2:=hm2.lf;have g3:=hm2.ll;have hf2:(Am m r).fit:=⟨ω,ω,ω,ω⟩
      have hcur:(s.cur.size:Int)≤b.H0:=by
        obtain⟨_,_,h3,h4,_⟩:=hs;unfold aA;split
        · exact h4
        · exact h3
      have hroom:=YE hm.code;have wr:aB.wrap (b.H0-(s.cur.size:Int))=b.H0-(s.cur.size:Int):=Aa ω ω;have hsz:((HM b r).size:Int)=6:=by rw[Xd hq.2,FS,GJ];rfl
      rw[Abk m hm.so ω];have step:∀q:Bool,q=JC b m r→(bif q then C (((),(),(0:Int),(7:Int),()),(((Q (P [])),(Q (P [])),(0:Int),()),(([]:List Int),([]:List Bool),([]:List Bool),([]:List Entry),()),()))else
          C (Al9 (bif(FQ b s m r bud).2.2==0 then((FQ b s m r bud).1,Am m r,(FQ b s m r bud).2.1,(FQ b s m r bud).2.2)else bif(FQ b s m r bud).2.2==8 then((FQ b s m r bud).1,m,0,(FQ b s m r bud).2.2)else(O,R,0,(FQ b s m r bud).2.2))))=
        C (Al9 (bif JC b m r then(O,R,0,7)else(bif(FQ b s m r bud).2.2==0 then((FQ b s m r bud).1,Am m r,(FQ b s m r bud).2.1,(FQ b s m r bud).2.2)else bif(FQ b s m r bud).2.2==8 then((FQ b s m r bud).1,m,0,(FQ b s m r bud).2.2)else(O,R,0,(FQ b s m r bud).2.2)))):=by
        rintro q rfl;cases JC b m r<;>rfl
      simp only[o_,c_,a_];rw[← step _ rfl];have e5 : ∀ q : Bool, (bif (r.Q0 == (1 : Int)) then
              bif(!(Gf (Aw r.D0 r.I0) m.A0))then
                (Nl b.C0 b.F0 b.H0 b.M0 b.K0 b.L0 b.N0 b.B0 m.G0 m.O0 m.J0 m.A0).bind λy4=>
                C ((bud,(),(),(),(),(),(),(),(!y4.1.1),()),((b.C0,b.F0,b.H0,b.M0,b.K0,b.L0,b.N0,b.B0,()),(s.h0,s.h1,s.sel,()),(m.G0,m.O0,m.J0,m.A0,()),(r.Q0,r.D0,r.I0,r.R0,r.S1,()),((Q (P [])),(Q (P [])),(0:Int),()),(([]:List Int),([]:List Bool),([]:List Bool),([]:List Entry),()),(Am m r).tup,()))
              else
                C ((bud,(),(),(),(),(),(),(),D,()),((b.C0,b.F0,b.H0,b.M0,b.K0,b.L0,b.N0,b.B0,()),(s.h0,s.h1,s.sel,()),(m.G0,m.O0,m.J0,m.A0,()),(r.Q0,r.D0,r.I0,r.R0,r.S1,()),((Q (P [])),(Q (P [])),(0:Int),()),(([]:List Int),([]:List Bool),([]:List Bool),([]:List Entry),()),(Am m r).tup,()))
            else
              C ((bud,(),(),(),(),(),(),(),D,()),((b.C0,b.F0,b.H0,b.M0,b.K0,b.L0,b.N0,b.B0,()),(s.h0,s.h1,s.sel,()),(m.G0,m.O0,m.J0,m.A0,()),(r.Q0,r.D0,r.I0,r.R0,r.S1,()),((Q (P [])),(Q (P [])),(0:Int),()),(([]:List Int),([]:List Bool),([]:List Bool),([]:List Entry),()),(Am m r).tup,())))=C ((bud,(),(),(),(),(),(),(),JC b m r,()),((b.C0,b.F0,b.H0,b.M0,b.K0,b.L0,b.N0,b.B0,()),(s.h0,s.h1,s.sel,()),(m.G0,m.O0,m.J0,m.A0,()),(r.Q0,r.D0,r.I0,r.R0,r.S1,()),((Q (P [])),(Q (P [])),(0:Int),()),(([]:List Int),([]:List Bool),([]:List Bool),([]:List Entry),()),(Am m r).tup,())):=λ_=>by
        rw[Abj hb m ω hp ω];unfold JC;cases r.Q0==1<;>cases Gf (Aw r.D0 r.I0) m.A0<;>rfl
      have e5':=e5 J;simp only[Img.tup]at e5'⊢;rw[e5'];simp only[a_];cases JC b m r with
      |true=>rfl
      |false=>
        simp only[c_];rw[Uy hb hc,RP];simp only[a_,hsz];rw[show aA ⟨s.h0,s.h1,s.sel⟩=s.cur from rfl,wr,Xd hq.2];have hw:IL b.H0 s.h0 s.h1 s.sel s.sel (txt (Ce r)) bud=_:=TK b.H0 s.h0 s.h1 s.sel s.sel (txt (Ce r)) bud hbud;have hcp:=Ahj hb hc s hf2 hbud;rw[hw,hcp];simp only[a_];have e10:∀{A:Type}(f:E×Int×Int→A),(bif decide ((6:Int)≤b.H0-(s.cur.size:Int))then C (f (s.write b.H0 s.sel (txt (Ce r)) bud))else C (f (DF b s (Am m r) bud)))=C (f (FQ b s m r bud)):=λf=>by unfold FQ;cases decide ((6:Int)≤b.H0-(s.cur.size:Int))<;>rfl
        rw[show Sto.mk s.h0 s.h1 s.sel=s from rfl];have e10':=e10 λw=>((w.2.1,(),(),(),(),(),w.2.2,()),((w.1.h0,w.1.h1,w.1.sel,()),(m.G0,m.O0,m.J0,m.A0,()),((Q (P [])),(Q (P [])),(0:Int),()),(([]:List Int),([]:List Bool),([]:List Bool),([]:List Entry),()),(Am m r).tup,()))
        simp only[Img.tup]at e10';simp only[Sto.out];rw[e10'];simp only[a_];generalize FQ b s m r bud=w;cases w.2.2==0 with
        |true=>rfl
        |false=>
          simp only[c_];cases w.2.2==8 with
          |true=>rw[Zf m hp ω ω ω];rfl
          |false=>rfl
    · rw[f_ (show ¬Sto.ok b.H0 ⟨s.h0,s.h1,s.sel⟩from hs)]
      rfl
def Apk{rs:List I}(hv:∀r∈rs,Au b r=J)(hl:rs.length≤90000)(m0 m:L)(hm:ImgOK b m)(hml:m.A0.length=0):
  Nv (((),(),rs,(rs.length:Int),(0:Int),()),(m0.tup,m.tup,()))=C (((),(),()),(m0.tup,(Ai m rs).tup,())):=by
 have hcars:=Aj hm.code;have h:=AQ (step:=λx=>letI a:=x.2.2.1;Ie x.1.2.2.1 x.1.2.2.2.1 x.1.2.2.2.2.1 x.2.1.1 x.2.1.2.1 x.2.1.2.2.1 x.2.1.2.2.2.1 a.1 a.2.1 a.2.2.1 a.2.2.2.1) rs.length
  (λi (m:L)=>(((),(),rs,(rs.length:Int),(i:Int),()),(m0.tup,m.tup,()))) (λi m=>Am m (rs.getD i (S 0 0 0 0 0))) (λi m=>ImgOK b m∧m.A0.length≤i) (λm=>(((),(),()),(m0.tup,m.tup,()))) (λi m hi hs=>by
   obtain⟨hm,hle⟩:=hs;have hr:=hv _ (BU (S 0 0 0 0 0) hi);obtain⟨a1,a2⟩:=KM hm hr;refine⟨?_,a1,ω⟩;show Ie rs (rs.length:Int) (i:Int) m0.G0 m0.O0 m0.J0 m0.A0 m.G0 m.O0 m.J0 m.A0=_;unfold Ie;simp only[b_ (ω:(i:Int)<(rs.length:Int)),Ac (ω:(0:Int)≤(i:Int)) (ω:(i:Int)<(rs.length:Int)),d_,h_,ER hi (show rs.length≤AL by unfold AL;omega)];rw[Ye hm.so ω (rs.getD i (S 0 0 0 0 0)) λhk=>by have h0:=Af9 hr hk;have h1:=hm.lp;have h2:=hm.lf;have h3:=hm.ll;omega];rfl) (λm _=>by
   show Ie rs (rs.length:Int) (rs.length:Int) m0.G0 m0.O0 m0.J0 m0.A0 m.G0 m.O0 m.J0 m.A0=_;unfold Ie;simp only[f_ (M_ (rs.length:Int)),c_];rfl) rs.length 0 m ω ⟨hm,ω⟩
 have h':=Ak h.1 ω;have e:∀(l:List I) (m:L),l.foldl Am m=Ai m l:=λl=>by
  induction l with
  |nil=>exact λm=>rfl
  |cons r t ih=>exact λm=>ih (Am m r)
 rw[RE Am (S 0 0 0 0 0) rs rs.length 0 m ω,P_,e]at h';exact h'
def CB(b:H)(s:E):L:=Ai (EQ b) (JX b s.cur)
def Aks(hb:b.small)(hcode:b.code=0)(s:E)(hs:s.cur.size≤500000):
  Px b.C0 b.F0 b.H0 b.M0 b.K0 b.L0 b.N0 b.B0 s.h0 s.h1 s.sel=C (((),()),((CB b s).tup,())):=by
 have hcars:=Aj hcode;obtain⟨n,hr⟩:=Ah7 hb ω hcode s.cur ω;have hlen:(JX b s.cur).length≤90000:=by
  have:=Vu b s.cur.size (B s.cur)
  rw[DP]at this;unfold JX;omega
 have hl:=Apk (b:=b) (rs:=JX b s.cur) (λr hr=>RI b _ _ r hr) hlen R (EQ b) (Xv hcode) rfl;unfold Px;rw[Ahk,hcode,RP];simp only[a_,l_,d_];rw[show aA ⟨s.h0,s.h1,s.sel⟩=s.cur from rfl,hr];simp only[a_];simp only[Img.tup,R]at hl⊢;rw[hl];rfl
def sB:H:=Ll 4 2 30
def sM1:L:=⟨[0,0],[D,D],[D,D],[⟨2,1,-1,0,D⟩]⟩
def sM2:L:=⟨[0,0],[D,D],[D,D],[⟨2,1,0,0,D⟩]⟩
def Asm:sB.code=0:=Atg ω ω ω ω ⟨ω,ω⟩
def ok1:sM1.ok sB=J:=by unfold Img.ok Gi HN Ap;rw[Asm];rfl
def ok2:sM2.ok sB=J:=by unfold Img.ok Gi HN Ap;rw[Asm];rfl
section
variable{s:E}{room half bud:Int}(hs:s.ok room)(hh:half=0∨half=1)(hb:0≤bud)
include hs hh hb
theorem Ban:s.chk room half bud=0:=by unfold Sto.chk;rw[if_pos hs,if_neg ω]
theorem Adl(hr:((s.get half).size:Int)+(t.length:Int)≤room):s.write room half (txt t) bud=if bud<(t.length:Int)then(s.set half (s.get half++txt (t.take bud.toNat)),0,8)else(s.set half (s.get half++txt t),bud-(t.length:Int),0):=by have he:(txt t).extract 0 bud.toNat=txt (t.take bud.toNat):=Qe (by rw[Qd,Gp,Gp];simp);unfold Sto.write;rw[Ban hs hh hb,if_neg ω,FS,if_neg ω,he]
theorem Az0(t:E):s.act room half bud t=if bud=0 then(s,0,8)else(t,bud-1,0):=by unfold Sto.act;rw[Ban hs hh hb,if_neg ω]
end
def UD{half:Int}(hs:s.ok room){x:ByteArray}(hx:(x.size:Int)≤room):(s.set half x).ok room:=by
 obtain⟨h1,h2,h3,h4,h5⟩:=hs;unfold Sto.set Sto.ok;split
 ·exact⟨h1,h2,hx,h4,h5⟩
 ·exact⟨h1,h2,h3,hx,h5⟩
def Bcm{half:Int}(hs:s.ok room)(hh:half=0∨half=1):Sto.ok room { s with sel:=half }:=by obtain⟨h1,h2,h3,h4,_⟩:=hs;exact⟨h1,h2,h3,h4,hh⟩
def Vy(hs:s.ok room):s.sel=0∨s.sel=1:=hs.2.2.2.2
def Agw(hh:s.sel=0∨s.sel=1):s.cur=s.get s.sel:=by unfold aA Sto.get;rcases hh with h | h<;>rw[h]<;>rfl
def Arj(hh:s.sel=0∨s.sel=1)(x:ByteArray):(s.set s.sel x).cur=x:=by
  obtain⟨h0,h1,sel⟩:=s;rcases hh with h | h<;>
    (simp only at h
     subst h;simp[aA,Sto.set])
def Ain(hh:s.sel=0∨s.sel=1)(x:ByteArray):(s.set (1-s.sel) x).cur=s.cur:=by
  obtain⟨h0,h1,sel⟩:=s;rcases hh with h | h<;>
    (simp only at h
     subst h;simp[aA,Sto.set])
def Ai6(hh:s.sel=0∨s.sel=1)(x:ByteArray):(s.set (1-s.sel) x).get (1-s.sel)=x:=by
  obtain⟨h0,h1,sel⟩:=s;rcases hh with h | h<;>
    (simp only at h
     subst h;simp[Sto.set,Sto.get])
def Aj3(hh:s.sel=0∨s.sel=1)(x y:ByteArray):(s.set (1-s.sel) x).set (1-s.sel) y=s.set (1-s.sel) y:=by
  obtain⟨h0,h1,sel⟩:=s;rcases hh with h | h<;>
    (simp only at h
     subst h;simp[Sto.set])
def Aed(hh:s.sel=0∨s.sel=1)(x:ByteArray):aA { s.set (1-s.sel) x with sel:=1-s.sel }=x:=by
  obtain⟨h0,h1,sel⟩:=s;rcases hh with h | h<;>
    (simp only at h
     subst h;simp[aA,Sto.set])
def Zw(hb:b.small)(hc:b.B0.length≤100){rs:List I}(h:B s.cur=rs.flatMap Ce++t)(ht:t.length<6)(hv:∀r∈rs,Au b r=J):CB b s=Ai (EQ b) rs:=by
 unfold CB JX;have hl:s.cur.size=6*rs.length+t.length:=by rw[← DP,h,i_,Aac]
 rw[h,Aoz hb hc ht rs s.cur.size ω hv]
structure Jst(b:Bldg)(s:Sto)(m:Img):Prop where
 ok:s.ok b.H0
 img:ImgOK b m
 rs:∃rs:List Record,bl s.cur=rs.flatMap Ce∧(∀r∈rs,Au b r=true)∧Ai (EQ b) rs=m
 fits:18*((b.B0.length:Int)+(m.A0.length:Int))+6≤b.H0
def Aif(hs:Bg m.A0)(h:r.Q0=1→Gf (Aw r.D0 r.I0) m.A0=J):(Am m r).A0.length≤m.A0.length:=by
 unfold Am;cases r.Q0==4 with
 |true=>exact A_ _
 |false=>
 cases r.Q0==5 with
 |true=>exact A_ _
 |false=>
 cases r.Q0==6 with
 |true=>exact A_ _
 |false=>
 simp only[c_];have hf:=Sd (c:=Aw r.D0 r.I0) 0 hs;rw[show DR r.D0 r.I0 m.A0 0=_ from hf];cases hq:Gf (Aw r.D0 r.I0) m.A0 with
 |false=>
  simp only[c_,l_,d_];by_cases k1:r.Q0=1
  ·rw[h k1]at hq;cases hq
  ·rw[Ao k1];exact A_ _
 |true=>
  rw[d_,Ao (ω:¬((0+AA (Aw r.D0 r.I0) m.A0:Nat):Int)=-1),c_];cases r.Q0==2 with
  |true=>show(m.A0.take _++m.A0.drop _).length≤_;rw[i_,v_,W_];omega
  |false=>
  cases r.Q0==3 with
  |true=>show(m.A0.set _ _).length≤_;rw[y_];exact A_ _
  |false=>
  cases r.Q0==7 with
  |true=>show(m.A0.set _ _).length≤_;rw[y_];exact A_ _
  |false=>exact A_ _
def YN(hj:Jst b s m)(hv:Au b r=J)(hfull:JC b m r=D):18*((b.B0.length:Int)+((Am m r).A0.length:Int))+6≤b.H0:=by
 have h0:=hj.fits;have h2:=(KM hj.img hv).2;by_cases hk:r.Q0=1
 ·cases hq:Gf (Aw r.D0 r.I0) m.A0 with
  |true=>have:=Aif hj.img.so λ_=>hq;omega
  |false=>unfold JC JY at hfull;rw[hk,hq,Img.ok_iff.2 hj.img]at hfull;simp at hfull;omega
 ·have:=Aif hj.img.so (r:=r) λh=>absurd h hk
  omega
def Adi(h:ImgOK b m):(((CR m).flatMap Ce).length:Int)=18*((b.B0.length:Int)+(m.A0.length:Int)):=by rw[Aac,ZC,h.lp];omega
def WV(hs:s.ok b.H0)(hm:ImgOK b m)(hb0:0≤bud)(hfit:18*((b.B0.length:Int)+(m.A0.length:Int))≤b.H0):
  (2+18*((b.B0.length:Int)+(m.A0.length:Int))≤bud∧DF b s m bud=({ s.set (1-s.sel) (txt ((CR m).flatMap Ce))with sel:=1-s.sel },bud-(2+18*((b.B0.length:Int)+(m.A0.length:Int))),0))∨
  (bud<2+18*((b.B0.length:Int)+(m.A0.length:Int))∧∃s',DF b s m bud=(s',0,8)∧s'.ok b.H0∧s'.cur=s.cur):=by
 have hsel:=Vy hs;have hh:1-s.sel=0∨1-s.sel=1:=ω;have hL:=Adi hm;have hroom:=hs.1;have he:s.erase b.H0 (1-s.sel) bud=if bud=0 then(s,0,8)else(s.set (1-s.sel) noB,bud-1,0):=Az0 hs hh hb0 _
 unfold DF;rw[b_ hs,f_ (ω:¬bud<0),Img.ok_iff.2 hm];simp only[o_,c_];generalize hT:(CR m).flatMap Ce=T at hL⊢;by_cases h0:bud=0
 ·right;rw[he,if_pos h0];exact⟨ω,s,rfl,hs,rfl⟩
 ·rw[if_neg h0]at he;rw[he];have hs1:(s.set (1-s.sel) noB).ok b.H0:=UD hs (by show(0:Int)≤_;omega);have hw:=Adl (t:=T) hs1 hh (ω:0≤bud-1) (by rw[Ai6 hsel];show((0:Nat):Int)+_≤_;omega);rw[Ai6 hsel,Aj3 hsel,Aj3 hsel]at hw;have nb:∀x:ByteArray,noB++x=x:=λx=>Qe (by rw[LJ];rfl);rw[nb,nb]at hw;simp only[l_,d_,hw];by_cases h1:bud-1<(T.length:Int)
  ·right;rw[if_pos h1];refine⟨ω,_,rfl,UD hs ?_,Ain hsel _⟩;rw[FS,v_];omega
  ·rw[if_neg h1];have hs2:(s.set (1-s.sel) (txt T)).ok b.H0:=UD hs (by rw[FS];omega);have hc:=Az0 hs2 hh (ω:0≤bud-1-(T.length:Int)) { s.set (1-s.sel) (txt T)with sel:=1-s.sel };have hc':(s.set (1-s.sel) (txt T)).choose b.H0 (1-s.sel) (bud-1-(T.length:Int))=_:=hc;simp only[l_,d_,hc'];by_cases h2:bud-1-(T.length:Int)=0
   ·right;rw[if_pos h2];exact⟨ω,_,rfl,hs2,Ain hsel _⟩
   ·left;rw[if_neg h2,show bud-1-(T.length:Int)-1=bud-(2+18*((b.B0.length:Int)+(m.A0.length:Int)))by omega];exact⟨ω,rfl⟩
def RH(b:H)(s:E)(m:L)(r:I):Int:=if(s.cur.size:Int)+6≤b.H0 then 6 else 2+18*((b.B0.length:Int)+((Am m r).A0.length:Int))
def Az4(hb:b.small)(hj:Jst b s m)(hv:Au b r=J)(hfull:JC b m r=D)(hb0:0≤bud):
  (RH b s m r≤bud∧∃s',QN b s m r bud=(s',Am m r,bud-RH b s m r,0)∧Jst b s' (Am m r))∨
  (bud<RH b s m r∧∃s',QN b s m r bud=(s',m,0,8)∧s'.ok b.H0∧CB b s'=m):=by
 have hcars:=Aj hj.img.code;have hc:b.B0.length≤100:=ω;have hm2:=(KM hj.img hv).1;have hfit:=YN hj hv hfull;obtain⟨rs,e1,e2,e3⟩:=hj.rs;have hsel:=Vy hj.ok;unfold QN;rw[Img.ok_iff.2 hj.img,hv,b_ hj.ok,f_ (ω:¬bud<0),hfull];simp only[a0_,o_,c_];unfold RH FQ;by_cases g:(s.cur.size:Int)+6≤b.H0
 ·rw[if_pos g,b_ (ω:(6:Int)≤b.H0-(s.cur.size:Int)),d_];have hw:=Adl (t:=Ce r) hj.ok hsel hb0 (by rw[← Agw hsel,GJ];omega);rw[GJ,← Agw hsel]at hw;rw[hw];by_cases h1:bud<((6:Nat):Int)
  ·right;rw[if_pos h1];have hl:((Ce r).take bud.toNat).length<6:=by rw[v_,GJ];omega
   refine⟨ω,_,rfl,UD hj.ok ?_,?_⟩
   ·rw[← DP,LJ,Gp,i_,DP];omega
   ·rw[Zw hb hc (rs:=rs) (t:=(Ce r).take bud.toNat) (by rw[Arj hsel,LJ,Gp,e1]) hl e2,e3]
  ·left;rw[if_neg h1];refine⟨ω,_,rfl,UD hj.ok ?_,hm2,⟨rs++[r],?_,?_,?_⟩,hfit⟩
   ·rw[← DP,LJ,Gp,i_,DP,GJ];omega
   ·rw[Arj hsel,LJ,Gp,e1,List.flatMap_append];simp
   ·intro x hx;rcases n_.1 hx with hx | hx
    ·exact e2 x hx
    ·rw[E_.1 hx];exact hv
   ·rw[En,e3];rfl
 ·rw[if_neg g,f_ (ω:¬(6:Int)≤b.H0-(s.cur.size:Int)),c_];rcases WV hj.ok hm2 hb0 ω with⟨q1,q2⟩ | ⟨q1,s',q2,q3,q4⟩
  ·left;rw[q2];refine⟨q1,_,rfl,Bcm (UD hj.ok ?_) ω,hm2,⟨CR (Am m r),?_,Tr hm2,Afy hm2⟩,hfit⟩
   ·rw[FS,Adi hm2];omega
   ·rw[Aed hsel,Gp]
  ·right;rw[q2];refine⟨q1,s',rfl,q3,?_⟩;rw[Zw hb hc (rs:=rs) (t:=[]) (by rw[q4,e1,a2_]) σ e2,e3]
def Jst.replay(hb:b.small)(hj:Jst b s m):CB b s=m:=by have hcars:=Aj hj.img.code;obtain⟨rs,e1,e2,e3⟩:=hj.rs;rw[Zw hb ω (rs:=rs) (t:=[]) (by rw[e1,a2_]) σ e2,e3]
def Jst.first(hcode:b.code=0):Jst b O (EQ b):=by
 have hr:=YE hcode;have hcars:=Aj hcode;refine⟨⟨ω,ω,?_,?_,.inl rfl⟩,Xv hcode,⟨[],rfl,(λr h=>by cases h),rfl⟩,?_⟩
 ·show(0:Int)≤_;omega
 ·show(0:Int)≤_;omega
 ·show 18*((b.B0.length:Int)+((0:Nat):Int))+6≤_;omega
def Jst.ents(hj:Jst b s m):m.A0.length≤4000∧m.fit:=by have h1:=hj.fits;have h2:=(YE hj.img.code).2;have h3:=Aj hj.img.code;have g1:=hj.img.lp;have g2:=hj.img.lf;have g3:=hj.img.ll;exact⟨ω,ω,ω,ω,ω⟩
def Bth(hs:s.ok room):(s.cur.size:Int)≤room:=by
 obtain⟨_,_,h3,h4,_⟩:=hs;unfold aA;split
 ·exact h4
 ·exact h3
def Bci(s:E)(m:L)(bud e:Int):(Unit×Unit×Int×Int×Unit)×((ByteArray×ByteArray×Int×Unit)×(List Int×List Bool×List Bool×List Entry×Unit)×Unit):=(((),(),bud,e,()),((s.h0,s.h1,s.sel,()),m.tup,()))
def Dm(b:H)(s:E)(bud:Int):E×L×Int×Int:=
 bif(DF b s (CB b s) bud).2.2 !=0 then((DF b s (CB b s) bud).1,R,0,(DF b s (CB b s) bud).2.2)
 else((DF b s (CB b s) bud).1,CB b s,(DF b s (CB b s) bud).2.1,0)
def Ajv(hcode:b.code=0)(s:E)(hs:s.cur.size≤500000):ImgOK b (CB b s)∧(CB b s).A0.length≤90000∧(CB b s).fit:=by have hc:=Aj hcode;obtain⟨h1,h2⟩:=UR (Xv hcode) (rs:=JX b s.cur) λr hr=>RI b _ _ r hr;have h3:=Vu b s.cur.size (B s.cur);rw[DP]at h3;have h4:(EQ b).A0.length=0:=rfl;have h5:(JX b s.cur).length=(IF b s.cur.size (B s.cur)).length:=rfl;have g1:=h1.lp;have g2:=h1.lf;have g3:=h1.ll;exact⟨h1,by show(Ai (EQ b) (JX b s.cur)).A0.length≤_;omega,by show(Ai (EQ b) (JX b s.cur)).G0.length≤_;omega,by show(Ai (EQ b) (JX b s.cur)).O0.length≤_;omega,by show(Ai (EQ b) (JX b s.cur)).J0.length≤_;omega,by show(Ai (EQ b) (JX b s.cur)).A0.length≤_;omega⟩
def Te(b:H)(m:L):Bool:=m.ok b&&decide (18*((b.B0.length:Int)+(m.A0.length:Int))+6≤b.H0)
def Bqd{a b:Nat}(h:a≤100000)(h':b≤100000):aB.wrap (IntKind.wrap aB (18*aB.wrap ((a:Int)+(b:Int)))+6)=18*((a:Int)+(b:Int))+6:=by rw[Aa (n:=(a:Int)+(b:Int)) ω ω,Aa (n:=18*((a:Int)+(b:Int))) ω ω,Aa ω ω]
def Afp(hb:b.small)(m:L)(hc:b.B0.length≤100000)(hf:m.fit):Ns b.C0 b.F0 b.H0 b.M0 b.K0 b.L0 b.N0 b.B0 m.G0 m.O0 m.J0 m.A0=C ((Te b m,()),()):=by
 have hmx:100000≤maxLen:=by decide
 have hp:=hf.p;have he:=hf.e;unfold Ns Te;rw[Db hb m ω ω];simp only[a_,Bqd hc he];cases m.ok b<;>rfl
def Wq:Belief:=⟨-1,0,0,[],0,D⟩
def Kx(b:H)(i:Nat):Car:=b.B0.getD i ⟨0,0,0,0,0,0,0,0,0⟩
def Tt(b:H)(e:Entry):Int:=bif decide (0≤e.R0)then(Kx b e.R0.toNat).I1 else 0
def Mch.none:Mch:=⟨R,O,[],[],[],[],[],[],0,0,0⟩
def Aev(b:H)(m:L)(s:E):Mch:=⟨m,s,aD b.B0.length Fy,aD b.B0.length Wq,aD b.B0.length Bw,aD b.B0.length Acx,m.A0.map (Tt b),aD b.B0.length Ahs,0,0,0⟩
def Mch.withB(m:Mch)(l:List Belief):Mch:={ m with U0:=l }
def Mch.withE(m:Mch)(l:List Int):Mch:={ m with B2:=l }
def Ao2{α:Type}(a:α):∀k i:Nat,(List.range' i k).flatMap (λ_=>[a])=aD k a
 |0,_=>rfl
 |k+1,i=>by rw[e7_,a3_,Ao2 a k (i+1),List.replicate_succ];rfl
def Bfq{α β:Type}(f:α→β)(l:List α):l.flatMap (λx=>[f x])=l.map f:=by
 induction l with
 |nil=>rfl
 |cons a t ih=>rw[a3_,ih];rfl
def Qo(b:H)(m:L)(s:E):Mch×Int:=bif Te b m&&decide (s.ok b.H0)then(Aev b m s,0)else(Mch.none,1)
def Qf(b:H)(s:E)(bud:Int):Mch×Int×Int:=
 bif(Dm b s bud).2.2.2 !=0 then({ Mch.none with B1:=(Dm b s bud).1 },0,(Dm b s bud).2.2.2)
 else bif(Qo b (Dm b s bud).2.1 (Dm b s bud).1).2 !=0 then(Mch.none,0,(Qo b (Dm b s bud).2.1 (Dm b s bud).1).2)
 else((Qo b (Dm b s bud).2.1 (Dm b s bud).1).1,(Dm b s bud).2.2.1,0)
def Bk3(hcode:b.code=0)(s:E)(hs:s.cur.size≤500000)(bud:Int):(Dm b s bud).2.1.fit:=by
 obtain⟨_,_,hf⟩:=Ajv hcode s hs;unfold Dm;cases(DF b s (CB b s) bud).2.2 !=0 with
 |true=>exact⟨a5_ _,a5_ _,a5_ _,a5_ _⟩
 |false=>exact hf
def Ix(b:H):Mch×Int:=bif b.code==0 then((Qf b O 1048576).1,(Qf b O 1048576).2.2)else(Mch.none,1)
def Ar0:∀{l:List Nat}{a n:Nat},l.Pairwise (· < ·)→(∀x∈l,a≤x∧x<n)→l.length+a≤n∨l=[]
 |[],_,_,_,_=>.inr rfl
 |x::t,a,n,h,hr=>by
  left;obtain⟨h1,h2⟩:=e8_.1 h;have hx:=hr x (q_ ..);rcases Ar0 (a:=x+1) (n:=n) h2 (λy hy=>⟨h1 y hy,(hr y (r_ _ hy)).2⟩)with q | q
  ·rw[C_];omega
  ·subst q;simp;omega
def Bkc(hb:b.small)(hm:ImgOK b m):(m.A0.length:Int)≤2*(b.C0-1):=by
 have lo:=hb.lo;have hi:=hb.hi
 let ix:Int×Int→Nat:=λp=>if p.1=0 then 0 else if p.1=b.C0-1 then(2*b.C0-3).toNat else(2*p.1+p.2-2).toNat
 have hv:∀p∈m.A0.map BS,(p.2=1∧0≤p.1∧p.1≤b.C0-2)∨(p.2=2∧1≤p.1∧p.1≤b.C0-1):=λp hp=>by obtain⟨e,he,rfl⟩:=b6_.1 hp;have h1:=(CM.1 (hm.en e he)).1;unfold Ap OA at h1;simp only[e_,S_,U_,As]at h1;show(e.I0=1∧0≤e.D0∧e.D0≤b.C0-2)∨(e.I0=2∧1≤e.D0∧e.D0≤b.C0-1);omega
 have hp:((m.A0.map BS).map ix).Pairwise (· < ·):=by rw[List.pairwise_map];refine List.Pairwise.imp_of_mem (λ{p q} hp hq h=>?_) hm.so;have v1:=hv p hp;have v2:=hv q hq;unfold ltC at h;show ix p<ix q;simp only[ix];split<;>split<;>(try split)<;>(try split)<;>omega
 rcases Ar0 (a:=0) (n:=(2*b.C0-2).toNat) hp (λx hx=>by
  obtain⟨p,hp,rfl⟩:=b6_.1 hx;have v1:=hv p hp;refine⟨a5_ _,?_⟩;show ix p<_;simp only[ix];split
  ·omega
  ·split<;>omega)with q | q
 ·rw[c9_,c9_]at q;omega
 ·have:=f5_ List.length q
  rw[c9_,c9_,d6_]at this;omega
def Arw(hm:ImgOK b m)(hfit:18*((b.B0.length:Int)+(m.A0.length:Int))+6≤b.H0):Te b m=J:=by unfold Te;rw[Img.ok_iff.2 hm,b_ hfit];rfl
def Ace(hm:ImgOK b m)(hfit:18*((b.B0.length:Int)+(m.A0.length:Int))+6≤b.H0)(hs:s.ok b.H0):Qo b m s=(Aev b m s,0):=by unfold Qo;rw[Arw hm hfit,b_ hs];rfl
def Bj0(_hb:b.small)(hs:s.ok b.H0)(hm:ImgOK b m)(hrep:CB b s=m)(hfit:18*((b.B0.length:Int)+(m.A0.length:Int))+6≤b.H0)(hb0:0≤bud):
  (2+18*((b.B0.length:Int)+(m.A0.length:Int))≤bud∧Qf b s bud=(Aev b m { s.set (1-s.sel) (txt ((CR m).flatMap Ce))with sel:=1-s.sel },bud-(2+18*((b.B0.length:Int)+(m.A0.length:Int))),0)∧Jst b { s.set (1-s.sel) (txt ((CR m).flatMap Ce))with sel:=1-s.sel } m)∨
  (bud<2+18*((b.B0.length:Int)+(m.A0.length:Int))∧∃s',Qf b s bud=({ Mch.none with B1:=s' },0,8)∧s'.ok b.H0∧CB b s'=m):=by
 have hsel:=Vy hs;unfold Qf Dm;rw[hrep];rcases WV hs hm hb0 ω with⟨q1,q2⟩ | ⟨q1,s',q2,q3,q4⟩
 ·left;have hj:Jst b { s.set (1-s.sel) (txt ((CR m).flatMap Ce))with sel:=1-s.sel } m:=by
   refine⟨Bcm (UD hs ?_) ω,hm,⟨CR m,?_,Tr hm,Afy hm⟩,hfit⟩
   ·rw[FS,Adi hm];omega
   ·rw[Aed hsel,Gp]
  rw[q2];refine⟨q1,?_,hj⟩;simp only[Q_,c_];rw[Ace hm hfit hj.ok];rfl
 ·right;rw[q2];refine⟨q1,s',rfl,q3,?_⟩;rw[← hrep];unfold CB;rw[q4]
def HC{X Y:Type}{step:X→Option (Sum X Y)}{N:Nat}(hN:N≤100000)(g:Nat→X){y:Y}(h1:∀i,i<N→step (g i)=C (.inl (g (i+1))))(h2:step (g N)=C (.inr y)):BX step DT (g 0)=C y:=Ak (Anu N g y h1 h2 N 0 (p_ N)) ω
def KL{i n:Nat}(hn:n≤100000)(h:i<n):aB.wrap ((i:Int)+1)=((i+1:Nat):Int):=ER h (by unfold AL;omega)
end Go.Ovl
