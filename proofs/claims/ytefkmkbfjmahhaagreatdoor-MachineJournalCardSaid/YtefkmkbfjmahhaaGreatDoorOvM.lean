import Derived.Test.YtefkmkbfjmahhaaGreatDoorOvD
import Derived.Test.YtefkmkbfjmahhaaGreatDoorOvL
import Derived.Test.YtefkmkbfjmahhaaGreatDoorOvA
set_option linter.all false
open Bool renaming false->A,true->H
open Go.Ovl renaming bl->B,Img->D,Record->E,Bldg->J
open Option renaming some->C
open List renaming replicate->N,mem_append_left->aD
open Go.Ovl.Sat renaming bindE->aA
open Int renaming toNat->aB
open Go.Ovl.Record renaming mk->aC
namespace Go.Ovl
open Go Go.Ab
set_option maxRecDepth 100000
variable{b:J}{r:E}{bud room:Int}{m:D}{vs:List View}{i:Nat}{s:Sto}
def Akh(hb:b.small)(hc:b.B0.length≤100)(hcode:b.code=0)(s:ByteArray)(_hs:s.size≤1000000):
  ∃(e:Int) (r0:E),Pc b.D0 b.G0 b.I0 b.M0 b.L0 b.N0 b.O0 b.B0 s=C (((),e,()),((r0.Q0,r0.E0,r0.J0,r0.R0,r0.J1,()),()))∧(e !=0)=(SN b (B s)).isNone∧∀r,SN b (B s)=C r→r0=r:=by
 unfold Pc;rw[FY,hcode];simp only[a_,Q_,b_];unfold SN;by_cases h6:s.size=6
 ·have l6:(B s).length=6:=by rw[DW];exact h6
  have ib:∀i:Int,0≤i→i<6→inB i s.size=H:=λi h h'=>Ac h ω;have x5:B (s.extract 0 5)=(B s).take 5:=by rw[PQ];rfl
  rw[show((s.size:Int) !=6)=A by rw[h6];rfl,c_ (ω:(5:Int)≤(s.size:Int)),Aa2 (by rw[← DW,x5,w_];omega),x5];simp only[b_,d_,a_,ib 5 ω ω,ib 0 ω ω,ib 1 ω ω,ib 2 ω ω,ib 3 ω ω,ib 4 ω ω,Km];rw[l6,show aB 5=5 from rfl,show aB 0=0 from rfl,show aB 1=1 from rfl,show aB 2=2 from rfl,show aB 3=3 from rfl,show aB 4=4 from rfl];simp only[show ∀i:Nat,(((B s).getD i 0).toNat:Int)=fld (B s) i from λ_=>rfl];have f0:=Yx (B s) 0;have f1:=Yx (B s) 1;have f2:=Yx (B s) 2;have f3:=Yx (B s) 3;have f4:=Yx (B s) 4;rw[Aa (n:=fld (B s) 0) ω ω,Aa (n:=fld (B s) 1) ω ω,Aa (n:=fld (B s) 2) ω ω,Aa (n:=fld (B s) 3) ω ω,Aa (n:=fld (B s) 3-2) ω ω,Aa (n:=fld (B s) 4) ω ω];simp only[bne];cases hq:(((RB ((B s).take 5):Nat):Int))==fld (B s) 5 with
  |false=>exact⟨5,⟨0,0,0,0,0⟩,rfl,rfl,λr h=>by cases h⟩
  |true=>
   have hv:=Ui hb hc (Xw (B s));unfold Xw at hv;simp only at hv;simp only[m_,b_,hv,a_];show ∃e r0,(bif !(As b (Xw (B s)))then _ else _)=_∧_;cases As b (Xw (B s))with
   |false=>exact⟨9,⟨0,0,0,0,0⟩,rfl,rfl,λr h=>by cases h⟩
   |true=>exact⟨0,Xw (B s),rfl,rfl,λr h=>N_ h⟩
 ·rw[show((s.size:Int) !=6)=H from Gx ω,show((B s).length==6)=A from Am (by rw[DW];exact h6)];exact⟨4,⟨0,0,0,0,0⟩,rfl,rfl,λr h=>by cases h⟩
def Ap5(hb:b.small)(hc:b.B0.length≤100)(hcode:b.code=0)(s:ByteArray)(hs:s.size≤1000000):
  ∃n:Int,Pe b.D0 b.G0 b.I0 b.M0 b.L0 b.N0 b.O0 b.B0 s=C ((Jy b s,n,()),()):=by
 have key:∀(k n:Nat) (l:List E),s.size≤n+6*k→n≤s.size→l.length≤n→∃y:Int,BJ (λx=>letI a:=x.2.1.2.2;letI c:=a.2.2;GH x.1.1 x.1.2.2.1 x.1.2.2.2.1 x.2.1.1 x.2.1.2.1 a.1 a.2.1 c.1 c.2.1 c.2.2.1 c.2.2.2.1) (k+1) ((s,(),l,(n:Int),()),(b.tup,()))=C ((l++Ia b k ((B s).drop n),y,()),()):=by
  intro k;induction k with
  |zero=>intro n l h1 h2 _;refine⟨(n:Int),AA ?_⟩;show GH s l (n:Int) b.D0 b.G0 b.I0 b.M0 b.L0 b.N0 b.O0 b.B0=_;unfold GH;rw[Aa (n:=(n:Int)+6) ω ω,f_ (ω:¬(n:Int)+6≤(s.size:Int))];simp only[b_,Ia,a0_]
  |succ k ih=>
   intro n l h1 h2 h3;have w:IntKind.i64.wrap ((n:Int)+6)=((n+6:Nat):Int):=by rw[Aa ω ω];omega
   by_cases g:n+6≤s.size
   ·have hbl:((B s).drop n).length=s.size-n:=by rw[Y_,DW]
    have hx:B (s.extract n (n+6))=((B s).drop n).take 6:=by rw[PQ,show n+6-n=6 by omega]
    obtain⟨e,r0,d1,d2,d3⟩:=Akh hb hc hcode (s.extract n (n+6)) (by rw[← DW,hx,w_];omega);rw[hx]at d2 d3;have hstep:∀X,(bif(e !=0)then C (Sum.inr ((l,(n:Int),()),()))else C (Sum.inl ((s,(),(l++[r0]),((n+6:Nat):Int),()),(b.tup,()))))=X→GH s l (n:Int) b.D0 b.G0 b.I0 b.M0 b.L0 b.N0 b.O0 b.B0=X:=by rintro X rfl;unfold GH;simp only[w,c_ (ω:((n+6:Nat):Int)≤(s.size:Int)),c_ (ω:(0:Int)≤((n+6:Nat):Int)),c_ (ω:(0:Int)≤(n:Int)),i_,c_ (ω:(n:Int)≤((n+6:Nat):Int)),S_,d_,d1,a_];rw[Ap (show l.length+[aC r0.Q0 r0.E0 r0.J0 r0.R0 r0.J1].length≤2147483648 by rw[D_];omega)];rfl
    cases hd:SN b (((B s).drop n).take 6)with
    |none=>rw[hd]at d2;rw[d2]at hstep;refine⟨(n:Int),(AA (hstep _ rfl)).trans ?_⟩;simp only[Ia,hbl,hd];rw[if_pos ω,a0_]
    |some r=>rw[hd]at d2;rw[d2]at hstep;obtain rfl:=d3 r hd;obtain⟨y,hy⟩:=ih (n+6) (l++[r0]) ω g (by rw[h_,D_];omega);refine⟨y,(Bt (hstep _ rfl)).trans (hy.trans ?_)⟩;simp only[Ia,hbl,hd];rw[if_pos ω,F_,List.drop_drop];rfl
   ·refine⟨(n:Int),AA ?_⟩;show GH s l (n:Int) b.D0 b.G0 b.I0 b.M0 b.L0 b.N0 b.O0 b.B0=_;unfold GH;rw[w,f_ (ω:¬((n+6:Nat):Int)≤(s.size:Int))];simp only[b_,Ia];rw[if_neg (by rw[Y_,DW];omega),a0_]
 obtain⟨y,hy⟩:=key s.size 0 [] ω ω σ;have hy':=Aj hy ω;refine⟨y,?_⟩;unfold Pe;rw[show Mg ((s,(),[],(0:Int),()),((b.D0,b.G0,b.I0,b.M0,b.L0,b.N0,b.O0,b.B0,()),()))=_ from hy'];rw[P_,W_];rfl
def Aey(hb:b.small){rs:List E}(hv:∀r∈rs,As b r=H)(hl:rs.length≤900)(m0 m:D)(hm:ImgOK b m)(hml:m.A0.length=0):
  JM (((),(),(),rs,(0:Int),()),(b.tup,m0.tup,m.tup,()))=C (((),(),()),(m0.tup,(Ag m rs).tup,())):=by
 have hcars:=An hm.code;have h:=AP (step:=λx=>letI a:=x.2.1.2.2;letI c:=x.2.2;letI d:=a.2.2;letI f:=c.2.1;HA x.1.2.2.2.1 x.1.2.2.2.2.1 x.2.1.1 x.2.1.2.1 a.1 a.2.1 d.1 d.2.1 d.2.2.1 d.2.2.2.1 c.1.1 c.1.2.1 c.1.2.2.1 c.1.2.2.2.1 f.1 f.2.1 f.2.2.1 f.2.2.2.1) rs.length
  (λi (m:D)=>(((),(),(),rs,(i:Int),()),(b.tup,m0.tup,m.tup,()))) (λi m=>Ak m (rs.getD i (aC 0 0 0 0 0))) (λi m=>ImgOK b m∧m.A0.length≤i) (λm=>(((),(),()),(m0.tup,m.tup,()))) (λi m hi hs=>by
   obtain⟨hm,hle⟩:=hs;have hr:=hv _ (CD (aC 0 0 0 0 0) hi);have hlp:=hm.lp;have hmx:1000≤maxLen:=by decide
   obtain⟨a1,a2⟩:=Kl hm hr;refine⟨?_,a1,ω⟩;have ha:=An7 hb m ω (rs.getD i (aC 0 0 0 0 0)) ω ω;rw[Ay2 hm hr]at ha;show HA rs (i:Int) b.D0 b.G0 b.I0 b.M0 b.L0 b.N0 b.O0 b.B0 m0.F0 m0.K0 m0.H0 m0.A0 m.F0 m.K0 m.H0 m.A0=_;unfold HA;simp only[c_ (ω:(i:Int)<(rs.length:Int)),Ac (ω:(0:Int)≤(i:Int)) (ω:(i:Int)<(rs.length:Int)),d_,i_,ha,a_,Ef hi (show rs.length≤AN by unfold AN;omega)];rfl) (λm _=>by
   show HA rs (rs.length:Int) b.D0 b.G0 b.I0 b.M0 b.L0 b.N0 b.O0 b.B0 m0.F0 m0.K0 m0.H0 m0.A0 m.F0 m.K0 m.H0 m.A0=_;unfold HA;simp only[f_ (J_ (rs.length:Int)),b_];rfl) rs.length 0 m ω ⟨hm,ω⟩
 have h':=Aj h.1 ω;have e:∀(l:List E) (m:D),l.foldl Ak m=Ag m l:=λl=>by
  induction l with
  |nil=>exact λm=>rfl
  |cons r t ih=>exact λm=>ih (Ak m r)
 rw[Rt Ak (aC 0 0 0 0 0) rs rs.length 0 m ω,P_,e]at h';exact h'
def XS(hb:b.small)(hcode:b.code=0)(s:Sto)(hs:s.cur.size≤5000):
  Dk b.D0 b.G0 b.I0 b.M0 b.L0 b.N0 b.O0 b.B0 s.h0 s.h1 s.sel=C (((),()),((Cf b s).tup,())):=by
 have hcars:=An hcode;obtain⟨n,hr⟩:=Ap5 hb ω hcode s.cur ω;have hlen:(Jy b s.cur).length≤900:=by
  have:=Vd b s.cur.size (B s.cur)
  rw[DW]at this;unfold Jy;omega
 have hl:=Aey (b:=b) hb (rs:=Jy b s.cur) (λr hr=>Rx b _ _ r hr) hlen Img.none (FN b) (Xi hcode) rfl;unfold Dk;rw[Wi hcode ω,Tu];simp only[a_];rw[show Sto.cur ⟨s.h0,s.h1,s.sel⟩=s.cur from rfl,hr];simp only[a_];simp only[Img.tup,Img.none,Bldg.tup]at hl⊢;rw[hl];rfl
def Ajc(hcode:b.code=0)(s:Sto)(bud:Int):Tv b.D0 b.G0 b.I0 b.M0 b.L0 b.N0 b.O0 b.B0 s.h0 s.h1 s.sel bud=C ((decide (s.ok b.I0)&&decide (0≤bud),()),()):=by unfold Tv;rw[FY,hcode,Oi];simp only[a_,l_,d_];rw[show Sto.mk s.h0 s.h1 s.sel=s from rfl];cases decide (s.ok b.I0)<;>rfl
def Bih{half:Int}{t:Sto}(h:(s.act room half bud t).2.2≠0):(s.act room half bud t).2.1=0:=by
 unfold Sto.act at*;split
 ·rfl
 ·split
  ·rfl
  ·rename_i h1 h2;rw[if_neg h1,if_neg h2]at h;exact absurd rfl h
def Bbo{half:Int}{d:ByteArray}(h:(s.write room half d bud).2.2≠0):(s.write room half d bud).2.1=0:=by
 unfold Sto.write at*;split
 ·rfl
 ·split
  ·rfl
  ·split
   ·rfl
   ·rename_i h1 h2 h3;rw[if_neg h1,if_neg h2,if_neg h3]at h;exact absurd rfl h
def Baj(bud:Int):decide (bud<0)=!decide (0≤bud):=TR bud 0
def Ahi(hb:b.small)(hcode:b.code=0)(s:Sto)(hf:m.fit)(hl:m.A0.length≤5000)(hbud:bud<9223372036854775808):
  NH b.D0 b.G0 b.I0 b.M0 b.L0 b.N0 b.O0 b.B0 s.h0 s.h1 s.sel m.F0 m.K0 m.H0 m.A0 bud=C (Sto.out (DQ b s m bud)):=by
 have hmx:100000≤maxLen:=by decide
 have hp:=hf.p;have he:=hf.e;have hcars:=An hcode;unfold NH DQ;rw[Ajc hcode,Nc hb m ω ω,Aez hb hf,Baj];simp only[a_];by_cases hs:s.ok b.I0
 ·rw[c_ hs];by_cases hb0:0≤bud
  ·rw[c_ hb0];cases hok:m.ok b with
   |false=>rfl
   |true=>
    have hm:=Img.ok_iff.1 hok;have hlp:=hm.lp;have hsn:Vk b m=Db m:=by unfold Vk;rw[hok];rfl
    have hsl:=Zq m;have hby:=An8 hb ω (rs:=Db m) (by rw[hsl];omega);rw[Abt (Tc hm)]at hby;have hsel:IntKind.i64.wrap (1-s.sel)=1-s.sel:=by obtain⟨_,_,_,_,h5⟩:=hs;exact Aa ω ω
    simp only[S_,m_,b_,hsn,hby,a_,hsel,Ba4 _ _ _ _ _ _ hbud,Sto.out];have hb1:=Aqk b.I0 s (1-s.sel) bud (s.set (1-s.sel) noB) hbud;have he1:(s.erase b.I0 (1-s.sel) bud).2.2≠0→(s.erase b.I0 (1-s.sel) bud).2.1=0:=Bih;rw[show s.act b.I0 (1-s.sel) bud (s.set (1-s.sel) noB)=s.erase b.I0 (1-s.sel) bud from rfl]at hb1;rw[show Sto.mk s.h0 s.h1 s.sel=s from rfl];generalize s.erase b.I0 (1-s.sel) bud=r1 at hb1 he1⊢;by_cases hq:r1.2.2=0
    ·have hdl:(txt ((Db m).flatMap Cy)).size<1000000:=by rw[Fw,ZO,hsl];omega
     simp only[hq,Q_,b_,l_,d_,Afv _ _ _ _ _ _ _ hb1 hdl,a_,Sto.out];have hb2:=Ajw b.I0 r1.1 (1-s.sel) (txt ((Db m).flatMap Cy)) r1.2.1 hb1;have he2:(r1.1.write b.I0 (1-s.sel) (txt ((Db m).flatMap Cy)) r1.2.1).2.2≠0→(r1.1.write b.I0 (1-s.sel) (txt ((Db m).flatMap Cy)) r1.2.1).2.1=0:=Bbo;rw[show Sto.mk r1.1.h0 r1.1.h1 r1.1.sel=r1.1 from rfl];generalize r1.1.write b.I0 (1-s.sel) (txt ((Db m).flatMap Cy)) r1.2.1=r2 at hb2 he2⊢;by_cases hq2:r2.2.2=0
     ·simp only[hq2,Q_,b_,l_,d_,Auy _ _ _ _ _ _ hb2,a_,Sto.out]
     ·rw[Gx hq2,Am hq2,d_,b_,he2 hq2]
    ·rw[Gx hq,Am hq,d_,b_,he1 hq]
  ·rw[f_ hb0];rfl
 ·rw[f_ hs];rfl
def Ahj(hb:b.small)(hcode:b.code=0)(s:Sto)(hs:s.cur.size≤5000)(hbud:bud<9223372036854775808)(hR:Dk b.D0 b.G0 b.I0 b.M0 b.L0 b.N0 b.O0 b.B0 s.h0 s.h1 s.sel=C (((),()),((Cf b s).tup,()))):
  NJ b.D0 b.G0 b.I0 b.M0 b.L0 b.N0 b.O0 b.B0 s.h0 s.h1 s.sel bud=C (Ba9 (Dv b s bud).1 (Dv b s bud).2.1 (Dv b s bud).2.2.1 (Dv b s bud).2.2.2):=by
 have hc:=An hcode;obtain⟨hok,hle,hf⟩:=Zk hcode s ω;have hle2:(Cf b s).A0.length≤900:=by have h2:=(UH (Xi hcode) (rs:=Jy b s.cur) λr hr=>Rx b _ _ r hr).2;have h3:=Vd b s.cur.size (B s.cur);rw[DW]at h3;have h4:(FN b).A0.length=0:=rfl;have h5:(Jy b s.cur).length=(Ia b s.cur.size (B s.cur)).length:=rfl;show(Ag (FN b) (Jy b s.cur)).A0.length≤_;omega
 unfold NJ;rw[Ajc hcode,hR];simp only[a_,Img.tup];rw[Ahi hb hcode s hf ω hbud];simp only[a_,Sto.out];unfold Dv;cases hq:decide (s.ok b.I0)&&decide (0≤bud)with
 |false=>
  have e:DQ b s (Cf b s) bud=(Sto.no,0,1):=by
   unfold DQ;rw[Baj];rw[Bool.and_eq_false_iff]at hq;rcases hq with hq | hq
   ·rw[hq];rfl
   ·rw[hq];cases decide (s.ok b.I0)<;>rfl
  rw[e];rfl
 |true=>generalize DQ b s (Cf b s) bud=w;cases w.2.2 !=0<;>rfl
def Akl(hcode:b.code=0):Dk b.D0 b.G0 b.I0 b.M0 b.L0 b.N0 b.O0 b.B0 Sto.no.h0 Sto.no.h1 Sto.no.sel=C (((),()),((Cf b Sto.no).tup,())):=by have hcars:=An hcode;unfold Dk;rw[Wi hcode ω,Tu];simp only[a_];have h:∀t,Mg ((noB,(),([]:List E),(0:Int),()),t)=C (([],0,()),()):=λt=>Aj (f:=1) (AA rfl) τ;unfold Pe;rw[show Sto.cur ⟨Sto.no.h0,Sto.no.h1,Sto.no.sel⟩=noB from rfl,h];simp only[a_];have h2:∀a c d,JM (((),(),(),([]:List E),(0:Int),()),(a,c,d,()))=C (((),(),()),(c,d,())):=λa c d=>Aj (f:=1) (AA rfl) τ;rw[h2];rfl
def Ap8(hb:b.small)(m:D)(hc:b.B0.length≤100000)(hf:m.fit):Pi b.D0 b.G0 b.I0 b.M0 b.L0 b.N0 b.O0 b.B0 m.F0 m.K0 m.H0 m.A0=C ((SS b m,()),()):=by
 have hmx:100000≤maxLen:=by decide
 have hp:=hf.p;have he:=hf.e;unfold Pi SS;rw[Nc hb m ω ω];simp only[a_,Bol hc he];cases m.ok b<;>rfl
def Ale(b:J)(hc:b.B0.length≤1000)(m:D)(z o:Mch)(ho:o.X0=[]):Ld (((),(),(),(b.B0.length:Int),(),(0:Int),()),(b.tup,m.tup,z.tup,o.tup,()))=C (((),(),(),(),()),(b.tup,m.tup,z.tup,(o.withB (N b.B0.length Wd)).tup,())):=by
 have h:=AP (step:=λx=>letI d:=x.2.2.2;letI j:=d.2.1.2;letI a:=j.2.2.2.2;letI k:=d.1.2;letI c:=k.2.2.2.2;letI e:=c.2.2.2.2;letI f:=a.2.2.2.2;letI g:=x.2.1.2.2;letI n:=e.2.2;letI q:=f.2.2;letI r:=g.2.2;letI s:=x.2.2.1;Ir x.1.2.2.2.1 x.1.2.2.2.2.2.1 x.2.1.1 x.2.1.2.1 g.1 g.2.1 r.1 r.2.1 r.2.2.1 r.2.2.2.1 s.1 s.2.1 s.2.2.1 s.2.2.2.1 d.1.1 k.1 k.2.1 k.2.2.1 k.2.2.2.1 c.1 c.2.1 c.2.2.1 c.2.2.2.1 e.1 e.2.1 n.1 n.2.1 n.2.2.1 n.2.2.2.1 n.2.2.2.2.1 d.2.1.1 j.1 j.2.1 j.2.2.1 j.2.2.2.1 a.1 a.2.1 a.2.2.1 a.2.2.2.1 f.1 f.2.1 q.1 q.2.1 q.2.2.1 q.2.2.2.1 q.2.2.2.2.1) b.B0.length (λi (l:List Belief)=>(((),(),(),(b.B0.length:Int),(),(i:Int),()),(b.tup,m.tup,z.tup,(o.withB l).tup,()))) (λ_ l=>l++[Wd]) (λi l=>l.length≤i) (λl=>(((),(),(),(),()),(b.tup,m.tup,z.tup,(o.withB l).tup,()))) (λi l hi hl=>by
  refine⟨?_,by rw[h_,D_];omega⟩;show Ir (b.B0.length:Int) (i:Int) b.D0 b.G0 b.I0 b.M0 b.L0 b.N0 b.O0 b.B0 m.F0 m.K0 m.H0 m.A0 z.C0.F0 z.C0.K0 z.C0.H0 z.C0.A0 z.U0.h0 z.U0.h1 z.U0.sel z.R1 z.X0 z.B0 z.M2 z.X1 z.I3 z.U3 z.Q2 z.G2 (o.withB l).C0.F0 (o.withB l).C0.K0 (o.withB l).C0.H0 (o.withB l).C0.A0 (o.withB l).U0.h0 (o.withB l).U0.h1 (o.withB l).U0.sel (o.withB l).R1 (o.withB l).X0 (o.withB l).B0 (o.withB l).M2 (o.withB l).X1 (o.withB l).I3 (o.withB l).U3 (o.withB l).Q2 (o.withB l).G2=_;unfold Ir OD;simp only[c_ (ω:(i:Int)<(b.B0.length:Int)),d_,a_,Ef hi (show b.B0.length≤AN by unfold AN;omega)];rw[Ap (show(o.withB l).X0.length+[Belief.mk (-1) 0 0 [] 0 A].length≤2147483648 by show l.length+1≤_;omega)];rfl) (λl _=>by
  show Ir (b.B0.length:Int) (b.B0.length:Int) b.D0 b.G0 b.I0 b.M0 b.L0 b.N0 b.O0 b.B0 m.F0 m.K0 m.H0 m.A0 z.C0.F0 z.C0.K0 z.C0.H0 z.C0.A0 z.U0.h0 z.U0.h1 z.U0.sel z.R1 z.X0 z.B0 z.M2 z.X1 z.I3 z.U3 z.Q2 z.G2 (o.withB l).C0.F0 (o.withB l).C0.K0 (o.withB l).C0.H0 (o.withB l).C0.A0 (o.withB l).U0.h0 (o.withB l).U0.h1 (o.withB l).U0.sel (o.withB l).R1 (o.withB l).X0 (o.withB l).B0 (o.withB l).M2 (o.withB l).X1 (o.withB l).I3 (o.withB l).U3 (o.withB l).Q2 (o.withB l).G2=_;unfold Ir;simp only[f_ (J_ (b.B0.length:Int)),b_];rfl) b.B0.length 0 [] ω σ
 have h':=Aj h.1 ω;rw[Hq (λ_=>[Wd]),Aog,W_]at h';rw[show o.tup=(o.withB []).tup by unfold Mch.withB Mch.tup;rw[ho]];exact h'
def Alf(b:J)(m:D)(hl:m.A0.length≤100000)(hcar:∀e∈m.A0,e.R0<(b.B0.length:Int))(z o:Mch)(ho:o.X1=[]):Lf (((),(),(),(),(0:Int),()),(b.tup,m.tup,z.tup,o.tup,()))=C (((),(),()),(z.tup,(o.withE (m.A0.map (Te b))).tup,())):=by
 have h:=AP (step:=λx=>letI d:=x.2.2.2;letI l:=d.2.1.2;letI a:=l.2.2.2.2;letI n:=d.1.2;letI c:=n.2.2.2.2;letI f:=c.2.2.2.2;letI j:=a.2.2.2.2;letI k:=x.2.1.2.2;letI r:=f.2.2;letI s:=j.2.2;letI u:=k.2.2;letI w:=x.2.2.1;It x.1.2.2.2.2.1 x.2.1.1 x.2.1.2.1 k.1 k.2.1 u.1 u.2.1 u.2.2.1 u.2.2.2.1 w.1 w.2.1 w.2.2.1 w.2.2.2.1 d.1.1 n.1 n.2.1 n.2.2.1 n.2.2.2.1 c.1 c.2.1 c.2.2.1 c.2.2.2.1 f.1 f.2.1 r.1 r.2.1 r.2.2.1 r.2.2.2.1 r.2.2.2.2.1 d.2.1.1 l.1 l.2.1 l.2.2.1 l.2.2.2.1 a.1 a.2.1 a.2.2.1 a.2.2.2.1 j.1 j.2.1 s.1 s.2.1 s.2.2.1 s.2.2.2.1 s.2.2.2.2.1) m.A0.length (λi (q:List Int)=>(((),(),(),(),(i:Int),()),(b.tup,m.tup,z.tup,(o.withE q).tup,()))) (λi q=>q++[Te b (m.A0.getD i noE)]) (λi q=>q.length≤i) (λq=>(((),(),()),(z.tup,(o.withE q).tup,()))) (λi q hi hq=>by
  refine⟨?_,by rw[h_,D_];omega⟩;have hc:=hcar _ (CD noE hi);have b1:∀v:Int,Nat.ble ((o.withE q).X1.length+[v].length) 2147483648=H:=λv=>Ap (by show q.length+1≤_;omega);show It (i:Int) b.D0 b.G0 b.I0 b.M0 b.L0 b.N0 b.O0 b.B0 m.F0 m.K0 m.H0 m.A0 z.C0.F0 z.C0.K0 z.C0.H0 z.C0.A0 z.U0.h0 z.U0.h1 z.U0.sel z.R1 z.X0 z.B0 z.M2 z.X1 z.I3 z.U3 z.Q2 z.G2 (o.withE q).C0.F0 (o.withE q).C0.K0 (o.withE q).C0.H0 (o.withE q).C0.A0 (o.withE q).U0.h0 (o.withE q).U0.h1 (o.withE q).U0.sel (o.withE q).R1 (o.withE q).X0 (o.withE q).B0 (o.withE q).M2 (o.withE q).X1 (o.withE q).I3 (o.withE q).U3 (o.withE q).Q2 (o.withE q).G2=_;unfold It;rw[show Entry.mk 0 0 0 0 A=noE from rfl];simp only[c_ (ω:(i:Int)<(m.A0.length:Int)),Ac (ω:(0:Int)≤(i:Int)) (ω:(i:Int)<(m.A0.length:Int)),d_,i_];have hex:Te b (m.A0.getD i noE)=bif decide (0≤(m.A0.getD i noE).R0)then(Kb b (m.A0.getD i noE).R0.toNat).G1 else 0:=rfl;rw[hex];by_cases g:0≤(m.A0.getD i noE).R0
  ·rw[c_ g,Ac g hc];simp only[d_,a_,b1,Ef hi (show m.A0.length≤AN by unfold AN;omega)];rfl
  ·rw[f_ g];simp only[b_,d_,a_,b1,Ef hi (show m.A0.length≤AN by unfold AN;omega)];rfl) (λq _=>by
  show It (m.A0.length:Int) b.D0 b.G0 b.I0 b.M0 b.L0 b.N0 b.O0 b.B0 m.F0 m.K0 m.H0 m.A0 z.C0.F0 z.C0.K0 z.C0.H0 z.C0.A0 z.U0.h0 z.U0.h1 z.U0.sel z.R1 z.X0 z.B0 z.M2 z.X1 z.I3 z.U3 z.Q2 z.G2 (o.withE q).C0.F0 (o.withE q).C0.K0 (o.withE q).C0.H0 (o.withE q).C0.A0 (o.withE q).U0.h0 (o.withE q).U0.h1 (o.withE q).U0.sel (o.withE q).R1 (o.withE q).X0 (o.withE q).B0 (o.withE q).M2 (o.withE q).X1 (o.withE q).I3 (o.withE q).U3 (o.withE q).Q2 (o.withE q).G2=_;unfold It;simp only[f_ (J_ (m.A0.length:Int)),b_];rfl) m.A0.length 0 [] ω σ
 have h':=Aj h.1 ω;rw[Hq (λi=>[Te b (m.A0.getD i noE)]),Nd (λe=>[Te b e]) noE m.A0 0 m.A0.length ω,P_,Bec,W_]at h';rw[show o.tup=(o.withE []).tup by unfold Mch.withE Mch.tup;rw[ho]];exact h'
def An9(hb:b.small)(m:D)(hf:m.fit)(hc:b.B0.length≤1000)(s:Sto):Rk b.D0 b.G0 b.I0 b.M0 b.L0 b.N0 b.O0 b.B0 m.F0 m.K0 m.H0 m.A0 s.h0 s.h1 s.sel=C (((),(Qd b m s).2,()),((Qd b m s).1.tup,())):=by
 unfold Rk Qd;rw[Ap8 hb m ω hf,Oi];simp only[a_];cases hq:SS b m with
 |false=>rfl
 |true=>
  have hm:ImgOK b m:=by unfold SS at hq;rw[e_]at hq;exact Img.ok_iff.1 hq.1
  by_cases hs:s.ok b.I0
  ·rw[c_ (show Sto.ok b.I0 ⟨s.h0,s.h1,s.sel⟩from hs)];have e:=hf.e
   let o:Mch:=⟨m,s,N b.B0.length Ht,[],N b.B0.length BG,N b.B0.length Ace,[],N b.B0.length Ag9,0,0,0⟩
   have l0:=Ale b hc m Mch.none o rfl;have l1:=Alf b m e (λx hx=>(DL.1 (hm.en x hx)).2.1.2) Mch.none (o.withB (N b.B0.length Wd)) rfl;simp only[Mch.tup,Img.tup,Bldg.tup,Mch.withB,Mch.withE,Mch.none,Img.none,Sto.no,noB,o]at l0 l1;have dl:∀n:Nat,n≤1000→(decide ((0:Int)≤(n:Int))&&decide ((n:Int)≤(n:Int))&&decide ((n:Int)≤(2147483648:Int)))=H:=λn hn=>by rw[c_ (ω:(0:Int)≤(n:Int)),c_ (e0_ (n:Int)),c_ (ω:(n:Int)≤2147483648)];rfl
   simp only[m_,b_,d_,dl _ hc,i_];rw[show Debounced.mk 0 A A A A 0 0 0 0 0 0 0 0 0 0 0 0 0 0 0 0 0 0 0 0 0 0 0 0 0 0 0 0 0 0 0 0 0 0 0 0=Ht from rfl,show NewCar.mk 0 0 0 0 0 A 0 0 0 0 0 0 0 A=BG from rfl,show Loaded.mk 0=Ace from rfl,show Calls.mk 0 0=Ag9 from rfl];rw[l0];simp only[a_];rw[l1];rfl
  ·rw[f_ (show ¬Sto.ok b.I0 ⟨s.h0,s.h1,s.sel⟩from hs)];rfl
def Ap7(hb:b.small)(hcode:b.code=0)(s:Sto)(hs:s.cur.size≤5000)(hbud:bud<9223372036854775808)(hR:Dk b.D0 b.G0 b.I0 b.M0 b.L0 b.N0 b.O0 b.B0 s.h0 s.h1 s.sel=C (((),()),((Cf b s).tup,()))):Pg b.D0 b.G0 b.I0 b.M0 b.L0 b.N0 b.O0 b.B0 s.h0 s.h1 s.sel bud=C (((),(PT b s bud).2.1,(PT b s bud).2.2,()),((PT b s bud).1.tup,())):=by
 have hc:=An hcode;unfold Pg PT;rw[Ahj hb hcode s hs hbud hR];have hf:=Bjm hcode s ω bud;simp only[a_,Ba9,Img.tup];generalize Dv b s bud=w at hf⊢;cases w.2.2.2 !=0 with
 |true=>rfl
 |false=>simp only[b_];rw[An9 hb w.2.1 hf ω w.1];simp only[a_,Mch.tup];generalize Qd b w.2.1 w.1=f;cases f.2 !=0<;>rfl
def Aoa(hb:b.small)(hcode:b.code=0):Hp b.D0 b.G0 b.I0 b.M0 b.L0 b.N0 b.O0 b.B0=C (((),(Qn b).2,()),((Qn b).1.tup,())):=by unfold Hp Qn;rw[hcode];simp only[l_,d_];rw[show Pg b.D0 b.G0 b.I0 b.M0 b.L0 b.N0 b.O0 b.B0 (ByteArray.mk (Array.mk [])) (ByteArray.mk (Array.mk [])) 0 1048576=_ from Ap7 hb hcode Sto.no τ (bud:=1048576) ω (Akl hcode)];rfl
section
variable{b:J}(hw:BW b)
include hw
theorem PM.fit{m:Mch}(h:PM b m):m.fit:=by
 have hcc:=An hw.code;have h1:=CL hw.small h.jst.img
 have:=h.exl
 refine⟨h.jst.ents.2,by rw[h.con];omega,by rw[h.bel];omega,λx hx=>?_,by rw[h.car];omega,by rw[h.lod];omega,ω,by rw[h.lit];omega⟩;obtain⟨i,hi,rfl⟩:=List.getElem_of_mem hx;have h2:=((h.belv i (by rw[← h.bel];exact hi)).dut).len hw.small;rw[k_,j_ hi]at h2;have h2:m.X0[i].W0.length≤30:=h2;omega
theorem PM.isM_eq{m:Mch}(h:PM b m):FT b.D0 b.G0 b.I0 b.M0 b.L0 b.N0 b.O0 b.B0 m.C0.F0 m.C0.K0 m.C0.H0 m.C0.A0 m.U0.h0 m.U0.h1 m.U0.sel m.R1 m.X0 m.B0 m.M2 m.X1 m.I3 m.U3 m.Q2 m.G2=C ((H,()),()):=by
 have hf:=h.fit hw;have hcc:=An hw.code;have he:=CL hw.small h.jst.img;have hl:=h.exl;have c5:=Aai hw.small hw.code h.con λx hx=>(h.conv x hx).1;have c6:=Agl hw.small hw.code h.bel (λi hi=>(Ah3 hw.small).2 (h.belv i (by rw[← h.bel];exact hi))) hf.du;have c7:=Agn hw.small hw.code h.car h.carv;have c8:=Agm (n:=(b.B0.length:Int)) hf.lo (by rw[h.lod]) h.lodv;have hS:Sat (FT b.D0 b.G0 b.I0 b.M0 b.L0 b.N0 b.O0 b.B0 m.C0.F0 m.C0.K0 m.C0.H0 m.C0.A0 m.U0.h0 m.U0.h1 m.U0.sel m.R1 m.X0 m.B0 m.M2 m.X1 m.I3 m.U3 m.Q2 m.G2) λy=>y=((H,()),()):=by
  unfold FT;refine aA (Ae4 hw.small m.C0 ω hf.im) (Sat.bifF (by rw[Aq7 h.jst.img h.jst.fits];rfl) (aA (IH ..) (Sat.bifF (by show(!decide (m.U0.ok b.I0))=A;rw[c_ h.jst.ok];rfl) (Sat.bifF (by rw[hl,Q_]) (aA (So ω h.exv) (Sat.bifF rfl (aA (So (xs:=[m.U3,m.Q2,m.G2]) (by show 3≤100000;omega) λx hx=>?_) (Sat.bifF rfl (aA c5 (aA c6 (aA c7 (aA c8 ?_))))))))))))
  ·simp only[t_,h2_,or_false]at hx;rcases hx with rfl | rfl | rfl
   ·exact h.tick
   ·exact h.flt
   ·exact h.ref
  ·refine Sat.ret ?_;show((((m.I3.length:Int)==(b.B0.length:Int)),()),())=_;rw[h.lit,l_]
 obtain⟨y,h1,h2⟩:=hS;rw[h1,h2]
theorem Be9:PM b (Qn b).1∧(Qn b).1.C0=FN b:=by
 have hcode:=hw.code;have j0:=Jst.first hcode;have hcc:=An hcode;have hfit:=j0.fits;have hroom:=hw.room;have hs:Qn b=((PT b Sto.no 1048576).1,(PT b Sto.no 1048576).2.2):=by unfold Qn;rw[hcode];rfl
 rw[hs];rcases Bim hw.small j0.ok j0.img (j0.replay hw.small) ω (bud:=1048576) ω with⟨_,q2,q3⟩ | ⟨q1,_⟩
 ·rw[q2];have rep:∀{α:Type}{P:α→Prop}{a:α}{n:Nat},P a→∀x∈N n a,P x:=λh x hx=>by rw[(List.mem_replicate.1 hx).2];exact h
  have he:(FN b).A0=[]:=rfl;refine⟨⟨q3,V_,rep ⟨Bek (Al4 hcode),e0_ 0,show(0:Int)<4294967296 by decide⟩,V_,λi hi=>?_,V_,rep (Nb hw.small),V_,rep (show(0:Int)≤0∧(0:Int)≤4 by decide),V_,d1_ _,?_,i00,i00,i00⟩,rfl⟩
  ·show BelOK b i ((N b.B0.length Wd).getD i HX);rw[k_,List.getElem?_replicate,if_pos hi];exact BelOK.new hw
  ·intro x hx;rw[show(Ad7 b (FN b) { Sto.no.set (1-Sto.no.sel) (txt ((Db (FN b)).flatMap Cy))with sel:=1-Sto.no.sel }).X1=[]from rfl]at hx;cases hx
 ·omega
omit hw in
theorem Bru{m:Mch}(hm:m.fit):ND m.C0.F0 m.C0.K0 m.C0.H0 m.C0.A0 m.U0.h0 m.U0.h1 m.U0.sel m.R1 m.X0 m.B0 m.M2 m.X1 m.I3 m.U3 m.Q2 m.G2=C (((),()),(m.tup,())):=by
 have hl:Sat (IL (((),(),(m.X0.length:Int),(0:Int),()),(m.tup,Mch.none.tup,()))) λy=>y=(((),(),()),(m.tup,Mch.none.tup,())):=by have hbe:=hm.be;unfold IL;refine Sat.loop (λ(k:Nat) z=>∃(i:Nat),z=(((),(),(m.X0.length:Int),(i:Int),()),(m.tup,Mch.none.tup,()))∧i+k=m.X0.length) (λk z hz=>?_) m.X0.length ⟨0,rfl,p_ _⟩ ω;obtain⟨i,rfl,hk⟩:=hz;show Sat (PG (m.X0.length:Int) (i:Int) m.C0.F0 m.C0.K0 m.C0.H0 m.C0.A0 m.U0.h0 m.U0.h1 m.U0.sel m.R1 m.X0 m.B0 m.M2 m.X1 m.I3 m.U3 m.Q2 m.G2 [] [] [] [] noB noB 0 [] [] [] [] [] [] 0 0 0) _;unfold PG;refine Sat.bic (λq=>?_) λ_=>Sat.ret rfl;have q:(i:Int)<(m.X0.length:Int):=n_ q;have hi:i<m.X0.length:=ω;have w:=DF (n:=i) ω;have ib:inB (i:Int) m.X0.length=H:=Ac ω q;have hd:(m.X0.getD i HX).W0.length≤100000:=hm.du _ (CD _ hi);refine Sat.bifT ib (aA (show Er (m.X0.getD (aB (i:Int)) HX).W0=C (((m.X0.getD i HX).W0,()),())from Dn _ hd) (Sat.bifT ib ?_));refine Sat.ret ⟨k-1,ω,i+1,?_,ω⟩;have e:m.X0.set i (Belief.mk (m.X0.getD i HX).E0 (m.X0.getD i HX).J0 (m.X0.getD i HX).D3 (m.X0.getD i HX).W0 (m.X0.getD i HX).T2 (m.X0.getD i HX).H3)=m.X0:=Aoj HX rfl;rw[← w];exact f2_ (λL=>(((),(),(m.X0.length:Int),IntKind.i64.wrap ((i:Int)+1),()),(({ m with X0:=L }:Mch).tup,Mch.none.tup,()))) e
 obtain⟨y,hl,rfl⟩:=hl;have him:=hm.im;unfold ND;refine Ae (Dn m.C0.F0 him.p) (Ae (Dn m.C0.K0 him.f) (Ae (Dn m.C0.H0 him.l) (Ae (Dn m.C0.A0 him.e) (Ae (Dn m.R1 hm.co) (Ae (Dn m.B0 hm.ca) (Ae (Dn m.M2 hm.lo) (Ae (Dn m.X1 hm.ex) (Ae (Dn m.I3 hm.li) (Ae (Dn m.X0 hm.be) (Ae hl rfl))))))))))
def pk0(b:J)(m:Mch)(bud:Int):Pk:=⟨m,bud,0,N b.B0.length A,N b.B0.length (Calls.mk 0 0),N b.B0.length A,⟨0,0,0,0,A,A,0,N b.B0.length Cz⟩⟩
@[reducible] def outP(o:Outputs):=(o.U5,o.T5,o.F3,o.X2,o.W5,o.N0,o.V5,o.B0,())
def Bh3:Outputs:=⟨0,0,0,0,A,A,0,[]⟩
end
inductive Runs(b:Bldg):Mch→List ByteArray→Mch→List Outputs→Prop
 |nil (m:Mch):Runs b m [] m []
 |cons {m m1 m2:Mch}{s:ByteArray}{fs:List ByteArray}{o:Outputs}{os:List Outputs}(h:Hy b.D0 b.G0 b.I0 b.M0 b.L0 b.N0 b.O0 b.B0 m.C0.F0 m.C0.K0 m.C0.H0 m.C0.A0 m.U0.h0 m.U0.h1 m.U0.sel m.R1 m.X0 m.B0 m.M2 m.X1 m.I3 m.U3 m.Q2 m.G2 s 1048576=some (((),(),0,()),(m1.tup,outP o,()))) (h2:Runs b m1 fs m2 os):Runs b m (s::fs) m2 (o::os)
def Runs.app{m1 m2 m3:Mch}{f g:List ByteArray}{x y:List Outputs}(h:Runs b m1 f m2 x)(k:Runs b m2 g m3 y):Runs b m1 (f++g) m3 (x++y):=by
 induction h with
 |nil m=>exact k
 |cons h _ ih=>exact .cons h (ih k)
def Runs.len{m1 m2:Mch}{f:List ByteArray}{x:List Outputs}(h:Runs b m1 f m2 x):x.length=f.length:=by
 induction h with
 |nil m=>rfl
 |cons _ _ ih=>rw[E_,E_,ih]
section
variable{b:J}(hw:BW b)
include hw
end
structure TickF(b:Bldg)(m:Mch)(x:Inp)(g:Bool)(m':Mch)(o:Outputs)(l1 l2:List Record)(u:Mch)(vs:List View)(X:Rnd):Prop where
 fl:∀r∈l1,WY b r
 op:(g=false∧l2=[])∨(g=true∧∃(i:Nat) (cm:List Bool) (fr:Bool),x.car=(i:Int)∧i<b.B0.length∧cm.length=b.B0.length∧l2=He b (Ag m.C0 l1) x.kind i cm fr)
 pu:PM b u
 iu:u.C0=Ag (Ag m.C0 l1) l2
 va:VA b u.C0 g vs
 hX:X=Og b u.C0 u.X1 vs u.I3 x.press g
 rg:Rg b u.C0 X
 img:m'.C0=X.img
 pm:PM b m'
 oc:o.B0.length=b.B0.length
 cars:∀i,i<b.B0.length→∃c d,Ank X i c d∧FinO m'.C0 i d (o.B0.getD i Cz)
 lu:o.U5=(ofC m'.C0.A0 (0,0)).1
 ld:o.T5=(ofC m'.C0.A0 (0,0)).2
 bad:o.W5=!g
 served:(o.F3,o.X2)=JA X.recs (0,0)
 full:o.N0=!isZ X.ref
 free:g=true→∃(i:Nat) (cm:List Bool) (fr:Bool),i<b.B0.length∧l2=He b (Ag m.C0 l1) x.kind i cm fr∧Dx (Ag m.C0 l1).F0 (Ag m.C0 l1).K0 (Ag m.C0 l1).H0 (Ag m.C0 l1).A0=some ((fr,()),())
def TickF.of{x:Inp}{g:Bool}{m:Mch}{t1 t2 t3 t4 t':Pk}{l1 l2:List E}(f1:Fix (pk0 b m bud) t1)(hl1:∀r∈l1,WY b r)(o2:t2.out={ t1.out with B0:=t2.out.B0 })(a2:Al b t1 t2 l1)(hop:(g=A∧t3=t2∧l2=[])∨(g=H∧Opr b x g t2 t3 l2))(a3:Al b t2 t3 l2)(hd:Dsp b x g t3 t4 vs)(a4:Al b t3 t4 (Jj b x g t3 vs).recs)(hf:Fin b g t4 t'):TickF b m x g t'.m t'.out l1 l2 t3.m vs (Jj b x g t3 vs):=by
 have i1:t1.m.C0=m.C0:=f1.im;have i2:t2.m.C0=Ag m.C0 l1:=by rw[a2.im,i1]
 have out1:t2.out={ (pk0 b m bud).out with B0:=t2.out.B0 }:=by rw[o2,f1.out]
 have out3:∃s,t3.out={ t2.out with V5:=s }:=by
  rcases hop with⟨_,rfl,_⟩ | ⟨_,h⟩
  ·exact⟨t3.out.V5,rfl⟩
  ·obtain⟨_,_,_,_,_,_,_,e,_⟩:=h.how;exact⟨_,e⟩
 obtain⟨s,out3⟩:=out3;refine⟨hl1,?_,a3.m,by rw[a3.im,i2],hd.va,rfl,hd.rg,by rw[hf.im,a4.im,hd.rg.img],hf.m,hf.oc,λi hi=>?_,?_,?_,?_,?_,?_,λhg=>?_⟩
 ·rcases hop with⟨h1,_,h2⟩ | ⟨h1,h⟩
  ·exact .inl ⟨h1,h2⟩
  ·obtain⟨i,cm,fr,h2,h3,h4,h5,_⟩:=h.how;exact .inr ⟨h1,i,cm,fr,h2,h3,h4,by rw[← i2];exact h5⟩
 ·refine⟨_,_,hd.cars i hi,?_⟩;rw[hf.im];exact hf.cars i hi
 ·rw[hf.out,hf.im]
 ·rw[hf.out,hf.im]
 ·rw[hf.out]
 ·rw[hf.out];show(t4.out.F3,t4.out.X2)=_;rw[hd.out,out3,out1];rfl
 ·rw[hf.out];show t4.out.N0=_;rw[hd.out]
 ·rcases hop with⟨h1,_⟩ | ⟨_,h⟩
  ·rw[hg]at h1;cases h1
  ·obtain⟨i,cm,fr,_,h3,_,h5,_,_,h8⟩:=h.how;rw[i2]at h5 h8;exact⟨i,cm,fr,h3,h5,h8⟩
def Bch(m:D)(h:r.Q0≠4∧r.Q0≠5∧r.Q0≠6):(Ak m r).F0=m.F0∧(Ak m r).K0=m.K0∧(Ak m r).H0=m.H0:=by unfold Ak;rw[Am h.1,Am h.2.1,Am h.2.2];simp only[b_];cases CV r.E0 r.J0 m.A0 0==-1<;>cases r.Q0==1<;>cases r.Q0==2<;>cases r.Q0==3<;>cases r.Q0==7<;>exact⟨rfl,rfl,rfl⟩
def Yf:∀{l:List E}(m:D),(∀r∈l,r.Q0≠4∧r.Q0≠5∧r.Q0≠6)→(Ag m l).F0=m.F0∧(Ag m l).K0=m.K0∧(Ag m l).H0=m.H0
 |[],_,_=>⟨rfl,rfl,rfl⟩
 |r::t,m,h=>by obtain⟨h1,h2,h3⟩:=Bch m (h r (s_ ..));obtain⟨k1,k2,k3⟩:=Yf (Ak m r) λx hx=>h x (u_ _ hx);exact⟨k1.trans h1,k2.trans h2,k3.trans h3⟩
def Aeg{α:Type}(get:D→α)(p:E→Prop)(v:E→α)(I:D→Prop):∀{l:List E}{m:D},(∀r∈l,∀n,I n→I (Ak n r)∧((p r∧get (Ak n r)=v r)∨(¬p r∧get (Ak n r)=get n)))→I m→(get (Ag m l)=get m∧∀r∈l,¬p r)∨∃r∈l,p r∧get (Ag m l)=v r
 |[],_,_,_=>.inl ⟨rfl,λr h=>by cases h⟩
 |r::l,m,h,hm=>by
  obtain⟨h1,h2⟩:=h r (s_ ..) m hm;rcases Aeg get p v I (l:=l) (λs hs=>h s (u_ _ hs)) h1 with⟨e,n⟩ | ⟨s,hs,e⟩
  ·rcases h2 with⟨q,e2⟩ | ⟨q,e2⟩
   ·exact .inr ⟨r,s_ ..,q,e.trans e2⟩
   ·refine .inl ⟨e.trans e2,λs hs=>?_⟩;rcases t_.1 hs with rfl | hs
    ·exact q
    ·exact n s hs
  ·exact .inr ⟨s,u_ _ hs,e⟩
def Img.fits(b:J)(m:D):Prop:=m.F0.length=b.B0.length∧m.K0.length=b.B0.length
def ImgOK.fits(h:ImgOK b m):m.fits b:=⟨h.lp,h.lf⟩
def Bct(hr:LW b r){n:D}(hn:n.fits b){c:Nat}(hc:c<b.B0.length):(Ak n r).fits b∧phA (Ak n r) c=(bif r.Q0==4&&r.R0==(c:Int)then r.J1 else phA n c)∧flA (Ak n r) c=(bif r.Q0==5&&r.R0==(c:Int)then r.J1==1 else flA n c):=by
 obtain⟨i,k,v,hi,rfl,h⟩:=hr;have hk:k=4∨k=5∨k=6:=ω;rcases hk with rfl | rfl | rfl
 ·refine⟨⟨by show(n.F0.set i v).length=_;rw[r_];exact hn.1,hn.2⟩,?_,rfl⟩;show(n.F0.set i v).getD c 0=bif(i:Int)==(c:Int)then v else n.F0.getD c 0;by_cases e:i=c
  ·subst e;rw[l_,d_,Bx _ _ (by rw[hn.1];exact hc)]
  ·rw[Am (ω:¬(i:Int)=(c:Int)),b_,DJ _ _ e]
 ·refine⟨⟨hn.1,by show(n.K0.set i (v==1)).length=_;rw[r_];exact hn.2⟩,rfl,?_⟩;show(n.K0.set i (v==1)).getD c A=bif(i:Int)==(c:Int)then v==1 else n.K0.getD c A;by_cases e:i=c
  ·subst e;rw[l_,d_,Bx _ _ (by rw[hn.2];exact hc)]
  ·rw[Am (ω:¬(i:Int)=(c:Int)),b_,DJ _ _ e]
 ·exact⟨hn,rfl,rfl⟩
section
variable{b:J}{l:List E}(hl:∀r∈l,LW b r){m:D}(hm:m.fits b){c:Nat}(hc:c<b.B0.length)
include hl hm hc
theorem Xt:(phA (Ag m l) c=phA m c∧∀r∈l,¬(r.Q0=4∧r.R0=(c:Int)))∨∃r∈l,(r.Q0=4∧r.R0=(c:Int))∧phA (Ag m l) c=r.J1:=
 Aeg (λn=>phA n c) (λr=>r.Q0=4∧r.R0=(c:Int)) (λr=>r.J1) (λn=>n.fits b) (λr hr n hn=>by
  obtain⟨h1,h2,_⟩:=Bct (hl r hr) hn hc;refine⟨h1,?_⟩;by_cases q:r.Q0=4∧r.R0=(c:Int)
  ·exact .inl ⟨q,by show phA (Ak n r) c=_;rw[h2,q.1,q.2,l_,l_];rfl⟩
  ·refine .inr ⟨q,?_⟩;show phA (Ak n r) c=_;rw[h2,show(r.Q0==4&&r.R0==(c:Int))=A by rw[Bool.and_eq_false_iff,beq_eq_false_iff_ne,beq_eq_false_iff_ne];omega];rfl) hm
omit hc in
theorem Bdm:(Ag m l).fits b:=by
 induction l generalizing m with
 |nil=>exact hm
 |cons r t ih=>
  refine ih (m:=Ak m r) (λx hx=>hl x (u_ _ hx)) ?_;obtain⟨i,k,v,hi,rfl,h⟩:=hl r (s_ ..);have hk:k=4∨k=5∨k=6:=ω;rcases hk with rfl | rfl | rfl
  ·exact⟨by show(m.F0.set i v).length=_;rw[r_];exact hm.1,hm.2⟩
  ·exact⟨hm.1,by show(m.K0.set i (v==1)).length=_;rw[r_];exact hm.2⟩
  ·exact hm
end
def Azu(h:WY b r):LW b r:=by obtain⟨i,hi,rfl⟩:=h;exact⟨i,5,1,hi,rfl,.inr ⟨.inl rfl,τ⟩⟩
def Acg(m:D)(kind:Int)(hi:i<b.B0.length)(cm:List Bool)(fr:Bool):∀r∈He b m kind i cm fr,LW b r:=λr hr=>by
 unfold He at hr;rcases o_.1 hr with h | h
 ·exact(Wg m kind hi _ fr).1 r h
 ·exact ZD _ _ _ (A_ _) r h
def Bs8(a z:Int):Prop:=(a=0∧z=1)∨(a=1∧z=0)∨(a=1∧z=2)∨(a=2∧z=0)∨(a=2∧z=3)∨(a=3∧z=2)∨(a=3∧z=4)∨(a=4∧z=2)
def Aro{kind:Int}{calm fr:Bool}(h:r∈(Jh m kind i calm fr).1):r.R0=(i:Int)∧kind≠0∧((r.Q0=4∧Bs8 (phA m i) r.J1∧(r.J1=2→phA m i=3∧calm=H))∨r.Q0=6∨(r.Q0=5∧kind=8)):=by
 unfold Jh Nt at h;have ite:∀(c:Bool) {p:Prop}{x y:List E×Int},r∈(bif c then x else y).1→(c=H→r∈x.1→p)→(c=A→r∈y.1→p)→p:=λc p x y h h1 h2=>by
  cases c
  ·exact h2 rfl h
  ·exact h1 rfl h
 have one:∀{q:E}{e:Int},r∈([q],e).1→r=q:=λh=>C_.1 h;refine ite _ h (λ_ h=>by cases h) λh0 h=>?_;have h0:kind≠0:=by simpa using h0
 have two:∀{c d:Bool},(c&&d)=H→c=H∧d=H:=λ{c d} h=>by simpa using h
 refine ite _ h (λq h=>ite _ h (λ_ h=>?_) λ_ h=>by cases h) λ_ h=>?_
 ·obtain⟨_,q2⟩:=two q;rw[one h];exact⟨rfl,h0,.inl ⟨rfl,.inl ⟨eq_of_beq q2,rfl⟩,λh=>absurd h (show ¬(1:Int)=2 by decide)⟩⟩
 refine ite _ h (λq h=>?_) λ_ h=>?_
 ·obtain⟨_,q2⟩:=two q;rw[one h];exact⟨rfl,h0,.inl ⟨rfl,.inr (.inl ⟨eq_of_beq q2,rfl⟩),λh=>absurd h (show ¬(0:Int)=2 by decide)⟩⟩
 refine ite _ h (λq h=>?_) λ_ h=>?_
 ·obtain⟨_,q2⟩:=two q;rw[one h];exact⟨rfl,h0,.inl ⟨rfl,.inr (.inr (.inr (.inl ⟨eq_of_beq q2,rfl⟩))),λh=>absurd h (show ¬(0:Int)=2 by decide)⟩⟩
 refine ite _ h (λq h=>?_) λ_ h=>?_
 ·rw[one h];exact⟨rfl,h0,.inr (.inl rfl)⟩
 refine ite _ h (λq h=>?_) λ_ h=>?_
 ·obtain⟨_,q2⟩:=two q;rw[one h];exact⟨rfl,h0,.inl ⟨rfl,.inr (.inr (.inr (.inr (.inl ⟨eq_of_beq q2,rfl⟩)))),λh=>absurd h (show ¬(3:Int)=2 by decide)⟩⟩
 refine ite _ h (λq h=>ite _ h (λhc h=>?_) λ_ h=>by cases h) λ_ h=>?_
 ·obtain⟨_,q2⟩:=two q;rw[one h];exact⟨rfl,h0,.inl ⟨rfl,.inr (.inr (.inr (.inr (.inr (.inl ⟨eq_of_beq q2,rfl⟩))))),λ_=>⟨eq_of_beq q2,hc⟩⟩⟩
 refine ite _ h (λq h=>ite _ h (λ_ h=>?_) λ_ h=>by cases h) λ_ h=>?_
 ·obtain⟨_,q2⟩:=two q;rw[one h];exact⟨rfl,h0,.inl ⟨rfl,.inr (.inr (.inr (.inr (.inr (.inr (.inl ⟨eq_of_beq q2,rfl⟩)))))),λh=>absurd h (show ¬(4:Int)=2 by decide)⟩⟩
 refine ite _ h (λq h=>ite _ h (λ_ h=>?_) λ_ h=>by cases h) λ_ h=>?_
 ·rw[one h];exact⟨rfl,h0,.inr (.inl rfl)⟩
 refine ite _ h (λq h=>?_) λ_ h=>by cases h
 obtain⟨q1,_⟩:=two q;rw[one h];exact⟨rfl,h0,.inr (.inr ⟨rfl,eq_of_beq q1⟩)⟩
def Alq{m:D}{calm:List Bool}:∀{n:Nat}{r:E},r∈Cs m calm n→∃i:Nat,i<n∧r.R0=(i:Int)∧Qf m calm i=H∧((r.Q0=4∧r.J1=2)∨r.Q0=6∨(r.Q0=5∧r.J1=0))∧⟨4,0,0,(i:Int),2⟩∈Cs m calm n
 |0,_,h=>by cases h
 |n+1,r,h=>by
  rcases o_.1 h with h | h
  ·obtain⟨i,h1,h2,h3,h4,h5⟩:=Alq h;exact⟨i,ω,h2,h3,h4,aD _ h5⟩
  ·unfold NT at h;cases hg:Qf m calm n with
   |false=>rw[hg]at h;cases h
   |true=>
    have hi:(⟨4,0,0,(n:Int),2⟩:E)∈Cs m calm (n+1):=List.mem_append_right _ (by unfold NT;rw[hg,d_];exact aD _ (aD _ (C_.2 rfl)));rw[hg,d_]at h;refine⟨n,ω,?_⟩;rcases o_.1 h with h | h
    ·rcases o_.1 h with h | h
     ·rw[C_.1 h];exact⟨rfl,hg,.inl ⟨rfl,rfl⟩,hi⟩
     ·cases hl:HW m n with
      |false=>rw[hl]at h;cases h
      |true=>rw[hl]at h;rw[C_.1 h];exact⟨rfl,hg,.inr (.inl rfl),hi⟩
    ·cases hl:flA m n with
     |false=>rw[hl]at h;cases h
     |true=>rw[hl]at h;rw[C_.1 h];exact⟨rfl,hg,.inr (.inr ⟨rfl,rfl⟩),hi⟩
def Bi8{calm:List Bool}(h:Qf m calm i=H):calm.getD i A=H∧(phA m i=1∨phA m i=4)∧NV m i=A:=by unfold Qf HW at h;simp only[e_,a2_,U_,b2_]at h;exact⟨h.1,ω,h.2.2⟩
section
variable{b:J}{m:D}(hm:m.fits b){kind:Int}{i:Nat}(hi:i<b.B0.length){cm:List Bool}(hcm:cm.length=b.B0.length){fr:Bool}{c:Nat}(hc:c<b.B0.length)
include hm hi hcm hc
theorem Anw(hr:r∈He b m kind i cm fr)(hrc:r.R0=(c:Int)):(r∈(Jh m kind i (cm.getD i A) fr).1∧c=i∧kind≠0)∨(cm.getD c A=H∧(kind≠0→c≠i)∧(phA m c=1∨phA m c=4)∧NV m c=A∧((r.Q0=4∧r.J1=2)∨r.Q0=6∨(r.Q0=5∧r.J1=0))∧(⟨4,0,0,(c:Int),2⟩:E)∈He b m kind i cm fr):=by
 have ok1:=(Wg (b:=b) m kind hi (cm.getD i A) fr).1;have hent:(Ag m (Jh m kind i (cm.getD i A) fr).1).A0=m.A0:=Ls _ λr hr=>by obtain⟨j,k,v,_,rfl,h⟩:=ok1 r hr;show k=4∨k=5∨k=6;omega
 unfold He at hr⊢;rcases o_.1 hr with h | h
 ·have h1:=Aro h;exact .inl ⟨h,ω,h1.2.1⟩
 ·obtain⟨j,hj,h2,hg,h3,h4⟩:=Alq h;obtain rfl:j=c:=ω;obtain⟨g1,g2,g3⟩:=Bi8 hg;have hne:kind≠0→j≠i:=λhk e=>by
   subst e;rw[Gx hk,d_,Bx _ _ ω]at g1;cases g1
  have hcmj:cm.getD j A=H:=by
   by_cases hk:kind=0
   ·subst hk;exact g1
   ·rw[Gx hk,d_,DJ _ _ (f0_ (hne hk))]at g1;exact g1
  refine .inr ⟨hcmj,hne,?_,?_,h3,List.mem_append_right _ h4⟩
  ·rcases Xt ok1 hm hj with⟨e,_⟩ | ⟨r',hr',⟨_,hc'⟩,_⟩
   ·rw[e]at g2;exact g2
   ·have h5:=Aro hr';exact absurd (ω:j=i) (hne h5.2.1)
  ·unfold NV at g3⊢;rw[hent]at g3;exact g3
end
def kdR(r:E):Prop:=r.Q0≠4∧r.Q0≠5∧r.Q0≠6
def Arr(b:J):∀(l:List Entry) {X:Rnd},(∀r∈X.recs,kdR r)→∀r∈(Ji b l X).recs,kdR r
 |[],_,h=>h
 |e::t,X,h=>by
  refine Arr b t (X:=FP b e X) ?_;unfold FP;cases Oc b X.img with
  |false=>exact h
  |true=>
   intro r hr;rcases o_.1 (show r∈X.recs++[Xx e]from hr)with hr | hr
   ·exact h r hr
   ·rw[C_.1 hr];exact⟨show(1:Int)≠4 by decide,show(1:Int)≠5 by decide,show(1:Int)≠6 by decide⟩
section
variable{b:J}(hb:b.small)(hcode:b.code=0){m:D}(hm:ImgOK b m){xs:List Int}(hx:xs.length=m.A0.length)(hxv:inX xs){vs:List View}(ps:List Calls)(press:Int×Int)(good:Bool)
include hcode hm
theorem Bfg:∀r∈(Dg b m xs vs ps press good).recs,kdR r:=by
 unfold Dg;cases good with
 |false=>exact λr h=>by cases h
 |true=>
  have hv:=RA hcode vs (l:=m.A0) λe he=>(DL.1 (hm.en e he)).1;refine Arr b _ λr hr=>?_;have hr:r∈FO b vs m.A0:=hr
  have:=(hv r hr).2
  exact⟨ω,ω,ω⟩
variable(hvl:vs.length=b.B0.length)
include hb hx hxv hvl
theorem Bff:∀r∈(Og b m xs vs ps press good).recs,kdR r:=λr hr=>by
 have hp:=XF hb hcode hm hx hxv (vs:=vs) ps press good hvl;have hr:r∈(Dg b m xs vs ps press good).recs++(ZY b m xs vs ps press good).1:=hr;rcases o_.1 hr with h | h
 ·exact Bfg hcode hm ps press good r h
 ·rw[hp]at h
  have:=Qj b vs _ _ r h
  exact⟨ω,ω,ω⟩
end
section
variable{b:J}(hw:BW b){m:Mch}{x:Inp}{g:Bool}{m':Mch}{o:Outputs}{l1 l2:List E}{u:Mch}{vs:List View}{X:Rnd}(h:TickF b m x g m' o l1 l2 u vs X)
include hw h
theorem TickF.recs_kd:∀r∈X.recs,kdR r:=by rw[h.hX];exact Bff hw.small hw.code h.pu.jst.img h.pu.exl h.pu.exv _ _ _ h.va.len
theorem TickF.rest:m'.C0.F0=u.C0.F0∧m'.C0.K0=u.C0.K0∧m'.C0.H0=u.C0.H0:=by rw[h.img,← h.rg.img];exact Yf _ (h.recs_kd hw)
theorem TickF.fits:(Ag m.C0 l1).fits b→u.C0.fits b:=λ_=>h.pu.jst.img.fits
end
def Asu(x c:Int×Int):CU c (AU x c)=(0,0):=by
 have h:∀a d:Int,vb (bv d&&&bv (Acc a d))=0:=λa d=>by
  have e:bv d&&&bv (Acc a d)=0#32:=by
   apply BitVec.eq_of_getLsbD_eq;intro i hi
   have:=CT (a,0) (d,0) (f:=i) hi 1
   have h1:Dl (Acc a d) i=(Dl a i&&!Dl d i):=this;rw[f4_];show(Dl d i&&Dl (Acc a d) i)=_;rw[h1];cases Dl d i<;>cases Dl a i<;>simp
  rw[e];rfl
 exact Prod.ext (h x.1 c.1) (h x.2 c.2)
def Sg(l:List Calls)(k:Nat):Int×Int:=((l.getD k noP).Up,(l.getD k noP).Q3)
def Vq(l:List Calls):Nat→Int×Int
 |0=>(0,0)
 |k+1=>Cm (Vq l k) (Sg l k)
def Air{l:List Calls}(r:List Calls){k:Nat}(h:k<l.length):(l++r).getD k noP=l.getD k noP:=by rw[k_,k_,b9_ h]
def Abb{l:List Calls}(r:List Calls):∀k,k≤l.length→Vq (l++r) k=Vq l k
 |0,_=>rfl
 |k+1,h=>by show Cm (Vq (l++r) k) (Sg (l++r) k)=Cm (Vq l k) (Sg l k);rw[Abb r k ω];unfold Sg;rw[Air r ω]
structure Apart(s:Lan):Prop where
 cl:Vq s.lit s.lit.length=s.cl
 ap:∀k,k<s.lit.length→CU (Vq s.lit k) (Sg s.lit k)=(0,0)
def Apart.step{ps:List Calls}{s:Lan}(h:Apart s)(i:Nat):Apart (Oz b vs ps i s):=by
 have hn:Sg (s.lit++[Calls.mk (Oy b vs i s).1 (Oy b vs i s).2]) s.lit.length=Oy b vs i s:=by unfold Sg;rw[k_,c8_ (A_ _),Nat.sub_self];rfl
 refine⟨?_,λk hk=>?_⟩
 ·show Vq (s.lit++[_]) (s.lit++[_]).length=Cm s.cl (Oy b vs i s);rw[h_];show Cm (Vq (s.lit++[_]) s.lit.length) (Sg (s.lit++[_]) s.lit.length)=_;rw[Abb _ _ (A_ _),h.cl,hn]
 ·have hk:k<(s.lit++[Calls.mk (Oy b vs i s).1 (Oy b vs i s).2]).length:=hk;rw[h_,D_]at hk;show CU (Vq (s.lit++[_]) k) (Sg (s.lit++[_]) k)=_;rw[Abb _ _ ω];by_cases e:k<s.lit.length
  ·rw[show Sg (s.lit++[Calls.mk (Oy b vs i s).1 (Oy b vs i s).2]) k=Sg s.lit k by unfold Sg;rw[Air _ e]];exact h.ap k e
  ·obtain rfl:k=s.lit.length:=ω;rw[hn,h.cl];exact Asu _ _
end Go.Ovl
