/- Layer 10: compacting, appending, replaying and recovering, by the reference. -/
import Derived.Test.YtgmkjajpbaghgaaGreatDoorOvD
import Derived.Test.YtgmkjajpbaghgaaGreatDoorOvL
import Derived.Test.YtgmkjajpbaghgaaGreatDoorOvF
import Derived.Test.YtgmkjajpbaghgaaGreatDoorDefs4
set_option linter.all false
open Bool renaming true->A,false->C
open Go.Ovl renaming phA->B,Img->E,Bldg->H,Record->J
open Option renaming some->D
open Go.Ovl.Sat renaming bindE->N,bifT->R,ret->S,bifF->aA,bindS->aB
open List renaming replicate->O,mem_append_left->aC
namespace Go.Ovl
open Go Go.Ab
set_option maxRecDepth 100000
variable{b:H}{m:Mch}{bud room:Int}{r:J}{s:ByteArray}{f:List ByteArray}{vs:List View}{was:List Int}{i c:Nat}{g:Bool}{x:Inp}
def Agx(hcode:b.code=0)(s:Sto)(bud:Int):Si b.C0 b.E0 b.H0 b.M0 b.J0 b.L0 b.N0 b.B0 s.h0 s.h1 s.sel bud=D ((decide (s.ok b.H0)&&decide (0≤bud),()),()):=by
 unfold Si;rw[Ho,hcode,ND];simp only[a_,l_,d_];rw[show Sto.mk s.h0 s.h1 s.sel=s from rfl]
 cases decide (s.ok b.H0)<;>rfl
def Bfd{s:Sto}{half:Int}{t:Sto}(h:(s.act room half bud t).2.2≠0):(s.act room half bud t).2.1=0:=by
 unfold Sto.act at*;split
 ·rfl
 ·split
  ·rfl
  ·rename_i h1 h2
   rw[if_neg h1,if_neg h2]at h;exact absurd rfl h
def Ayj{s:Sto}{half:Int}{d:ByteArray}(h:(s.write room half d bud).2.2≠0):(s.write room half d bud).2.1=0:=by
 unfold Sto.write at*;split
 ·rfl
 ·split
  ·rfl
  ·split
   ·rfl
   ·rename_i h1 h2 h3
    rw[if_neg h1,if_neg h2,if_neg h3]at h;exact absurd rfl h
def Axf(bud:Int):decide (bud<0)=!decide (0≤bud):=WX bud 0
def Ae7(hb:b.small)(hcode:b.code=0)(s:Sto){m:E}(hf:m.fit)(hl:m.A0.length≤5000)(hbud:bud<9223372036854775808):
  Nd b.C0 b.E0 b.H0 b.M0 b.J0 b.L0 b.N0 b.B0 s.h0 s.h1 s.sel m.F0 m.O0 m.K0 m.A0 bud=D (Sto.out (Dn b s m bud)):=by
 have hmx:100000≤maxLen:=by decide
 have hp:=hf.p;have he:=hf.e;have hcars:=Aj hcode;unfold Nd Dn;rw[Agx hcode,PT hb m ω ω,Acs hb hf,Axf]
 simp only[a_];by_cases hs:s.ok b.H0
 ·rw[b_ hs]
  by_cases hb0:0≤bud
  ·rw[b_ hb0]
   cases hok:m.ok b with
   |false=>rfl
   |true=>
    have hm:=Img.ok_iff.1 hok;have hlp:=hm.lp;have hsn:TW b m=CG m:=by unfold TW;rw[hok];rfl
    have hsl:=XT m;have hby:=Alt hb ω (rs:=CG m) (by rw[hsl];omega)
    rw[ZE (RS hm)]at hby
    have hsel:IntKind.i64.wrap (1-s.sel)=1-s.sel:=by
     obtain⟨_,_,_,_,h5⟩:=hs;exact Ac ω ω
    simp only[a6_,n_,c_,hsn,hby,a_,hsel,Ax1 _ _ _ _ _ _ hbud,Sto.out];have hb1:=An9 b.H0 s (1-s.sel) bud (s.set (1-s.sel) noB) hbud;have he1:(s.erase b.H0 (1-s.sel) bud).2.2≠0→(s.erase b.H0 (1-s.sel) bud).2.1=0:=Bfd;rw[show s.act b.H0 (1-s.sel) bud (s.set (1-s.sel) noB)=s.erase b.H0 (1-s.sel) bud from rfl]at hb1
    rw[show Sto.mk s.h0 s.h1 s.sel=s from rfl]
    generalize s.erase b.H0 (1-s.sel) bud=r1 at hb1 he1⊢;by_cases hq:r1.2.2=0
    ·have hdl:(txt ((CG m).flatMap Cl)).size<1000000:=by rw[Fu,Yq,hsl];omega
     simp only[hq,Q_,c_,l_,d_,Adk _ _ _ _ _ _ _ hb1 hdl,a_,Sto.out];have hb2:=Ahj b.H0 r1.1 (1-s.sel) (txt ((CG m).flatMap Cl)) r1.2.1 hb1;have he2:(r1.1.write b.H0 (1-s.sel) (txt ((CG m).flatMap Cl)) r1.2.1).2.2≠0→(r1.1.write b.H0 (1-s.sel) (txt ((CG m).flatMap Cl)) r1.2.1).2.1=0:=Ayj;rw[show Sto.mk r1.1.h0 r1.1.h1 r1.1.sel=r1.1 from rfl]
     generalize r1.1.write b.H0 (1-s.sel) (txt ((CG m).flatMap Cl)) r1.2.1=r2 at hb2 he2⊢;by_cases hq2:r2.2.2=0
     ·simp only[hq2,Q_,c_,l_,d_,Asg _ _ _ _ _ _ hb2,a_,Sto.out]
     ·rw[ES hq2,Aq hq2,d_,c_,he2 hq2]
    ·rw[ES hq,Aq hq,d_,c_,he1 hq]
  ·rw[f_ hb0];rfl
 ·rw[f_ hs];rfl
def Ae9(hb:b.small)(hcode:b.code=0)(s:Sto)(hs:s.cur.size≤5000)(hbud:bud<9223372036854775808)(hR:Jm b.C0 b.E0 b.H0 b.M0 b.J0 b.L0 b.N0 b.B0 s.h0 s.h1 s.sel=D (((),()),((Cs b s).tup,()))):
  Ng b.C0 b.E0 b.H0 b.M0 b.J0 b.L0 b.N0 b.B0 s.h0 s.h1 s.sel bud=D (Ax6 (CT b s bud).1 (CT b s bud).2.1 (CT b s bud).2.2.1 (CT b s bud).2.2.2):=by
 have hc:=Aj hcode;obtain⟨hok,hle,hf⟩:=Ag0 hcode s ω
 have hle2:(Cs b s).A0.length≤900:=by
  have h2:=(Tq (ZL hcode) (rs:=Ny b s.cur) λr hr=>Uw b _ _ r hr).2
  have h3:=XK b s.cur.size (bl s.cur);rw[GA]at h3;have h4:(Gp b).A0.length=0:=rfl;have h5:(Ny b s.cur).length=(My b s.cur.size (bl s.cur)).length:=rfl;show(Ap (Gp b) (Ny b s.cur)).A0.length≤_;omega
 unfold Ng;rw[Agx hcode,hR];simp only[a_,Img.tup];rw[Ae7 hb hcode s hf ω hbud]
 simp only[a_,Sto.out];unfold CT;cases hq:decide (s.ok b.H0)&&decide (0≤bud)with
 |false=>
  have e:Dn b s (Cs b s) bud=(Sto.no,0,1):=by
   unfold Dn;rw[Axf];rw[Bool.and_eq_false_iff]at hq;rcases hq with hq | hq
   ·rw[hq];rfl
   ·rw[hq]
    cases decide (s.ok b.H0)<;>rfl
  rw[e];rfl
 |true=>
  generalize Dn b s (Cs b s) bud=w;cases w.2.2 !=0<;>rfl
def Ah8(hcode:b.code=0):Jm b.C0 b.E0 b.H0 b.M0 b.J0 b.L0 b.N0 b.B0 Sto.no.h0 Sto.no.h1 Sto.no.sel=D (((),()),((Cs b Sto.no).tup,())):=by
 have hcars:=Aj hcode;unfold Jm;rw[Ae8 hcode ω,Zj]
 simp only[a_];have h:∀t,OF ((noB,(),([]:List J),(0:Int),()),t)=D (([],0,()),()):=λt=>Ai (f:=1) (Ay rfl) (by decide)
 unfold Vd;rw[show Sto.cur ⟨Sto.no.h0,Sto.no.h1,Sto.no.sel⟩=noB from rfl,h]
 simp only[a_];have h2:∀a c d,Mp (((),(),(),([]:List J),(0:Int),()),(a,c,d,()))=D (((),(),()),(c,d,())):=λa c d=>Ai (f:=1) (Ay rfl) (by decide)
 rw[h2];rfl
def Anw(hb:b.small)(m:E)(hc:b.B0.length≤100000)(hf:m.fit):Ov b.C0 b.E0 b.H0 b.M0 b.J0 b.L0 b.N0 b.B0 m.F0 m.O0 m.K0 m.A0=D ((Pd b m,()),()):=by
 have hmx:100000≤maxLen:=by decide
 have hp:=hf.p;have he:=hf.e;unfold Ov Pd;rw[PT hb m ω ω]
 simp only[a_,Bk5 hc he];cases m.ok b<;>rfl
def Ai0(b:H)(hc:b.B0.length≤1000)(m:E)(z o:Mch)(ho:o.W0=[]):KC (((),(),(),(b.B0.length:Int),(),(0:Int),()),(b.tup,m.tup,z.tup,o.tup,()))=D (((),(),(),(),()),(b.tup,m.tup,z.tup,(o.withB (O b.B0.length US)).tup,())):=by
 have h:=AQ (step:=λx=>letI d:=x.2.2.2;letI j:=d.2.1.2;letI a:=j.2.2.2.2;letI k:=d.1.2;letI c:=k.2.2.2.2;letI e:=c.2.2.2.2;letI f:=a.2.2.2.2;letI g:=x.2.1.2.2;letI n:=e.2.2;letI q:=f.2.2;letI r:=g.2.2;letI s:=x.2.2.1;Ie x.1.2.2.2.1 x.1.2.2.2.2.2.1 x.2.1.1 x.2.1.2.1 g.1 g.2.1 r.1 r.2.1 r.2.2.1 r.2.2.2.1 s.1 s.2.1 s.2.2.1 s.2.2.2.1 d.1.1 k.1 k.2.1 k.2.2.1 k.2.2.2.1 c.1 c.2.1 c.2.2.1 c.2.2.2.1 e.1 e.2.1 n.1 n.2.1 n.2.2.1 n.2.2.2.1 n.2.2.2.2.1 d.2.1.1 j.1 j.2.1 j.2.2.1 j.2.2.2.1 a.1 a.2.1 a.2.2.1 a.2.2.2.1 f.1 f.2.1 q.1 q.2.1 q.2.2.1 q.2.2.2.1 q.2.2.2.2.1) b.B0.length (λi (l:List Belief)=>(((),(),(),(b.B0.length:Int),(),(i:Int),()),(b.tup,m.tup,z.tup,(o.withB l).tup,()))) (λ_ l=>l++[US]) (λi l=>l.length≤i) (λl=>(((),(),(),(),()),(b.tup,m.tup,z.tup,(o.withB l).tup,()))) (λi l hi hl=>by
  refine⟨?_,by rw[h_,I_];omega⟩
  show Ie (b.B0.length:Int) (i:Int) b.C0 b.E0 b.H0 b.M0 b.J0 b.L0 b.N0 b.B0 m.F0 m.O0 m.K0 m.A0 z.G0.F0 z.G0.O0 z.G0.K0 z.G0.A0 z.Z0.h0 z.Z0.h1 z.Z0.sel z.N1 z.W0 z.B0 z.R2 z.D2 z.X3 z.R3 z.T2 z.J2 (o.withB l).G0.F0 (o.withB l).G0.O0 (o.withB l).G0.K0 (o.withB l).G0.A0 (o.withB l).Z0.h0 (o.withB l).Z0.h1 (o.withB l).Z0.sel (o.withB l).N1 (o.withB l).W0 (o.withB l).B0 (o.withB l).R2 (o.withB l).D2 (o.withB l).X3 (o.withB l).R3 (o.withB l).T2 (o.withB l).J2=_;unfold Ie NR;simp only[b_ (ω:(i:Int)<(b.B0.length:Int)),d_,a_,Dz hi (show b.B0.length≤AI by unfold AI;omega)]
  rw[Ax (show(o.withB l).W0.length+[Belief.mk (-1) 0 0 [] 0 C].length≤2147483648 by show l.length+1≤_;omega)]
  rfl) (λl _=>by
  show Ie (b.B0.length:Int) (b.B0.length:Int) b.C0 b.E0 b.H0 b.M0 b.J0 b.L0 b.N0 b.B0 m.F0 m.O0 m.K0 m.A0 z.G0.F0 z.G0.O0 z.G0.K0 z.G0.A0 z.Z0.h0 z.Z0.h1 z.Z0.sel z.N1 z.W0 z.B0 z.R2 z.D2 z.X3 z.R3 z.T2 z.J2 (o.withB l).G0.F0 (o.withB l).G0.O0 (o.withB l).G0.K0 (o.withB l).G0.A0 (o.withB l).Z0.h0 (o.withB l).Z0.h1 (o.withB l).Z0.sel (o.withB l).N1 (o.withB l).W0 (o.withB l).B0 (o.withB l).R2 (o.withB l).D2 (o.withB l).X3 (o.withB l).R3 (o.withB l).T2 (o.withB l).J2=_;unfold Ie;simp only[f_ (N_ (b.B0.length:Int)),c_]
  rfl) b.B0.length 0 [] ω (by simp)
 have h':=Ai h.1 ω
 rw[Hh (λ_=>[US]),Al1,Z_]at h'
 rw[show o.tup=(o.withB []).tup by unfold Mch.withB Mch.tup;rw[ho]]
 exact h'
def Ai1(b:H)(m:E)(hl:m.A0.length≤100000)(hcar:∀e∈m.A0,e.Q0<(b.B0.length:Int))(z o:Mch)(ho:o.D2=[]):KD (((),(),(),(),(0:Int),()),(b.tup,m.tup,z.tup,o.tup,()))=D (((),(),()),(z.tup,(o.withE (m.A0.map (RU b))).tup,())):=by
 have h:=AQ (step:=λx=>letI d:=x.2.2.2;letI l:=d.2.1.2;letI a:=l.2.2.2.2;letI n:=d.1.2;letI c:=n.2.2.2.2;letI f:=c.2.2.2.2;letI j:=a.2.2.2.2;letI k:=x.2.1.2.2;letI r:=f.2.2;letI s:=j.2.2;letI u:=k.2.2;letI w:=x.2.2.1;Ig x.1.2.2.2.2.1 x.2.1.1 x.2.1.2.1 k.1 k.2.1 u.1 u.2.1 u.2.2.1 u.2.2.2.1 w.1 w.2.1 w.2.2.1 w.2.2.2.1 d.1.1 n.1 n.2.1 n.2.2.1 n.2.2.2.1 c.1 c.2.1 c.2.2.1 c.2.2.2.1 f.1 f.2.1 r.1 r.2.1 r.2.2.1 r.2.2.2.1 r.2.2.2.2.1 d.2.1.1 l.1 l.2.1 l.2.2.1 l.2.2.2.1 a.1 a.2.1 a.2.2.1 a.2.2.2.1 j.1 j.2.1 s.1 s.2.1 s.2.2.1 s.2.2.2.1 s.2.2.2.2.1) m.A0.length (λi (q:List Int)=>(((),(),(),(),(i:Int),()),(b.tup,m.tup,z.tup,(o.withE q).tup,()))) (λi q=>q++[RU b (m.A0.getD i noE)]) (λi q=>q.length≤i) (λq=>(((),(),()),(z.tup,(o.withE q).tup,()))) (λi q hi hq=>by
  refine⟨?_,by rw[h_,I_];omega⟩
  have hc:=hcar _ (CA noE hi);have b1:∀v:Int,Nat.ble ((o.withE q).D2.length+[v].length) 2147483648=A:=λv=>Ax (by show q.length+1≤_;omega)
  show Ig (i:Int) b.C0 b.E0 b.H0 b.M0 b.J0 b.L0 b.N0 b.B0 m.F0 m.O0 m.K0 m.A0 z.G0.F0 z.G0.O0 z.G0.K0 z.G0.A0 z.Z0.h0 z.Z0.h1 z.Z0.sel z.N1 z.W0 z.B0 z.R2 z.D2 z.X3 z.R3 z.T2 z.J2 (o.withE q).G0.F0 (o.withE q).G0.O0 (o.withE q).G0.K0 (o.withE q).G0.A0 (o.withE q).Z0.h0 (o.withE q).Z0.h1 (o.withE q).Z0.sel (o.withE q).N1 (o.withE q).W0 (o.withE q).B0 (o.withE q).R2 (o.withE q).D2 (o.withE q).X3 (o.withE q).R3 (o.withE q).T2 (o.withE q).J2=_;unfold Ig;rw[show Entry.mk 0 0 0 0 C=noE from rfl]
  simp only[b_ (ω:(i:Int)<(m.A0.length:Int)),Aa (ω:(0:Int)≤(i:Int)) (ω:(i:Int)<(m.A0.length:Int)),d_,j_]
  have hex:RU b (m.A0.getD i noE)=bif decide (0≤(m.A0.getD i noE).Q0)then(HC b (m.A0.getD i noE).Q0.toNat).F1 else 0:=rfl;rw[hex];by_cases g:0≤(m.A0.getD i noE).Q0
  ·rw[b_ g,Aa g hc]
   simp only[d_,a_,b1,Dz hi (show m.A0.length≤AI by unfold AI;omega)]
   rfl
  ·rw[f_ g]
   simp only[c_,d_,a_,b1,Dz hi (show m.A0.length≤AI by unfold AI;omega)]
   rfl) (λq _=>by
  show Ig (m.A0.length:Int) b.C0 b.E0 b.H0 b.M0 b.J0 b.L0 b.N0 b.B0 m.F0 m.O0 m.K0 m.A0 z.G0.F0 z.G0.O0 z.G0.K0 z.G0.A0 z.Z0.h0 z.Z0.h1 z.Z0.sel z.N1 z.W0 z.B0 z.R2 z.D2 z.X3 z.R3 z.T2 z.J2 (o.withE q).G0.F0 (o.withE q).G0.O0 (o.withE q).G0.K0 (o.withE q).G0.A0 (o.withE q).Z0.h0 (o.withE q).Z0.h1 (o.withE q).Z0.sel (o.withE q).N1 (o.withE q).W0 (o.withE q).B0 (o.withE q).R2 (o.withE q).D2 (o.withE q).X3 (o.withE q).R3 (o.withE q).T2 (o.withE q).J2=_;unfold Ig;simp only[f_ (N_ (m.A0.length:Int)),c_]
  rfl) m.A0.length 0 [] ω (by simp)
 have h':=Ai h.1 ω
 rw[Hh (λi=>[RU b (m.A0.getD i noE)]),Mx (λe=>[RU b e]) noE m.A0 0 m.A0.length ω,R_,Ba4,Z_]at h'
 rw[show o.tup=(o.withE []).tup by unfold Mch.withE Mch.tup;rw[ho]]
 exact h'
def Alu(hb:b.small)(m:E)(hf:m.fit)(hc:b.B0.length≤1000)(s:Sto):Qm b.C0 b.E0 b.H0 b.M0 b.J0 b.L0 b.N0 b.B0 m.F0 m.O0 m.K0 m.A0 s.h0 s.h1 s.sel=D (((),(Pf b m s).2,()),((Pf b m s).1.tup,())):=by
 unfold Qm Pf;rw[Anw hb m ω hf,ND]
 simp only[a_];cases hq:Pd b m with
 |false=>rfl
 |true=>
  have hm:ImgOK b m:=by
   unfold Pd at hq;rw[e_]at hq;exact Img.ok_iff.1 hq.1
  by_cases hs:s.ok b.H0
  ·rw[b_ (show Sto.ok b.H0 ⟨s.h0,s.h1,s.sel⟩from hs)]
   have e:=hf.e
   let o:Mch:=⟨m,s,O b.B0.length Cm,[],O b.B0.length AS,O b.B0.length GV,[],O b.B0.length Aey,0,0,0⟩
   have l0:=Ai0 b hc m Mch.none o rfl;have l1:=Ai1 b m e (λx hx=>(EO.1 (hm.en x hx)).2.1.2) Mch.none (o.withB (O b.B0.length US)) rfl
   simp only[Mch.tup,Img.tup,Bldg.tup,Mch.withB,Mch.withE,Mch.none,Img.none,Sto.no,noB,o]at l0 l1
   have dl:∀n:Nat,n≤1000→(decide ((0:Int)≤(n:Int))&&decide ((n:Int)≤(n:Int))&&decide ((n:Int)≤(2147483648:Int)))=A:=λn hn=>by
    rw[b_ (ω:(0:Int)≤(n:Int)),b_ (d5_ (n:Int)),b_ (ω:(n:Int)≤2147483648)];rfl
   simp only[n_,c_,d_,dl _ hc,j_];rw[show Debounced.mk 0 C C C C 0 0 0 0 0 0 0 0 0 0 0 0 0 0 0 0 0 0 0 0 0 0 0 0 0 0 0 0 0 0 0 0 0 0 0 0=Cm from rfl,show NewCar.mk 0 0 0 0 0 C 0 0 0 0 0 0 0 C=AS from rfl,show Loaded.mk 0=GV from rfl,show Calls.mk 0 0=Aey from rfl]
   rw[l0];simp only[a_];rw[l1];rfl
  ·rw[f_ (show ¬Sto.ok b.H0 ⟨s.h0,s.h1,s.sel⟩from hs)]
   rfl
def Anv(hb:b.small)(hcode:b.code=0)(s:Sto)(hs:s.cur.size≤5000)(hbud:bud<9223372036854775808)(hR:Jm b.C0 b.E0 b.H0 b.M0 b.J0 b.L0 b.N0 b.B0 s.h0 s.h1 s.sel=D (((),()),((Cs b s).tup,()))):Ou b.C0 b.E0 b.H0 b.M0 b.J0 b.L0 b.N0 b.B0 s.h0 s.h1 s.sel bud=D (((),(OS b s bud).2.1,(OS b s bud).2.2,()),((OS b s bud).1.tup,())):=by
 have hc:=Aj hcode;unfold Ou OS;rw[Ae9 hb hcode s hs hbud hR];have hf:=Bge hcode s ω bud
 simp only[a_,Ax6,Img.tup];generalize CT b s bud=w at hf⊢;cases w.2.2.2 !=0 with
 |true=>rfl
 |false=>
  simp only[c_];rw[Alu hb w.2.1 hf ω w.1]
  simp only[a_,Mch.tup];generalize Pf b w.2.1 w.1=f;cases f.2 !=0<;>rfl
def Alv(hb:b.small)(hcode:b.code=0):Hg b.C0 b.E0 b.H0 b.M0 b.J0 b.L0 b.N0 b.B0=D (((),(LS b).2,()),((LS b).1.tup,())):=by
 unfold Hg LS;rw[hcode];simp only[l_,d_];rw[show Ou b.C0 b.E0 b.H0 b.M0 b.J0 b.L0 b.N0 b.B0 (ByteArray.mk (Array.mk [])) (ByteArray.mk (Array.mk [])) 0 1048576=_ from Anv hb hcode Sto.no (by decide) (bud:=1048576) ω (Ah8 hcode)]
 rfl
def Ym{α:Type}{p:Nat→α→Bool}{d:α}{l:List α}{n:Nat}(hl:l.length=n)(h:∀i,i<n→p i (l.getD i d)=A):FK p d l (n:Int)=A:=by
 unfold FK;rw[hl,l_,o_];exact QE n 0 λk _ hk=>h k ω
section
variable{b:H}(hw:BW b)
include hw
theorem PM.fit(h:PM b m):m.fit:=by
 have hcc:=Aj hw.code;have h1:=EC hw.small h.jst.img
 have:=h.exl
 refine⟨h.jst.ents.2,by rw[h.con];omega,by rw[h.bel];omega,λx hx=>?_,by rw[h.car];omega,by rw[h.lod];omega,ω,by rw[h.lit];omega⟩
 obtain⟨i,hi,rfl⟩:=List.getElem_of_mem hx;have h2:=((h.belv i (by rw[← h.bel];exact hi)).dut).len hw.small
 rw[k_,i_ hi]at h2;have h2:m.W0[i].U0.length≤30:=h2;omega
theorem PM.isMach(h:PM b m):Yr b m=A:=by
 have e1:OZ [m.R3,m.T2,m.J2]=A:=by
  unfold OZ;simp only[V_,List.all_nil,c7_,e_,Am];exact⟨h.tick,h.flt,h.ref⟩
 have e2:OZ m.D2=A:=G_.2 λx hx=>Am.2 (h.exv x hx)
 have c1:FK (λ_ x=>Lr b.E0 x) Cm m.N1 (b.B0.length:Int)=A:=Ym h.con λi hi=>(h.conv _ (CA _ (by rw[h.con];exact hi))).1
 have c2:FK (λi x=>OQ b i x) (Belief.mk 0 0 0 [] 0 C) m.W0 (b.B0.length:Int)=A:=Ym h.bel λi hi=>(Afo hw.small).2 (h.belv i hi)
 have c3:FK (λ_ x=>ED b x) AS m.B0 (b.B0.length:Int)=A:=Ym h.car λi hi=>h.carv _ (CA _ (by rw[h.car];exact hi))
 have c4:FK (λ_ x=>QR x) GV m.R2 (b.B0.length:Int)=A:=Ym h.lod λi hi=>Am.2 (h.lodv _ (CA _ (by rw[h.lod];exact hi)))
 unfold Yr;rw[Aow h.jst.img h.jst.fits,b_ h.jst.ok,e1,e2,c1,c2,c3,c4,h.exl,h.lit,l_,l_];rfl
theorem PM.isM_eq(h:PM b m):FO b.C0 b.E0 b.H0 b.M0 b.J0 b.L0 b.N0 b.B0 m.G0.F0 m.G0.O0 m.G0.K0 m.G0.A0 m.Z0.h0 m.Z0.h1 m.Z0.sel m.N1 m.W0 m.B0 m.R2 m.D2 m.X3 m.R3 m.T2 m.J2=D ((A,()),()):=by
 rw[Wf hw.small hw.code (h.fit hw),h.isMach hw]
theorem Bb2:PM b (LS b).1∧(LS b).1.G0=Gp b:=by
 have hcode:=hw.code;have j0:=Jst.first hcode
 have hcc:=Aj hcode;have hfit:=j0.fits;have hroom:=hw.room;have hs:LS b=((OS b Sto.no 1048576).1,(OS b Sto.no 1048576).2.2):=by unfold LS;rw[hcode];rfl
 rw[hs];rcases Bfi hw.small j0.ok j0.img (j0.replay hw.small) ω (bud:=1048576) ω with⟨_,q2,q3⟩ | ⟨q1,_⟩
 ·rw[q2]
  have rep:∀{α:Type}{P:α→Prop}{a:α}{n:Nat},P a→∀x∈O n a,P x:=λh x hx=>by rw[(List.mem_replicate.1 hx).2];exact h
  have he:(Gp b).A0=[]:=rfl;refine⟨⟨q3,S_,rep ⟨Bbc (Ajr hcode),d5_ 0,show(0:Int)<4294967296 by decide⟩,S_,λi hi=>?_,S_,rep (Mw hw.small),S_,rep (show(0:Int)≤0∧(0:Int)≤4 by decide),S_,d2_ _,?_,i00,i00,i00⟩,rfl⟩
  ·show BelOK b i ((O b.B0.length US).getD i Ja)
   rw[k_,List.getElem?_replicate,if_pos hi];exact BelOK.new hw
  ·intro x hx
   rw[show(Ab2 b (Gp b) { Sto.no.set (1-Sto.no.sel) (txt ((CG (Gp b)).flatMap Cl))with sel:=1-Sto.no.sel }).D2=[]from rfl]at hx
   cases hx
 ·omega
omit hw in
theorem Bn2(hm:m.fit):MY m.G0.F0 m.G0.O0 m.G0.K0 m.G0.A0 m.Z0.h0 m.Z0.h1 m.Z0.sel m.N1 m.W0 m.B0 m.R2 m.D2 m.X3 m.R3 m.T2 m.J2=D (((),()),(m.tup,())):=by
 have hl:Sat (IA (((),(),(m.W0.length:Int),(0:Int),()),(m.tup,Mch.none.tup,()))) λy=>y=(((),(),()),(m.tup,Mch.none.tup,())):=by
  have hbe:=hm.be;unfold IA;refine Sat.loop (λ(k:Nat) z=>∃(i:Nat),z=(((),(),(m.W0.length:Int),(i:Int),()),(m.tup,Mch.none.tup,()))∧i+k=m.W0.length) (λk z hz=>?_) m.W0.length ⟨0,rfl,q_ _⟩ ω
  obtain⟨i,rfl,hk⟩:=hz;show Sat (OJ (m.W0.length:Int) (i:Int) m.G0.F0 m.G0.O0 m.G0.K0 m.G0.A0 m.Z0.h0 m.Z0.h1 m.Z0.sel m.N1 m.W0 m.B0 m.R2 m.D2 m.X3 m.R3 m.T2 m.J2 [] [] [] [] noB noB 0 [] [] [] [] [] [] 0 0 0) _;unfold OJ;refine Sat.bic (λq=>?_) λ_=>S rfl
  have q:(i:Int)<(m.W0.length:Int):=m_ q;have hi:i<m.W0.length:=ω
  have w:=Dg (n:=i) ω
  have ib:inB (i:Int) m.W0.length=A:=Aa ω q
  have hd:(m.W0.getD i Ja).U0.length≤100000:=hm.du _ (CA _ hi);refine R ib (N (show DX (m.W0.getD (Int.toNat (i:Int)) Ja).U0=D (((m.W0.getD i Ja).U0,()),())from CK _ hd) (R ib ?_))
  refine S ⟨k-1,ω,i+1,?_,ω⟩
  have e:m.W0.set i (Belief.mk (m.W0.getD i Ja).D0 (m.W0.getD i Ja).I0 (m.W0.getD i Ja).C3 (m.W0.getD i Ja).U0 (m.W0.getD i Ja).V2 (m.W0.getD i Ja).L3)=m.W0:=Al4 Ja rfl;rw[← w];exact f0_ (λL=>(((),(),(m.W0.length:Int),IntKind.i64.wrap ((i:Int)+1),()),(({ m with W0:=L }:Mch).tup,Mch.none.tup,()))) e
 obtain⟨y,hl,rfl⟩:=hl;have him:=hm.im;unfold MY;refine Ae (CK m.G0.F0 him.p) (Ae (CK m.G0.O0 him.f) (Ae (CK m.G0.K0 him.l) (Ae (CK m.G0.A0 him.e) (Ae (CK m.N1 hm.co) (Ae (CK m.B0 hm.ca) (Ae (CK m.R2 hm.lo) (Ae (CK m.D2 hm.ex) (Ae (CK m.X3 hm.li) (Ae (CK m.W0 hm.be) (Ae hl rfl))))))))))
def pk0(b:H)(m:Mch)(bud:Int):Pk:=⟨m,bud,0,O b.B0.length C,O b.B0.length (Calls.mk 0 0),O b.B0.length C,⟨0,0,0,0,C,C,0,O b.B0.length Ba⟩⟩
@[reducible] def outP(o:Outputs):=(o.T5,o.S5,o.T3,o.F3,o.V5,o.L0,o.U5,o.B0,())
def Asb:Outputs:=⟨0,0,0,0,C,C,0,[]⟩
def Bdl(b:H)(m:Mch)(s:ByteArray)(bud:Int)(e:Int)(m':Mch)(o:Outputs):Prop:=∃(x:Inp) (t':Pk),((DK b s=0∧InOK b x)∨(DK b s≠0∧x=Inp.none))∧DT b.C0 b.E0 b.H0 b.M0 b.J0 b.L0 b.N0 b.B0 s=D (((),DK b s,()),(x.tup,()))∧RunR b x (DK b s==0) (pk0 b m bud) t'∧e=t'.e∧(e=0→m'=t'.m∧o=t'.out)∧(e≠0→m'={ Mch.none with Z0:=t'.m.Z0 }∧o=Asb)
theorem Bn8(hm:PM b m)(hs:Fr b s)(hb:0≤bud∧bud<9223372036854775808):Sat (Hn b.C0 b.E0 b.H0 b.M0 b.J0 b.L0 b.N0 b.B0 m.G0.F0 m.G0.O0 m.G0.K0 m.G0.A0 m.Z0.h0 m.Z0.h1 m.Z0.sel m.N1 m.W0 m.B0 m.R2 m.D2 m.X3 m.R3 m.T2 m.J2 s bud) λy=>∃e m' o,y=(((),(),e,()),(m'.tup,outP o,()))∧Bdl b m s bud e m' o:=by
 have hcc:=Aj hw.code;have hf:=hm.fit hw;obtain⟨x,hrd,hx1,hx2⟩:=Abz hw.small hw.code hs
 have hcap:((decide ((0:Int)≤(b.B0.length:Int))&&decide ((b.B0.length:Int)≤(b.B0.length:Int)))&&decide ((b.B0.length:Int)≤2147483648))=A:=by
  simp only[e_,A_];omega
 unfold Hn;refine N hrd (R hcap (R hcap (R hcap (R hcap ?_))));refine N (CK m.N1 hf.co) (N (CK m.W0 hf.be) (N (CK m.B0 hf.ca) (N (CK m.R2 hf.lo) ?_)));have hxx:(DK b s==0)=A→InOK b x:=λh=>hx2 (eq_of_beq h)
 have hr0:PR b (pk0 b m bud):=⟨S_,S_,S_,S_⟩;have hrun:=Bqq hw hxx (t:=pk0 b m bud) hm hr0 ⟨rfl,hb⟩;refine aB (Q:=λy=>∃t',y=(((),(),(),()),(Mch.none.tup,outP Asb,t'.tup b x (DK b s==0),()))∧RunR b x (DK b s==0) (pk0 b m bud) t') ?_ λy8 h8=>?_
 ·refine aB hrun λy6 h6=>?_
  obtain⟨t',e | e,h⟩:=h6
  ·subst e;exact S ⟨t',rfl,h⟩
  ·subst e;exact S ⟨t',rfl,h⟩
 obtain⟨t',rfl,hR⟩:=h8
 have hxo:(DK b s=0∧InOK b x)∨(DK b s≠0∧x=Inp.none):=by
  by_cases h:DK b s=0
  ·exact .inl ⟨h,hx2 h⟩
  ·exact .inr ⟨h,hx1 h⟩
 refine Sat.bic (λq=>?_) λq=>?_
 ·have q:(t'.e !=0)=A:=q
  have q:t'.e≠0:=by simpa using q
  exact S ⟨t'.e,{ Mch.none with Z0:=t'.m.Z0 },Asb,rfl,x,t',hxo,hrd,hR,rfl,λh=>absurd h q,λ_=>⟨rfl,rfl⟩⟩
 ·have q:(t'.e !=0)=C:=q
  have q:t'.e=0:=by simpa using q
  exact S ⟨0,t'.m,t'.out,rfl,x,t',hxo,hrd,hR,q.symm,λ_=>⟨rfl,rfl⟩,λh=>absurd rfl h⟩
end
inductive Runs(b:Bldg):Mch→List ByteArray→Mch→List Outputs→Prop
 |nil (m:Mch):Runs b m [] m []
 |cons {m m1 m2:Mch}{s:ByteArray}{fs:List ByteArray}{o:Outputs}{os:List Outputs}(h:Hn b.C0 b.E0 b.H0 b.M0 b.J0 b.L0 b.N0 b.B0 m.G0.F0 m.G0.O0 m.G0.K0 m.G0.A0 m.Z0.h0 m.Z0.h1 m.Z0.sel m.N1 m.W0 m.B0 m.R2 m.D2 m.X3 m.R3 m.T2 m.J2 s 1048576=some (((),(),0,()),(m1.tup,outP o,()))) (h2:Runs b m1 fs m2 os):Runs b m (s::fs) m2 (o::os)
def Runs.app{m1 m2 m3:Mch}{g:List ByteArray}{x y:List Outputs}(h:Runs b m1 f m2 x)(k:Runs b m2 g m3 y):Runs b m1 (f++g) m3 (x++y):=by
 induction h with
 |nil m=>exact k
 |cons h _ ih=>exact .cons h (ih k)
def Runs.len{m1 m2:Mch}{x:List Outputs}(h:Runs b m1 f m2 x):x.length=f.length:=by
 induction h with
 |nil m=>rfl
 |cons _ _ ih=>rw[z_,z_,ih]
section
variable{b:H}(hw:BW b)
include hw
theorem Bgl(hm:PM b m)(hs:Fr b s):∃m' o,Hn b.C0 b.E0 b.H0 b.M0 b.J0 b.L0 b.N0 b.B0 m.G0.F0 m.G0.O0 m.G0.K0 m.G0.A0 m.Z0.h0 m.Z0.h1 m.Z0.sel m.N1 m.W0 m.B0 m.R2 m.D2 m.X3 m.R3 m.T2 m.J2 s 1048576=D (((),(),0,()),(m'.tup,outP o,()))∧PM b m'∧o.B0.length=b.B0.length∧Bdl b m s 1048576 0 m' o:=by
 obtain⟨y,h,e,m',o,rfl,hR⟩:=Bn8 hw hm hs (bud:=1048576) (by decide)
 have hR':=hR;obtain⟨x,t',_,_,hr,he,h0,h1⟩:=hR;rcases hr.cases hw ⟨rfl,show(0:Int)≤1048576 by decide,show(1048576:Int)<9223372036854775808 by decide⟩with⟨k1,k2,k3,_⟩ | ⟨_,k2⟩
 ·rw[k1]at he
  subst he;obtain⟨rfl,rfl⟩:=h0 rfl;exact⟨_,_,h,k2,k3,hR'⟩
 ·exact absurd (show(1048576:Int)<300000 from k2) (by decide)
end
structure TickF(b:Bldg)(m:Mch)(x:Inp)(g:Bool)(m':Mch)(o:Outputs)(l1 l2:List Record)(u:Mch)(vs:List View)(X:Rnd):Prop where
 fl:∀r∈l1,VJ b r
 op:(g=false∧l2=[])∨(g=true∧∃(i:Nat) (cm:List Bool) (fr:Bool),x.car=(i:Int)∧i<b.B0.length∧cm.length=b.B0.length∧l2=JF b (Ap m.G0 l1) x.kind i cm fr)
 pu:PM b u
 iu:u.G0=Ap (Ap m.G0 l1) l2
 va:VA b u.G0 g vs
 hX:X=MC b u.G0 u.D2 vs u.X3 x.press g
 rg:Rg b u.G0 X
 img:m'.G0=X.img
 pm:PM b m'
 oc:o.B0.length=b.B0.length
 cars:∀i,i<b.B0.length→∃c d,Ak4 X i c d∧FinO m'.G0 i d (o.B0.getD i Ba)
 lu:o.T5=(ofC m'.G0.A0 (0,0)).1
 ld:o.S5=(ofC m'.G0.A0 (0,0)).2
 bad:o.V5=!g
 served:(o.T3,o.F3)=Pp X.recs (0,0)
 full:o.L0=!isZ X.ref
def RunR.fact{t':Pk}(h:RunR b x g (pk0 b m bud) t')(h0:t'.e=0):∃l1 l2 u vs X,TickF b m x g t'.m t'.out l1 l2 u vs X:=by
 have no:∀{u v:Pk}{l:List J},De b u v l→v.e=0→False:=λd e=>by have:=d.e;omega
 obtain⟨t1,t2,l1,m1,r1,f1,hl1,hn1,o2,⟨d,rfl⟩ | ⟨a2,t3,l2,hop,h⟩⟩:=h
 ·exact(no d h0).elim
 rcases h with⟨d,rfl⟩ | ⟨a3,t4,vs,hd,h⟩
 ·exact(no d h0).elim
 rcases h with⟨h8,rfl⟩ | ⟨_,hf⟩
 ·omega
 rcases hd.res with a4 | d
 rotate_left
 ·have:=hf.e
  exact(no d ω).elim
 have i1:t1.m.G0=m.G0:=f1.im;have i2:t2.m.G0=Ap m.G0 l1:=by rw[a2.im,i1]
 have out1:t2.out={ (pk0 b m bud).out with B0:=t2.out.B0 }:=by rw[o2,f1.out]
 have out3:∃s,t3.out={ t2.out with U5:=s }:=by
  rcases hop with⟨_,rfl,_⟩ | ⟨_,h⟩
  ·exact⟨t3.out.U5,rfl⟩
  ·obtain⟨_,_,_,_,_,_,_,e⟩:=h.how
   exact⟨_,e⟩
 obtain⟨s,out3⟩:=out3;refine⟨l1,l2,t3.m,vs,PV b x g t3 vs,hl1,?_,a3.m,by rw[a3.im,i2],hd.va,rfl,hd.rg,by rw[hf.im,a4.im,hd.rg.img],hf.m,hf.oc,λi hi=>?_,?_,?_,?_,?_,?_⟩
 ·rcases hop with⟨h1,_,h2⟩ | ⟨h1,h⟩
  ·exact .inl ⟨h1,h2⟩
  ·obtain⟨i,cm,fr,h2,h3,h4,h5,_⟩:=h.how
   exact .inr ⟨h1,i,cm,fr,h2,h3,h4,by rw[← i2];exact h5⟩
 ·refine⟨_,_,hd.cars i hi,?_⟩
  rw[hf.im];exact hf.cars i hi
 ·rw[hf.out,hf.im]
 ·rw[hf.out,hf.im]
 ·rw[hf.out]
 ·rw[hf.out]
  show(t4.out.T3,t4.out.F3)=_;rw[hd.out,out3,out1];rfl
 ·rw[hf.out]
  show t4.out.L0=_;rw[hd.out]
def Aza(m:E)(h:r.T0≠4∧r.T0≠5∧r.T0≠6):(An m r).F0=m.F0∧(An m r).O0=m.O0∧(An m r).K0=m.K0:=by
 unfold An;rw[Aq h.1,Aq h.2.1,Aq h.2.2];simp only[c_];cases Dx r.D0 r.I0 m.A0 0==-1<;>cases r.T0==1<;>cases r.T0==2<;>cases r.T0==3<;>cases r.T0==7<;>exact⟨rfl,rfl,rfl⟩
def Afl:∀{l:List J}(m:E),(∀r∈l,r.T0≠4∧r.T0≠5∧r.T0≠6)→(Ap m l).F0=m.F0∧(Ap m l).O0=m.O0∧(Ap m l).K0=m.K0
 |[],_,_=>⟨rfl,rfl,rfl⟩
 |r::t,m,h=>by
  obtain⟨h1,h2,h3⟩:=Aza m (h r (E_ ..));obtain⟨k1,k2,k3⟩:=Afl (An m r) λx hx=>h x (K_ _ hx)
  exact⟨k1.trans h1,k2.trans h2,k3.trans h3⟩
def Acb{α:Type}(get:E→α)(p:J→Prop)(v:J→α)(I:E→Prop):∀{l:List J}{m:E},(∀r∈l,∀n,I n→I (An n r)∧((p r∧get (An n r)=v r)∨(¬p r∧get (An n r)=get n)))→I m→(get (Ap m l)=get m∧∀r∈l,¬p r)∨∃r∈l,p r∧get (Ap m l)=v r
 |[],_,_,_=>.inl ⟨rfl,λr h=>by cases h⟩
 |r::l,m,h,hm=>by
  obtain⟨h1,h2⟩:=h r (E_ ..) m hm;rcases Acb get p v I (l:=l) (λs hs=>h s (K_ _ hs)) h1 with⟨e,n⟩ | ⟨s,hs,e⟩
  ·rcases h2 with⟨q,e2⟩ | ⟨q,e2⟩
   ·exact .inr ⟨r,E_ ..,q,e.trans e2⟩
   ·refine .inl ⟨e.trans e2,λs hs=>?_⟩
    rcases y_.1 hs with rfl | hs
    ·exact q
    ·exact n s hs
  ·exact .inr ⟨s,K_ _ hs,e⟩
def Img.fits(b:H)(m:E):Prop:=m.F0.length=b.B0.length∧m.O0.length=b.B0.length
def ImgOK.fits{m:E}(h:ImgOK b m):m.fits b:=⟨h.lp,h.lf⟩
def Azn(hr:Lq b r){n:E}(hn:n.fits b)(hc:c<b.B0.length):(An n r).fits b∧B (An n r) c=(bif r.T0==4&&r.Q0==(c:Int)then r.V1 else B n c)∧flA (An n r) c=(bif r.T0==5&&r.Q0==(c:Int)then r.V1==1 else flA n c):=by
 obtain⟨i,k,v,hi,rfl,h⟩:=hr;have hk:k=4∨k=5∨k=6:=ω
 rcases hk with rfl | rfl | rfl
 ·refine⟨⟨by show(n.F0.set i v).length=_;rw[r_];exact hn.1,hn.2⟩,?_,rfl⟩
  show(n.F0.set i v).getD c 0=bif(i:Int)==(c:Int)then v else n.F0.getD c 0;by_cases e:i=c
  ·subst e
   rw[l_,d_,Bi _ _ (by rw[hn.1];exact hc)]
  ·rw[Aq (ω:¬(i:Int)=(c:Int)),c_,CB _ _ e]
 ·refine⟨⟨hn.1,by show(n.O0.set i (v==1)).length=_;rw[r_];exact hn.2⟩,rfl,?_⟩
  show(n.O0.set i (v==1)).getD c C=bif(i:Int)==(c:Int)then v==1 else n.O0.getD c C;by_cases e:i=c
  ·subst e
   rw[l_,d_,Bi _ _ (by rw[hn.2];exact hc)]
  ·rw[Aq (ω:¬(i:Int)=(c:Int)),c_,CB _ _ e]
 ·exact⟨hn,rfl,rfl⟩
section
variable{b:H}{l:List J}(hl:∀r∈l,Lq b r){m:E}(hm:m.fits b){c:Nat}(hc:c<b.B0.length)
include hl hm hc
theorem Aae:(B (Ap m l) c=B m c∧∀r∈l,¬(r.T0=4∧r.Q0=(c:Int)))∨∃r∈l,(r.T0=4∧r.Q0=(c:Int))∧B (Ap m l) c=r.V1:=
 Acb (λn=>B n c) (λr=>r.T0=4∧r.Q0=(c:Int)) (λr=>r.V1) (λn=>n.fits b) (λr hr n hn=>by
  obtain⟨h1,h2,_⟩:=Azn (hl r hr) hn hc;refine⟨h1,?_⟩;by_cases q:r.T0=4∧r.Q0=(c:Int)
  ·exact .inl ⟨q,by show B (An n r) c=_;rw[h2,q.1,q.2,l_,l_];rfl⟩
  ·refine .inr ⟨q,?_⟩
   show B (An n r) c=_;rw[h2,show(r.T0==4&&r.Q0==(c:Int))=C by rw[Bool.and_eq_false_iff,beq_eq_false_iff_ne,beq_eq_false_iff_ne];omega]
   rfl) hm
omit hc in
theorem Bac:(Ap m l).fits b:=by
 induction l generalizing m with
 |nil=>exact hm
 |cons r t ih=>
  refine ih (m:=An m r) (λx hx=>hl x (K_ _ hx)) ?_
  obtain⟨i,k,v,hi,rfl,h⟩:=hl r (E_ ..);have hk:k=4∨k=5∨k=6:=ω
  rcases hk with rfl | rfl | rfl
  ·exact⟨by show(m.F0.set i v).length=_;rw[r_];exact hm.1,hm.2⟩
  ·exact⟨hm.1,by show(m.O0.set i (v==1)).length=_;rw[r_];exact hm.2⟩
  ·exact hm
end
def Aws(h:VJ b r):Lq b r:=by
 obtain⟨i,hi,rfl⟩:=h;exact⟨i,5,1,hi,rfl,.inr ⟨.inl rfl,by decide⟩⟩
def Bbh(m:E)(kind:Int)(hi:i<b.B0.length)(cm:List Bool)(fr:Bool):∀r∈JF b m kind i cm fr,Lq b r:=λr hr=>by
 unfold JF at hr;rcases p_.1 hr with h | h
 ·exact(Acn m kind hi _ fr).1 r h
 ·exact Adv _ _ _ (w_ _) r h
def Yn(a z:Int):Prop:=(a=0∧z=1)∨(a=1∧z=0)∨(a=1∧z=2)∨(a=2∧z=0)∨(a=2∧z=3)∨(a=3∧z=2)∨(a=3∧z=4)∨(a=4∧z=2)
def Ae0{m:E}{kind:Int}{calm fr:Bool}(h:r∈(MJ m kind i calm fr).1):r.Q0=(i:Int)∧kind≠0∧((r.T0=4∧Yn (B m i) r.V1∧(r.V1=2→B m i=3∧calm=A))∨r.T0=6∨(r.T0=5∧kind=8)):=by
 unfold MJ OV at h
 have ite:∀(c:Bool) {p:Prop}{x y:List J×Int},r∈(bif c then x else y).1→(c=A→r∈x.1→p)→(c=C→r∈y.1→p)→p:=λc p x y h h1 h2=>by
  cases c
  ·exact h2 rfl h
  ·exact h1 rfl h
 have one:∀{q:J}{e:Int},r∈([q],e).1→r=q:=λh=>D_.1 h
 refine ite _ h (λ_ h=>by cases h) λh0 h=>?_
 have h0:kind≠0:=by simpa using h0
 have two:∀{c d:Bool},(c&&d)=A→c=A∧d=A:=λ{c d} h=>by simpa using h
 refine ite _ h (λq h=>ite _ h (λ_ h=>?_) λ_ h=>by cases h) λ_ h=>?_
 ·obtain⟨_,q2⟩:=two q
  rw[one h];exact⟨rfl,h0,.inl ⟨rfl,.inl ⟨eq_of_beq q2,rfl⟩,λh=>absurd h (show ¬(1:Int)=2 by decide)⟩⟩
 refine ite _ h (λq h=>?_) λ_ h=>?_
 ·obtain⟨_,q2⟩:=two q
  rw[one h];exact⟨rfl,h0,.inl ⟨rfl,.inr (.inl ⟨eq_of_beq q2,rfl⟩),λh=>absurd h (show ¬(0:Int)=2 by decide)⟩⟩
 refine ite _ h (λq h=>?_) λ_ h=>?_
 ·obtain⟨_,q2⟩:=two q
  rw[one h];exact⟨rfl,h0,.inl ⟨rfl,.inr (.inr (.inr (.inl ⟨eq_of_beq q2,rfl⟩))),λh=>absurd h (show ¬(0:Int)=2 by decide)⟩⟩
 refine ite _ h (λq h=>?_) λ_ h=>?_
 ·rw[one h]
  exact⟨rfl,h0,.inr (.inl rfl)⟩
 refine ite _ h (λq h=>?_) λ_ h=>?_
 ·obtain⟨_,q2⟩:=two q
  rw[one h];exact⟨rfl,h0,.inl ⟨rfl,.inr (.inr (.inr (.inr (.inl ⟨eq_of_beq q2,rfl⟩)))),λh=>absurd h (show ¬(3:Int)=2 by decide)⟩⟩
 refine ite _ h (λq h=>ite _ h (λhc h=>?_) λ_ h=>by cases h) λ_ h=>?_
 ·obtain⟨_,q2⟩:=two q
  rw[one h];exact⟨rfl,h0,.inl ⟨rfl,.inr (.inr (.inr (.inr (.inr (.inl ⟨eq_of_beq q2,rfl⟩))))),λ_=>⟨eq_of_beq q2,hc⟩⟩⟩
 refine ite _ h (λq h=>ite _ h (λ_ h=>?_) λ_ h=>by cases h) λ_ h=>?_
 ·obtain⟨_,q2⟩:=two q
  rw[one h];exact⟨rfl,h0,.inl ⟨rfl,.inr (.inr (.inr (.inr (.inr (.inr (.inl ⟨eq_of_beq q2,rfl⟩)))))),λh=>absurd h (show ¬(4:Int)=2 by decide)⟩⟩
 refine ite _ h (λq h=>ite _ h (λ_ h=>?_) λ_ h=>by cases h) λ_ h=>?_
 ·rw[one h]
  exact⟨rfl,h0,.inr (.inl rfl)⟩
 refine ite _ h (λq h=>?_) λ_ h=>by cases h
 obtain⟨q1,_⟩:=two q;rw[one h];exact⟨rfl,h0,.inr (.inr ⟨rfl,eq_of_beq q1⟩)⟩
def Ajd{m:E}{calm:List Bool}:∀{n:Nat}{r:J},r∈Er m calm n→∃i:Nat,i<n∧r.Q0=(i:Int)∧Ph m calm i=A∧((r.T0=4∧r.V1=2)∨r.T0=6∨(r.T0=5∧r.V1=0))∧⟨4,0,0,(i:Int),2⟩∈Er m calm n
 |0,_,h=>by cases h
 |n+1,r,h=>by
  rcases p_.1 h with h | h
  ·obtain⟨i,h1,h2,h3,h4,h5⟩:=Ajd h
   exact⟨i,ω,h2,h3,h4,aC _ h5⟩
  ·unfold Nq at h
   cases hg:Ph m calm n with
   |false=>rw[hg]at h;cases h
   |true=>
    have hi:(⟨4,0,0,(n:Int),2⟩:J)∈Er m calm (n+1):=List.mem_append_right _ (by
     unfold Nq;rw[hg,d_];exact aC _ (aC _ (D_.2 rfl)))
    rw[hg,d_]at h;refine⟨n,ω,?_⟩
    rcases p_.1 h with h | h
    ·rcases p_.1 h with h | h
     ·rw[D_.1 h]
      exact⟨rfl,hg,.inl ⟨rfl,rfl⟩,hi⟩
     ·cases hl:HN m n with
      |false=>rw[hl]at h;cases h
      |true=>
       rw[hl]at h;rw[D_.1 h];exact⟨rfl,hg,.inr (.inl rfl),hi⟩
    ·cases hl:flA m n with
     |false=>rw[hl]at h;cases h
     |true=>
      rw[hl]at h;rw[D_.1 h];exact⟨rfl,hg,.inr (.inr ⟨rfl,rfl⟩),hi⟩
def Bf1{m:E}{calm:List Bool}(h:Ph m calm i=A):calm.getD i C=A∧(B m i=1∨B m i=4)∧Ns m i=C:=by
 unfold Ph HN at h;simp only[e_,b3_,Y_,b8_]at h;exact⟨h.1,ω,h.2.2⟩
section
variable{b:H}{m:E}(hm:m.fits b){kind:Int}{i:Nat}(hi:i<b.B0.length){cm:List Bool}(hcm:cm.length=b.B0.length){fr:Bool}{c:Nat}(hc:c<b.B0.length)
include hm hi hcm hc
theorem Bbi(hr:r∈JF b m kind i cm fr)(hrc:r.Q0=(c:Int)):(r∈(MJ m kind i (cm.getD i C) fr).1∧c=i∧kind≠0)∨(cm.getD c C=A∧(kind≠0→c≠i)∧(B m c=1∨B m c=4)∧Ns m c=C∧((r.T0=4∧r.V1=2)∨r.T0=6∨(r.T0=5∧r.V1=0))∧(⟨4,0,0,(c:Int),2⟩:J)∈JF b m kind i cm fr):=by
 have ok1:=(Acn (b:=b) m kind hi (cm.getD i C) fr).1
 have hent:(Ap m (MJ m kind i (cm.getD i C) fr).1).A0=m.A0:=Uc _ λr hr=>by
  obtain⟨j,k,v,_,rfl,h⟩:=ok1 r hr;show k=4∨k=5∨k=6;omega
 unfold JF at hr⊢;rcases p_.1 hr with h | h
 ·have h1:=Ae0 h
  exact .inl ⟨h,ω,h1.2.1⟩
 ·obtain⟨j,hj,h2,hg,h3,h4⟩:=Ajd h
  obtain rfl:j=c:=ω
  obtain⟨g1,g2,g3⟩:=Bf1 hg
  have hne:kind≠0→j≠i:=λhk e=>by
   subst e;rw[ES hk,d_,Bi _ _ ω]at g1
   cases g1
  have hcmj:cm.getD j C=A:=by
   by_cases hk:kind=0
   ·subst hk;exact g1
   ·rw[ES hk,d_,CB _ _ (e8_ (hne hk))]at g1
    exact g1
  refine .inr ⟨hcmj,hne,?_,?_,h3,List.mem_append_right _ h4⟩
  ·rcases Aae ok1 hm hj with⟨e,_⟩ | ⟨r',hr',⟨_,hc'⟩,_⟩
   ·rw[e]at g2;exact g2
   ·have h5:=Ae0 hr'
    exact absurd (ω:j=i) (hne h5.2.1)
  ·unfold Ns at g3⊢
   rw[hent]at g3;exact g3
theorem Axp:B (Ap m (JF b m kind i cm fr)) c=B m c∨Yn (B m c) (B (Ap m (JF b m kind i cm fr)) c):=by
 rcases Aae (Bbh m kind hi cm fr) hm hc with⟨e,_⟩ | ⟨r,hr,⟨hk,hrc⟩,e⟩
 ·exact .inl e
 ·rw[e]
  right;rcases Bbi hm hi hcm hc hr hrc with⟨h,rfl,_⟩ | ⟨_,_,h,_,h2,_⟩
  ·rcases(Ae0 h).2.2 with⟨_,h,_⟩ | h | ⟨h,_⟩
   ·exact h
   ·omega
   ·omega
  ·unfold Yn
   omega
end
def kdR(r:J):Prop:=r.T0≠4∧r.T0≠5∧r.T0≠6
def Apd(b:H):∀(l:List Entry) {X:Rnd},(∀r∈X.recs,kdR r)→∀r∈(KY b l X).recs,kdR r
 |[],_,h=>h
 |e::t,X,h=>by
  refine Apd b t (X:=Jd b e X) ?_;unfold Jd;cases Pn b X.img with
  |false=>exact h
  |true=>
   intro r hr;rcases p_.1 (show r∈X.recs++[Afd e]from hr)with hr | hr
   ·exact h r hr
   ·rw[D_.1 hr]
    exact⟨show(1:Int)≠4 by decide,show(1:Int)≠5 by decide,show(1:Int)≠6 by decide⟩
section
variable{b:H}(hb:b.small)(hcode:b.code=0){m:E}(hm:ImgOK b m){xs:List Int}(hx:xs.length=m.A0.length)(hxv:inX xs){vs:List View}(ps:List Calls)(press:Int×Int)(good:Bool)
include hcode hm
theorem Bb9:∀r∈(CU b m xs vs ps press good).recs,kdR r:=by
 unfold CU;cases good with
 |false=>exact λr h=>by cases h
 |true=>
  have hv:=Qx hcode vs (l:=m.A0) λe he=>(EO.1 (hm.en e he)).1
  refine Apd b _ λr hr=>?_
  have hr:r∈HP b vs m.A0:=hr
  have:=(hv r hr).2
  exact⟨ω,ω,ω⟩
variable(hvl:vs.length=b.B0.length)
include hb hx hxv hvl
theorem Bb8:∀r∈(MC b m xs vs ps press good).recs,kdR r:=λr hr=>by
 have hp:=Ade hb hcode hm hx hxv (vs:=vs) ps press good hvl;have hr:r∈(CU b m xs vs ps press good).recs++(Add b m xs vs ps press good).1:=hr;rcases p_.1 hr with h | h
 ·exact Bb9 hcode hm ps press good r h
 ·rw[hp]at h
  have:=Wc b vs _ _ r h
  exact⟨ω,ω,ω⟩
end
section
variable{b:H}(hw:BW b){m:Mch}{x:Inp}{g:Bool}{m':Mch}{o:Outputs}{l1 l2:List J}{u:Mch}{vs:List View}{X:Rnd}(h:TickF b m x g m' o l1 l2 u vs X)
include hw h
theorem TickF.recs_kd:∀r∈X.recs,kdR r:=by
 rw[h.hX];exact Bb8 hw.small hw.code h.pu.jst.img h.pu.exl h.pu.exv _ _ _ h.va.len
theorem TickF.rest:m'.G0.F0=u.G0.F0∧m'.G0.O0=u.G0.O0∧m'.G0.K0=u.G0.K0:=by
 rw[h.img,← h.rg.img];exact Afl _ (h.recs_kd hw)
theorem TickF.fits:(Ap m.G0 l1).fits b→u.G0.fits b:=λ_=>h.pu.jst.img.fits
theorem TickF.edge(hm:PM b m)(hc:c<b.B0.length):B m'.G0 c=B m.G0 c∨Yn (B m.G0 c) (B m'.G0 c):=by
 obtain⟨h1,_,_⟩:=h.rest hw;have e1:B m'.G0 c=B u.G0 c:=by unfold B;rw[h1]
 have hl1:∀r∈l1,Lq b r:=λr hr=>Aws (h.fl r hr)
 have hf1:=Bac hl1 hm.jst.img.fits
 have e2:B (Ap m.G0 l1) c=B m.G0 c:=by
  rcases Aae hl1 hm.jst.img.fits hc with⟨e,_⟩ | ⟨r,hr,⟨hk,_⟩,_⟩
  ·exact e
  ·obtain⟨i,_,rfl⟩:=h.fl r hr
   cases hk
 rw[e1,h.iu,← e2];rcases h.op with⟨_,rfl⟩ | ⟨_,i,cm,fr,_,hi,hcm,rfl⟩
 ·exact .inl rfl
 ·exact Axp hf1 hi hcm hc
end
def Boj(b:H)(s:ByteArray)(x:Inp)(g:Bool):Prop:=((DK b s=0∧InOK b x)∨(DK b s≠0∧x=Inp.none))∧g=(DK b s==0)∧DT b.C0 b.E0 b.H0 b.M0 b.J0 b.L0 b.N0 b.B0 s=D (((),DK b s,()),(x.tup,()))
def Bfc(hw:BW b)(hm:PM b m)(hs:Fr b s):∃m' o,EL b.C0 b.E0 b.H0 b.M0 b.J0 b.L0 b.N0 b.B0 m.G0.F0 m.G0.O0 m.G0.K0 m.G0.A0 m.Z0.h0 m.Z0.h1 m.Z0.sel m.N1 m.W0 m.B0 m.R2 m.D2 m.X3 m.R3 m.T2 m.J2 s 1048576=D (((),(),0,()),(m'.tup,outP o,()))∧PM b m'∧∃x g l1 l2 u vs X,Boj b s x g∧TickF b m x g m' o l1 l2 u vs X:=by
 obtain⟨m',o,h1,h2,h3,x,t',hx,hrd,hr,he,h0,_⟩:=Bgl hw hm hs;obtain⟨l1,l2,u,vs,X,hF⟩:=hr.fact he.symm;obtain⟨e1,e2⟩:=h0 rfl;rw[← e1,← e2]at hF;refine⟨m',o,?_,h2,x,_,l1,l2,u,vs,X,⟨hx,rfl,hrd⟩,hF⟩;unfold EL;exact Ae (hm.isM_eq hw) (Ae (Bn2 (hm.fit hw)) (Ae h1 rfl))
def Aqg(x c:Int×Int):CF c (Cc x c)=(0,0):=by
 have h:∀a d:Int,vb (bv d&&&bv (Aaa a d))=0:=λa d=>by
  have e:bv d&&&bv (Aaa a d)=0#32:=by
   apply BitVec.eq_of_getLsbD_eq;intro i hi
   have:=Vh (a,0) (d,0) (f:=i) hi 1
   have h1:CJ (Aaa a d) i=(CJ a i&&!CJ d i):=this;rw[f1_];show(CJ d i&&CJ (Aaa a d) i)=_;rw[h1];cases CJ d i<;>cases CJ a i<;>simp
  rw[e];rfl
 exact Prod.ext (h x.1 c.1) (h x.2 c.2)
def Av6(c:Int×Int):CF c (0,0)=(0,0):=by
 have h:∀d:Int,vb (bv d&&&bv 0)=0:=λd=>by
  rw[show bv 0=0#32 from rfl,BitVec.and_zero];rfl
 exact Prod.ext (h c.1) (h c.2)
def LQ(l:List Calls)(k:Nat):Int×Int:=((l.getD k noP).Up,(l.getD k noP).Q3)
def Gg(l:List Calls):Nat→Int×Int
 |0=>(0,0)
 |k+1=>CP (Gg l k) (LQ l k)
def Agc{l:List Calls}(r:List Calls){k:Nat}(h:k<l.length):(l++r).getD k noP=l.getD k noP:=by
 rw[k_,k_,b9_ h]
def Zn{l:List Calls}(r:List Calls):∀k,k≤l.length→Gg (l++r) k=Gg l k
 |0,_=>rfl
 |k+1,h=>by
  show CP (Gg (l++r) k) (LQ (l++r) k)=CP (Gg l k) (LQ l k);rw[Zn r k ω]
  unfold LQ;rw[Agc r ω]
structure Apart(s:Lan):Prop where
 cl:Gg s.lit s.lit.length=s.cl
 ap:∀k,k<s.lit.length→CF (Gg s.lit k) (LQ s.lit k)=(0,0)
def Apart.step{ps:List Calls}{s:Lan}(h:Apart s)(i:Nat):Apart (MH b vs ps i s):=by
 have hn:LQ (s.lit++[Calls.mk (NN b vs i s).1 (NN b vs i s).2]) s.lit.length=NN b vs i s:=by
  unfold LQ;rw[k_,c5_ (w_ _),Nat.sub_self];rfl
 refine⟨?_,λk hk=>?_⟩
 ·show Gg (s.lit++[_]) (s.lit++[_]).length=CP s.cl (NN b vs i s)
  rw[h_];show CP (Gg (s.lit++[_]) s.lit.length) (LQ (s.lit++[_]) s.lit.length)=_;rw[Zn _ _ (w_ _),h.cl,hn]
 ·have hk:k<(s.lit++[Calls.mk (NN b vs i s).1 (NN b vs i s).2]).length:=hk
  rw[h_,I_]at hk;show CF (Gg (s.lit++[_]) k) (LQ (s.lit++[_]) k)=_;rw[Zn _ _ ω]
  by_cases e:k<s.lit.length
  ·rw[show LQ (s.lit++[Calls.mk (NN b vs i s).1 (NN b vs i s).2]) k=LQ s.lit k by unfold LQ;rw[Agc _ e]]
   exact h.ap k e
  ·obtain rfl:k=s.lit.length:=ω
   rw[hn,h.cl];exact Aqg _ _
def Apart.fold{b:H}{vs:List View}{ps:List Calls}:∀(n i:Nat) {s:Lan},Apart s→Apart (Bw (MH b vs ps) n i s)
 |0,_,_,h=>h
 |n+1,i,_,h=>Apart.fold n (i+1) (h.step i)
def Baw(n k:Nat):LQ (O n noP) k=(0,0):=by
 unfold LQ;rw[k_,List.getElem?_replicate];split<;>rfl
def An4(b:H)(m:E)(xs:List Int)(vs:List View)(ps:List Calls)(press:Int×Int)(good:Bool):∀k,k<vs.length→CF (Gg (MC b m xs vs ps press good).lan.lit k) (LQ (MC b m xs vs ps press good).lan.lit k)=(0,0):=λk hk=>by
 have hl:=(Ahf b m xs vs ps press good).1;rw[Ahe]at hl⊢;cases good with
 |true=>exact(Apart.fold vs.length 0 (s:=Lan.none) ⟨rfl,λk h=>absurd h (g0_ k)⟩).ap k (by rw[← hl]at hk;exact hk)
 |false=>
  show CF _ (LQ (O vs.length noP) k)=_;rw[Baw];exact Av6 _
def Bbp{a z:Int}(h:Yn a z):Ry a z=D ((A,()),()):=by
 rcases h with⟨rfl,rfl⟩ | ⟨rfl,rfl⟩ | ⟨rfl,rfl⟩ | ⟨rfl,rfl⟩ | ⟨rfl,rfl⟩ | ⟨rfl,rfl⟩ | ⟨rfl,rfl⟩ | ⟨rfl,rfl⟩<;>decide+kernel
def Bbo{p a d:Int}{k:Bool}(h:Apr p a d k):Ot p a d k=D ((A,()),()):=by
 unfold Ot;rcases h with⟨rfl,rfl,rfl⟩ | ⟨h,rfl⟩
 ·rfl
 ·unfold KK at h
  cases((a==0)&&((d==0)&&A))with
  |true=>rfl
  |false=>
   cases h0:p==0 with
   |true=>rfl
   |false=>
    rw[h0]at h;have h:(p==1)=A:=h;show D ((p==1,()),())=_;rw[h]
def Anu{p c:Int}(h:UF p c=A):KA p c=D ((A,()),()):=by
 unfold KA;unfold UF at h;cases h0:c==0 with
 |true=>rfl
 |false=>
  rw[h0]at h;cases h1:p==3 with
  |true=>rfl
  |false=>
   rw[h1]at h;have h:(p==4)=A:=h;show D ((p==4,()),())=_;rw[h]
def Azh{n0 n1 n2:Nat}(h1:n1<256)(h2:n2<256):BW (Fs (Hb n0) (GU n0) n1 n2):=by
 have hf:(2≤Hb n0∧Hb n0≤6)∧1≤GU n0∧GU n0≤3:=by unfold Hb GU;omega
 obtain⟨g1,g2,g3,_,_,g6⟩:=Amo (n1:=n1) (n2:=n2) hf.1 hf.2 h1 h2;have hl:(arF .sub .f64 (AH 2 1).L0 4589168020290535424).isSome=A∧(arF .sub .f64 (AH 2 1).N0 4589168020290535424).isSome=A:=by decide+kernel
 obtain⟨a,ha⟩:=Option.isSome_iff_exists.1 hl.1;obtain⟨c,hc⟩:=Option.isSome_iff_exists.1 hl.2;exact⟨g1,g2,g6,⟨a,ha,trivial⟩,⟨c,hc,trivial⟩⟩
def Bqi{n0 n1 n2:Int}(h0:0≤n0∧n0<256)(h1:0≤n1∧n1<256)(h2:0≤n2∧n2<256):∃b:H,EK n0 n1 n2=D (((),()),(b.tup,()))∧BW b∧(∃y,Hg b.C0 b.E0 b.H0 b.M0 b.J0 b.L0 b.N0 b.B0=D (y,((LS b).1.tup,())))∧PM b (LS b).1:=by
 obtain⟨k0,rfl⟩:=e5_ h0.1;obtain⟨k1,rfl⟩:=e5_ h1.1;obtain⟨k2,rfl⟩:=e5_ h2.1;have hw:=Azh (n0:=k0) (n1:=k1) (n2:=k2) ω ω
 exact⟨_,YF (n0:=k0) (n1:=k1) (n2:=k2) ω ω ω,hw,⟨_,Alv hw.small hw.code⟩,(Bb2 hw).1⟩
def Bar:Md=D ((A,()),()):=by decide+kernel
@[reducible] def coT(c:CarOutput):=(c.Q1,c.H1,c.I2,c.B2,c.M1,c.A5,c.D3,c.V3,c.O5,())
section
variable{b:H}(hw:BW b)
include hw
theorem Bax(hm:PM b m){m':Mch}{o:Outputs}{l1 l2:List J}{u:Mch}{X:Rnd}(h:TickF b m x g m' o l1 l2 u vs X)(f:List ByteArray)(i:Int)(hl:was.length=b.B0.length)(hwas:∀j,j<b.B0.length→was.getD j 0=B m.G0 j):
  Sat (DZ (((),(),f,was,i,(),(),(),(0:Int),()),(b.tup,m.tup,m'.tup,outP o,((0:Int),(0:Int),()),()))) λy=>∃was',y=.inl (((),(),f,was',i,(),()),(b.tup,m.tup,m'.tup,()))∧was'.length=b.B0.length∧∀j,j<b.B0.length→was'.getD j 0=B m'.G0 j:=by
 have hcc:=Aj hw.code;have hoc:=h.oc;have hap:=An4 b u.G0 u.D2 vs u.X3 x.press g;rw[← h.hX,h.va.len]at hap;unfold DZ;refine Sat.loop (λ(k:Nat) z=>∃(c:Nat) (w:List Int),z=(((),(),f,w,i,(),(),(),(c:Int),()),(b.tup,m.tup,m'.tup,outP o,((Gg X.lan.lit c).1,(Gg X.lan.lit c).2,()),()))∧c+k=b.B0.length∧w.length=b.B0.length∧(∀j,j<c→w.getD j 0=B m'.G0 j)∧∀j,c≤j→j<b.B0.length→w.getD j 0=B m.G0 j) (λk z hz=>?_) b.B0.length ⟨0,was,rfl,q_ _,hl,λj hj=>absurd hj (g0_ j),λj _=>hwas j⟩ ω
 obtain⟨c,w,rfl,hk,hwl,h1,h2⟩:=hz;show Sat (Ke f w i (c:Int) b.C0 b.E0 b.H0 b.M0 b.J0 b.L0 b.N0 b.B0 m.G0.F0 m.G0.O0 m.G0.K0 m.G0.A0 m.Z0.h0 m.Z0.h1 m.Z0.sel m.N1 m.W0 m.B0 m.R2 m.D2 m.X3 m.R3 m.T2 m.J2 m'.G0.F0 m'.G0.O0 m'.G0.K0 m'.G0.A0 m'.Z0.h0 m'.Z0.h1 m'.Z0.sel m'.N1 m'.W0 m'.B0 m'.R2 m'.D2 m'.X3 m'.R3 m'.T2 m'.J2 o.T5 o.S5 o.T3 o.F3 o.V5 o.L0 o.U5 o.B0 (Gg X.lan.lit c).1 (Gg X.lan.lit c).2) _;unfold Ke;refine Sat.bic (λq=>?_) λq=>S ⟨w,rfl,hwl,λj hj=>h1 j (by have:=C_ q;omega)⟩
 have q:(c:Int)<(o.B0.length:Int):=m_ q;have hc:c<b.B0.length:=ω
 have hwr:=Dg (n:=c) ω
 have iw:inB (c:Int) w.length=A:=Aa ω ω
 obtain⟨c0,d,hli,hfi⟩:=h.cars c hc;have hph:(o.B0.getD c Ba).V3=B m'.G0 c:=hfi.phase;have hlan:((o.B0.getD c Ba).B2,(o.B0.getD c Ba).M1)=LQ X.lan.lit c:=by rw[hfi.lu,hfi.ld,hli.1,hli.2.1];rfl
 have hb:=hap c hc;rw[← hlan]at hb;refine R (Aa ω q) ?_
 refine aB (Q:=λy=>y=(((),(),f,w,i,(),(),(),(c:Int),(),C,()),(b.tup,m.tup,m'.tup,outP o,((Gg X.lan.lit c).1,(Gg X.lan.lit c).2,()),coT (o.B0.getD c Ba),()))) ?_ λy6 h6=>?_
 ·have hsafe:=hfi.coils
  rw[← hph]at hsafe;have hall:=hfi.cmd;rw[← hph]at hall
  have tail:Sat ((Mj (Gg X.lan.lit c).1 (Gg X.lan.lit c).2 (o.B0.getD c Ba).B2 (o.B0.getD c Ba).M1).bind λy4=>D (((),(),f,w,i,(),(),(),(c:Int),(),(!((y4.2.1.1==(0:Int))&&((y4.2.1.2.1==(0:Int))&&A))),()),(b.tup,m.tup,m'.tup,outP o,((Gg X.lan.lit c).1,(Gg X.lan.lit c).2,()),coT (o.B0.getD c Ba),()))) λy=>y=(((),(),f,w,i,(),(),(),(c:Int),(),C,()),(b.tup,m.tup,m'.tup,outP o,((Gg X.lan.lit c).1,(Gg X.lan.lit c).2,()),coT (o.B0.getD c Ba),())):=by
   refine N (Ans (Gg X.lan.lit c) ((o.B0.getD c Ba).B2,(o.B0.getD c Ba).M1)) (S ?_);rw[hb];rfl
  refine N (Bbo hsafe) (aA rfl (N (Anu hall) (aA rfl (R iw (Sat.bic (λq3=>R iw (N (Bbp ?_) (aA rfl tail))) λ_=>tail)))))
  have q3:((o.B0.getD c Ba).V3 !=w.getD c 0)=A:=q3;show Yn (w.getD c 0) (o.B0.getD c Ba).V3;rw[h2 c (w_ c) hc,hph]at*;rcases h.edge hw hm hc with e | e
  ·rw[e]at q3;simp at q3
  ·exact e
 ·subst h6
  refine aA rfl (N (Alp (Gg X.lan.lit c) ((o.B0.getD c Ba).B2,(o.B0.getD c Ba).M1)) (R iw ?_));refine S ⟨k-1,ω,c+1,w.set c (o.B0.getD c Ba).V3,?_,ω,by rw[r_];exact hwl,λj hj=>?_,λj hj hjc=>?_⟩
  ·rw[← hwr]
   have e:Gg X.lan.lit (c+1)=CP (Gg X.lan.lit c) ((o.B0.getD c Ba).B2,(o.B0.getD c Ba).M1):=by rw[hlan];rfl
   rw[e];rfl
  ·by_cases e:c=j
   ·subst e;rw[Bi _ _ ω];exact hph
   ·rw[CB _ _ e];exact h1 j ω
  ·rw[CB _ _ ω];exact h2 j ω hjc
theorem Axb(hf:∀s∈f,Fr b s)(hfl:f.length≤100)(hm:PM b m)(hl:was.length=b.B0.length)(hwas:∀j,j<b.B0.length→was.getD j 0=B m.G0 j):Sat (DY (((),(),f,was,(0:Int),()),(b.tup,m.tup,()))) λy=>y=.inl ((),()):=by
 unfold DY;refine Sat.loop (λ(k:Nat) z=>∃(i:Nat) (m:Mch) (w:List Int),z=(((),(),f,w,(i:Int),()),(b.tup,m.tup,()))∧i+k=f.length∧PM b m∧w.length=b.B0.length∧∀j,j<b.B0.length→w.getD j 0=B m.G0 j) (λk z hz=>?_) f.length ⟨0,m,was,rfl,q_ _,hm,hl,hwas⟩ ω
 obtain⟨i,m,w,rfl,hk,hm,hwl,hww⟩:=hz;show Sat (Kd f w (i:Int) b.C0 b.E0 b.H0 b.M0 b.J0 b.L0 b.N0 b.B0 m.G0.F0 m.G0.O0 m.G0.K0 m.G0.A0 m.Z0.h0 m.Z0.h1 m.Z0.sel m.N1 m.W0 m.B0 m.R2 m.D2 m.X3 m.R3 m.T2 m.J2) _;unfold Kd;refine Sat.bic (λq=>?_) λq=>S rfl
 have q:(i:Int)<(f.length:Int):=m_ q;have hwr:=Dg (n:=i) ω
 obtain⟨m',o,ht,hm',x,g,l1,l2,u,vs,X,_,hF⟩:=Bfc hw hm (hf _ (CA noB (ω:i<f.length)))
 refine Sat.bindR (R (Aa (ω:(0:Int)≤(i:Int)) q) (N ht (aA rfl (aA ?_ (aB (Bax hw hm hF f (i:Int) hwl hww) λy3 h3=>?_)))))
 ·show((o.B0.length:Int) !=(b.B0.length:Int))=C
  rw[hF.oc];exact Q_ _
 ·obtain⟨w',rfl,h1,h2⟩:=h3
  exact S ⟨k-1,ω,i+1,m',w',by first | (rw[← hwr];rfl) | rw[← hwr],ω,hm',h1,h2⟩
end
def ZW(n_f0:Int)(n_f1:Int)(n_f2:Int)(l:List Int)(h_n_f0:0≤n_f0∧n_f0<256)(h_n_f1:0≤n_f1∧n_f1<256)(h_n_f2:0≤n_f2∧n_f2<256)(h_l:l.length≤maxLen∧∀e∈l,(0≤e∧e<256)):F_l27_MachineLocks n_f0 n_f1 n_f2 l=D ((A,()),()):=by
 have hS:Sat (F_l27_MachineLocks n_f0 n_f1 n_f2 l) λy=>y=((A,()),()):=by
  unfold F_l27_MachineLocks;obtain⟨b,hbl,hw,⟨y0,hst⟩,hm⟩:=Bqi h_n_f0 h_n_f1 h_n_f2;refine N hbl (Sat.bindR (N hst ?_));refine aB (Ayq hw.small hw.code (l:=l) (λe he=>h_l.2 e he) h_l.1 (most:=100) ω) λy4 h4=>?_
  obtain⟨⟨f,u1⟩,u2⟩:=y4;obtain⟨hf1,hf2⟩:=h4;have hcc:=Aj hw.code;have hp:=hm.jst.img.lp;refine R (Ax (by show 0+(LS b).1.G0.F0.length≤_;omega)) ?_
  refine aB (Axb hw hf2 hf1 hm (was:=[]++(LS b).1.G0.F0) (by rw[Z_];exact hp) λj _=>by rw[Z_];rfl) λy5 h5=>?_
  subst h5;exact N Bar (S rfl)
 obtain⟨y,h1,h2⟩:=hS;rw[h1,h2]
end Go.Ovl
