/- Layer 10: compacting, appending, replaying and recovering, by the reference. -/
import Derived.Test.YtfkphlpmkolemaaGreatDoorOvD
import Derived.Test.YtfkphlpmkolemaaGreatDoorOvL
import Derived.Test.YtfkphlpmkolemaaGreatDoorOvB
import Derived.Test.YtfkphlpmkolemaaGreatDoorDefs4
set_option linter.all false
open Bool renaming true->A,false->D
open Option renaming some->B
open Go.Ovl.Sat renaming bifT->C,bindE->E,ret->H,bindS->aD
open List renaming replicate->I
open Go.IntKind renaming i64->aA,wrap->aC
open Go.Ovl renaming Outputs->aB,F_l27_MachineDivides->aE
namespace Go.Ovl
open Go Go.Ab
set_option maxRecDepth 100000
variable{b:Bldg}{bud room:Int}{m:Mch}{f:List ByteArray}{s:ByteArray}
def Ahq(hcode:b.code=0)(s:Sto)(bud:Int):SH b.C0 b.F0 b.I0 b.N0 b.K0 b.M0 b.O0 b.B0 s.h0 s.h1 s.sel bud=B ((decide (s.ok b.I0)&&decide (0≤bud),()),()):=by
 unfold SH;rw[Hq,hcode,ND];simp only[a_,k_,d_];rw[show Sto.mk s.h0 s.h1 s.sel=s from rfl]
 cases decide (s.ok b.I0)<;>rfl
def Bgi{s:Sto}{half:Int}{t:Sto}(h:(s.act room half bud t).2.2≠0):(s.act room half bud t).2.1=0:=by
 unfold Sto.act at*;split
 ·rfl
 ·split
  ·rfl
  ·rename_i h1 h2
   rw[if_neg h1,if_neg h2]at h;exact absurd rfl h
def Azw{s:Sto}{half:Int}{d:ByteArray}(h:(s.write room half d bud).2.2≠0):(s.write room half d bud).2.1=0:=by
 unfold Sto.write at*;split
 ·rfl
 ·split
  ·rfl
  ·split
   ·rfl
   ·rename_i h1 h2 h3
    rw[if_neg h1,if_neg h2,if_neg h3]at h;exact absurd rfl h
def Ayq(bud:Int):decide (bud<0)=!decide (0≤bud):=Xu bud 0
def Afx(hb:b.small)(hcode:b.code=0)(s:Sto){m:Img}(hf:m.fit)(hl:m.A0.length≤5000)(hbud:bud<9223372036854775808):
  Ng b.C0 b.F0 b.I0 b.N0 b.K0 b.M0 b.O0 b.B0 s.h0 s.h1 s.sel m.D0 m.L0 m.H0 m.A0 bud=B (Sto.out (Dl b s m bud)):=by
 have hmx:100000≤maxLen:=by decide
 have hp:=hf.p;have he:=hf.e;have hcars:=Ak hcode;unfold Ng Dl;rw[Ahq hcode,Qc hb m ω ω,Ado hb hf,Ayq]
 simp only[a_];by_cases hs:s.ok b.I0
 ·rw[b_ hs]
  by_cases hb0:0≤bud
  ·rw[b_ hb0]
   cases hok:m.ok b with
   |false=>rfl
   |true=>
    have hm:=Img.ok_iff.1 hok;have hlp:=hm.lp;have hsn:Ux b m=CH m:=by unfold Ux;rw[hok];rfl
    have hsl:=Yq m;have hby:=Amf hb ω (rs:=CH m) (by rw[hsl];omega)
    rw[Aaf (Sj hm)]at hby
    have hsel:aA.wrap (1-s.sel)=1-s.sel:=by
     obtain⟨_,_,_,_,h5⟩:=hs;exact Ac ω ω
    simp only[S_,m_,c_,hsn,hby,a_,hsel,Azc _ _ _ _ _ _ hbud,Sto.out];have hb1:=Aov b.I0 s (1-s.sel) bud (s.set (1-s.sel) noB) hbud;have he1:(s.erase b.I0 (1-s.sel) bud).2.2≠0→(s.erase b.I0 (1-s.sel) bud).2.1=0:=Bgi;rw[show s.act b.I0 (1-s.sel) bud (s.set (1-s.sel) noB)=s.erase b.I0 (1-s.sel) bud from rfl]at hb1
    rw[show Sto.mk s.h0 s.h1 s.sel=s from rfl]
    generalize s.erase b.I0 (1-s.sel) bud=r1 at hb1 he1⊢;by_cases hq:r1.2.2=0
    ·have hdl:(txt ((CH m).flatMap Cl)).size<1000000:=by rw[Ft,YN,hsl];omega
     simp only[hq,N_,c_,k_,d_,Aef _ _ _ _ _ _ _ hb1 hdl,a_,Sto.out];have hb2:=Aia b.I0 r1.1 (1-s.sel) (txt ((CH m).flatMap Cl)) r1.2.1 hb1;have he2:(r1.1.write b.I0 (1-s.sel) (txt ((CH m).flatMap Cl)) r1.2.1).2.2≠0→(r1.1.write b.I0 (1-s.sel) (txt ((CH m).flatMap Cl)) r1.2.1).2.1=0:=Azw;rw[show Sto.mk r1.1.h0 r1.1.h1 r1.1.sel=r1.1 from rfl]
     generalize r1.1.write b.I0 (1-s.sel) (txt ((CH m).flatMap Cl)) r1.2.1=r2 at hb2 he2⊢;by_cases hq2:r2.2.2=0
     ·simp only[hq2,N_,c_,k_,d_,As2 _ _ _ _ _ _ hb2,a_,Sto.out]
     ·rw[FK hq2,Ar hq2,d_,c_,he2 hq2]
    ·rw[FK hq,Ar hq,d_,c_,he1 hq]
  ·rw[e_ hb0];rfl
 ·rw[e_ hs];rfl
def Afz(hb:b.small)(hcode:b.code=0)(s:Sto)(hs:s.cur.size≤5000)(hbud:bud<9223372036854775808)(hR:Jq b.C0 b.F0 b.I0 b.N0 b.K0 b.M0 b.O0 b.B0 s.h0 s.h1 s.sel=B (((),()),((Ct b s).tup,()))):
  Ni b.C0 b.F0 b.I0 b.N0 b.K0 b.M0 b.O0 b.B0 s.h0 s.h1 s.sel bud=B (Azh (CT b s bud).1 (CT b s bud).2.1 (CT b s bud).2.2.1 (CT b s bud).2.2.2):=by
 have hc:=Ak hcode;obtain⟨hok,hle,hf⟩:=Aht hcode s ω
 have hle2:(Ct b s).A0.length≤900:=by
  have h2:=(TQ (Aam hcode) (rs:=Ny b s.cur) λr hr=>US b _ _ r hr).2
  have h3:=Yi b s.cur.size (bl s.cur);rw[GD]at h3;have h4:(Gt b).A0.length=0:=rfl;have h5:(Ny b s.cur).length=(ME b s.cur.size (bl s.cur)).length:=rfl;show(AK (Gt b) (Ny b s.cur)).A0.length≤_;omega
 unfold Ni;rw[Ahq hcode,hR];simp only[a_,Img.tup];rw[Afx hb hcode s hf ω hbud]
 simp only[a_,Sto.out];unfold CT;cases hq:decide (s.ok b.I0)&&decide (0≤bud)with
 |false=>
  have e:Dl b s (Ct b s) bud=(Sto.no,0,1):=by
   unfold Dl;rw[Ayq];rw[Bool.and_eq_false_iff]at hq;rcases hq with hq | hq
   ·rw[hq];rfl
   ·rw[hq]
    cases decide (s.ok b.I0)<;>rfl
  rw[e];rfl
 |true=>
  generalize Dl b s (Ct b s) bud=w;cases w.2.2 !=0<;>rfl
def Aiz(hcode:b.code=0):Jq b.C0 b.F0 b.I0 b.N0 b.K0 b.M0 b.O0 b.B0 Sto.no.h0 Sto.no.h1 Sto.no.sel=B (((),()),((Ct b Sto.no).tup,())):=by
 have hcars:=Ak hcode;unfold Jq;rw[Afy hcode ω,ZK]
 simp only[a_];have h:∀t,OJ ((noB,(),([]:List Record),(0:Int),()),t)=B (([],0,()),()):=λt=>Ah (f:=1) (Au rfl) (by decide)
 unfold VB;rw[show Sto.cur ⟨Sto.no.h0,Sto.no.h1,Sto.no.sel⟩=noB from rfl,h]
 simp only[a_];have h2:∀a c d,Mu (((),(),(),([]:List Record),(0:Int),()),(a,c,d,()))=B (((),(),()),(c,d,())):=λa c d=>Ah (f:=1) (Au rfl) (by decide)
 rw[h2];rfl
def Aoj(hb:b.small)(m:Img)(hc:b.B0.length≤100000)(hf:m.fit):Oy b.C0 b.F0 b.I0 b.N0 b.K0 b.M0 b.O0 b.B0 m.D0 m.L0 m.H0 m.A0=B ((Pq b m,()),()):=by
 have hmx:100000≤maxLen:=by decide
 have hp:=hf.p;have he:=hf.e;unfold Oy Pq;rw[Qc hb m ω ω]
 simp only[a_,Bmp hc he];cases m.ok b<;>rfl
def Ajt(b:Bldg)(hc:b.B0.length≤1000)(m:Img)(z o:Mch)(ho:o.W0=[]):KJ (((),(),(),(b.B0.length:Int),(),(0:Int),()),(b.tup,m.tup,z.tup,o.tup,()))=B (((),(),(),(),()),(b.tup,m.tup,z.tup,(o.withB (I b.B0.length Vp)).tup,())):=by
 have h:=AR (step:=λx=>letI d:=x.2.2.2;letI j:=d.2.1.2;letI a:=j.2.2.2.2;letI k:=d.1.2;letI c:=k.2.2.2.2;letI e:=c.2.2.2.2;letI f:=a.2.2.2.2;letI g:=x.2.1.2.2;letI n:=e.2.2;letI q:=f.2.2;letI r:=g.2.2;letI s:=x.2.2.1;Ih x.1.2.2.2.1 x.1.2.2.2.2.2.1 x.2.1.1 x.2.1.2.1 g.1 g.2.1 r.1 r.2.1 r.2.2.1 r.2.2.2.1 s.1 s.2.1 s.2.2.1 s.2.2.2.1 d.1.1 k.1 k.2.1 k.2.2.1 k.2.2.2.1 c.1 c.2.1 c.2.2.1 c.2.2.2.1 e.1 e.2.1 n.1 n.2.1 n.2.2.1 n.2.2.2.1 n.2.2.2.2.1 d.2.1.1 j.1 j.2.1 j.2.2.1 j.2.2.2.1 a.1 a.2.1 a.2.2.1 a.2.2.2.1 f.1 f.2.1 q.1 q.2.1 q.2.2.1 q.2.2.2.1 q.2.2.2.2.1) b.B0.length (λi (l:List Belief)=>(((),(),(),(b.B0.length:Int),(),(i:Int),()),(b.tup,m.tup,z.tup,(o.withB l).tup,()))) (λ_ l=>l++[Vp]) (λi l=>l.length≤i) (λl=>(((),(),(),(),()),(b.tup,m.tup,z.tup,(o.withB l).tup,()))) (λi l hi hl=>by
  refine⟨?_,by rw[h_,H_];omega⟩
  show Ih (b.B0.length:Int) (i:Int) b.C0 b.F0 b.I0 b.N0 b.K0 b.M0 b.O0 b.B0 m.D0 m.L0 m.H0 m.A0 z.G0.D0 z.G0.L0 z.G0.H0 z.G0.A0 z.Y0.h0 z.Y0.h1 z.Y0.sel z.J1 z.W0 z.B0 z.M2 z.Z1 z.V3 z.L3 z.Q2 z.G2 (o.withB l).G0.D0 (o.withB l).G0.L0 (o.withB l).G0.H0 (o.withB l).G0.A0 (o.withB l).Y0.h0 (o.withB l).Y0.h1 (o.withB l).Y0.sel (o.withB l).J1 (o.withB l).W0 (o.withB l).B0 (o.withB l).M2 (o.withB l).Z1 (o.withB l).V3 (o.withB l).L3 (o.withB l).Q2 (o.withB l).G2=_;unfold Ih NU;simp only[b_ (ω:(i:Int)<(b.B0.length:Int)),d_,a_,CD hi (show b.B0.length≤AA by unfold AA;omega)]
  rw[At (show(o.withB l).W0.length+[Belief.mk (-1) 0 0 [] 0 D].length≤2147483648 by show l.length+1≤_;omega)]
  rfl) (λl _=>by
  show Ih (b.B0.length:Int) (b.B0.length:Int) b.C0 b.F0 b.I0 b.N0 b.K0 b.M0 b.O0 b.B0 m.D0 m.L0 m.H0 m.A0 z.G0.D0 z.G0.L0 z.G0.H0 z.G0.A0 z.Y0.h0 z.Y0.h1 z.Y0.sel z.J1 z.W0 z.B0 z.M2 z.Z1 z.V3 z.L3 z.Q2 z.G2 (o.withB l).G0.D0 (o.withB l).G0.L0 (o.withB l).G0.H0 (o.withB l).G0.A0 (o.withB l).Y0.h0 (o.withB l).Y0.h1 (o.withB l).Y0.sel (o.withB l).J1 (o.withB l).W0 (o.withB l).B0 (o.withB l).M2 (o.withB l).Z1 (o.withB l).V3 (o.withB l).L3 (o.withB l).Q2 (o.withB l).G2=_;unfold Ih;simp only[e_ (C_ (b.B0.length:Int)),c_]
  rfl) b.B0.length 0 [] ω (by simp)
 have h':=Ah h.1 ω
 rw[Hk (λ_=>[Vp]),Amo,a0_]at h'
 rw[show o.tup=(o.withB []).tup by unfold Mch.withB Mch.tup;rw[ho]]
 exact h'
def Aju(b:Bldg)(m:Img)(hl:m.A0.length≤100000)(hcar:∀e∈m.A0,e.S0<(b.B0.length:Int))(z o:Mch)(ho:o.Z1=[]):KK (((),(),(),(),(0:Int),()),(b.tup,m.tup,z.tup,o.tup,()))=B (((),(),()),(z.tup,(o.withE (m.A0.map (Sn b))).tup,())):=by
 have h:=AR (step:=λx=>letI d:=x.2.2.2;letI l:=d.2.1.2;letI a:=l.2.2.2.2;letI n:=d.1.2;letI c:=n.2.2.2.2;letI f:=c.2.2.2.2;letI j:=a.2.2.2.2;letI k:=x.2.1.2.2;letI r:=f.2.2;letI s:=j.2.2;letI u:=k.2.2;letI w:=x.2.2.1;Ii x.1.2.2.2.2.1 x.2.1.1 x.2.1.2.1 k.1 k.2.1 u.1 u.2.1 u.2.2.1 u.2.2.2.1 w.1 w.2.1 w.2.2.1 w.2.2.2.1 d.1.1 n.1 n.2.1 n.2.2.1 n.2.2.2.1 c.1 c.2.1 c.2.2.1 c.2.2.2.1 f.1 f.2.1 r.1 r.2.1 r.2.2.1 r.2.2.2.1 r.2.2.2.2.1 d.2.1.1 l.1 l.2.1 l.2.2.1 l.2.2.2.1 a.1 a.2.1 a.2.2.1 a.2.2.2.1 j.1 j.2.1 s.1 s.2.1 s.2.2.1 s.2.2.2.1 s.2.2.2.2.1) m.A0.length (λi (q:List Int)=>(((),(),(),(),(i:Int),()),(b.tup,m.tup,z.tup,(o.withE q).tup,()))) (λi q=>q++[Sn b (m.A0.getD i noE)]) (λi q=>q.length≤i) (λq=>(((),(),()),(z.tup,(o.withE q).tup,()))) (λi q hi hq=>by
  refine⟨?_,by rw[h_,H_];omega⟩
  have hc:=hcar _ (CB noE hi);have b1:∀v:Int,Nat.ble ((o.withE q).Z1.length+[v].length) 2147483648=A:=λv=>At (by show q.length+1≤_;omega)
  show Ii (i:Int) b.C0 b.F0 b.I0 b.N0 b.K0 b.M0 b.O0 b.B0 m.D0 m.L0 m.H0 m.A0 z.G0.D0 z.G0.L0 z.G0.H0 z.G0.A0 z.Y0.h0 z.Y0.h1 z.Y0.sel z.J1 z.W0 z.B0 z.M2 z.Z1 z.V3 z.L3 z.Q2 z.G2 (o.withE q).G0.D0 (o.withE q).G0.L0 (o.withE q).G0.H0 (o.withE q).G0.A0 (o.withE q).Y0.h0 (o.withE q).Y0.h1 (o.withE q).Y0.sel (o.withE q).J1 (o.withE q).W0 (o.withE q).B0 (o.withE q).M2 (o.withE q).Z1 (o.withE q).V3 (o.withE q).L3 (o.withE q).Q2 (o.withE q).G2=_;unfold Ii;rw[show Entry.mk 0 0 0 0 D=noE from rfl]
  simp only[b_ (ω:(i:Int)<(m.A0.length:Int)),Aa (ω:(0:Int)≤(i:Int)) (ω:(i:Int)<(m.A0.length:Int)),d_,j_]
  have hex:Sn b (m.A0.getD i noE)=bif decide (0≤(m.A0.getD i noE).S0)then(HE b (m.A0.getD i noE).S0.toNat).G1 else 0:=rfl;rw[hex];by_cases g:0≤(m.A0.getD i noE).S0
  ·rw[b_ g,Aa g hc]
   simp only[d_,a_,b1,CD hi (show m.A0.length≤AA by unfold AA;omega)]
   rfl
  ·rw[e_ g]
   simp only[c_,d_,a_,b1,CD hi (show m.A0.length≤AA by unfold AA;omega)]
   rfl) (λq _=>by
  show Ii (m.A0.length:Int) b.C0 b.F0 b.I0 b.N0 b.K0 b.M0 b.O0 b.B0 m.D0 m.L0 m.H0 m.A0 z.G0.D0 z.G0.L0 z.G0.H0 z.G0.A0 z.Y0.h0 z.Y0.h1 z.Y0.sel z.J1 z.W0 z.B0 z.M2 z.Z1 z.V3 z.L3 z.Q2 z.G2 (o.withE q).G0.D0 (o.withE q).G0.L0 (o.withE q).G0.H0 (o.withE q).G0.A0 (o.withE q).Y0.h0 (o.withE q).Y0.h1 (o.withE q).Y0.sel (o.withE q).J1 (o.withE q).W0 (o.withE q).B0 (o.withE q).M2 (o.withE q).Z1 (o.withE q).V3 (o.withE q).L3 (o.withE q).Q2 (o.withE q).G2=_;unfold Ii;simp only[e_ (C_ (m.A0.length:Int)),c_]
  rfl) m.A0.length 0 [] ω (by simp)
 have h':=Ah h.1 ω
 rw[Hk (λi=>[Sn b (m.A0.getD i noE)]),MD (λe=>[Sn b e]) noE m.A0 0 m.A0.length ω,R_,Bcg,a0_]at h'
 rw[show o.tup=(o.withE []).tup by unfold Mch.withE Mch.tup;rw[ho]]
 exact h'
def Amg(hb:b.small)(m:Img)(hf:m.fit)(hc:b.B0.length≤1000)(s:Sto):Qu b.C0 b.F0 b.I0 b.N0 b.K0 b.M0 b.O0 b.B0 m.D0 m.L0 m.H0 m.A0 s.h0 s.h1 s.sel=B (((),(Ps b m s).2,()),((Ps b m s).1.tup,())):=by
 unfold Qu Ps;rw[Aoj hb m ω hf,ND]
 simp only[a_];cases hq:Pq b m with
 |false=>rfl
 |true=>
  have hm:ImgOK b m:=by
   unfold Pq at hq;rw[f_]at hq;exact Img.ok_iff.1 hq.1
  by_cases hs:s.ok b.I0
  ·rw[b_ (show Sto.ok b.I0 ⟨s.h0,s.h1,s.sel⟩from hs)]
   have e:=hf.e
   let o:Mch:=⟨m,s,I b.B0.length Cn,[],I b.B0.length AT,I b.B0.length Ha,[],I b.B0.length Afp,0,0,0⟩
   have l0:=Ajt b hc m Mch.none o rfl;have l1:=Aju b m e (λx hx=>(FC.1 (hm.en x hx)).2.1.2) Mch.none (o.withB (I b.B0.length Vp)) rfl
   simp only[Mch.tup,Img.tup,Bldg.tup,Mch.withB,Mch.withE,Mch.none,Img.none,Sto.no,noB,o]at l0 l1
   have dl:∀n:Nat,n≤1000→(decide ((0:Int)≤(n:Int))&&decide ((n:Int)≤(n:Int))&&decide ((n:Int)≤(2147483648:Int)))=A:=λn hn=>by
    rw[b_ (ω:(0:Int)≤(n:Int)),b_ (d7_ (n:Int)),b_ (ω:(n:Int)≤2147483648)];rfl
   simp only[m_,c_,d_,dl _ hc,j_];rw[show Debounced.mk 0 D D D D 0 0 0 0 0 0 0 0 0 0 0 0 0 0 0 0 0 0 0 0 0 0 0 0 0 0 0 0 0 0 0 0 0 0 0 0=Cn from rfl,show NewCar.mk 0 0 0 0 0 D 0 0 0 0 0 0 0 D=AT from rfl,show Loaded.mk 0=Ha from rfl,show Calls.mk 0 0=Afp from rfl]
   rw[l0];simp only[a_];rw[l1];rfl
  ·rw[e_ (show ¬Sto.ok b.I0 ⟨s.h0,s.h1,s.sel⟩from hs)]
   rfl
def Aoi(hb:b.small)(hcode:b.code=0)(s:Sto)(hs:s.cur.size≤5000)(hbud:bud<9223372036854775808)(hR:Jq b.C0 b.F0 b.I0 b.N0 b.K0 b.M0 b.O0 b.B0 s.h0 s.h1 s.sel=B (((),()),((Ct b s).tup,()))):Ow b.C0 b.F0 b.I0 b.N0 b.K0 b.M0 b.O0 b.B0 s.h0 s.h1 s.sel bud=B (((),(Pf b s bud).2.1,(Pf b s bud).2.2,()),((Pf b s bud).1.tup,())):=by
 have hc:=Ak hcode;unfold Ow Pf;rw[Afz hb hcode s hs hbud hR];have hf:=Bhh hcode s ω bud
 simp only[a_,Azh,Img.tup];generalize CT b s bud=w at hf⊢;cases w.2.2.2 !=0 with
 |true=>rfl
 |false=>
  simp only[c_];rw[Amg hb w.2.1 hf ω w.1]
  simp only[a_,Mch.tup];generalize Ps b w.2.1 w.1=f;cases f.2 !=0<;>rfl
def Amh(hb:b.small)(hcode:b.code=0):IM b.C0 b.F0 b.I0 b.N0 b.K0 b.M0 b.O0 b.B0=B (((),(DQ b).2,()),((DQ b).1.tup,())):=by
 unfold IM DQ;rw[hcode];simp only[k_,d_];rw[show Ow b.C0 b.F0 b.I0 b.N0 b.K0 b.M0 b.O0 b.B0 (ByteArray.mk (Array.mk [])) (ByteArray.mk (Array.mk [])) 0 1048576=_ from Aoi hb hcode Sto.no (by decide) (bud:=1048576) ω (Aiz hcode)]
 rfl
def YK{α:Type}{p:Nat→α→Bool}{d:α}{l:List α}{n:Nat}(hl:l.length=n)(h:∀i,i<n→p i (l.getD i d)=A):FL p d l (n:Int)=A:=by
 unfold FL;rw[hl,k_,o_];exact QO n 0 λk _ hk=>h k ω
section
variable{b:Bldg}(hw:BW b)
include hw
theorem PM.fit(h:PM b m):m.fit:=by
 have hcc:=Ak hw.code;have h1:=EB hw.small h.jst.img
 have:=h.exl
 refine⟨h.jst.ents.2,by rw[h.con];omega,by rw[h.bel];omega,λx hx=>?_,by rw[h.car];omega,by rw[h.lod];omega,ω,by rw[h.lit];omega⟩
 obtain⟨i,hi,rfl⟩:=List.getElem_of_mem hx;have h2:=((h.belv i (by rw[← h.bel];exact hi)).dut).len hw.small
 rw[l_,i_ hi]at h2;have h2:m.W0[i].T0.length≤30:=h2;omega
theorem PM.isMach(h:PM b m):YP b m=A:=by
 have e1:Pm [m.L3,m.Q2,m.G2]=A:=by
  unfold Pm;simp only[X_,List.all_nil,c5_,f_,Am];exact⟨h.tick,h.flt,h.ref⟩
 have e2:Pm m.Z1=A:=F_.2 λx hx=>Am.2 (h.exv x hx)
 have c1:FL (λ_ x=>Ly b.F0 x) Cn m.J1 (b.B0.length:Int)=A:=YK h.con λi hi=>(h.conv _ (CB _ (by rw[h.con];exact hi))).1
 have c2:FL (λi x=>Pd b i x) (Belief.mk 0 0 0 [] 0 D) m.W0 (b.B0.length:Int)=A:=YK h.bel λi hi=>(Agj hw.small).2 (h.belv i hi)
 have c3:FL (λ_ x=>EC b x) AT m.B0 (b.B0.length:Int)=A:=YK h.car λi hi=>h.carv _ (CB _ (by rw[h.car];exact hi))
 have c4:FL (λ_ x=>Rf x) Ha m.M2 (b.B0.length:Int)=A:=YK h.lod λi hi=>Am.2 (h.lodv _ (CB _ (by rw[h.lod];exact hi)))
 unfold YP;rw[Apl h.jst.img h.jst.fits,b_ h.jst.ok,e1,e2,c1,c2,c3,c4,h.exl,h.lit,k_,k_];rfl
theorem PM.isM_eq(h:PM b m):En b.C0 b.F0 b.I0 b.N0 b.K0 b.M0 b.O0 b.B0 m.G0.D0 m.G0.L0 m.G0.H0 m.G0.A0 m.Y0.h0 m.Y0.h1 m.Y0.sel m.J1 m.W0 m.B0 m.M2 m.Z1 m.V3 m.L3 m.Q2 m.G2=B ((A,()),()):=by
 rw[WE hw.small hw.code (h.fit hw),h.isMach hw]
theorem Bdf:PM b (DQ b).1∧(DQ b).1.G0=Gt b:=by
 have hcode:=hw.code;have j0:=Jst.first hcode
 have hcc:=Ak hcode;have hfit:=j0.fits;have hroom:=hw.room;have hs:DQ b=((Pf b Sto.no 1048576).1,(Pf b Sto.no 1048576).2.2):=by unfold DQ;rw[hcode];rfl
 rw[hs];rcases Bgn hw.small j0.ok j0.img (j0.replay hw.small) ω (bud:=1048576) ω with⟨_,q2,q3⟩ | ⟨q1,_⟩
 ·rw[q2]
  have rep:∀{α:Type}{P:α→Prop}{a:α}{n:Nat},P a→∀x∈I n a,P x:=λh x hx=>by rw[(List.mem_replicate.1 hx).2];exact h
  have he:(Gt b).A0=[]:=rfl;refine⟨⟨q3,T_,rep ⟨Bcp (Akj hcode),d7_ 0,show(0:Int)<4294967296 by decide⟩,T_,λi hi=>?_,T_,rep (MC hw.small),T_,rep (show(0:Int)≤0∧(0:Int)≤4 by decide),T_,d2_ _,?_,i00,i00,i00⟩,rfl⟩
  ·show BelOK b i ((I b.B0.length Vp).getD i HP)
   rw[l_,List.getElem?_replicate,if_pos hi];exact BelOK.new hw
  ·intro x hx
   rw[show(Acy b (Gt b) { Sto.no.set (1-Sto.no.sel) (txt ((CH (Gt b)).flatMap Cl))with sel:=1-Sto.no.sel }).Z1=[]from rfl]at hx
   cases hx
 ·omega
omit hw in
theorem Bpv(hm:m.fit):KC m.G0.D0 m.G0.L0 m.G0.H0 m.G0.A0 m.Y0.h0 m.Y0.h1 m.Y0.sel m.J1 m.W0 m.B0 m.M2 m.Z1 m.V3 m.L3 m.Q2 m.G2=B (((),()),(m.tup,())):=by
 have hl:Sat (IC (((),(),(m.W0.length:Int),(0:Int),()),(m.tup,Mch.none.tup,()))) λy=>y=(((),(),()),(m.tup,Mch.none.tup,())):=by
  have hbe:=hm.be;unfold IC;refine Sat.loop (λ(k:Nat) z=>∃(i:Nat),z=(((),(),(m.W0.length:Int),(i:Int),()),(m.tup,Mch.none.tup,()))∧i+k=m.W0.length) (λk z hz=>?_) m.W0.length ⟨0,rfl,p_ _⟩ ω
  obtain⟨i,rfl,hk⟩:=hz;show Sat (OW (m.W0.length:Int) (i:Int) m.G0.D0 m.G0.L0 m.G0.H0 m.G0.A0 m.Y0.h0 m.Y0.h1 m.Y0.sel m.J1 m.W0 m.B0 m.M2 m.Z1 m.V3 m.L3 m.Q2 m.G2 [] [] [] [] noB noB 0 [] [] [] [] [] [] 0 0 0) _;unfold OW;refine Sat.bic (λq=>?_) λ_=>H rfl
  have q:(i:Int)<(m.W0.length:Int):=n_ q;have hi:i<m.W0.length:=ω
  have w:=CN (n:=i) ω
  have ib:inB (i:Int) m.W0.length=A:=Aa ω q
  have hd:(m.W0.getD i HP).T0.length≤100000:=hm.du _ (CB _ hi);refine C ib (E (show DV (m.W0.getD (Int.toNat (i:Int)) HP).T0=B (((m.W0.getD i HP).T0,()),())from CK _ hd) (C ib ?_))
  refine H ⟨k-1,ω,i+1,?_,ω⟩
  have e:m.W0.set i (Belief.mk (m.W0.getD i HP).E0 (m.W0.getD i HP).J0 (m.W0.getD i HP).A3 (m.W0.getD i HP).T0 (m.W0.getD i HP).L2 (m.W0.getD i HP).G3)=m.W0:=Ams HP rfl;rw[← w];exact e9_ (λL=>(((),(),(m.W0.length:Int),aA.wrap ((i:Int)+1),()),(({ m with W0:=L }:Mch).tup,Mch.none.tup,()))) e
 obtain⟨y,hl,rfl⟩:=hl;have him:=hm.im;unfold KC;refine Af (CK m.G0.D0 him.p) (Af (CK m.G0.L0 him.f) (Af (CK m.G0.H0 him.l) (Af (CK m.G0.A0 him.e) (Af (CK m.J1 hm.co) (Af (CK m.B0 hm.ca) (Af (CK m.M2 hm.lo) (Af (CK m.Z1 hm.ex) (Af (CK m.V3 hm.li) (Af (CK m.W0 hm.be) (Af hl rfl))))))))))
def pk0(b:Bldg)(m:Mch)(bud:Int):Pk:=⟨m,bud,0,I b.B0.length D,I b.B0.length (Calls.mk 0 0),I b.B0.length D,⟨0,0,0,0,D,D,0,I b.B0.length Cb⟩⟩
@[reducible] def outP(o:aB):=(o.O5,o.Y4,o.E3,o.X2,o.V5,o.M0,o.U5,o.B0,())
def Ajk:aB:=⟨0,0,0,0,D,D,0,[]⟩
def Bet(b:Bldg)(m:Mch)(s:ByteArray)(bud:Int)(e:Int)(m':Mch)(o:aB):Prop:=∃(x:Inp) (t':Pk),((EQ b s=0∧InOK b x)∨(EQ b s≠0∧x=Inp.none))∧EK b.C0 b.F0 b.I0 b.N0 b.K0 b.M0 b.O0 b.B0 s=B (((),EQ b s,()),(x.tup,()))∧RunR b x (EQ b s==0) (pk0 b m bud) t'∧e=t'.e∧(e=0→m'=t'.m∧o=t'.out)∧(e≠0→m'={ Mch.none with Y0:=t'.m.Y0 }∧o=Ajk)
theorem Bp1(hm:PM b m)(hs:Fr b s)(hb:0≤bud∧bud<9223372036854775808):Sat (FT b.C0 b.F0 b.I0 b.N0 b.K0 b.M0 b.O0 b.B0 m.G0.D0 m.G0.L0 m.G0.H0 m.G0.A0 m.Y0.h0 m.Y0.h1 m.Y0.sel m.J1 m.W0 m.B0 m.M2 m.Z1 m.V3 m.L3 m.Q2 m.G2 s bud) λy=>∃e m' o,y=(((),(),e,()),(m'.tup,outP o,()))∧Bet b m s bud e m' o:=by
 have hcc:=Ak hw.code;have hf:=hm.fit hw;obtain⟨x,hrd,hx1,hx2⟩:=Acv hw.small hw.code hs
 have hcap:((decide ((0:Int)≤(b.B0.length:Int))&&decide ((b.B0.length:Int)≤(b.B0.length:Int)))&&decide ((b.B0.length:Int)≤2147483648))=A:=by
  simp only[f_,A_];omega
 unfold FT;refine E hrd (C hcap (C hcap (C hcap (C hcap ?_))));refine E (CK m.J1 hf.co) (E (CK m.W0 hf.be) (E (CK m.B0 hf.ca) (E (CK m.M2 hf.lo) ?_)));have hxx:(EQ b s==0)=A→InOK b x:=λh=>hx2 (eq_of_beq h)
 have hr0:PR b (pk0 b m bud):=⟨T_,T_,T_,T_⟩;have hrun:=Bsm hw hxx (t:=pk0 b m bud) hm hr0 ⟨rfl,hb⟩;refine aD (Q:=λy=>∃t',y=(((),(),(),()),(Mch.none.tup,outP Ajk,t'.tup b x (EQ b s==0),()))∧RunR b x (EQ b s==0) (pk0 b m bud) t') ?_ λy8 h8=>?_
 ·refine aD hrun λy6 h6=>?_
  obtain⟨t',e | e,h⟩:=h6
  ·subst e;exact H ⟨t',rfl,h⟩
  ·subst e;exact H ⟨t',rfl,h⟩
 obtain⟨t',rfl,hR⟩:=h8
 have hxo:(EQ b s=0∧InOK b x)∨(EQ b s≠0∧x=Inp.none):=by
  by_cases h:EQ b s=0
  ·exact .inl ⟨h,hx2 h⟩
  ·exact .inr ⟨h,hx1 h⟩
 refine Sat.bic (λq=>?_) λq=>?_
 ·have q:(t'.e !=0)=A:=q
  have q:t'.e≠0:=by simpa using q
  exact H ⟨t'.e,{ Mch.none with Y0:=t'.m.Y0 },Ajk,rfl,x,t',hxo,hrd,hR,rfl,λh=>absurd h q,λ_=>⟨rfl,rfl⟩⟩
 ·have q:(t'.e !=0)=D:=q
  have q:t'.e=0:=by simpa using q
  exact H ⟨0,t'.m,t'.out,rfl,x,t',hxo,hrd,hR,q.symm,λ_=>⟨rfl,rfl⟩,λh=>absurd rfl h⟩
end
inductive Runs(b:Bldg):Mch→List ByteArray→Mch→List Outputs→Prop
 |nil (m:Mch):Runs b m [] m []
 |cons {m m1 m2:Mch}{s:ByteArray}{fs:List ByteArray}{o:Outputs}{os:List Outputs}(h:FT b.C0 b.F0 b.I0 b.N0 b.K0 b.M0 b.O0 b.B0 m.G0.D0 m.G0.L0 m.G0.H0 m.G0.A0 m.Y0.h0 m.Y0.h1 m.Y0.sel m.J1 m.W0 m.B0 m.M2 m.Z1 m.V3 m.L3 m.Q2 m.G2 s 1048576=some (((),(),0,()),(m1.tup,outP o,()))) (h2:Runs b m1 fs m2 os):Runs b m (s::fs) m2 (o::os)
def Runs.app{m1 m2 m3:Mch}{g:List ByteArray}{x y:List aB}(h:Runs b m1 f m2 x)(k:Runs b m2 g m3 y):Runs b m1 (f++g) m3 (x++y):=by
 induction h with
 |nil m=>exact k
 |cons h _ ih=>exact .cons h (ih k)
def Runs.len{m1 m2:Mch}{x:List aB}(h:Runs b m1 f m2 x):x.length=f.length:=by
 induction h with
 |nil m=>rfl
 |cons _ _ ih=>rw[x_,x_,ih]
section
variable{b:Bldg}(hw:BW b)
include hw
theorem Bho(hm:PM b m)(hs:Fr b s):∃m' o,FT b.C0 b.F0 b.I0 b.N0 b.K0 b.M0 b.O0 b.B0 m.G0.D0 m.G0.L0 m.G0.H0 m.G0.A0 m.Y0.h0 m.Y0.h1 m.Y0.sel m.J1 m.W0 m.B0 m.M2 m.Z1 m.V3 m.L3 m.Q2 m.G2 s 1048576=B (((),(),0,()),(m'.tup,outP o,()))∧PM b m'∧o.B0.length=b.B0.length∧Bet b m s 1048576 0 m' o:=by
 obtain⟨y,h,e,m',o,rfl,hR⟩:=Bp1 hw hm hs (bud:=1048576) (by decide)
 have hR':=hR;obtain⟨x,t',_,_,hr,he,h0,h1⟩:=hR;rcases hr.cases hw ⟨rfl,show(0:Int)≤1048576 by decide,show(1048576:Int)<9223372036854775808 by decide⟩with⟨k1,k2,k3,_⟩ | ⟨_,k2⟩
 ·rw[k1]at he
  subst he;obtain⟨rfl,rfl⟩:=h0 rfl;exact⟨_,_,h,k2,k3,hR'⟩
 ·exact absurd (show(1048576:Int)<300000 from k2) (by decide)
theorem Af9:∀{f:List ByteArray}{m:Mch},PM b m→(∀s∈f,Fr b s)→∃m' os,Runs b m f m' os∧PM b m'∧∀o∈os,o.B0.length=b.B0.length
 |[],m,hm,_=>⟨m,[],.nil m,hm,λo h=>by cases h⟩
 |s::f,m,hm,hf=>by
  obtain⟨m1,o,h1,h2,h3,_⟩:=Bho hw hm (hf s (M_ ..));obtain⟨m2,os,h4,h5,h6⟩:=Af9 (f:=f) h2 λx hx=>hf x (O_ _ hx)
  refine⟨m2,o::os,.cons h1 h4,h5,λu hu=>?_⟩
  rcases y_.1 hu with rfl | hu
  ·exact h3
  ·exact h6 u hu
omit hw in
theorem Bc4:∀{fs:List ByteArray}{m m':Mch}{os:List aB},Runs b m fs m' os→∀(F:List ByteArray) (i:Nat) (l:List aB),F.drop i=fs→i+fs.length=F.length→F.length≤5000→l.length≤i→Bz (λx=>letI g:=x.2.2;letI q:=g.2.1.2;letI c:=q.2.2.2.2;letI k:=g.1.2.2;letI d:=k.2.2.2.2;letI e:=c.2.2.2.2;letI f:=d.2.2.2.2;letI j:=x.2.1.2.2;letI r:=x.1.2.2.2;letI u:=e.2.2;letI v:=j.2.2;letI aa:=f.2.2;GN r.1 r.2.1 r.2.2.1 r.2.2.2.1 x.2.1.1 x.2.1.2.1 j.1 j.2.1 v.1 v.2.1 v.2.2.1 v.2.2.2.1 g.1.1 g.1.2.1 k.1 k.2.1 k.2.2.1 k.2.2.2.1 d.1 d.2.1 d.2.2.1 d.2.2.2.1 f.1 f.2.1 aa.1 aa.2.1 aa.2.2.1 aa.2.2.2.1 g.2.1.1 q.1 q.2.1 q.2.2.1 q.2.2.2.1 c.1 c.2.1 c.2.2.1 c.2.2.2.1 e.1 e.2.1 u.1 u.2.1 u.2.2.1 u.2.2.2.1 u.2.2.2.2.1) (fs.length+1) (((),(),(),l,F,(F.length:Int),(i:Int),()),(b.tup,m.tup,Mch.none.tup,()))=B (.inl (((),(),l++os,()),(m'.tup,Mch.none.tup,()))):=by
 intro fs m m' os h
 induction h with
 |nil m=>
  intro F i l hd hi hF hl;refine Au ?_;show GN l F (F.length:Int) (i:Int) b.C0 b.F0 b.I0 b.N0 b.K0 b.M0 b.O0 b.B0 m.G0.D0 m.G0.L0 m.G0.H0 m.G0.A0 m.Y0.h0 m.Y0.h1 m.Y0.sel m.J1 m.W0 m.B0 m.M2 m.Z1 m.V3 m.L3 m.Q2 m.G2 [] [] [] [] noB noB 0 [] [] [] [] [] [] 0 0 0=_;unfold GN;rw[e_ (show ¬(i:Int)<(F.length:Int)by simp at hi;omega),c_,a8_]
  rfl
 |@cons m m1 m2 s fs o os h1 h2 ih=>
  intro F i l hd hi hF hl;rw[x_]at hi;have hiF:i<F.length:=ω
  have hs:F.getD i noB=s:=by
   have:=Bw noB hiF
   rw[hd]at this;exact(List.cons.inj this).1.symm
  have hd2:F.drop (i+1)=fs:=by
   have:=Bw noB hiF
   rw[hd]at this;exact(List.cons.inj this).2.symm
  have w:=CN (n:=i) ω
  have ih2:=ih F (i+1) (l++[o]) hd2 ω hF (by rw[h_,H_];omega)
  rw[L_,d0_]at ih2;refine(Bk (x':=(((),(),(),l++[o],F,(F.length:Int),((i+1:Nat):Int),()),(b.tup,m1.tup,Mch.none.tup,()))) ?_).trans ih2;show GN l F (F.length:Int) (i:Int) b.C0 b.F0 b.I0 b.N0 b.K0 b.M0 b.O0 b.B0 m.G0.D0 m.G0.L0 m.G0.H0 m.G0.A0 m.Y0.h0 m.Y0.h1 m.Y0.sel m.J1 m.W0 m.B0 m.M2 m.Z1 m.V3 m.L3 m.Q2 m.G2 [] [] [] [] noB noB 0 [] [] [] [] [] [] 0 0 0=_;unfold GN;rw[b_ (ω:(i:Int)<(F.length:Int)),d_,Aa ω (ω:(i:Int)<(F.length:Int)),d_]
  refine Af (a:=(((),(),(),l,s,F,(F.length:Int),(i:Int),()),(b.tup,m.tup,Mch.none.tup,()))) ?_ ?_
  ·show B (((),(),(),l,F.getD i noB,F,(F.length:Int),(i:Int),()),_)=_
   rw[hs];rfl
  refine Af h1 (Af rfl ?_);refine VF (At (ω:l.length+1≤_)) ?_
  rw[← w]
theorem Amr{m':Mch}{os:List aB}(hm:PM b m)(h:Runs b m f m' os)(hl:f.length≤5000):Et b.C0 b.F0 b.I0 b.N0 b.K0 b.M0 b.O0 b.B0 m.G0.D0 m.G0.L0 m.G0.H0 m.G0.A0 m.Y0.h0 m.Y0.h1 m.Y0.sel m.J1 m.W0 m.B0 m.M2 m.Z1 m.V3 m.L3 m.Q2 m.G2 f=B (((),os,0,()),(m'.tup,())):=by
 have hr:=Bc4 h f 0 [] rfl (p_ _) hl (z_ 0);have hr2:Lv (((),(),(),[],f,(f.length:Int),0,()),(b.tup,m.tup,Mch.none.tup,()))=_:=Ah hr ω
 unfold Et;refine Af (hm.isM_eq hw) ?_;rw[m_,c_,e_ (ω:¬(5000:Int)<(f.length:Int)),c_]
 exact Af (Bpv (hm.fit hw)) (Af hr2 rfl)
end
def Aa8(p:aB)(hp:p.B0.length≤1000):KH p.O5 p.Y4 p.E3 p.X2 p.V5 p.M0 p.U5 p.B0 p.O5 p.Y4 p.E3 p.X2 p.V5 p.M0 p.U5 p.B0=B ((A,()),()):=by
 have hS:Sat (KH p.O5 p.Y4 p.E3 p.X2 p.V5 p.M0 p.U5 p.B0 p.O5 p.Y4 p.E3 p.X2 p.V5 p.M0 p.U5 p.B0) λy=>y=((A,()),()):=by
  unfold KH;simp only[k_,N_,S_,m_,c_]
  refine aD (Q:=λy=>match y with
   | .inl _=>True
   | .inr y=>False) ?_ λy hy=>?_
  ·refine Sat.loop (λ(k:Nat) z=>∃(i:Nat),z=(((),(),(i:Int),()),(outP p,outP p,()))∧i+k=p.B0.length) (λk z hz=>?_) p.B0.length ⟨0,rfl,p_ _⟩ ω
   obtain⟨i,rfl,hk⟩:=hz;unfold TM;refine Sat.bic (λgg=>?_) λgg=>H trivial
   have gg:(i:Int)<(p.B0.length:Int):=n_ gg;have w:=CN (n:=i) ω
   have ib:inB (i:Int) p.B0.length=A:=Aa ω gg
   refine C ib (C ib ?_);simp only[k_,S_,m_,c_];exact H ⟨k-1,ω,i+1,by first | (rw[← w];rfl) | rw[← w],ω⟩
  ·cases y with
   |inl y=>exact H rfl
   |inr y=>exact hy.elim
 obtain⟨y,h1,h2⟩:=hS;rw[h1,h2]
def Zl{l:List aB}(hl:l.length≤100000)(h:∀o∈l,o.B0.length≤1000):FV l l=B ((A,()),()):=by
 have hS:Sat (FV l l) λy=>y=((A,()),()):=by
  unfold FV;rw[N_,c_]
  refine aD (Q:=λy=>match y with
   | .inl _=>True
   | .inr y=>False) ?_ λy hy=>?_
  ·refine Sat.loop (λ(k:Nat) z=>∃(i:Nat),z=((l,l,(i:Int),()),())∧i+k=l.length) (λk z hz=>?_) l.length ⟨0,rfl,p_ _⟩ ω
   obtain⟨i,rfl,hk⟩:=hz;unfold SQ;refine Sat.bic (λgg=>?_) λgg=>H trivial
   have gg:(i:Int)<(l.length:Int):=n_ gg;have w:=CN (n:=i) ω
   have ib:inB (i:Int) l.length=A:=Aa ω gg
   refine C ib (C ib (E (Aa8 (l.getD i Ajk) (h _ (CB _ ω))) (Sat.bifF rfl ?_)))
   exact H ⟨k-1,ω,i+1,by first | (rw[← w];rfl) | rw[← w],ω⟩
  ·cases y with
   |inl y=>exact H rfl
   |inr y=>exact hy.elim
 obtain⟨y,h1,h2⟩:=hS;rw[h1,h2]
def Bb5:RH=B ((A,()),()):=by decide+kernel
def Bav{n0 n1 n2:Nat}(h1:n1<256)(h2:n2<256):BW (Ez (GE n0) (Gk n0) n1 n2)∧(Ez (GE n0) (Gk n0) n1 n2).B0.length≤3:=by
 have hf:(2≤GE n0∧GE n0≤6)∧1≤Gk n0∧Gk n0≤3:=by unfold GE Gk;omega
 obtain⟨g1,g2,g3,_,_,g6⟩:=Anc (n1:=n1) (n2:=n2) hf.1 hf.2 h1 h2;have hl:(arF .sub .f64 (AI 2 1).M0 4589168020290535424).isSome=A∧(arF .sub .f64 (AI 2 1).O0 4589168020290535424).isSome=A:=by decide+kernel
 obtain⟨a,ha⟩:=Option.isSome_iff_exists.1 hl.1;obtain⟨c,hc⟩:=Option.isSome_iff_exists.1 hl.2;exact⟨⟨g1,g2,g6,⟨a,ha,trivial⟩,⟨c,hc,trivial⟩⟩,ω⟩
def XN(n_f0:Int)(n_f1:Int)(n_f2:Int)(l:List Int)(at_1:Int)(h_n_f0:0≤n_f0∧n_f0<256)(h_n_f1:0≤n_f1∧n_f1<256)(h_n_f2:0≤n_f2∧n_f2<256)(h_l:l.length≤maxLen∧∀e∈l,(0≤e∧e<256))(h_at_1:0≤at_1∧at_1<256):aE n_f0 n_f1 n_f2 l at_1=B ((A,()),()):=by
 have hS:Sat (aE n_f0 n_f1 n_f2 l at_1) λy=>y=((A,()),()):=by
  unfold aE;obtain⟨k0,rfl⟩:=d8_ h_n_f0.1;obtain⟨k1,rfl⟩:=d8_ h_n_f1.1;obtain⟨k2,rfl⟩:=d8_ h_n_f2.1;refine E (Ze (n0:=k0) (n1:=k1) (n2:=k2) ω ω ω) ?_
  obtain⟨hw,hc3⟩:=Bav (n0:=k0) (n1:=k1) (n2:=k2) ω ω
  generalize Ez (GE k0) (Gk k0) k1 k2=b at hw hc3;have hb:=hw.small;have hcode:=hw.code;refine Sat.bindR (E (Amh hb hcode) ?_);obtain⟨hm,_⟩:=Bdf hw;refine aD (Az3 hb hcode (l:=l) (λe he=>h_l.2 e he) h_l.1 (most:=60) ω) λy4 h4=>?_
  obtain⟨⟨f,u1⟩,u2⟩:=y4;obtain⟨hf1,hf2⟩:=h4;have hf1:f.length≤60:=hf1;have hf2:∀s∈f,Fr b s:=hf2;have e1:aA.wrap ((f.length:Int)+1)=((f.length+1:Nat):Int):=CN ω
  have e2:aA.wrap at_1=at_1:=Ac ω ω
  obtain⟨k,hk⟩:∃k:Nat,Int.tmod at_1 ((f.length+1:Nat):Int)=(k:Int)∧k≤f.length:=by
   obtain⟨a,rfl⟩:=d8_ h_at_1.1;refine⟨a%(f.length+1),Kw a (f.length+1),?_⟩
   have:=f0_ a (ω:0<f.length+1)
   omega
  obtain⟨c,y,r1,hc,ho1⟩:=Af9 hw (f:=f.take k) hm λs hs=>hf2 s (d5_ hs)
  obtain⟨d,z,r2,hd,ho2⟩:=Af9 hw (f:=f.drop k) hc λs hs=>hf2 s (d6_ hs)
  have r3:=r1.app r2;rw[List.take_append_drop]at r3;have l1:=r1.len;have l2:=r2.len;rw[r_]at l1;rw[V_]at l2;show Sat (bif aA.wrap ((f.length:Int)+1) !=0 then _ else none) _;refine C (by rw[e1];simp;omega) (Sat.bindR ?_)
  refine E (Amr hw hm r3 (ω:f.length≤5000)) ?_
  have hk1:Int.tmod (aC aA at_1) (aC aA ((f.length:Int)+1))=(k:Int):=by rw[e1,e2];exact hk.1
  show Sat (bif decide ((0:Int)≤Int.tmod (aC aA at_1) (aC aA ((f.length:Int)+1)))&&decide (Int.tmod (aC aA at_1) (aC aA ((f.length:Int)+1))≤(f.length:Int))then _ else none) _;rw[hk1];have hkk:(decide ((0:Int)≤(k:Int))&&decide ((k:Int)≤(f.length:Int)))=A:=by simp only[f_,A_];omega
  refine C hkk ?_;have e3:List.drop 0 (List.take (Int.toNat (k:Int)) f)=f.take k:=by rw[R_,j_]
  have g1:Et b.C0 b.F0 b.I0 b.N0 b.K0 b.M0 b.O0 b.B0 (DQ b).1.G0.D0 (DQ b).1.G0.L0 (DQ b).1.G0.H0 (DQ b).1.G0.A0 (DQ b).1.Y0.h0 (DQ b).1.Y0.h1 (DQ b).1.Y0.sel (DQ b).1.J1 (DQ b).1.W0 (DQ b).1.B0 (DQ b).1.M2 (DQ b).1.Z1 (DQ b).1.V3 (DQ b).1.L3 (DQ b).1.Q2 (DQ b).1.G2 (List.drop 0 (List.take (Int.toNat (k:Int)) f))=B (((),y,0,()),(c.tup,())):=by
   rw[e3];exact Amr hw hm r1 (by rw[r_];omega)
  refine E g1 (Sat.bindR (C hkk ?_));have e4:List.drop (Int.toNat (k:Int)) (List.take (List.length f) f)=f.drop k:=by rw[List.take_length,j_]
  have g2:Et b.C0 b.F0 b.I0 b.N0 b.K0 b.M0 b.O0 b.B0 c.G0.D0 c.G0.L0 c.G0.H0 c.G0.A0 c.Y0.h0 c.Y0.h1 c.Y0.sel c.J1 c.W0 c.B0 c.M2 c.Z1 c.V3 c.L3 c.Q2 c.G2 (List.drop (Int.toNat (k:Int)) (List.take (List.length f) f))=B (((),z,0,()),(d.tup,())):=by
   rw[e4];exact Amr hw hc r2 (by rw[V_];omega)
  refine E g2 ?_;have hsame:=Bc0 (hd.fit hw);have hz:([]++y)++z=y++z:=by rw[a0_]
  have houts:FV (y++z) (([]++y)++z)=B ((A,()),()):=by
   rw[hz];refine Zl (by rw[h_];omega) λo ho=>?_
   rcases q_.1 ho with ho | ho
   ·rw[ho1 o ho];omega
   ·rw[ho2 o ho];omega
  refine aD (Q:=λy=>y=((A,()),())) ?_ λy hy=>by subst hy;exact H rfl
  refine C rfl ?_;refine C rfl ?_;refine C rfl ?_;refine E hsame ?_;refine C rfl ?_;refine C (At (by show 0+y.length≤_;omega)) ?_
  refine C (At (by show([]++y).length+z.length≤_;rw[a0_];omega)) ?_
  refine E houts ?_;refine C rfl ?_;refine E Bb5 ?_;exact H rfl
 obtain⟨y,h1,h2⟩:=hS;rw[h1,h2]
end Go.Ovl
