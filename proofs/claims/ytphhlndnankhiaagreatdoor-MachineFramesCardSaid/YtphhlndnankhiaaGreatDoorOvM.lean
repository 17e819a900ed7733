import Derived.Test.YtphhlndnankhiaaGreatDoorOvA
import Derived.Test.YtphhlndnankhiaaGreatDoorOvD
import Derived.Test.YtphhlndnankhiaaGreatDoorOvL
import Derived.Test.YtphhlndnankhiaaGreatDoorOvG
set_option linter.all false
open Option renaming some->A
open Bool renaming true->B,false->D
open Go.Ovl renaming Bldg->C,Outputs->aA
open List renaming replicate->E,getElem?_replicate->aD
open Go.Ovl.Sat renaming bindE->H,ret->aB,bifT->aC
namespace Go.Ovl
open Go Go.Ab
set_option maxRecDepth 100000
variable{b:C}{m:Mch}{s:ByteArray}{f:List ByteArray}{bud:Int}{vs:List View}{g:Bool}{x:Inp}
def Apv(hb:b.small)(m:Img)(hc:b.B0.length≤100000)(hf:m.fit):Pg b.C0 b.E0 b.H0 b.M0 b.J0 b.L0 b.N0 b.B0 m.F0 m.O0 m.K0 m.A0=A ((SG b m,()),()):=by
 have hmx:100000≤maxLen:=by decide
 have hp:=hf.p;have he:=hf.e;unfold Pg SG;rw[QD hb m ω ω];simp only[a_,Bnv hc he];cases m.ok b<;>rfl
def Ak3(b:C)(hc:b.B0.length≤1000)(m:Img)(z o:Mch)(ho:o.U0=[]):Lf (((),(),(),(b.B0.length:Int),(),(0:Int),()),(b.tup,m.tup,z.tup,o.tup,()))=A (((),(),(),(),()),(b.tup,m.tup,z.tup,(o.withB (E b.B0.length VV)).tup,())):=by
 have h:=AP (step:=λx=>letI d:=x.2.2.2;letI j:=d.2.1.2;letI a:=j.2.2.2.2;letI k:=d.1.2;letI c:=k.2.2.2.2;letI e:=c.2.2.2.2;letI f:=a.2.2.2.2;letI g:=x.2.1.2.2;letI n:=e.2.2;letI q:=f.2.2;letI r:=g.2.2;letI s:=x.2.2.1;IC x.1.2.2.2.1 x.1.2.2.2.2.2.1 x.2.1.1 x.2.1.2.1 g.1 g.2.1 r.1 r.2.1 r.2.2.1 r.2.2.2.1 s.1 s.2.1 s.2.2.1 s.2.2.2.1 d.1.1 k.1 k.2.1 k.2.2.1 k.2.2.2.1 c.1 c.2.1 c.2.2.1 c.2.2.2.1 e.1 e.2.1 n.1 n.2.1 n.2.2.1 n.2.2.2.1 n.2.2.2.2.1 d.2.1.1 j.1 j.2.1 j.2.2.1 j.2.2.2.1 a.1 a.2.1 a.2.2.1 a.2.2.2.1 f.1 f.2.1 q.1 q.2.1 q.2.2.1 q.2.2.2.1 q.2.2.2.2.1) b.B0.length (λi (l:List Belief)=>(((),(),(),(b.B0.length:Int),(),(i:Int),()),(b.tup,m.tup,z.tup,(o.withB l).tup,()))) (λ_ l=>l++[VV]) (λi l=>l.length≤i) (λl=>(((),(),(),(),()),(b.tup,m.tup,z.tup,(o.withB l).tup,()))) (λi l hi hl=>by
  refine⟨?_,by rw[h_,G_];omega⟩;show IC (b.B0.length:Int) (i:Int) b.C0 b.E0 b.H0 b.M0 b.J0 b.L0 b.N0 b.B0 m.F0 m.O0 m.K0 m.A0 z.G0.F0 z.G0.O0 z.G0.K0 z.G0.A0 z.B1.h0 z.B1.h1 z.B1.sel z.K1 z.U0 z.B0 z.D3 z.E2 z.H3 z.B4 z.I3 z.Y2 (o.withB l).G0.F0 (o.withB l).G0.O0 (o.withB l).G0.K0 (o.withB l).G0.A0 (o.withB l).B1.h0 (o.withB l).B1.h1 (o.withB l).B1.sel (o.withB l).K1 (o.withB l).U0 (o.withB l).B0 (o.withB l).D3 (o.withB l).E2 (o.withB l).H3 (o.withB l).B4 (o.withB l).I3 (o.withB l).Y2=_;unfold IC OF;simp only[b_ (ω:(i:Int)<(b.B0.length:Int)),d_,a_,Gb hi (show b.B0.length≤Ba by unfold Ba;omega)];rw[Av (show(o.withB l).U0.length+[Belief.mk (-1) 0 0 [] 0 D].length≤2147483648 by show l.length+1≤_;omega)];rfl) (λl _=>by
  show IC (b.B0.length:Int) (b.B0.length:Int) b.C0 b.E0 b.H0 b.M0 b.J0 b.L0 b.N0 b.B0 m.F0 m.O0 m.K0 m.A0 z.G0.F0 z.G0.O0 z.G0.K0 z.G0.A0 z.B1.h0 z.B1.h1 z.B1.sel z.K1 z.U0 z.B0 z.D3 z.E2 z.H3 z.B4 z.I3 z.Y2 (o.withB l).G0.F0 (o.withB l).G0.O0 (o.withB l).G0.K0 (o.withB l).G0.A0 (o.withB l).B1.h0 (o.withB l).B1.h1 (o.withB l).B1.sel (o.withB l).K1 (o.withB l).U0 (o.withB l).B0 (o.withB l).D3 (o.withB l).E2 (o.withB l).H3 (o.withB l).B4 (o.withB l).I3 (o.withB l).Y2=_;unfold IC;simp only[f_ (Q_ (b.B0.length:Int)),c_];rfl) b.B0.length 0 [] ω σ
 have h':=Ak h.1 ω;rw[HB (λ_=>[VV]),An4,a5_]at h';rw[show o.tup=(o.withB []).tup by unfold Mch.withB Mch.tup;rw[ho]];exact h'
def Ak4(b:C)(m:Img)(hl:m.A0.length≤100000)(hcar:∀e∈m.A0,e.T0<(b.B0.length:Int))(z o:Mch)(ho:o.E2=[]):Lg (((),(),(),(),(0:Int),()),(b.tup,m.tup,z.tup,o.tup,()))=A (((),(),()),(z.tup,(o.withE (m.A0.map (ST b))).tup,())):=by
 have h:=AP (step:=λx=>letI d:=x.2.2.2;letI l:=d.2.1.2;letI a:=l.2.2.2.2;letI n:=d.1.2;letI c:=n.2.2.2.2;letI f:=c.2.2.2.2;letI j:=a.2.2.2.2;letI k:=x.2.1.2.2;letI r:=f.2.2;letI s:=j.2.2;letI u:=k.2.2;letI w:=x.2.2.1;ID x.1.2.2.2.2.1 x.2.1.1 x.2.1.2.1 k.1 k.2.1 u.1 u.2.1 u.2.2.1 u.2.2.2.1 w.1 w.2.1 w.2.2.1 w.2.2.2.1 d.1.1 n.1 n.2.1 n.2.2.1 n.2.2.2.1 c.1 c.2.1 c.2.2.1 c.2.2.2.1 f.1 f.2.1 r.1 r.2.1 r.2.2.1 r.2.2.2.1 r.2.2.2.2.1 d.2.1.1 l.1 l.2.1 l.2.2.1 l.2.2.2.1 a.1 a.2.1 a.2.2.1 a.2.2.2.1 j.1 j.2.1 s.1 s.2.1 s.2.2.1 s.2.2.2.1 s.2.2.2.2.1) m.A0.length (λi (q:List Int)=>(((),(),(),(),(i:Int),()),(b.tup,m.tup,z.tup,(o.withE q).tup,()))) (λi q=>q++[ST b (m.A0.getD i noE)]) (λi q=>q.length≤i) (λq=>(((),(),()),(z.tup,(o.withE q).tup,()))) (λi q hi hq=>by
  refine⟨?_,by rw[h_,G_];omega⟩;have hc:=hcar _ (BR noE hi);have b1:∀v:Int,Nat.ble ((o.withE q).E2.length+[v].length) 2147483648=B:=λv=>Av (by show q.length+1≤_;omega);show ID (i:Int) b.C0 b.E0 b.H0 b.M0 b.J0 b.L0 b.N0 b.B0 m.F0 m.O0 m.K0 m.A0 z.G0.F0 z.G0.O0 z.G0.K0 z.G0.A0 z.B1.h0 z.B1.h1 z.B1.sel z.K1 z.U0 z.B0 z.D3 z.E2 z.H3 z.B4 z.I3 z.Y2 (o.withE q).G0.F0 (o.withE q).G0.O0 (o.withE q).G0.K0 (o.withE q).G0.A0 (o.withE q).B1.h0 (o.withE q).B1.h1 (o.withE q).B1.sel (o.withE q).K1 (o.withE q).U0 (o.withE q).B0 (o.withE q).D3 (o.withE q).E2 (o.withE q).H3 (o.withE q).B4 (o.withE q).I3 (o.withE q).Y2=_;unfold ID;rw[show Entry.mk 0 0 0 0 D=noE from rfl];simp only[b_ (ω:(i:Int)<(m.A0.length:Int)),Ac (ω:(0:Int)≤(i:Int)) (ω:(i:Int)<(m.A0.length:Int)),d_,j_];have hex:ST b (m.A0.getD i noE)=bif decide (0≤(m.A0.getD i noE).T0)then(JZ b (m.A0.getD i noE).T0.toNat).I1 else 0:=rfl;rw[hex];by_cases g:0≤(m.A0.getD i noE).T0
  ·rw[b_ g,Ac g hc];simp only[d_,a_,b1,Gb hi (show m.A0.length≤Ba by unfold Ba;omega)];rfl
  ·rw[f_ g];simp only[c_,d_,a_,b1,Gb hi (show m.A0.length≤Ba by unfold Ba;omega)];rfl) (λq _=>by
  show ID (m.A0.length:Int) b.C0 b.E0 b.H0 b.M0 b.J0 b.L0 b.N0 b.B0 m.F0 m.O0 m.K0 m.A0 z.G0.F0 z.G0.O0 z.G0.K0 z.G0.A0 z.B1.h0 z.B1.h1 z.B1.sel z.K1 z.U0 z.B0 z.D3 z.E2 z.H3 z.B4 z.I3 z.Y2 (o.withE q).G0.F0 (o.withE q).G0.O0 (o.withE q).G0.K0 (o.withE q).G0.A0 (o.withE q).B1.h0 (o.withE q).B1.h1 (o.withE q).B1.sel (o.withE q).K1 (o.withE q).U0 (o.withE q).B0 (o.withE q).D3 (o.withE q).E2 (o.withE q).H3 (o.withE q).B4 (o.withE q).I3 (o.withE q).Y2=_;unfold ID;simp only[f_ (Q_ (m.A0.length:Int)),c_];rfl) m.A0.length 0 [] ω σ
 have h':=Ak h.1 ω;rw[HB (λi=>[ST b (m.A0.getD i noE)]),Ni (λe=>[ST b e]) noE m.A0 0 m.A0.length ω,R_,Bdo,a5_]at h';rw[show o.tup=(o.withE []).tup by unfold Mch.withE Mch.tup;rw[ho]];exact h'
def Any(hb:b.small)(m:Img)(hf:m.fit)(hc:b.B0.length≤1000)(s:Sto):QU b.C0 b.E0 b.H0 b.M0 b.J0 b.L0 b.N0 b.B0 m.F0 m.O0 m.K0 m.A0 s.h0 s.h1 s.sel=A (((),(PT b m s).2,()),((PT b m s).1.tup,())):=by
 unfold QU PT;rw[Apv hb m ω hf,Oh];simp only[a_];cases hq:SG b m with
 |false=>rfl
 |true=>
  have hm:ImgOK b m:=by unfold SG at hq;rw[e_]at hq;exact Img.ok_iff.1 hq.1
  by_cases hs:s.ok b.H0
  ·rw[b_ (show Sto.ok b.H0 ⟨s.h0,s.h1,s.sel⟩from hs)];have e:=hf.e
   let o:Mch:=⟨m,s,E b.B0.length Fk,[],E b.B0.length Bu,E b.B0.length Ab2,[],E b.B0.length Agx,0,0,0⟩
   have l0:=Ak3 b hc m Mch.none o rfl;have l1:=Ak4 b m e (λx hx=>(CR.1 (hm.en x hx)).2.1.2) Mch.none (o.withB (E b.B0.length VV)) rfl;simp only[Mch.tup,Img.tup,Bldg.tup,Mch.withB,Mch.withE,Mch.none,Img.none,Sto.no,noB,o]at l0 l1;have dl:∀n:Nat,n≤1000→(decide ((0:Int)≤(n:Int))&&decide ((n:Int)≤(n:Int))&&decide ((n:Int)≤(2147483648:Int)))=B:=λn hn=>by rw[b_ (ω:(0:Int)≤(n:Int)),b_ (e0_ (n:Int)),b_ (ω:(n:Int)≤2147483648)];rfl
   simp only[o_,c_,d_,dl _ hc,j_];rw[show Debounced.mk 0 D D D D 0 0 0 0 0 0 0 0 0 0 0 0 0 0 0 0 0 0 0 0 0 0 0 0 0 0 0 0 0 0 0 0 0 0 0 0=Fk from rfl,show NewCar.mk 0 0 0 0 0 D 0 0 0 0 0 0 0 D=Bu from rfl,show Loaded.mk 0=Ab2 from rfl,show Calls.mk 0 0=Agx from rfl];rw[l0];simp only[a_];rw[l1];rfl
  ·rw[f_ (show ¬Sto.ok b.H0 ⟨s.h0,s.h1,s.sel⟩from hs)];rfl
def Apu(hb:b.small)(hcode:b.code=0)(s:Sto)(hs:s.cur.size≤5000)(hbud:bud<9223372036854775808)(hR:JK b.C0 b.E0 b.H0 b.M0 b.J0 b.L0 b.N0 b.B0 s.h0 s.h1 s.sel=A (((),()),((CA b s).tup,()))):Pf b.C0 b.E0 b.H0 b.M0 b.J0 b.L0 b.N0 b.B0 s.h0 s.h1 s.sel bud=A (((),(PG b s bud).2.1,(PG b s bud).2.2,()),((PG b s bud).1.tup,())):=by
 have hc:=Am hcode;unfold Pf PG;rw[Ag8 hb hcode s hs hbud hR];have hf:=Bip hcode s ω bud;simp only[a_,Bap,Img.tup];generalize Df b s bud=w at hf⊢;cases w.2.2.2 !=0 with
 |true=>rfl
 |false=>simp only[c_];rw[Any hb w.2.1 hf ω w.1];simp only[a_,Mch.tup];generalize PT b w.2.1 w.1=f;cases f.2 !=0<;>rfl
def Anz(hb:b.small)(hcode:b.code=0):HA b.C0 b.E0 b.H0 b.M0 b.J0 b.L0 b.N0 b.B0=A (((),(My b).2,()),((My b).1.tup,())):=by unfold HA My;rw[hcode];simp only[l_,d_];rw[show Pf b.C0 b.E0 b.H0 b.M0 b.J0 b.L0 b.N0 b.B0 (ByteArray.mk (Array.mk [])) (ByteArray.mk (Array.mk [])) 0 1048576=_ from Apu hb hcode Sto.no τ (bud:=1048576) ω (Aka hcode)];rfl
section
variable{b:C}(hw:BW b)
include hw
theorem PM.fit(h:PM b m):m.fit:=by
 have hcc:=Am hw.code;have h1:=Ep hw.small h.jst.img
 have:=h.exl
 refine⟨h.jst.ents.2,by rw[h.con];omega,by rw[h.bel];omega,λx hx=>?_,by rw[h.car];omega,by rw[h.lod];omega,ω,by rw[h.lit];omega⟩;obtain⟨i,hi,rfl⟩:=List.getElem_of_mem hx;have h2:=((h.belv i (by rw[← h.bel];exact hi)).dut).len hw.small;rw[k_,i_ hi]at h2;have h2:m.U0[i].W0.length≤30:=h2;omega
theorem PM.isM_eq(h:PM b m):EI b.C0 b.E0 b.H0 b.M0 b.J0 b.L0 b.N0 b.B0 m.G0.F0 m.G0.O0 m.G0.K0 m.G0.A0 m.B1.h0 m.B1.h1 m.B1.sel m.K1 m.U0 m.B0 m.D3 m.E2 m.H3 m.B4 m.I3 m.Y2=A ((B,()),()):=by
 have hf:=h.fit hw;have hcc:=Am hw.code;have he:=Ep hw.small h.jst.img;have hl:=h.exl;have c5:=ZX hw.small hw.code h.con λx hx=>(h.conv x hx).1;have c6:=Af6 hw.small hw.code h.bel (λi hi=>(Ahl hw.small).2 (h.belv i (by rw[← h.bel];exact hi))) hf.du;have c7:=Af8 hw.small hw.code h.car h.carv;have c8:=Af7 (n:=(b.B0.length:Int)) hf.lo (by rw[h.lod]) h.lodv;have hS:Sat (EI b.C0 b.E0 b.H0 b.M0 b.J0 b.L0 b.N0 b.B0 m.G0.F0 m.G0.O0 m.G0.K0 m.G0.A0 m.B1.h0 m.B1.h1 m.B1.sel m.K1 m.U0 m.B0 m.D3 m.E2 m.H3 m.B4 m.I3 m.Y2) λy=>y=((B,()),()):=by
  unfold EI;refine H (Aex hw.small m.G0 ω hf.im) (Sat.bifF (by rw[Aqw h.jst.img h.jst.fits];rfl) (H (IR ..) (Sat.bifF (by show(!decide (m.B1.ok b.H0))=D;rw[b_ h.jst.ok];rfl) (Sat.bifF (by rw[hl,O_]) (H (Se ω h.exv) (Sat.bifF rfl (H (Se (xs:=[m.B4,m.I3,m.Y2]) (by show 3≤100000;omega) λx hx=>?_) (Sat.bifF rfl (H c5 (H c6 (H c7 (H c8 ?_))))))))))))
  ·simp only[q_,h2_,or_false]at hx;rcases hx with rfl | rfl | rfl
   ·exact h.tick
   ·exact h.flt
   ·exact h.ref
  ·refine aB ?_;show((((m.H3.length:Int)==(b.B0.length:Int)),()),())=_;rw[h.lit,l_]
 obtain⟨y,h1,h2⟩:=hS;rw[h1,h2]
theorem Bej:PM b (My b).1∧(My b).1.G0=GG b∧(My b).2=0:=by
 have hcode:=hw.code;have j0:=Jst.first hcode;have hcc:=Am hcode;have hfit:=j0.fits;have hroom:=hw.room;have hs:My b=((PG b Sto.no 1048576).1,(PG b Sto.no 1048576).2.2):=by unfold My;rw[hcode];rfl
 rw[hs];rcases Bht hw.small j0.ok j0.img (j0.replay hw.small) ω (bud:=1048576) ω with⟨_,q2,q3⟩ | ⟨q1,_⟩
 ·rw[q2];have rep:∀{α:Type}{P:α→Prop}{a:α}{n:Nat},P a→∀x∈E n a,P x:=λh x hx=>by rw[(List.mem_replicate.1 hx).2];exact h
  have he:(GG b).A0=[]:=rfl;refine⟨⟨q3,T_,rep ⟨Bdw (Als hcode),e0_ 0,show(0:Int)<4294967296 by decide⟩,T_,λi hi=>?_,T_,rep (Nh hw.small),T_,rep (show(0:Int)≤0∧(0:Int)≤4 by decide),T_,c8_ _,?_,i00,i00,i00⟩,rfl,rfl⟩
  ·show BelOK b i ((E b.B0.length VV).getD i GH);rw[k_,aD,if_pos hi];exact BelOK.new hw
  ·intro x hx;rw[show(Ad1 b (GG b) { Sto.no.set (1-Sto.no.sel) (txt ((CM (GG b)).flatMap Cb))with sel:=1-Sto.no.sel }).E2=[]from rfl]at hx;cases hx
 ·omega
omit hw in
theorem Bqy(hm:m.fit):KY m.G0.F0 m.G0.O0 m.G0.K0 m.G0.A0 m.B1.h0 m.B1.h1 m.B1.sel m.K1 m.U0 m.B0 m.D3 m.E2 m.H3 m.B4 m.I3 m.Y2=A (((),()),(m.tup,())):=by
 have hl:Sat (IV (((),(),(m.U0.length:Int),(0:Int),()),(m.tup,Mch.none.tup,()))) λy=>y=(((),(),()),(m.tup,Mch.none.tup,())):=by have hbe:=hm.be;unfold IV;refine Sat.loop (λ(k:Nat) z=>∃(i:Nat),z=(((),(),(m.U0.length:Int),(i:Int),()),(m.tup,Mch.none.tup,()))∧i+k=m.U0.length) (λk z hz=>?_) m.U0.length ⟨0,rfl,n_ _⟩ ω;obtain⟨i,rfl,hk⟩:=hz;show Sat (Px (m.U0.length:Int) (i:Int) m.G0.F0 m.G0.O0 m.G0.K0 m.G0.A0 m.B1.h0 m.B1.h1 m.B1.sel m.K1 m.U0 m.B0 m.D3 m.E2 m.H3 m.B4 m.I3 m.Y2 [] [] [] [] noB noB 0 [] [] [] [] [] [] 0 0 0) _;unfold Px;refine Sat.bic (λq=>?_) λ_=>aB rfl;have q:(i:Int)<(m.U0.length:Int):=m_ q;have hi:i<m.U0.length:=ω;have w:=CG (n:=i) ω;have ib:inB (i:Int) m.U0.length=B:=Ac ω q;have hd:(m.U0.getD i GH).W0.length≤100000:=hm.du _ (BR _ hi);refine aC ib (H (show En (m.U0.getD (Int.toNat (i:Int)) GH).W0=A (((m.U0.getD i GH).W0,()),())from CV _ hd) (aC ib ?_));refine aB ⟨k-1,ω,i+1,?_,ω⟩;have e:m.U0.set i (Belief.mk (m.U0.getD i GH).D0 (m.U0.getD i GH).I0 (m.U0.getD i GH).F3 (m.U0.getD i GH).W0 (m.U0.getD i GH).B3 (m.U0.getD i GH).V3)=m.U0:=An8 GH rfl;rw[← w];exact d3_ (λL=>(((),(),(m.U0.length:Int),IntKind.i64.wrap ((i:Int)+1),()),(({ m with U0:=L }:Mch).tup,Mch.none.tup,()))) e
 obtain⟨y,hl,rfl⟩:=hl;have him:=hm.im;unfold KY;refine Ae (CV m.G0.F0 him.p) (Ae (CV m.G0.O0 him.f) (Ae (CV m.G0.K0 him.l) (Ae (CV m.G0.A0 him.e) (Ae (CV m.K1 hm.co) (Ae (CV m.B0 hm.ca) (Ae (CV m.D3 hm.lo) (Ae (CV m.E2 hm.ex) (Ae (CV m.H3 hm.li) (Ae (CV m.U0 hm.be) (Ae hl rfl))))))))))
def pk0(b:C)(m:Mch)(bud:Int):Pk:=⟨m,bud,0,E b.B0.length D,E b.B0.length (Calls.mk 0 0),E b.B0.length D,⟨0,0,0,0,D,D,0,E b.B0.length AQ⟩⟩
@[reducible] def outP(o:aA):=(o.Q2,o.G2,o.X1,o.G1,o.H5,o.L0,o.R2,o.B0,())
def Aem:aA:=⟨0,0,0,0,D,D,0,[]⟩
omit hw in
theorem Bhx(n i:Nat):CmdR ((E n AQ).getD i AQ).H2:=by rw[k_,aD];split<;>rfl
def Bf0(b:C)(m:Mch)(s:ByteArray)(bud:Int)(e:Int)(m':Mch)(o:aA):Prop:=∃(x:Inp) (t':Pk),((DW b s=0∧InOK b x)∨(DW b s≠0∧x=Inp.none))∧Eh b.C0 b.E0 b.H0 b.M0 b.J0 b.L0 b.N0 b.B0 s=A (((),DW b s,()),(x.tup,()))∧RunR b x (DW b s==0) (pk0 b m bud) t'∧e=t'.e∧(e=0→m'=t'.m∧o=t'.out)∧(e≠0→m'={ Mch.none with B1:=t'.m.B1 }∧o=Aem)
theorem Bq6(hm:PM b m)(hs:Fr b s)(hb:0≤bud∧bud<9223372036854775808):Sat (Gi b.C0 b.E0 b.H0 b.M0 b.J0 b.L0 b.N0 b.B0 m.G0.F0 m.G0.O0 m.G0.K0 m.G0.A0 m.B1.h0 m.B1.h1 m.B1.sel m.K1 m.U0 m.B0 m.D3 m.E2 m.H3 m.B4 m.I3 m.Y2 s bud) λy=>∃e m' o,y=(((),(),e,()),(m'.tup,outP o,()))∧Bf0 b m s bud e m' o:=by
 have hcc:=Am hw.code;have hf:=hm.fit hw;obtain⟨x,hrd,hx1,hx2⟩:=Adz hw.small hw.code hs;have hcap:((decide ((0:Int)≤(b.B0.length:Int))&&decide ((b.B0.length:Int)≤(b.B0.length:Int)))&&decide ((b.B0.length:Int)≤2147483648))=B:=by simp only[e_,r_];omega
 unfold Gi;refine H hrd (aC hcap (aC hcap (aC hcap (aC hcap ?_))));refine H (CV m.K1 hf.co) (H (CV m.U0 hf.be) (H (CV m.B0 hf.ca) (H (CV m.D3 hf.lo) ?_)));have hxx:(DW b s==0)=B→InOK b x:=λh=>hx2 (eq_of_beq h);have hr0:PR b (pk0 b m bud):=⟨T_,T_,T_,T_,λi=>Bhx _ i⟩
 have hrun:=Btu hw hxx (t:=pk0 b m bud) hm hr0 ⟨rfl,hb⟩;refine Sat.bindS (Q:=λy=>∃t',y=(((),(),(),()),(Mch.none.tup,outP Aem,t'.tup b x (DW b s==0),()))∧RunR b x (DW b s==0) (pk0 b m bud) t') ?_ λy8 h8=>?_
 ·refine Sat.bindS hrun λy6 h6=>?_;obtain⟨t',e | e,h⟩:=h6
  ·subst e;exact aB ⟨t',rfl,h⟩
  ·subst e;exact aB ⟨t',rfl,h⟩
 obtain⟨t',rfl,hR⟩:=h8;have hxo:(DW b s=0∧InOK b x)∨(DW b s≠0∧x=Inp.none):=by
  by_cases h:DW b s=0
  ·exact .inl ⟨h,hx2 h⟩
  ·exact .inr ⟨h,hx1 h⟩
 refine Sat.bic (λq=>?_) λq=>?_
 ·have q:(t'.e !=0)=B:=q;have q:t'.e≠0:=by simpa using q
  exact aB ⟨t'.e,{ Mch.none with B1:=t'.m.B1 },Aem,rfl,x,t',hxo,hrd,hR,rfl,λh=>absurd h q,λ_=>⟨rfl,rfl⟩⟩
 ·have q:(t'.e !=0)=D:=q;have q:t'.e=0:=by simpa using q
  exact aB ⟨0,t'.m,t'.out,rfl,x,t',hxo,hrd,hR,q.symm,λ_=>⟨rfl,rfl⟩,λh=>absurd rfl h⟩
end
inductive Runs(b:Bldg):Mch→List ByteArray→Mch→List Outputs→Prop
 |nil (m:Mch):Runs b m [] m []
 |cons {m m1 m2:Mch}{s:ByteArray}{fs:List ByteArray}{o:Outputs}{os:List Outputs}(h:Gi b.C0 b.E0 b.H0 b.M0 b.J0 b.L0 b.N0 b.B0 m.G0.F0 m.G0.O0 m.G0.K0 m.G0.A0 m.B1.h0 m.B1.h1 m.B1.sel m.K1 m.U0 m.B0 m.D3 m.E2 m.H3 m.B4 m.I3 m.Y2 s 1048576=some (((),(),0,()),(m1.tup,outP o,()))) (h2:Runs b m1 fs m2 os):Runs b m (s::fs) m2 (o::os)
def Runs.app{m1 m2 m3:Mch}{g:List ByteArray}{x y:List aA}(h:Runs b m1 f m2 x)(k:Runs b m2 g m3 y):Runs b m1 (f++g) m3 (x++y):=by
 induction h with
 |nil m=>exact k
 |cons h _ ih=>exact .cons h (ih k)
def Runs.len{m1 m2:Mch}{x:List aA}(h:Runs b m1 f m2 x):x.length=f.length:=by
 induction h with
 |nil m=>rfl
 |cons _ _ ih=>rw[x_,x_,ih]
section
variable{b:C}(hw:BW b)
include hw
theorem Biw(hm:PM b m)(hs:Fr b s):∃m' o,Gi b.C0 b.E0 b.H0 b.M0 b.J0 b.L0 b.N0 b.B0 m.G0.F0 m.G0.O0 m.G0.K0 m.G0.A0 m.B1.h0 m.B1.h1 m.B1.sel m.K1 m.U0 m.B0 m.D3 m.E2 m.H3 m.B4 m.I3 m.Y2 s 1048576=A (((),(),0,()),(m'.tup,outP o,()))∧PM b m'∧o.B0.length=b.B0.length∧Bf0 b m s 1048576 0 m' o:=by
 obtain⟨y,h,e,m',o,rfl,hR⟩:=Bq6 hw hm hs (bud:=1048576) τ;have hR':=hR;obtain⟨x,t',_,_,hr,he,h0,h1⟩:=hR;rcases hr.cases hw ⟨rfl,show(0:Int)≤1048576 by decide,show(1048576:Int)<9223372036854775808 by decide⟩with⟨k1,k2,k3,_⟩ | ⟨_,k2⟩
 ·rw[k1]at he;subst he;obtain⟨rfl,rfl⟩:=h0 rfl;exact⟨_,_,h,k2,k3,hR'⟩
 ·exact absurd (show(1048576:Int)<300000 from k2) τ
omit hw in
theorem Bea:∀{fs:List ByteArray}{m m':Mch}{os:List aA},Runs b m fs m' os→∀(F:List ByteArray) (i:Nat) (l:List aA),F.drop i=fs→i+fs.length=F.length→F.length≤5000→l.length≤i→BY (λx=>letI g:=x.2.2;letI q:=g.2.1.2;letI c:=q.2.2.2.2;letI k:=g.1.2.2;letI d:=k.2.2.2.2;letI e:=c.2.2.2.2;letI f:=d.2.2.2.2;letI j:=x.2.1.2.2;letI r:=x.1.2.2.2;letI u:=e.2.2;letI v:=j.2.2;letI aa:=f.2.2;Ha r.1 r.2.1 r.2.2.1 r.2.2.2.1 x.2.1.1 x.2.1.2.1 j.1 j.2.1 v.1 v.2.1 v.2.2.1 v.2.2.2.1 g.1.1 g.1.2.1 k.1 k.2.1 k.2.2.1 k.2.2.2.1 d.1 d.2.1 d.2.2.1 d.2.2.2.1 f.1 f.2.1 aa.1 aa.2.1 aa.2.2.1 aa.2.2.2.1 g.2.1.1 q.1 q.2.1 q.2.2.1 q.2.2.2.1 c.1 c.2.1 c.2.2.1 c.2.2.2.1 e.1 e.2.1 u.1 u.2.1 u.2.2.1 u.2.2.2.1 u.2.2.2.2.1) (fs.length+1) (((),(),(),l,F,(F.length:Int),(i:Int),()),(b.tup,m.tup,Mch.none.tup,()))=A (.inl (((),(),l++os,()),(m'.tup,Mch.none.tup,()))):=by
 intro fs m m' os h;induction h with
 |nil m=>intro F i l hd hi hF hl;refine AK ?_;show Ha l F (F.length:Int) (i:Int) b.C0 b.E0 b.H0 b.M0 b.J0 b.L0 b.N0 b.B0 m.G0.F0 m.G0.O0 m.G0.K0 m.G0.A0 m.B1.h0 m.B1.h1 m.B1.sel m.K1 m.U0 m.B0 m.D3 m.E2 m.H3 m.B4 m.I3 m.Y2 [] [] [] [] noB noB 0 [] [] [] [] [] [] 0 0 0=_;unfold Ha;rw[f_ (show ¬(i:Int)<(F.length:Int)by simp at hi;omega),c_,a6_];rfl
 |@cons m m1 m2 s fs o os h1 h2 ih=>
  intro F i l hd hi hF hl;rw[x_]at hi;have hiF:i<F.length:=ω;have hs:F.getD i noB=s:=by
   have:=By noB hiF
   rw[hd]at this;exact(List.cons.inj this).1.symm
  have hd2:F.drop (i+1)=fs:=by
   have:=By noB hiF
   rw[hd]at this;exact(List.cons.inj this).2.symm
  have w:=CG (n:=i) ω;have ih2:=ih F (i+1) (l++[o]) hd2 ω hF (by rw[h_,G_];omega);rw[M_,d2_]at ih2;refine(BS (x':=(((),(),(),l++[o],F,(F.length:Int),((i+1:Nat):Int),()),(b.tup,m1.tup,Mch.none.tup,()))) ?_).trans ih2;show Ha l F (F.length:Int) (i:Int) b.C0 b.E0 b.H0 b.M0 b.J0 b.L0 b.N0 b.B0 m.G0.F0 m.G0.O0 m.G0.K0 m.G0.A0 m.B1.h0 m.B1.h1 m.B1.sel m.K1 m.U0 m.B0 m.D3 m.E2 m.H3 m.B4 m.I3 m.Y2 [] [] [] [] noB noB 0 [] [] [] [] [] [] 0 0 0=_;unfold Ha;rw[b_ (ω:(i:Int)<(F.length:Int)),d_,Ac ω (ω:(i:Int)<(F.length:Int)),d_];refine Ae (a:=(((),(),(),l,s,F,(F.length:Int),(i:Int),()),(b.tup,m.tup,Mch.none.tup,()))) ?_ ?_
  ·show A (((),(),(),l,F.getD i noB,F,(F.length:Int),(i:Int),()),_)=_;rw[hs];rfl
  refine Ae h1 (Ae rfl ?_);refine Wm (Av (ω:l.length+1≤_)) ?_;rw[← w]
theorem Bq3{m':Mch}{os:List aA}(hm:PM b m)(h:Runs b m f m' os)(hl:f.length≤5000):KX b.C0 b.E0 b.H0 b.M0 b.J0 b.L0 b.N0 b.B0 m.G0.F0 m.G0.O0 m.G0.K0 m.G0.A0 m.B1.h0 m.B1.h1 m.B1.sel m.K1 m.U0 m.B0 m.D3 m.E2 m.H3 m.B4 m.I3 m.Y2 f=A (((),os,0,()),(m'.tup,())):=by have hr:=Bea h f 0 [] rfl (n_ _) hl (A_ 0);have hr2:LU (((),(),(),[],f,(f.length:Int),0,()),(b.tup,m.tup,Mch.none.tup,()))=_:=Ak hr ω;unfold KX;refine Ae (hm.isM_eq hw) ?_;rw[o_,c_,f_ (ω:¬(5000:Int)<(f.length:Int)),c_];exact Ae (Bqy (hm.fit hw)) (Ae hr2 rfl)
end
def Ab7(p:aA)(hp:p.B0.length≤1000):Ir p.Q2 p.G2 p.X1 p.G1 p.H5 p.L0 p.R2 p.B0 p.Q2 p.G2 p.X1 p.G1 p.H5 p.L0 p.R2 p.B0=A ((B,()),()):=by
 have hS:Sat (Ir p.Q2 p.G2 p.X1 p.G1 p.H5 p.L0 p.R2 p.B0 p.Q2 p.G2 p.X1 p.G1 p.H5 p.L0 p.R2 p.B0) λy=>y=((B,()),()):=by
  unfold Ir;simp only[l_,O_,a0_,o_,c_];refine Sat.bindS (Q:=λy=>match y with
   | .inl _=>True
   | .inr y=>False) ?_ λy hy=>?_
  ·refine Sat.loop (λ(k:Nat) z=>∃(i:Nat),z=(((),(),(i:Int),()),(outP p,outP p,()))∧i+k=p.B0.length) (λk z hz=>?_) p.B0.length ⟨0,rfl,n_ _⟩ ω;obtain⟨i,rfl,hk⟩:=hz;unfold Uh;refine Sat.bic (λgg=>?_) λgg=>aB trivial;have gg:(i:Int)<(p.B0.length:Int):=m_ gg;have w:=CG (n:=i) ω;have ib:inB (i:Int) p.B0.length=B:=Ac ω gg;refine aC ib (aC ib ?_);simp only[l_,a0_,o_,c_];exact aB ⟨k-1,ω,i+1,by first | (rw[← w];rfl) | rw[← w],ω⟩
  ·cases y with
   |inl y=>exact aB rfl
   |inr y=>exact hy.elim
 obtain⟨y,h1,h2⟩:=hS;rw[h1,h2]
def Bg7{b:C}:∀{l:List Record}(n:Img),(∀r∈l,UE b r)→(Aq n l).F0=n.F0∧(Aq n l).K0=n.K0
 |[],_,_=>⟨rfl,rfl⟩
 |r::l,n,h=>by obtain⟨e1,e2⟩:=Bg7 (l:=l) (Aw n r) λr hr=>h r (B_ _ hr);obtain⟨i,_,rfl⟩:=h r (t_ ..);exact⟨e1,e2⟩
structure TickF(b:Bldg)(m:Mch)(x:Inp)(g:Bool)(m':Mch)(o:Outputs)(l1 l2:List Record)(u:Mch)(vs:List View)(X:Rnd):Prop where
 fl:∀r∈l1,UE b r
 op:(g=false∧l2=[])∨(g=true∧∃(i:Nat) (cm:List Bool) (fr:Bool),x.car=(i:Int)∧i<b.B0.length∧cm.length=b.B0.length∧l2=Ns b (Aq m.G0 l1) x.kind i cm fr)
 pu:PM b u
 iu:u.G0=Aq (Aq m.G0 l1) l2
 va:VA b u.G0 g vs
 hX:X=EH b u.G0 u.E2 vs u.H3 x.press g
 rg:Rg b u.G0 X
 img:m'.G0=X.img
 pm:PM b m'
 oc:o.B0.length=b.B0.length
 cars:∀i,i<b.B0.length→∃c d,Am7 X i c d∧FinO b m'.G0 i d (o.B0.getD i AQ)
 lu:o.Q2=(ofC m'.G0.A0 (0,0)).1
 ld:o.G2=(ofC m'.G0.A0 (0,0)).2
 bad:o.H5=!g
 served:(o.X1,o.G1)=Ga X.recs (0,0)
 full:o.L0=!isZ X.ref
 st:0≤o.R2∧o.R2≤65535
 free:g=true→∃(i:Nat) (cm:List Bool) (fr:Bool),i<b.B0.length∧l2=Ns b (Aq m.G0 l1) x.kind i cm fr∧DZ (Aq m.G0 l1).F0 (Aq m.G0 l1).O0 (Aq m.G0 l1).K0 (Aq m.G0 l1).A0=some ((fr,()),())∧x.car=(i:Int)∧cm.length=b.B0.length∧∀j,j<b.B0.length→cm.getD j false=true→(DK (phA m.G0 j)=true∧(m'.K1.getD j Fk).D1=true)∨(Zz (phA m.G0 j)=true∧(x.cars.getD j OA).Y1=true∧(x.cars.getD j OA).M1=2)
def Bqx(m:Img)(kind:Int)(i:Nat)(calm fr:Bool):0≤(OB m kind i calm fr).2∧(OB m kind i calm fr).2≤65535:=by
 have ite:∀(c:Bool) {x y:List Record×Int},(0≤x.2∧x.2≤65535)→(0≤y.2∧y.2≤65535)→0≤(bif c then x else y).2∧(bif c then x else y).2≤65535:=λc _ _ h1 h2=>by
  cases c
  ·exact h2
  ·exact h1
 have k:∀(l:List Record) {n:Int},0≤n∧n≤65535→0≤((l,n):List Record×Int).2∧((l,n):List Record×Int).2≤65535:=λ_ _ h=>h;unfold OB PJ;exact ite _ (k _ τ) (ite _ (ite _ (k _ τ) (k _ τ)) (ite _ (k _ τ) (ite _ (k _ τ) (ite _ (k _ τ) (ite _ (k _ τ) (ite _ (ite _ (k _ τ) (k _ τ)) (ite _ (ite _ (k _ τ) (k _ τ)) (ite _ (ite _ (k _ τ) (k _ τ)) (ite _ (k _ τ) (k _ τ))))))))))
def TickF.of(hw:BW b){t1 t2 t3 t4 t':Pk}{l1 l2:List Record}(hxl:g=B→x.cars.length=b.B0.length)(f1:FixR (pk0 b m bud) t1)(hl1:∀r∈l1,UE b r)(o2:t2.out={ t1.out with B0:=t2.out.B0 }∧(g=B→∀j,j<b.B0.length→DK (phA t1.m.G0 j)=B→DC t2 j))(a2:Al b t1 t2 l1)(hop:(g=D∧t3=t2∧l2=[])∨(g=B∧Opr b x g t2 t3 l2))(a3:Al b t2 t3 l2)(hd:Dsp b x g t3 t4 vs)(a4:Al b t3 t4 (Qc b x g t3 vs).recs)(hf:Fin b g t4 t'):TickF b m x g t'.m t'.out l1 l2 t3.m vs (Qc b x g t3 vs):=by
 have i1:t1.m.G0=m.G0:=f1.im;have i2:t2.m.G0=Aq m.G0 l1:=by rw[a2.im,i1]
 have out1:t2.out={ (pk0 b m bud).out with B0:=t2.out.B0 }:=by rw[o2.1,f1.out]
 have out3:∃s,t3.out={ t2.out with R2:=s }∧0≤s∧s≤65535:=by
  rcases hop with⟨_,rfl,_⟩ | ⟨_,h⟩
  ·refine⟨t3.out.R2,rfl,?_⟩;rw[out1];exact show(0:Int)≤0∧(0:Int)≤65535 by decide
  ·obtain⟨_,_,_,_,_,_,_,e,_⟩:=h.how;exact⟨_,e,Bqx ..⟩
 obtain⟨s,out3,hst⟩:=out3;refine⟨hl1,?_,a3.m,by rw[a3.im,i2],hd.va,rfl,hd.rg,by rw[hf.im,a4.im,hd.rg.img],hf.m,hf.oc,λi hi=>?_,?_,?_,?_,?_,?_,?_,λhg=>?_⟩
 ·rcases hop with⟨h1,_,h2⟩ | ⟨h1,h⟩
  ·exact .inl ⟨h1,h2⟩
  ·obtain⟨i,cm,fr,h2,h3,h4,h5,_⟩:=h.how;exact .inr ⟨h1,i,cm,fr,h2,h3,h4,by rw[← i2];exact h5⟩
 ·refine⟨_,_,hd.cars i hi,?_⟩;rw[hf.im];exact hf.cars i hi
 ·rw[hf.out,hf.im]
 ·rw[hf.out,hf.im]
 ·rw[hf.out]
 ·rw[hf.out];show(t4.out.X1,t4.out.G1)=_;rw[hd.out,out3,out1];rfl
 ·rw[hf.out];show t4.out.L0=_;rw[hd.out]
 ·rw[hf.out];show 0≤t4.out.R2∧t4.out.R2≤65535;rw[hd.out,out3];exact hst
 ·rcases hop with⟨h1,_⟩ | ⟨_,h⟩
  ·rw[hg]at h1;cases h1
  ·obtain⟨i,cm,fr,h2,h3,h4,h5,_,h7,h8⟩:=h.how;rw[i2]at h5 h8;refine⟨i,cm,fr,h3,h5,h8,h2,h4,λj hj hc=>?_⟩;obtain⟨_,e,cm',rfl,_,hp⟩:=Ayx hw (x:=x) (g:=g) a2.m (hxl hg);rw[h7]at e;have e:cm=cm':=(Prod.mk.inj (Prod.mk.inj (L_ e)).1).1;have hph:phA t2.m.G0 j=phA m.G0 j:=by rw[i2];unfold phA;rw[(Bg7 m.G0 hl1).1]
   have hq:=hp j hj (by rw[← e];exact hc);unfold Uv at hq;rw[hph]at hq;rcases hq with⟨q1,q2⟩ | q
   ·refine .inl ⟨q1,?_⟩
    have:=o2.2 hg j hj (by rw[i1];exact q1) q2
    rw[hf.con,a4.con,a3.con];exact this
   ·exact .inr q
def RunR.fact(hw:BW b)(hxl:g=B→x.cars.length=b.B0.length){t':Pk}(h:RunR b x g (pk0 b m bud) t')(h0:t'.e=0):∃l1 l2 u vs X,TickF b m x g t'.m t'.out l1 l2 u vs X:=by
 have no:∀{u v:Pk}{l:List Record},De b u v l→v.e=0→False:=λd e=>by have:=d.e;omega
 obtain⟨t1,t2,l1,m1,r1,f1,hl1,hn1,o2,⟨d,rfl⟩ | ⟨a2,t3,l2,hop,h⟩⟩:=h
 ·exact(no d h0).elim
 rcases h with⟨d,rfl⟩ | ⟨a3,t4,vs,hd,h⟩
 ·exact(no d h0).elim
 rcases h with⟨h8,rfl⟩ | ⟨_,hf⟩
 ·omega
 rcases hd.res with a4 | d
 ·exact⟨l1,l2,t3.m,vs,_,.of hw hxl f1 hl1 o2 a2 hop a3 hd a4 hf⟩
 ·have:=hf.e
  exact(no d ω).elim
def Img.fits(b:C)(m:Img):Prop:=m.F0.length=b.B0.length∧m.O0.length=b.B0.length
def ImgOK.fits{m:Img}(h:ImgOK b m):m.fits b:=⟨h.lp,h.lf⟩
section
variable{b:C}{l:List Record}(hl:∀r∈l,PI b r){m:Img}(hm:m.fits b){c:Nat}(hc:c<b.B0.length)
include hl hm hc
end
def Bd1(m:Img)(kind:Int){i:Nat}(hi:i<b.B0.length)(cm:List Bool)(fr:Bool):∀r∈Ns b m kind i cm fr,PI b r:=λr hr=>by
 unfold Ns at hr;rcases p_.1 hr with h | h
 ·exact(Anm m kind hi _ fr).1 r h
 ·exact Afs _ _ _ (A_ _) r h
section
variable{b:C}{m:Img}(hm:m.fits b){kind:Int}{i:Nat}(hi:i<b.B0.length){cm:List Bool}(hcm:cm.length=b.B0.length){fr:Bool}{c:Nat}(hc:c<b.B0.length)
include hm hi hcm hc
end
section
variable{b:C}(hb:b.small)(hcode:b.code=0){m:Img}(hm:ImgOK b m){xs:List Int}(hx:xs.length=m.A0.length)(hxv:inX xs){vs:List View}(ps:List Calls)(press:Int×Int)(good:Bool)
include hcode hm
variable(hvl:vs.length=b.B0.length)
include hb hx hxv hvl
end
section
variable{b:C}(hw:BW b){m:Mch}{x:Inp}{g:Bool}{m':Mch}{o:aA}{l1 l2:List Record}{u:Mch}{vs:List View}{X:Rnd}(h:TickF b m x g m' o l1 l2 u vs X)
include hw h
theorem TickF.fits:(Aq m.G0 l1).fits b→u.G0.fits b:=λ_=>h.pu.jst.img.fits
end
def ReadX(b:C)(s:ByteArray)(x:Inp)(g:Bool):Prop:=((DW b s=0∧InOK b x)∨(DW b s≠0∧x=Inp.none))∧g=(DW b s==0)∧Eh b.C0 b.E0 b.H0 b.M0 b.J0 b.L0 b.N0 b.B0 s=A (((),DW b s,()),(x.tup,()))
def ReadX.press(hx:ReadX b s x g):(g=B→Fa b x.press=B)∧(g=D→x.press=(0,0)):=by
 refine⟨λhg=>?_,λhg=>?_⟩
 ·rcases hx.1 with⟨_,h⟩ | ⟨h,_⟩
  ·exact h.press
  ·have e:=hx.2.1;rw[hg,An h]at e;cases e
 ·rcases hx.1 with⟨h,_⟩ | ⟨_,h⟩
  ·have e:=hx.2.1;rw[hg,h]at e;cases e
  ·rw[h];rfl
def Ask(x c:Int×Int):DJ c (AX x c)=(0,0):=by
 have h:∀a d:Int,vb (bv d&&&bv (Ab0 a d))=0:=λa d=>by
  have e:bv d&&&bv (Ab0 a d)=0#32:=by
   apply BitVec.eq_of_getLsbD_eq;intro i hi
   have:=Bt (a,0) (d,0) (f:=i) hi 1
   have h1:CU (Ab0 a d) i=(CU a i&&!CU d i):=this;rw[f6_];show(CU d i&&CU (Ab0 a d) i)=_;rw[h1];cases CU d i<;>cases CU a i<;>simp
  rw[e];rfl
 exact Prod.ext (h x.1 c.1) (h x.2 c.2)
def Oz(l:List Calls)(k:Nat):Int×Int:=((l.getD k noP).Up,(l.getD k noP).N3)
def Om(l:List Calls):Nat→Int×Int
 |0=>(0,0)
 |k+1=>Cc (Om l k) (Oz l k)
def Aib{l:List Calls}(r:List Calls){k:Nat}(h:k<l.length):(l++r).getD k noP=l.getD k noP:=by rw[k_,k_,b8_ h]
def Aa0{l:List Calls}(r:List Calls):∀k,k≤l.length→Om (l++r) k=Om l k
 |0,_=>rfl
 |k+1,h=>by show Cc (Om (l++r) k) (Oz (l++r) k)=Cc (Om l k) (Oz l k);rw[Aa0 r k ω];unfold Oz;rw[Aib r ω]
structure Apart(s:Lan):Prop where
 cl:Om s.lit s.lit.length=s.cl
 ap:∀k,k<s.lit.length→DJ (Om s.lit k) (Oz s.lit k)=(0,0)
def Apart.step{ps:List Calls}{s:Lan}(h:Apart s)(i:Nat):Apart (Il b vs ps i s):=by
 have hn:Oz (s.lit++[Calls.mk (KK b vs i s).1 (KK b vs i s).2]) s.lit.length=KK b vs i s:=by unfold Oz;rw[k_,c5_ (A_ _),Nat.sub_self];rfl
 refine⟨?_,λk hk=>?_⟩
 ·show Om (s.lit++[_]) (s.lit++[_]).length=Cc s.cl (KK b vs i s);rw[h_];show Cc (Om (s.lit++[_]) s.lit.length) (Oz (s.lit++[_]) s.lit.length)=_;rw[Aa0 _ _ (A_ _),h.cl,hn]
 ·have hk:k<(s.lit++[Calls.mk (KK b vs i s).1 (KK b vs i s).2]).length:=hk;rw[h_,G_]at hk;show DJ (Om (s.lit++[_]) k) (Oz (s.lit++[_]) k)=_;rw[Aa0 _ _ ω];by_cases e:k<s.lit.length
  ·rw[show Oz (s.lit++[Calls.mk (KK b vs i s).1 (KK b vs i s).2]) k=Oz s.lit k by unfold Oz;rw[Aib _ e]];exact h.ap k e
  ·obtain rfl:k=s.lit.length:=ω;rw[hn,h.cl];exact Ask _ _
def Apart.fold{b:C}{vs:List View}{ps:List Calls}:∀(n i:Nat) {s:Lan},Apart s→Apart (AE (Il b vs ps) n i s)
 |0,_,_,h=>h
 |n+1,i,_,h=>Apart.fold n (i+1) (h.step i)
def Bdh(n k:Nat):Oz (E n noP) k=(0,0):=by unfold Oz;rw[k_,aD];split<;>rfl
def Bb3{n0 n1 n2:Nat}(h1:n1<256)(h2:n2<256):BW (FF (Hw n0) (Ho n0) n1 n2):=by
 have hf:(2≤Hw n0∧Hw n0≤6)∧1≤Ho n0∧Ho n0≤3:=by unfold Hw Ho;omega
 obtain⟨g1,g2,g3,_,_,g6⟩:=Aor (n1:=n1) (n2:=n2) hf.1 hf.2 h1 h2;have hl:(arF .sub .f64 (AG 2 1).L0 4589168020290535424).isSome=B∧(arF .sub .f64 (AG 2 1).N0 4589168020290535424).isSome=B:=by decide+kernel
 obtain⟨a,ha⟩:=Option.isSome_iff_exists.1 hl.1;obtain⟨c,hc⟩:=Option.isSome_iff_exists.1 hl.2;exact⟨g1,g2,g6,⟨a,ha,trivial⟩,⟨c,hc,trivial⟩⟩
def Bqn{n0 n1 n2:Int}(h0:0≤n0∧n0<256)(h1:0≤n1∧n1<256)(h2:0≤n2∧n2<256):∃b:C,Ej n0 n1 n2=A (((),()),(b.tup,()))∧BW b∧PM b (My b).1:=by obtain⟨k0,rfl⟩:=f5_ h0.1;obtain⟨k1,rfl⟩:=f5_ h1.1;obtain⟨k2,rfl⟩:=f5_ h2.1;have hw:=Bb3 (n0:=k0) (n1:=k1) (n2:=k2) ω ω;exact⟨_,ZT (n0:=k0) (n1:=k1) (n2:=k2) ω ω ω,hw,(Bej hw).1⟩
def Btm{n0 n1 n2:Int}(h0:0≤n0∧n0<256)(h1:0≤n1∧n1<256)(h2:0≤n2∧n2<256):∃b:C,Ej n0 n1 n2=A (((),()),(b.tup,()))∧BW b∧(∃y,HA b.C0 b.E0 b.H0 b.M0 b.J0 b.L0 b.N0 b.B0=A (y,((My b).1.tup,())))∧PM b (My b).1:=by obtain⟨b,e,hw,hm⟩:=Bqn h0 h1 h2;exact⟨b,e,hw,⟨_,Anz hw.small hw.code⟩,hm⟩
def Ah6{S:Type}(f:Nat→S→S):∀(k i:Nat) (s:S),AE f (k+1) i s=f (i+k) (AE f k i s)
 |0,_,_=>rfl
 |k+1,i,s=>by show AE f (k+1) (i+1) (f i s)=_;rw[Ah6 f k (i+1),show i+1+k=i+(k+1)by omega];rfl
def Ac9(a:Nat)(s:ByteArray):bl (tl a s)=(bl s).drop a:=by unfold tl;rw[PF,← FE s];exact a3_ (by rw[X_];exact A_ _)
def Blq(a i:Nat)(s:ByteArray):byN (tl a s) i=byN s (a+i):=by unfold byN;rw[Ac9,k_,k_,c0_]
def Afe(a c:Nat)(s:ByteArray):tl a (tl c s)=tl (c+a) s:=by apply Lh;rw[Ac9,Ac9,Ac9,List.drop_drop]
def Yd(a i:Nat)(s:ByteArray):AJ s (a+i)=AJ (tl a s) i:=by rw[GR,GR];exact d3_ Int.ofNat (Blq a i s).symm
def ZM(s:ByteArray)(a:Nat):∀k,Ahh s a k=leV (tl a s) k
 |0=>rfl
 |k+1=>by show AE (Ber s a) (k+1) 0 0=_;rw[Ah6,n_];show Aun (Ahh s a k) _=orL (leV (tl a s) k) _;rw[ZM s a k,Yd,show Int.toNat (8*(k:Int))=8*k by omega];rfl
def Yb(n:Int)(k:Nat):Bool:=IntKind.u8.wrap (stk (Int.fdiv n ((2:Int)^min k (IntKind.bits .u8))) 1 (BitVec.toNat ((BitVec.ofInt (IntKind.bits IntKind.u8) (Int.fdiv n ((2:Int)^min k (IntKind.bits .u8))))&&&(BitVec.ofInt (IntKind.bits IntKind.u8) 1))))==1
section
variable{b:C}(hb:b.small)
include hb
end
end Go.Ovl
