/- The program's tick (layer 27): the round is carried out. -/
import Derived.Test.YtdapkmfmgpmnoaaGreatDoorOvL
import Derived.Test.YtdapkmfmgpmnoaaGreatDoorOvC
import Derived.Test.YtdapkmfmgpmnoaaGreatDoorOvD
import Derived.Test.YtdapkmfmgpmnoaaGreatDoorOvF
set_option linter.all false
open Bool renaming false->A,true->D
open Go.Ovl.Sat renaming ret->B,bindS->H,bic->J,bifT->N,bindE->aB
open Option renaming some->C
open Go.Ovl renaming CarOutput->E,Record->aA
open Go.Ovl.Sto renaming out->I,no->aC
open Go.Ovl.CarOutput renaming mk->aD
open Go.Ovl.Record renaming mk->aE
open List renaming replicate->aF
open ByteArray renaming mk->aG
open Go.IntKind renaming i64->aH
namespace Go.Ovl
open Go Go.Ab
set_option maxRecDepth 100000
variable{l:List E}{t:Pk}{i:Nat}{b:Bldg}
def BF:E:=aD 0 0 A 0 0 A 0 0 A
noncomputable def Qu(b:Bldg)(x:Inp)(g:Bool)(t:Pk)(vs:List View):Rnd:=Ga b t.m.G0 t.m.U1 vs t.m.B3 x.press g
def FZ:List aA→Int×Int→Int×Int
 |[],c=>c
 |r::l,c=>FZ l (bif r.R0==2 then By c (DI r.D0 r.I0)else c)
def Amv(r:Rnd)(i:Nat)(c d:E):Prop:=d.J2=(r.lan.lit.getD i noP).Up∧d.E2=(r.lan.lit.getD i noP).R3∧d.Q5=r.lan.gong.getD i A∧d.V3=c.V3
def PM.rnd{m:Mch}(h:PM b m){r:Rnd}(hg:Rg b m.G0 r)(hl:r.lan.lit.length=b.B0.length){s:Sto}(hj:Jst b s r.img){n:Int}(hn:0≤n∧n≤1000000):PM b { m with G0:=r.img,Z0:=s,U1:=r.xs,B3:=r.lan.lit,H2:=n }:=
 ⟨hj,h.con,h.conv,h.bel,h.belv,h.car,h.carv,h.lod,h.lodv,hl,hg.ok.len,hg.xs,h.tick,h.flt,hn⟩
structure Dsp(b:Bldg)(x:Inp)(g:Bool)(t t':Pk)(vs:List View):Prop where
 va:VA b t.m.G0 g vs
 rg:Rg b t.m.G0 (Qu b x g t vs)
 res:Al b t t' (Qu b x g t vs).recs∨De b t t' (Qu b x g t vs).recs
 out:t'.out={ t.out with L3:=(FZ (Qu b x g t vs).recs (t.out.L3,t.out.A3)).1,A3:=(FZ (Qu b x g t vs).recs (t.out.L3,t.out.A3)).2,L0:=!isZ (Qu b x g t vs).ref,B0:=t'.out.B0 }
 oc:t'.out.B0.length=b.B0.length
 cars:∀i,i<b.B0.length→Amv (Qu b x g t vs) i (t.out.B0.getD i BF) (t'.out.B0.getD i BF)
 rst:t'.reset=t.reset
def Ccm(hi:i<l.length)(f g:E→E):(l.set i (f (l.getD i BF))).set i (g ((l.set i (f (l.getD i BF))).getD i BF))=l.set i (g (f (l.getD i BF))):=by
 rw[Cb _ _ hi,List.set_set]
def Pk.sServ(t:Pk)(c:Int×Int):Pk:={ t with out:={ t.out with L3:=c.1,A3:=c.2 } }
def Pk.sOuts(t:Pk)(l:List E):Pk:={ t with out:={ t.out with B0:=l } }
section
variable{b:Bldg}(hw:BW b){x:Inp}{g:Bool}(hx:g=D→InOK b x)
theorem Ayn(r:Rnd)(hr:r.recs.length≤1000)(t:Pk):Sat (Cc (((),(),r.recs,(r.recs.length:Int),(0:Int),()),(r.tup,t.tup b x g,()))) λy=>y=(((),(),()),(r.tup,(t.sServ (FZ r.recs (t.out.L3,t.out.A3))).tup b x g,())):=by
 unfold Cc;refine Sat.loop (λ(k:Nat) z=>∃(i:Nat) (c:Int×Int),z=(((),(),r.recs,(r.recs.length:Int),(i:Int),()),(r.tup,(t.sServ c).tup b x g,()))∧i+k=r.recs.length∧FZ (r.recs.drop i) c=FZ r.recs (t.out.L3,t.out.A3)) (λk z hz=>?_) r.recs.length ⟨0,(t.out.L3,t.out.A3),rfl,p_ _,rfl⟩ ω
 obtain⟨i,c,rfl,hk,hs⟩:=hz;show Sat ((t.sServ c).ap (Eu r.recs (r.recs.length:Int) (i:Int) r.recs r.img.F0 r.img.O0 r.img.K0 r.img.A0 r.xs r.lan.lit r.lan.gong r.lan.cl.1 r.lan.cl.2 r.ref.1 r.ref.2) b x g) _;unfold Pk.ap Eu;refine J (λq=>?_) λq=>B ?_
 ·have q:(i:Int)<(r.recs.length:Int):=m_ q
  have hi:i<r.recs.length:=ω
  have w:=CW (n:=i) ω
  rw[BU Il hi]at hs;refine N (Ac ω q) (J (λh=>aB (JY _ _) (aB (Gy c (DI _ _)) ?_)) λh=>?_)
  ·refine B ⟨k-1,ω,i+1,By c (DI (r.recs.getD i Il).D0 (r.recs.getD i Il).I0),by first | (rw[← w];rfl) | rw[← w],ω,?_⟩
   rw[← hs];have h:((r.recs.getD i Il).R0==2)=D:=h;show _=FZ (r.recs.drop (i+1)) (bif(r.recs.getD i Il).R0==2 then _ else _);rw[h];rfl
  ·refine B ⟨k-1,ω,i+1,c,by first | (rw[← w];rfl) | rw[← w],ω,?_⟩
   rw[← hs];have h:((r.recs.getD i Il).R0==2)=A:=h;show _=FZ (r.recs.drop (i+1)) (bif(r.recs.getD i Il).R0==2 then _ else _);rw[h];rfl
 ·have q:=F_ q
  rw[List.drop_of_length_le ω]at hs
  show _=(((),(),()),(r.tup,(t.sServ (FZ r.recs (t.out.L3,t.out.A3))).tup b x g,()));rw[← hs];rfl
theorem Ayo(r:Rnd)(hn:t.out.B0.length≤1000)(hl:r.lan.lit.length=t.out.B0.length)(hg:r.lan.gong.length=t.out.B0.length):Sat (Cd (((),(),(t.out.B0.length:Int),(0:Int),()),(r.tup,t.tup b x g,()))) λy=>∃l,y=((),((t.sOuts l).tup b x g,()))∧l.length=t.out.B0.length∧∀j,j<t.out.B0.length→Amv r j (t.out.B0.getD j BF) (l.getD j BF):=by
 unfold Cd;refine Sat.loop (λ(k:Nat) z=>∃(i:Nat) (l:List E),z=(((),(),(t.out.B0.length:Int),(i:Int),()),(r.tup,(t.sOuts l).tup b x g,()))∧i+k=t.out.B0.length∧l.length=t.out.B0.length∧(∀j,j<i→Amv r j (t.out.B0.getD j BF) (l.getD j BF))∧∀j,i≤j→l.getD j BF=t.out.B0.getD j BF) (λk z hz=>?_) t.out.B0.length ⟨0,t.out.B0,rfl,p_ _,rfl,λj hj=>absurd hj (Nat.not_lt_zero j),λj _=>rfl⟩ ω
 obtain⟨i,l,rfl,hk,hll,h1,h2⟩:=hz;show Sat ((t.sOuts l).ap (Ev (t.out.B0.length:Int) (i:Int) r.recs r.img.F0 r.img.O0 r.img.K0 r.img.A0 r.xs r.lan.lit r.lan.gong r.lan.cl.1 r.lan.cl.2 r.ref.1 r.ref.2) b x g) _;unfold Pk.ap Ev;refine J (λq=>?_) λq=>B ⟨l,rfl,hll,λj hj=>h1 j (by have:=F_ q;omega)⟩
 have q:(i:Int)<(t.out.B0.length:Int):=m_ q;have hi:i<l.length:=ω
 have w:=CW (n:=i) ω
 refine N (Ac ω ω) (N (Ac ω ω) (N (Ac ω (ω:(i:Int)<(l.length:Int))) (N (Ac ω (by rw[A_];show(i:Int)<(l.length:Int);omega)) ?_)))
 refine B ⟨k-1,ω,i+1,l.set i (aD (l.getD i BF).D2 (l.getD i BF).X1 (l.getD i BF).N2 (r.lan.lit.getD i noP).Up (r.lan.lit.getD i noP).R3 (r.lan.gong.getD i A) (l.getD i BF).V3 (l.getD i BF).B5 (l.getD i BF).S5),?_,ω,?_,λj hj=>?_,λj hj=>?_⟩
 ·have key:=Ccm hi (λc=>aD c.D2 c.X1 c.N2 (r.lan.lit.getD i noP).Up (r.lan.lit.getD i noP).R3 c.Q5 c.V3 c.B5 c.S5) (λc=>aD c.D2 c.X1 c.N2 c.J2 c.E2 (r.lan.gong.getD i A) c.V3 c.B5 c.S5)
  rw[← w];exact b8_ (λL=>(((),(),(t.out.B0.length:Int),aH.wrap ((i:Int)+1),()),(r.tup,(t.sOuts L).tup b x g,()))) key
 ·rw[A_];exact hll
 ·by_cases e:i=j
  ·subst e
   rw[Cb _ _ hi];exact⟨rfl,rfl,rfl,by rw[← h2 i (z_ i)]⟩
  ·rw[Fk _ _ e];exact h1 j ω
 ·rw[Fk _ _ ω];exact h2 j ω
end
def Pk.sRnd(t:Pk)(r:Rnd)(n:Int)(f:Bool):Pk:={ t with m:={ t.m with U1:=r.xs,B3:=r.lan.lit,H2:=n },out:={ t.out with L0:=f } }
section
variable{b:Bldg}(hw:BW b){x:Inp}{g:Bool}(hx:g=D→InOK b x)
include hw hx
theorem As3(hm:PM b t.m)(hr:PR b t)(hb:Bud t):Sat (t.ap Dc b x g) λy=>∃(t':Pk) (vs:List View),y=((),(t'.tup b x g,()))∧Dsp b x g t t' vs:=by
 have hcc:=Aj hw.code;unfold Pk.ap Dc;refine H (Bie hw hx hm hr) λy1 h1=>?_
 obtain⟨vs,rfl,hva⟩:=h1;have hxv:inX t.m.U1:=hm.exv;have hd:=Aa4 hw.small hw.code hm.jst.img hm.exl t.m.B3 x.press g hxv.exp (VA.ok hw hva) hva.len hm.lit;obtain⟨hrg,hrl⟩:=Ab8 hw.small hw.code hm.jst.img hm.exl hxv t.m.B3 x.press g hva.len;obtain⟨hl1,hl2⟩:=Baf b t.m.G0 t.m.U1 vs t.m.B3 x.press g;rw[hva.len]at hl1 hl2;refine aB hd ?_;have hR:Ga b t.m.G0 t.m.U1 vs t.m.B3 x.press g=Qu b x g t vs:=rfl;rw[hR]at hrg hrl hl1 hl2⊢;have fin:∀(t':Pk),(Al b t t' (Qu b x g t vs).recs∨De b t t' (Qu b x g t vs).recs)→_→_→_→_→Dsp b x g t t' vs:=λt' h1 h2 h3 h4 h5=>⟨hva,hrg,h1,h2,h3,h4,h5⟩
 generalize hrr:Qu b x g t vs=r at hrg hrl hl1 hl2 fin;refine Sat.bindR ?_;refine H (Q:=λy=>∃t',y=(((),(),()),(r.tup,t'.tup b x g,()))∧Wr b t r.recs t') ?_ λy6 h6=>?_
 ·refine H (ZF hw.small (x:=x) (g:=g) hm.jst hb.2 hb.1 hrg.good (ω:r.recs.length≤100000)) λy4 h4=>?_
  obtain⟨t',e | e,h⟩:=h4
  ·subst e;exact B ⟨t',rfl,h⟩
  ·subst e;exact B ⟨t',rfl,h⟩
 obtain⟨t1,rfl,hw1⟩:=h6;obtain⟨im,s,bu,e,rfl,hw1⟩:=hw1;refine H (Q:=λy=>∃n,y=(((),(),()),(r.tup,((t.wr im s bu e).sRnd r n (!isZ r.ref)).tup b x g,()))∧0≤n∧n≤1000000) (J (λq=>H (Am0 hm.ref) λy7 h7=>B ⟨y7.1.1,rfl,h7⟩) λq=>B ⟨t.m.H2,rfl,hm.ref⟩) λy8 h8=>?_
 obtain⟨n,rfl,hn⟩:=h8;refine H (Ayn r ω ((t.wr im s bu e).sRnd r n (!isZ r.ref))) λy9 h9=>?_
 subst h9;refine H (Ayo r (t:=((t.wr im s bu e).sRnd r n (!isZ r.ref)).sServ (FZ r.recs (t.out.L3,t.out.A3))) (by show t.out.B0.length≤1000;rw[hr.oc];omega) (by show _=t.out.B0.length;rw[hr.oc];exact hl1) (by show _=t.out.B0.length;rw[hr.oc];exact hl2)) λy10 h10=>?_
 obtain⟨l,rfl,hl,hc⟩:=h10;replace hl:l.length=t.out.B0.length:=hl;replace hc:∀j,j<t.out.B0.length→Amv r j (t.out.B0.getD j BF) (l.getD j BF):=hc;rw[hr.oc]at hl hc;refine B ⟨_,vs,rfl,fin _ ?_ rfl hl hc rfl⟩;have hroom:=Anu hw r.recs.length;rcases hw1 with⟨rfl,rfl,h1,h2,h3,h4⟩ | ⟨rfl,h1,h2,h3⟩
 ·rw[hrg.img]at h1
  refine .inl ⟨rfl,?_,⟨hr.leg,hr.sho,hr.rst,hl⟩,rfl,h3,h4,by show t.budget-_≤bu;omega⟩
  have:=hm.rnd hrg hl1 h1 hn
  rw[← hrg.img]at this;exact this
 ·exact .inr ⟨rfl,ω,h2,h3⟩
end
def Bd3(p a d:Int)(k:Bool):Prop:=(a=0∧d=0∧k=D)∨(Mr p=D∧k=A)
def Acn(p c:Int):Bool:=c==0||(p==3||p==4)
def Arv(p c:Int):Kq p c=C ((Acn p c,()),()):=by
 unfold Kq Acn;cases c==0<;>cases p==3<;>rfl
def Ads(p:Int):Mx p=C ((Mr p,()),()):=by
 unfold Mx Mr;cases p==0<;>rfl
section
variable{b:Bldg}(hw:BW b){x:Inp}{g:Bool}
include hw
theorem Bhc(hi:i<b.B0.length)(p:Int){s:Belief}(h:BelOK b i s):Sat (Mw b.C0 b.E0 b.H0 b.M0 b.J0 b.L0 b.N0 b.B0 (i:Int) p s.D0 s.I0 s.E3 s.U0 s.V2 s.N3) λy=>∃a d k,y=(((),()),((a,d,k,()),()))∧Bd3 p a d k:=by
 have hd:=h.dut.len hw.small;unfold Mw;refine aB (Ads p) (J (λ_=>B ⟨0,0,D,rfl,.inl ⟨rfl,rfl,rfl⟩⟩) λq=>?_)
 have q:Mr p=D:=by simpa using(show(!Mr p)=A from q)
 refine aB (IF hw.small hw.code hi h) (Sat.bifF rfl ?_);refine H (Q:=λy=>∃a d,y=(((),(),()),((0,0,A,()),(a,d,A,()),()))) ?_ λy hy=>by obtain⟨a,d,rfl⟩:=hy;exact B ⟨a,d,A,rfl,.inr ⟨q,rfl⟩⟩
 unfold Kt;refine Sat.loop (λ(k:Nat) z=>∃(j:Nat) (c:Int×Int),z=(((i:Int),(),(),(),s.U0,(s.U0.length:Int),(j:Int),()),((b.C0,b.E0,b.H0,b.M0,b.J0,b.L0,b.N0,b.B0,()),(0,0,A,()),(c.1,c.2,A,()),()))∧j+k=s.U0.length) (λk z hz=>?_) s.U0.length ⟨0,(0,0),rfl,p_ _⟩ ω
 obtain⟨j,c,rfl,hk⟩:=hz;show Sat (Oe (i:Int) s.U0 (s.U0.length:Int) (j:Int) b.C0 b.E0 b.H0 b.M0 b.J0 b.L0 b.N0 b.B0 0 0 A c.1 c.2 A) _;unfold Oe;refine J (λq=>?_) λ_=>B ⟨_,_,rfl⟩
 have q:(j:Int)<(s.U0.length:Int):=m_ q;have w:=CW (n:=j) ω
 refine N (Ac ω q) (N (Ac ω ω) (J (λ_=>aB (JY _ _) (aB (Gy c (DI _ _)) ?_)) λ_=>?_))
 ·exact B ⟨k-1,ω,j+1,_,by first | (rw[← w];rfl) | rw[← w],ω⟩
 ·exact B ⟨k-1,ω,j+1,c,by first | (rw[← w];rfl) | rw[← w],ω⟩
end
def o1(c:E)(a d:Int)(k:Bool):E:=aD a d k c.J2 c.E2 c.Q5 c.V3 c.B5 c.S5
def o2(c:E)(p:Int):E:=aD c.D2 c.X1 c.N2 c.J2 c.E2 c.Q5 c.V3 p c.S5
def o3(c:E)(f:Bool):E:=aD c.D2 c.X1 c.N2 c.J2 c.E2 c.Q5 c.V3 c.B5 f
def o4(c:E):E:=aD c.D2 c.X1 c.N2 c.J2 c.E2 c.Q5 0 c.B5 c.S5
def Bb5(l:List E)(i:Nat)(a d:Int)(k:Bool):List E:=l.set i (o1 (l.getD i BF) a d k)
def Bb6(l:List E)(i:Nat)(a d:Int)(k:Bool)(p:Int):List E:=(Bb5 l i a d k).set i (o2 ((Bb5 l i a d k).getD i BF) p)
def Af2(l:List E)(i:Nat)(a d:Int)(k:Bool)(p:Int)(f:Bool):List E:=(Bb6 l i a d k p).set i (o3 ((Bb6 l i a d k p).getD i BF) f)
def Akd(l:List E)(i:Nat)(a d:Int)(k:Bool)(p:Int)(f:Bool):List E:=(Af2 l i a d k p f).set i (o4 ((Af2 l i a d k p f).getD i BF))
def Aqn(hi:i<l.length)(a d:Int)(k:Bool)(p:Int)(f:Bool):Af2 l i a d k p f=l.set i (o3 (o2 (o1 (l.getD i BF) a d k) p) f):=by
 unfold Af2 Bb6 Bb5;simp only[Cb _ _ hi,List.set_set]
def Bb4(hi:i<l.length)(a d:Int)(k:Bool)(p:Int)(f:Bool):Akd l i a d k p f=l.set i (o4 (o3 (o2 (o1 (l.getD i BF) a d k) p) f)):=by
 unfold Akd;rw[Aqn hi,Cb _ _ hi,List.set_set]
structure FinO(m:Img)(i:Nat)(c d:CarOutput):Prop where
 lu:d.J2=c.J2
 ld:d.E2=c.E2
 gong:d.Q5=c.Q5
 phase:d.B5=phA m i
 flag:d.S5=flA m i
 coils:Bd3 (phA m i) d.D2 d.X1 d.N2
 cmd:Acn (phA m i) d.V3=true
structure Fin(b:Bldg)(g:Bool)(t t':Pk):Prop where
 m:PM b t'.m
 im:t'.m.G0=t.m.G0
 st:t'.m.Z0=t.m.Z0
 bu:t'.budget=t.budget
 e:t'.e=t.e
 out:t'.out={ t.out with Z3:=(ofC t.m.G0.A0 (0,0)).1,U3:=(ofC t.m.G0.A0 (0,0)).2,V5:=!g,B0:=t'.out.B0 }
 oc:t'.out.B0.length=b.B0.length
 cars:∀i,i<b.B0.length→FinO t.m.G0 i (t.out.B0.getD i BF) (t'.out.B0.getD i BF)
def Pk.sLmp(t:Pk)(c:Int×Int)(f:Bool):Pk:={ t with out:={ t.out with Z3:=c.1,U3:=c.2,V5:=f } }
section
variable{b:Bldg}(hw:BW b){x:Inp}{g:Bool}
include hw
set_option maxHeartbeats 4000000 in
theorem Bb7(hm:PM b t.m)(hr:PR b t):Sat (Cp (((),t.m.G0.F0,(t.m.G0.F0.length:Int),(0:Int),()),(t.tup b x g,()))) λy=>∃t',y=((),(t'.tup b x g,()))∧PM b t'.m∧Fix t t'∧t'.out.B0.length=b.B0.length∧∀i,i<b.B0.length→FinO t.m.G0 i (t.out.B0.getD i BF) (t'.out.B0.getD i BF):=by
 have hcc:=Aj hw.code;have hp:=hm.jst.img.lp;unfold Cp;refine Sat.loop (λ(k:Nat) z=>∃(i:Nat) (t':Pk),z=(((),t.m.G0.F0,(t.m.G0.F0.length:Int),(i:Int),()),(t'.tup b x g,()))∧i+k=b.B0.length∧PM b t'.m∧PR b t'∧Fix t t'∧(∀j,j<i→FinO t.m.G0 j (t.out.B0.getD j BF) (t'.out.B0.getD j BF))∧∀j,i≤j→t'.out.B0.getD j BF=t.out.B0.getD j BF) (λk z hz=>?_) b.B0.length ⟨0,t,rfl,p_ _,hm,hr,.rfl' t,λj hj=>absurd hj (Nat.not_lt_zero j),λj _=>rfl⟩ ω
 obtain⟨i,u,rfl,hk,hmu,hru,hf,h1,h2⟩:=hz;show Sat (u.ap (ES t.m.G0.F0 (t.m.G0.F0.length:Int) (i:Int)) b x g) _;unfold Pk.ap ES;refine J (λq=>?_) λq=>B ⟨u,rfl,hmu,hf,hru.oc,λj hj=>h1 j (by have:=F_ q;omega)⟩
 have q:(i:Int)<(t.m.G0.F0.length:Int):=m_ q;have hi:i<b.B0.length:=ω
 have w:=CW (n:=i) ω
 have ifl:inB (i:Int) u.m.G0.O0.length=D:=Ac ω (by rw[hmu.jst.img.lf];omega)
 refine N (Ac ω q) ?_
 refine H (Q:=λy=>∃v:Pk,y=(((),(i:Int),phA t.m.G0 i,t.m.G0.F0,(t.m.G0.F0.length:Int),(i:Int),()),(v.tup b x g,()))∧PM b v.m∧PR b v∧Fix t v∧v.out=u.out) ?_ λy5 h5=>?_
 ·refine H (Q:=λy=>∃c:Bool,y=(((),(i:Int),phA t.m.G0 i,t.m.G0.F0,(t.m.G0.F0.length:Int),(i:Int),c,()),(u.tup b x g,()))) (aB (Xl _) (J (λ_=>N ifl (B ⟨_,rfl⟩)) λ_=>B ⟨_,rfl⟩)) λy2 h2=>?_
  obtain⟨c,rfl⟩:=h2;have i2:inB (i:Int) u.m.W0.length=D:=Ac ω (by rw[hmu.bel];omega)
  refine J (λ_=>N i2 ?_) λ_=>B ⟨u,rfl,hmu,hru,hf,rfl⟩
  refine H (Amc hw hmu.jst.img (i:Int)) λy3 _=>H (Acs hw.small hw.code hi (hmu.belv i hi) _ _) λy4 h4=>N i2 ?_
  obtain⟨ya,yb,yc⟩:=y4;obtain⟨v,e4,hv⟩:=h4;change yb=_ at e4;subst e4;exact B ⟨u.sBel i v,rfl,hmu.sBel hv,hru.sBel i v,⟨hf.im,hf.st,hf.bu,hf.e,hf.out⟩,rfl⟩
 obtain⟨v,rfl,hmv,hrv,hfv,hov⟩:=h5;have j2:inB (i:Int) v.m.W0.length=D:=Ac ω (by rw[hmv.bel];omega)
 have jo:inB (i:Int) v.out.B0.length=D:=Ac ω (by rw[hrv.oc];omega)
 have jf:inB (i:Int) v.m.G0.O0.length=D:=Ac ω (by rw[hmv.jst.img.lf];omega)
 have jr:inB (i:Int) v.reset.length=D:=Ac ω (by rw[hrv.rst];omega)
 have hio:i<v.out.B0.length:=by rw[hrv.oc];exact hi
 refine N jo (N j2 (H (Bhc hw hi _ (hmv.belv i hi)) λy6 h6=>N jf (N jr ?_)))
 obtain⟨a,d,kc,rfl,hcoil⟩:=h6;have hprev:v.out.B0.getD i BF=t.out.B0.getD i BF:=by rw[hov];exact h2 i (z_ i)
 have hflag:flA v.m.G0 i=flA t.m.G0 i:=by rw[hfv.im]
 have e9:=Aqn hio a d kc (phA t.m.G0 i) (flA v.m.G0 i);have e10:=Bb4 hio a d kc (phA t.m.G0 i) (flA v.m.G0 i)
 have done:∀c:E,FinO t.m.G0 i (t.out.B0.getD i BF) c→PM b (v.sOuts (v.out.B0.set i c)).m∧PR b (v.sOuts (v.out.B0.set i c))∧Fix t (v.sOuts (v.out.B0.set i c))∧(∀j,j<i+1→FinO t.m.G0 j (t.out.B0.getD j BF) ((v.sOuts (v.out.B0.set i c)).out.B0.getD j BF))∧∀j,i+1≤j→(v.sOuts (v.out.B0.set i c)).out.B0.getD j BF=t.out.B0.getD j BF:=λc hc=>by
  refine⟨hmv,⟨hrv.leg,hrv.sho,hrv.rst,by show(v.out.B0.set i c).length=_;rw[A_];exact hrv.oc⟩,⟨hfv.im,hfv.st,hfv.bu,hfv.e,by show({ v.out with B0:=_ }:Outputs)=_;rw[hfv.out];rfl⟩,λj hj=>?_,λj hj=>?_⟩
  ·show FinO t.m.G0 j (t.out.B0.getD j BF) ((v.out.B0.set i c).getD j BF)
   by_cases e:i=j
   ·subst e;rw[Cb _ _ hio];exact hc
   ·rw[Fk _ _ e,hov];exact h1 j ω
  ·show(v.out.B0.set i c).getD j BF=_
   rw[Fk _ _ ω,hov];exact h2 j ω
 refine J (λ_=>?_) λ_=>aB (Arv _ _) (J (λq7=>?_) λq7=>?_)
 ·obtain⟨d1,d2,d3,d4,d5⟩:=done (o4 (o3 (o2 (o1 (v.out.B0.getD i BF) a d kc) (phA t.m.G0 i)) (flA v.m.G0 i))) ⟨by rw[← hprev];rfl,by rw[← hprev];rfl,by rw[← hprev];rfl,rfl,hflag,hcoil,rfl⟩
  refine B ⟨k-1,ω,i+1,v.sOuts (Akd v.out.B0 i a d kc (phA t.m.G0 i) (flA v.m.G0 i)),by first | (rw[← w];rfl) | rw[← w],ω,?_⟩
  rw[e10];exact⟨d1,d2,d3,d4,d5⟩
 ·obtain⟨d1,d2,d3,d4,d5⟩:=done (o4 (o3 (o2 (o1 (v.out.B0.getD i BF) a d kc) (phA t.m.G0 i)) (flA v.m.G0 i))) ⟨by rw[← hprev];rfl,by rw[← hprev];rfl,by rw[← hprev];rfl,rfl,hflag,hcoil,rfl⟩
  refine B ⟨k-1,ω,i+1,v.sOuts (Akd v.out.B0 i a d kc (phA t.m.G0 i) (flA v.m.G0 i)),by first | (rw[← w];rfl) | rw[← w],ω,?_⟩
  rw[e10];exact⟨d1,d2,d3,d4,d5⟩
 ·have q7:(!Acn (phA t.m.G0 i) ((Af2 v.out.B0 i a d kc (phA t.m.G0 i) (flA v.m.G0 i)).getD i BF).V3)=A:=q7
  rw[e9,Cb _ _ hio]at q7;obtain⟨d1,d2,d3,d4,d5⟩:=done (o3 (o2 (o1 (v.out.B0.getD i BF) a d kc) (phA t.m.G0 i)) (flA v.m.G0 i)) ⟨by rw[← hprev];rfl,by rw[← hprev];rfl,by rw[← hprev];rfl,rfl,hflag,hcoil,by simpa using q7⟩
  refine B ⟨k-1,ω,i+1,v.sOuts (Af2 v.out.B0 i a d kc (phA t.m.G0 i) (flA v.m.G0 i)),by first | (rw[← w];rfl) | rw[← w],ω,?_⟩
  rw[e9];exact⟨d1,d2,d3,d4,d5⟩
theorem Bb9(hm:PM b t.m)(hr:PR b t):Sat (t.ap DB b x g) λy=>∃t',y=((),(t'.tup b x g,()))∧Fin b g t t':=by
 have he:=Ek hw.small hm.jst.img
 have hlm:GU t.m.G0.F0 t.m.G0.O0 t.m.G0.K0 t.m.G0.A0=C (((),()),(((ofC t.m.G0.A0 (0,0)).1,(ofC t.m.G0.A0 (0,0)).2,()),())):=by
  unfold GU;exact Ae (ZZ ω) rfl
 unfold Pk.ap DB;refine aB hlm ?_;refine H (Bb7 hw (x:=x) (g:=g) (t:=t.sLmp (ofC t.m.G0.A0 (0,0)) (!g)) hm ⟨hr.leg,hr.sho,hr.rst,hr.oc⟩) λy2 h2=>?_
 obtain⟨t',rfl,h1,h2,h3,h4⟩:=h2;exact B ⟨t',rfl,h1,h2.im,h2.st,h2.bu,h2.e,by rw[h2.out];rfl,h3,h4⟩
end
def RunR(b:Bldg)(x:Inp)(g:Bool)(t t':Pk):Prop:=∃(t1 t2:Pk) (l1:List aA),PM b t1.m∧PR b t1∧Fix t t1∧(∀r∈l1,Zv b r)∧l1.length≤8∧t2.out={ t1.out with B0:=t2.out.B0 }∧
 ((De b t1 t2 l1∧t'=t2)∨(Al b t1 t2 l1∧∃(t3:Pk) (l2:List aA),((g=A∧t3=t2∧l2=[])∨(g=D∧Opr b x t2 t3 l2))∧
  ((De b t2 t3 l2∧t'=t3)∨(Al b t2 t3 l2∧∃(t4:Pk) (vs:List View),Dsp b x g t3 t4 vs∧
   ((t4.e=8∧t'=t4)∨(t4.e=0∧Fin b g t4 t'))))))
section
variable{b:Bldg}(hw:BW b){x:Inp}{g:Bool}(hx:g=D→InOK b x)
include hw hx
theorem Bsr(hm:PM b t.m)(hr:PR b t)(hb:Bud t):Sat (t.ap EC b x g) λy=>∃t',(y=.inl ((),(t'.tup b x g,()))∨y=.inr ((),(t'.tup b x g,())))∧RunR b x g t t':=by
 unfold Pk.ap EC;refine H (Q:=λy=>∃t1,y=(((),(),(),(),()),(((),(),(),(),(),()),t1.tup b x g,()))∧PM b t1.m∧PR b t1∧Fix t t1) ?_ λy3 h3=>?_
 ·refine H (Bp2 hw hx hm hr) λy1 h1=>?_
  obtain⟨t1,e | e,h⟩:=h1
  ·subst e;exact B ⟨t1,rfl,h⟩
  ·subst e;exact B ⟨t1,rfl,h⟩
 obtain⟨t1,rfl,m1,r1,f1⟩:=h3;have b1:Bud t1:=⟨f1.e.trans hb.1,by rw[f1.bu];exact hb.2⟩
 refine Sat.bifF (show(t1.e !=0)=A by rw[b1.1];rfl) ?_
 refine H (Bk6 hw hx m1 r1 b1) λy4 h4=>?_
 obtain⟨t2,l1,rfl,hl1,hn1,res2,o2⟩:=h4
 have e8:∀{u v:Pk}{l:List aA},(Al b u v l∨De b u v l)→(v.e !=0)=D→De b u v l:=λh q=>by
  rcases h with h | h
  ·rw[h.e]at q;cases q
  ·exact h
 have e0:∀{u v:Pk}{l:List aA},(Al b u v l∨De b u v l)→(v.e !=0)=A→Al b u v l:=λh q=>by
  rcases h with h | h
  ·exact h
  ·rw[h.e]at q;cases q
 refine J (λq=>B ⟨t2,.inl rfl,t1,t2,l1,m1,r1,f1,hl1,hn1,o2,.inl ⟨e8 res2 q,rfl⟩⟩) λq=>?_
 have a2:=e0 res2 q;have b2:=a2.bud b1;refine H (Q:=λy=>∃(t3:Pk) (l2:List aA),y=((),(t3.tup b x g,()))∧((g=A∧t3=t2∧l2=[])∨(g=D∧Opr b x t2 t3 l2))∧(Al b t2 t3 l2∨De b t2 t3 l2)) ?_ λy5 h5=>?_
 ·show Sat (t2.ap Cy b x g) _
  unfold Pk.ap Cy;refine J (λhg=>?_) λhg=>B ⟨t2,[],rfl,.inl ⟨hg,rfl,rfl⟩,.inl ⟨a2.e,a2.m,a2.r,rfl,a2.b0,e1_ _,by simp⟩⟩
  refine H (Q:=λy=>∃(t3:Pk) (l2:List aA),y=((),(t3.tup b x g,()))∧Opr b x t2 t3 l2) ?_ λy3 h3=>by obtain⟨t3,l2,rfl,h⟩:=h3;exact B ⟨t3,l2,rfl,.inr ⟨hg,h⟩,h.res⟩
  refine H (Azn hw (hx hg) (g:=g) a2.m a2.r b2) λy1 h1=>?_
  obtain⟨t3,l2,e | e,h⟩:=h1
  ·subst e;exact B ⟨t3,l2,rfl,h⟩
  ·subst e;exact B ⟨t3,l2,rfl,h⟩
 obtain⟨t3,l2,rfl,hop,res3⟩:=h5;refine J (λq=>B ⟨t3,.inl rfl,t1,t2,l1,m1,r1,f1,hl1,hn1,o2,.inr ⟨a2,t3,l2,hop,.inl ⟨e8 res3 q,rfl⟩⟩⟩) λq=>?_
 have a3:=e0 res3 q;have b3:=a3.bud b2;refine H (As3 hw hx a3.m a3.r b3) λy6 h6=>?_
 obtain⟨t4,vs,rfl,hd⟩:=h6;refine J (λq=>B ⟨t4,.inl rfl,t1,t2,l1,m1,r1,f1,hl1,hn1,o2,.inr ⟨a2,t3,l2,hop,.inr ⟨a3,t4,vs,hd,.inl ⟨(e8 hd.res q).e,rfl⟩⟩⟩⟩) λq=>?_
 have a4:=e0 hd.res q;refine H (Bb9 hw (x:=x) (g:=g) a4.m a4.r) λy7 h7=>?_
 obtain⟨t5,rfl,hf⟩:=h7;have he:(t5.e !=0)=A:=by rw[hf.e,a4.e];rfl
 exact Sat.bifF he (B ⟨t5,.inr rfl,t1,t2,l1,m1,r1,f1,hl1,hn1,o2,.inr ⟨a2,t3,l2,hop,.inr ⟨a3,t4,vs,hd,.inr ⟨a4.e,hf⟩⟩⟩⟩)
end
def RunR.cases(hw:BW b){x:Inp}{g:Bool}{t':Pk}(h:RunR b x g t t')(hb:Bud t):(t'.e=0∧PM b t'.m∧t'.out.B0.length=b.B0.length∧0≤t'.budget)∨(t'.e=8∧t.budget<300000):=by
 obtain⟨t1,t2,l1,m1,r1,f1,hl1,hn1,o2,⟨d,rfl⟩ | ⟨a2,t3,l2,hop,h⟩⟩:=h
 ·have:=d.lo
  rw[f1.bu]at this;exact .inr ⟨d.e,ω⟩
 have hn2:l2.length≤100:=by
  rcases hop with⟨_,_,rfl⟩ | ⟨_,h⟩
  ·exact a6_ _
  ·obtain⟨i,cm,fr,_,hi,_,rfl,_⟩:=h.how
   have h1:=(Am9 (b:=b) t2.m.G0 x.kind hi (cm.getD i A) fr).2;have h2:=Uk (AB t2.m.G0 (RS t2.m.G0 x.kind i (cm.getD i A) fr).1) (bif x.kind !=0 then cm.set i A else cm) b.B0.length
   have:=Aj m1.jst.img.code
   unfold Oj;rw[h_];omega
 have k2:=a2.b2;rw[f1.bu]at k2;rcases h with⟨d,rfl⟩ | ⟨a3,t4,vs,hd,h⟩
 ·have:=d.lo
  exact .inr ⟨d.e,ω⟩
 have k3:=a3.b2;have hn3:(Qu b x g t3 vs).recs.length≤300:=(Ab8 hw.small hw.code a3.m.jst.img a3.m.exl a3.m.exv t3.m.B3 x.press g hd.va.len).2;rcases h with⟨h8,rfl⟩ | ⟨h0,hf⟩
 ·rcases hd.res with a | d
  ·rw[a.e]at h8;cases h8
  ·have:=d.lo
   exact .inr ⟨h8,ω⟩
 ·rcases hd.res with a | d
  ·exact .inl ⟨hf.e.trans h0,hf.m,hf.oc,by rw[hf.bu];exact a.b0⟩
  ·rw[d.e]at h0;cases h0
end Go.Ovl
namespace Go.Ovl
open Go Go.Ab
variable{half bud room:Int}{b:Bldg}{s:Sto}{d:ByteArray}
def Oa(room:Int)(h0 h1:ByteArray)(sel:Int):Hl room h0 h1 sel=C ((decide (Sto.ok room ⟨h0,h1,sel⟩),()),()):=by
 unfold Hl Sto.ok;by_cases a:1≤room
 ·by_cases b:room≤65536
  ·by_cases c:(h0.size:Int)≤room
   ·by_cases d:(h1.size:Int)≤room
    ·by_cases e:sel=0
     ·simp[a,b,c,d,e]
     ·by_cases f:sel=1<;>simp[a,b,c,d,e,f,An]
    ·simp[a,b,c,d]
   ·simp[a,b,c]
  ·simp[a,b]
 ·simp[a]
def PW(room:Int)(h0 h1:ByteArray)(sel half bud:Int):Ln room h0 h1 sel half bud=C ((Sto.chk room ⟨h0,h1,sel⟩ half bud,()),()):=by
 unfold Ln Sto.chk;rw[Oa];by_cases a:Sto.ok room ⟨h0,h1,sel⟩
 ·by_cases b:half=0
  ·by_cases c:bud<0<;>simp[a,b,c]
  ·by_cases d:half=1
   ·by_cases c:bud<0<;>simp[a,c,d]
   ·simp[a,b,d,FG]
 ·simp[a]
def Azz(room:Int)(h0 h1:ByteArray)(sel half bud:Int)(hb:bud<9223372036854775808):QI room h0 h1 sel half bud=C (I (Sto.erase room ⟨h0,h1,sel⟩ half bud)):=by
 unfold QI Sto.erase Sto.act;rw[PW];generalize hc:Sto.chk room ⟨h0,h1,sel⟩ half bud=c;by_cases h:c=0
 ·subst h
  obtain⟨_,hh,hb0⟩:=Qj hc;by_cases h2:bud=0
  ·simp[h2,I]
  ·have hin:inB half 2=D:=Ac ω ω
   rw[Aa (n:=bud-1) ω ω]
   have e:(bud==0)=A:=by simpa using h2
   rcases hh with rfl | rfl<;>simp[hin,e,h2,I,Sto.set,noB]<;>rfl
 ·simp[h,I,aC,noB,FG]
def Aud(room:Int)(h0 h1:ByteArray)(sel half bud:Int)(hb:bud<9223372036854775808):OT room h0 h1 sel half bud=C (I (Sto.choose room ⟨h0,h1,sel⟩ half bud)):=by
 unfold OT Sto.choose Sto.act;rw[PW];generalize hc:Sto.chk room ⟨h0,h1,sel⟩ half bud=c;by_cases h:c=0
 ·subst h
  obtain⟨_,hh,hb0⟩:=Qj hc;by_cases h2:bud=0
  ·simp[h2,I]
  ·rw[Aa (n:=bud-1) ω ω]
   have e:(bud==0)=A:=by simpa using h2
   simp[e,h2,I]
 ·simp[h,I,aC,noB,FG]
def Aan(h0 h1:ByteArray)(sel:Int):NC h0 h1 sel=C ((Sto.cur ⟨h0,h1,sel⟩,()),()):=by
 unfold NC Sto.cur;by_cases h:sel=1<;>simp[h,An]
def Aqq(hh:half=0∨half=1)(x:ByteArray):(s.set half x).get half=x:=by rcases hh with rfl | rfl<;>rfl
def set_set(hh:half=0∨half=1)(x y:ByteArray):(s.set half x).set half y=s.set half y:=by rcases hh with rfl | rfl<;>rfl
def Are(hh:half=0∨half=1):s.set half (s.get half)=s:=by rcases hh with rfl | rfl<;>rfl
def Ahx(hh:half=0∨half=1):List.getD [s.h0,s.h1] half.toNat (aG (Array.mk []))=s.get half:=by rcases hh with rfl | rfl<;>rfl
def Azq(hh:half=0∨half=1)(x:ByteArray):((bif Nat.beq half.toNat 0 then x else s.h0),((bif Nat.beq half.toNat 1 then x else s.h1),(s.sel,())))=(s.set half x).tup:=by
 rcases hh with rfl | rfl<;>rfl
def Aju{i:Int}{t:Sto}(h:(d.size:Int)≤i):
  Dj half d bud i s.h0 s.h1 s.sel t.h0 t.h1 t.sel=C (.inr (.inl ((bud,((),((),()))),(s.tup,(t.tup,()))))):=by
 unfold Dj;have e:decide (i<(d.size:Int))=A:=by simp;omega
 rw[e];rfl
def Ags{i:Int}{t:Sto}(h:i<(d.size:Int)):
  Dj half d 0 i s.h0 s.h1 s.sel t.h0 t.h1 t.sel=C (.inr (.inr (((),(0,(8,()))),(s.tup,())))):=by
 unfold Dj;have e:decide (i<(d.size:Int))=D:=by simpa using h
 rw[e];rfl
def Anj(hh:half=0∨half=1){i:Nat}{t:Sto}(h:i<d.size)(hd:d.size<1000000)(hb:0<bud)(hb':bud<9223372036854775808)(hs:(s.get half).size<1000000):
  Dj half d bud i s.h0 s.h1 s.sel t.h0 t.h1 t.sel=
   C (.inl ((half,(d,(bud-1,((),((),(((i+1:Nat):Int),())))))),((s.set half (s.get half++d.extract i (i+1))).tup,(t.tup,())))):=by
 unfold Dj;have e:decide ((i:Int)<(d.size:Int))=D:=by simp;omega
 have e1:(bud==0)=A:=An ω
 have e2:inB half 2=D:=Ac ω ω
 have w:aH.wrap ((i:Int)+1)=((i+1:Nat):Int):=by rw[Aa ω ω];omega
 have w2:aH.wrap (bud-1)=bud-1:=Aa ω ω
 have e3:(decide ((0:Int)≤((i+1:Nat):Int))&&decide (((i+1:Nat):Int)≤(d.size:Int)))=D:=by simp;omega
 have e4:(decide ((0:Int)≤(i:Int))&&decide ((i:Int)≤((Int.toNat ((i+1:Nat):Int):Nat):Int)))=D:=by simp;omega
 have e5:Int.toNat ((i+1:Nat):Int)=i+1:=ω
 have e6:Int.toNat (i:Int)=i:=ω
 simp only[e,e1,e2,w,w2,e3,e4,d_,c_,Ahx hh];simp only[e5,e6];have e7:Nat.ble ((s.get half).size+(d.extract i (i+1)).size) 4611686018427387904=D:=Ay (by simp;omega)
 rw[e7,d_,Azq hh];rfl
def Ani{half:Int}(hh:half=0∨half=1){d:ByteArray}{t:Sto}(hd:d.size≤65536):∀(n i:Nat) (bud:Int) (s:Sto),d.size-i=n→i≤d.size→0≤bud→bud<9223372036854775808→(s.get half).size+(d.size-i)≤65536→
  BQ (λx=>Dj x.1.1 x.1.2.1 x.1.2.2.1 x.1.2.2.2.2.2.1 x.2.1.1 x.2.1.2.1 x.2.1.2.2.1 x.2.2.1.1 x.2.2.1.2.1 x.2.2.1.2.2.1) (n+1)
    ((half,(d,(bud,((),((),((i:Int),())))))),(s.tup,(t.tup,())))=
   C (if bud<(d.size:Int)-i then .inr (((),(0,(8,()))),((s.set half (s.get half++d.extract i (i+bud.toNat))).tup,()))
    else .inl ((bud-((d.size:Int)-i),((),((),()))),((s.set half (s.get half++d.extract i d.size)).tup,(t.tup,()))))
 |0,i,bud,s,hn,hi,hb,hb',hs=>by
  have:i=d.size:=ω
  subst this;refine Az (y:=_) ?_;rw[if_neg ω,Ahn,Acp,Are hh]
  show Dj half d bud (d.size:Int) s.h0 s.h1 s.sel t.h0 t.h1 t.sel=_;rw[Aju (e1_ _)];simp
 |n+1,i,bud,s,hn,hi,hb,hb',hs=>by
  by_cases h0:bud=0
  ·subst h0
   refine Az (y:=_) ?_;rw[if_pos ω]
   show Dj half d 0 (i:Int) s.h0 s.h1 s.sel t.h0 t.h1 t.sel=_;rw[Ags ω]
   simp only[Int.toNat_zero,c4_,Ahn,Acp,Are hh]
  ·rw[Bu (show Dj half d bud (i:Int) s.h0 s.h1 s.sel t.h0 t.h1 t.sel=_ from Anj hh ω ω ω hb' ω),
    Ani hh hd n (i+1) (bud-1) _ ω ω ω ω (by rw[Aqq hh];simp;omega)]
   rw[Aqq hh,set_set hh,set_set hh,f4_,f4_];by_cases h1:bud<(d.size:Int)-i
   ·rw[if_pos h1,if_pos ω,Al3 d ω ω,show i+1+(bud-1).toNat=i+bud.toNat by omega]
   ·rw[if_neg h1,if_neg ω,Al3 d ω ω]
    congr 3
    have:bud-1-((d.size:Int)-((i+1:Nat):Int))=bud-((d.size:Int)-i):=ω
    rw[this]
def Ae3(room:Int)(h0 h1:ByteArray)(sel half:Int)(d:ByteArray)(bud:Int)(hb:bud<9223372036854775808)(hd:d.size<1000000) :
  QJ room h0 h1 sel half d bud=C (I (Sto.write room ⟨h0,h1,sel⟩ half d bud)):=by
 unfold QJ Sto.write;rw[PW];generalize hc:Sto.chk room ⟨h0,h1,sel⟩ half bud=c;by_cases h:c=0
 ·subst h
  obtain⟨⟨o1,o2,o3,o4,o5⟩,hh,hb0⟩:=Qj hc;simp only at o3 o4;have hin:inB half 2=D:=Ac ω ω
  have hg:List.getD [h0,h1] half.toNat (aG (Array.mk []))=Sto.get ⟨h0,h1,sel⟩ half:=Ahx (s:=⟨h0,h1,sel⟩) hh;have hgs:((Sto.get ⟨h0,h1,sel⟩ half).size:Int)≤room:=by rcases hh with rfl | rfl<;>simpa[Sto.get]
  simp only[a_,hin,d_,hg];rw[Aa (n:=((Sto.get ⟨h0,h1,sel⟩ half).size:Int)+d.size) ω ω]
  by_cases h2:room<((Sto.get ⟨h0,h1,sel⟩ half).size:Int)+d.size
  ·simp[h2,I,aC,noB]
  ·have hl:=Ani (t:=aC) hh (d:=d) ω d.size 0 bud ⟨h0,h1,sel⟩ ω ω hb0 hb ω
   have hl':KZ ((half,(d,(bud,((),((),((0:Int),())))))),((Sto.tup ⟨h0,h1,sel⟩),(Sto.no.tup,())))=_:=Ai hl ω
   have e:decide (room<((Sto.get ⟨h0,h1,sel⟩ half).size:Int)+d.size)=A:=by simpa using h2
   have z:((0:Int) !=0)=A:=rfl;simp only[z,c_,h2,f2_,ne_eq,not_true_eq_false];show(KZ ((half,(d,(bud,((),((),((0:Int),())))))),((Sto.tup ⟨h0,h1,sel⟩),(Sto.no.tup,())))).bind _=_;rw[hl'];by_cases h3:bud<d.size
   ·rw[if_pos ω,if_pos h3]
    simp[I,Sto.tup]
   ·rw[if_neg ω,if_neg h3]
    simp[I,Sto.tup]
 ·simp[h,I,aC,noB,FG]
def Anl(hb:b.small)(hc:b.B0.length≤100){rs:List aA}(hl:rs.length≤100000):QK b.C0 b.E0 b.H0 b.M0 b.J0 b.L0 b.N0 b.B0 rs=C ((txt (rs.flatMap λr=>bl (Hy b r)),()),()):=by
 have h:=AP (step:=λx=>letI a:=x.2.1.2.2;letI c:=a.2.2;IC x.1.1 x.1.2.2.1 x.1.2.2.2.1 x.2.1.1 x.2.1.2.1 a.1 a.2.1 c.1 c.2.1 c.2.2.1 c.2.2.2.1) rs.length (λi (l:List UInt8)=>((rs,(),txt l,(i:Int),()),(b.tup,()))) (λi l=>l++bl (Hy b (rs.getD i (aE 0 0 0 0 0)))) (λi l=>l.length≤6*i) (λl=>((txt l,()),())) (λi l hi hs=>by
  have he:=Ahk b (rs.getD i (aE 0 0 0 0 0));refine⟨?_,by rw[h_];omega⟩
  show IC rs (txt l) (i:Int) b.C0 b.E0 b.H0 b.M0 b.J0 b.L0 b.N0 b.B0=_;unfold IC;simp only[b_ (ω:(i:Int)<(rs.length:Int)),Ac (ω:(0:Int)≤(i:Int)) (ω:(i:Int)<(rs.length:Int)),d_,i_,Ajv hb hc,a_,Dp hi (show rs.length≤AG by unfold AG;omega)]
  rw[Ay (show(txt l).size+(Hy b (rs.getD i (aE 0 0 0 0 0))).size≤4611686018427387904 by rw[FI,← Gg];omega)]
  rw[show txt l++Hy b (rs.getD i (aE 0 0 0 0 0))=txt (l++bl (Hy b (rs.getD i (aE 0 0 0 0 0))))by rw[← Ag2,Bp7]]
  rfl) (λl _=>by
  show IC rs (txt l) (rs.length:Int) b.C0 b.E0 b.H0 b.M0 b.J0 b.L0 b.N0 b.B0=_;unfold IC;simp only[f_ (H_ (rs.length:Int)),c_]) rs.length 0 [] ω (by simp)
 have h':=Ai h.1 ω
 rw[HE (λi=>bl (Hy b (rs.getD i (aE 0 0 0 0 0)))),a2_,MY (λr=>bl (Hy b r)) (aE 0 0 0 0 0) rs 0 rs.length ω,Q_]at h'
 unfold QK;rw[show NO ((rs,(),aG (Array.mk []),(0:Int),()),((b.C0,b.E0,b.H0,b.M0,b.J0,b.L0,b.N0,b.B0,()),()))=_ from h']
 rfl
def Aim(hcode:b.code=0)(s:Sto)(bud:Int):Ti b.C0 b.E0 b.H0 b.M0 b.J0 b.L0 b.N0 b.B0 s.h0 s.h1 s.sel bud=C ((decide (s.ok b.H0)&&decide (0≤bud),()),()):=by
 unfold Ti;rw[EW,hcode,Oa];simp only[a_,l_,d_];rw[show Sto.mk s.h0 s.h1 s.sel=s from rfl]
 cases decide (s.ok b.H0)<;>rfl
def Bg3{t:Sto}(h:(s.act room half bud t).2.2≠0):(s.act room half bud t).2.1=0:=by
 unfold Sto.act at*;split
 ·rfl
 ·split
  ·rfl
  ·rename_i h1 h2
   rw[if_neg h1,if_neg h2]at h;exact absurd rfl h
def Bai(h:(s.write room half d bud).2.2≠0):(s.write room half d bud).2.1=0:=by
 unfold Sto.write at*;split
 ·rfl
 ·split
  ·rfl
  ·split
   ·rfl
   ·rename_i h1 h2 h3
    rw[if_neg h1,if_neg h2,if_neg h3]at h;exact absurd rfl h
def Azf(bud:Int):decide (bud<0)=!decide (0≤bud):=XX bud 0
def Agt(hb:b.small)(hcode:b.code=0)(s:Sto){m:Img}(hf:m.fit)(hl:m.A0.length≤5000)(hbud:bud<9223372036854775808):
  ND b.C0 b.E0 b.H0 b.M0 b.J0 b.L0 b.N0 b.B0 s.h0 s.h1 s.sel m.F0 m.O0 m.K0 m.A0 bud=C (I (Dy b s m bud)):=by
 have hmx:100000≤maxLen:=by decide
 have hp:=hf.p;have he:=hf.e;have hcars:=Aj hcode;unfold ND Dy;rw[Aim hcode,Qs hb m ω ω,Aed hb hf,Azf]
 simp only[a_];by_cases hs:s.ok b.H0
 ·rw[b_ hs]
  by_cases hb0:0≤bud
  ·rw[b_ hb0]
   cases hok:m.ok b with
   |false=>rfl
   |true=>
    have hm:=Img.ok_iff.1 hok;have hlp:=hm.lp;have hsn:UP b m=CN m:=by unfold UP;rw[hok];rfl
    have hsl:=YV m;have hby:=Anl hb ω (rs:=CN m) (by rw[hsl];omega)
    rw[Aa6 (SQ hm)]at hby
    have hsel:aH.wrap (1-s.sel)=1-s.sel:=by
     obtain⟨_,_,_,_,h5⟩:=hs;exact Aa ω ω
    simp only[a3_,o_,c_,hsn,hby,a_,hsel,Azz _ _ _ _ _ _ hbud,I];have hb1:=Ap0 b.H0 s (1-s.sel) bud (s.set (1-s.sel) noB) hbud;have he1:(s.erase b.H0 (1-s.sel) bud).2.2≠0→(s.erase b.H0 (1-s.sel) bud).2.1=0:=Bg3;rw[show s.act b.H0 (1-s.sel) bud (s.set (1-s.sel) noB)=s.erase b.H0 (1-s.sel) bud from rfl]at hb1
    rw[show Sto.mk s.h0 s.h1 s.sel=s from rfl]
    generalize s.erase b.H0 (1-s.sel) bud=r1 at hb1 he1⊢;by_cases hq:r1.2.2=0
    ·have hdl:(txt ((CN m).flatMap Cr)).size<1000000:=by rw[FI,Zu,hsl];omega
     simp only[hq,T_,c_,l_,d_,Ae3 _ _ _ _ _ _ _ hb1 hdl,a_,I];have hb2:=Ai8 b.H0 r1.1 (1-s.sel) (txt ((CN m).flatMap Cr)) r1.2.1 hb1;have he2:(r1.1.write b.H0 (1-s.sel) (txt ((CN m).flatMap Cr)) r1.2.1).2.2≠0→(r1.1.write b.H0 (1-s.sel) (txt ((CN m).flatMap Cr)) r1.2.1).2.1=0:=Bai;rw[show Sto.mk r1.1.h0 r1.1.h1 r1.1.sel=r1.1 from rfl]
     generalize r1.1.write b.H0 (1-s.sel) (txt ((CN m).flatMap Cr)) r1.2.1=r2 at hb2 he2⊢;by_cases hq2:r2.2.2=0
     ·simp only[hq2,T_,c_,l_,d_,Aud _ _ _ _ _ _ hb2,a_,I]
     ·rw[FG hq2,An hq2,d_,c_,he2 hq2]
    ·rw[FG hq,An hq,d_,c_,he1 hq]
  ·rw[f_ hb0];rfl
 ·rw[f_ hs];rfl
def Agv(hb:b.small)(hcode:b.code=0)(s:Sto)(hs:s.cur.size≤5000)(hbud:bud<9223372036854775808)(hR:JK b.C0 b.E0 b.H0 b.M0 b.J0 b.L0 b.N0 b.B0 s.h0 s.h1 s.sel=C (((),()),((CC b s).tup,()))):
  NF b.C0 b.E0 b.H0 b.M0 b.J0 b.L0 b.N0 b.B0 s.h0 s.h1 s.sel bud=C (Az5 (Dd b s bud).1 (Dd b s bud).2.1 (Dd b s bud).2.2.1 (Dd b s bud).2.2.2):=by
 have hc:=Aj hcode;obtain⟨hok,hle,hf⟩:=Aip hcode s ω
 have hle2:(CC b s).A0.length≤900:=by
  have h2:=(Uj (Abc hcode) (rs:=NV b s.cur) λr hr=>Vl b _ _ r hr).2
  have h3:=YL b s.cur.size (bl s.cur);rw[Gg]at h3;have h4:(GG b).A0.length=0:=rfl;have h5:(NV b s.cur).length=(Na b s.cur.size (bl s.cur)).length:=rfl;show(AB (GG b) (NV b s.cur)).A0.length≤_;omega
 unfold NF;rw[Aim hcode,hR];simp only[a_,Img.tup];rw[Agt hb hcode s hf ω hbud]
 simp only[a_,I];unfold Dd;cases hq:decide (s.ok b.H0)&&decide (0≤bud)with
 |false=>
  have e:Dy b s (CC b s) bud=(aC,0,1):=by
   unfold Dy;rw[Azf];rw[Bool.and_eq_false_iff]at hq;rcases hq with hq | hq
   ·rw[hq];rfl
   ·rw[hq]
    cases decide (s.ok b.H0)<;>rfl
  rw[e];rfl
 |true=>
  generalize Dy b s (CC b s) bud=w;cases w.2.2 !=0<;>rfl
def Ajy(hcode:b.code=0):JK b.C0 b.E0 b.H0 b.M0 b.J0 b.L0 b.N0 b.B0 Sto.no.h0 Sto.no.h1 Sto.no.sel=C (((),()),((CC b aC).tup,())):=by
 have hcars:=Aj hcode;unfold JK;rw[Agu hcode ω,Aan]
 simp only[a_];have h:∀t,Ph ((noB,(),([]:List aA),(0:Int),()),t)=C (([],0,()),()):=λt=>Ai (f:=1) (Az rfl) (by decide)
 unfold VU;rw[show Sto.cur ⟨Sto.no.h0,Sto.no.h1,Sto.no.sel⟩=noB from rfl,h]
 simp only[a_];have h2:∀a c d,MO (((),(),(),([]:List aA),(0:Int),()),(a,c,d,()))=C (((),(),()),(c,d,())):=λa c d=>Ai (f:=1) (Az rfl) (by decide)
 rw[h2];rfl
def Apo(hb:b.small)(m:Img)(hc:b.B0.length≤100000)(hf:m.fit):OX b.C0 b.E0 b.H0 b.M0 b.J0 b.L0 b.N0 b.B0 m.F0 m.O0 m.K0 m.A0=C ((PI b m,()),()):=by
 have hmx:100000≤maxLen:=by decide
 have hp:=hf.p;have he:=hf.e;unfold OX PI;rw[Qs hb m ω ω]
 simp only[a_,Bm1 hc he];cases m.ok b<;>rfl
def Aks(b:Bldg)(hc:b.B0.length≤1000)(m:Img)(z o:Mch)(ho:o.W0=[]):La (((),(),(),(b.B0.length:Int),(),(0:Int),()),(b.tup,m.tup,z.tup,o.tup,()))=C (((),(),(),(),()),(b.tup,m.tup,z.tup,(o.withB (aF b.B0.length VJ)).tup,())):=by
 have h:=AP (step:=λx=>letI d:=x.2.2.2;letI j:=d.2.1.2;letI a:=j.2.2.2.2;letI k:=d.1.2;letI c:=k.2.2.2.2;letI e:=c.2.2.2.2;letI f:=a.2.2.2.2;letI g:=x.2.1.2.2;letI n:=e.2.2;letI q:=f.2.2;letI r:=g.2.2;letI s:=x.2.2.1;ID x.1.2.2.2.1 x.1.2.2.2.2.2.1 x.2.1.1 x.2.1.2.1 g.1 g.2.1 r.1 r.2.1 r.2.2.1 r.2.2.2.1 s.1 s.2.1 s.2.2.1 s.2.2.2.1 d.1.1 k.1 k.2.1 k.2.2.1 k.2.2.2.1 c.1 c.2.1 c.2.2.1 c.2.2.2.1 e.1 e.2.1 n.1 n.2.1 n.2.2.1 n.2.2.2.1 n.2.2.2.2.1 d.2.1.1 j.1 j.2.1 j.2.2.1 j.2.2.2.1 a.1 a.2.1 a.2.2.1 a.2.2.2.1 f.1 f.2.1 q.1 q.2.1 q.2.2.1 q.2.2.2.1 q.2.2.2.2.1) b.B0.length (λi (l:List Belief)=>(((),(),(),(b.B0.length:Int),(),(i:Int),()),(b.tup,m.tup,z.tup,(o.withB l).tup,()))) (λ_ l=>l++[VJ]) (λi l=>l.length≤i) (λl=>(((),(),(),(),()),(b.tup,m.tup,z.tup,(o.withB l).tup,()))) (λi l hi hl=>by
  refine⟨?_,by rw[h_,J_];omega⟩
  show ID (b.B0.length:Int) (i:Int) b.C0 b.E0 b.H0 b.M0 b.J0 b.L0 b.N0 b.B0 m.F0 m.O0 m.K0 m.A0 z.G0.F0 z.G0.O0 z.G0.K0 z.G0.A0 z.Z0.h0 z.Z0.h1 z.Z0.sel z.S1 z.W0 z.B0 z.R2 z.U1 z.B3 z.T3 z.T2 z.H2 (o.withB l).G0.F0 (o.withB l).G0.O0 (o.withB l).G0.K0 (o.withB l).G0.A0 (o.withB l).Z0.h0 (o.withB l).Z0.h1 (o.withB l).Z0.sel (o.withB l).S1 (o.withB l).W0 (o.withB l).B0 (o.withB l).R2 (o.withB l).U1 (o.withB l).B3 (o.withB l).T3 (o.withB l).T2 (o.withB l).H2=_;unfold ID Om;simp only[b_ (ω:(i:Int)<(b.B0.length:Int)),d_,a_,Dp hi (show b.B0.length≤AG by unfold AG;omega)]
  rw[Ay (show(o.withB l).W0.length+[Belief.mk (-1) 0 0 [] 0 A].length≤2147483648 by show l.length+1≤_;omega)]
  rfl) (λl _=>by
  show ID (b.B0.length:Int) (b.B0.length:Int) b.C0 b.E0 b.H0 b.M0 b.J0 b.L0 b.N0 b.B0 m.F0 m.O0 m.K0 m.A0 z.G0.F0 z.G0.O0 z.G0.K0 z.G0.A0 z.Z0.h0 z.Z0.h1 z.Z0.sel z.S1 z.W0 z.B0 z.R2 z.U1 z.B3 z.T3 z.T2 z.H2 (o.withB l).G0.F0 (o.withB l).G0.O0 (o.withB l).G0.K0 (o.withB l).G0.A0 (o.withB l).Z0.h0 (o.withB l).Z0.h1 (o.withB l).Z0.sel (o.withB l).S1 (o.withB l).W0 (o.withB l).B0 (o.withB l).R2 (o.withB l).U1 (o.withB l).B3 (o.withB l).T3 (o.withB l).T2 (o.withB l).H2=_;unfold ID;simp only[f_ (H_ (b.B0.length:Int)),c_]
  rfl) b.B0.length 0 [] ω (by simp)
 have h':=Ai h.1 ω
 rw[HE (λ_=>[VJ]),Ant,a2_]at h'
 rw[show o.tup=(o.withB []).tup by unfold Mch.withB Mch.tup;rw[ho]]
 exact h'
def Akt(b:Bldg)(m:Img)(hl:m.A0.length≤100000)(hcar:∀e∈m.A0,e.S0<(b.B0.length:Int))(z o:Mch)(ho:o.U1=[]):Lb (((),(),(),(),(0:Int),()),(b.tup,m.tup,z.tup,o.tup,()))=C (((),(),()),(z.tup,(o.withE (m.A0.map (SS b))).tup,())):=by
 have h:=AP (step:=λx=>letI d:=x.2.2.2;letI l:=d.2.1.2;letI a:=l.2.2.2.2;letI n:=d.1.2;letI c:=n.2.2.2.2;letI f:=c.2.2.2.2;letI j:=a.2.2.2.2;letI k:=x.2.1.2.2;letI r:=f.2.2;letI s:=j.2.2;letI u:=k.2.2;letI w:=x.2.2.1;IE x.1.2.2.2.2.1 x.2.1.1 x.2.1.2.1 k.1 k.2.1 u.1 u.2.1 u.2.2.1 u.2.2.2.1 w.1 w.2.1 w.2.2.1 w.2.2.2.1 d.1.1 n.1 n.2.1 n.2.2.1 n.2.2.2.1 c.1 c.2.1 c.2.2.1 c.2.2.2.1 f.1 f.2.1 r.1 r.2.1 r.2.2.1 r.2.2.2.1 r.2.2.2.2.1 d.2.1.1 l.1 l.2.1 l.2.2.1 l.2.2.2.1 a.1 a.2.1 a.2.2.1 a.2.2.2.1 j.1 j.2.1 s.1 s.2.1 s.2.2.1 s.2.2.2.1 s.2.2.2.2.1) m.A0.length (λi (q:List Int)=>(((),(),(),(),(i:Int),()),(b.tup,m.tup,z.tup,(o.withE q).tup,()))) (λi q=>q++[SS b (m.A0.getD i noE)]) (λi q=>q.length≤i) (λq=>(((),(),()),(z.tup,(o.withE q).tup,()))) (λi q hi hq=>by
  refine⟨?_,by rw[h_,J_];omega⟩
  have hc:=hcar _ (CA noE hi);have b1:∀v:Int,Nat.ble ((o.withE q).U1.length+[v].length) 2147483648=D:=λv=>Ay (by show q.length+1≤_;omega)
  show IE (i:Int) b.C0 b.E0 b.H0 b.M0 b.J0 b.L0 b.N0 b.B0 m.F0 m.O0 m.K0 m.A0 z.G0.F0 z.G0.O0 z.G0.K0 z.G0.A0 z.Z0.h0 z.Z0.h1 z.Z0.sel z.S1 z.W0 z.B0 z.R2 z.U1 z.B3 z.T3 z.T2 z.H2 (o.withE q).G0.F0 (o.withE q).G0.O0 (o.withE q).G0.K0 (o.withE q).G0.A0 (o.withE q).Z0.h0 (o.withE q).Z0.h1 (o.withE q).Z0.sel (o.withE q).S1 (o.withE q).W0 (o.withE q).B0 (o.withE q).R2 (o.withE q).U1 (o.withE q).B3 (o.withE q).T3 (o.withE q).T2 (o.withE q).H2=_;unfold IE;rw[show Entry.mk 0 0 0 0 A=noE from rfl]
  simp only[b_ (ω:(i:Int)<(m.A0.length:Int)),Ac (ω:(0:Int)≤(i:Int)) (ω:(i:Int)<(m.A0.length:Int)),d_,i_]
  have hex:SS b (m.A0.getD i noE)=bif decide (0≤(m.A0.getD i noE).S0)then(HY b (m.A0.getD i noE).S0.toNat).I1 else 0:=rfl;rw[hex];by_cases g:0≤(m.A0.getD i noE).S0
  ·rw[b_ g,Ac g hc]
   simp only[d_,a_,b1,Dp hi (show m.A0.length≤AG by unfold AG;omega)]
   rfl
  ·rw[f_ g]
   simp only[c_,d_,a_,b1,Dp hi (show m.A0.length≤AG by unfold AG;omega)]
   rfl) (λq _=>by
  show IE (m.A0.length:Int) b.C0 b.E0 b.H0 b.M0 b.J0 b.L0 b.N0 b.B0 m.F0 m.O0 m.K0 m.A0 z.G0.F0 z.G0.O0 z.G0.K0 z.G0.A0 z.Z0.h0 z.Z0.h1 z.Z0.sel z.S1 z.W0 z.B0 z.R2 z.U1 z.B3 z.T3 z.T2 z.H2 (o.withE q).G0.F0 (o.withE q).G0.O0 (o.withE q).G0.K0 (o.withE q).G0.A0 (o.withE q).Z0.h0 (o.withE q).Z0.h1 (o.withE q).Z0.sel (o.withE q).S1 (o.withE q).W0 (o.withE q).B0 (o.withE q).R2 (o.withE q).U1 (o.withE q).B3 (o.withE q).T3 (o.withE q).T2 (o.withE q).H2=_;unfold IE;simp only[f_ (H_ (m.A0.length:Int)),c_]
  rfl) m.A0.length 0 [] ω (by simp)
 have h':=Ai h.1 ω
 rw[HE (λi=>[SS b (m.A0.getD i noE)]),MY (λe=>[SS b e]) noE m.A0 0 m.A0.length ω,Q_,Bcz,a2_]at h'
 rw[show o.tup=(o.withE []).tup by unfold Mch.withE Mch.tup;rw[ho]]
 exact h'
def Anm(hb:b.small)(m:Img)(hf:m.fit)(hc:b.B0.length≤1000)(s:Sto):QL b.C0 b.E0 b.H0 b.M0 b.J0 b.L0 b.N0 b.B0 m.F0 m.O0 m.K0 m.A0 s.h0 s.h1 s.sel=C (((),(PK b m s).2,()),((PK b m s).1.tup,())):=by
 unfold QL PK;rw[Apo hb m ω hf,Oa]
 simp only[a_];cases hq:PI b m with
 |false=>rfl
 |true=>
  have hm:ImgOK b m:=by
   unfold PI at hq;rw[e_]at hq;exact Img.ok_iff.1 hq.1
  by_cases hs:s.ok b.H0
  ·rw[b_ (show Sto.ok b.H0 ⟨s.h0,s.h1,s.sel⟩from hs)]
   have e:=hf.e
   let o:Mch:=⟨m,s,aF b.B0.length Ct,[],aF b.B0.length AX,aF b.B0.length Hs,[],aF b.B0.length Agl,0,0,0⟩
   have l0:=Aks b hc m Mch.none o rfl;have l1:=Akt b m e (λx hx=>(Dt.1 (hm.en x hx)).2.1.2) Mch.none (o.withB (aF b.B0.length VJ)) rfl
   simp only[Mch.tup,Img.tup,Bldg.tup,Mch.withB,Mch.withE,Mch.none,Img.none,aC,noB,o]at l0 l1
   have dl:∀n:Nat,n≤1000→(decide ((0:Int)≤(n:Int))&&decide ((n:Int)≤(n:Int))&&decide ((n:Int)≤(2147483648:Int)))=D:=λn hn=>by
    rw[b_ (ω:(0:Int)≤(n:Int)),b_ (e1_ (n:Int)),b_ (ω:(n:Int)≤2147483648)];rfl
   simp only[o_,c_,d_,dl _ hc,i_];rw[show Debounced.mk 0 A A A A 0 0 0 0 0 0 0 0 0 0 0 0 0 0 0 0 0 0 0 0 0 0 0 0 0 0 0 0 0 0 0 0 0 0 0 0=Ct from rfl,show NewCar.mk 0 0 0 0 0 A 0 0 0 0 0 0 0 A=AX from rfl,show Loaded.mk 0=Hs from rfl,show Calls.mk 0 0=Agl from rfl]
   rw[l0];simp only[a_];rw[l1];rfl
  ·rw[f_ (show ¬Sto.ok b.H0 ⟨s.h0,s.h1,s.sel⟩from hs)]
   rfl
def Apn(hb:b.small)(hcode:b.code=0)(s:Sto)(hs:s.cur.size≤5000)(hbud:bud<9223372036854775808)(hR:JK b.C0 b.E0 b.H0 b.M0 b.J0 b.L0 b.N0 b.B0 s.h0 s.h1 s.sel=C (((),()),((CC b s).tup,()))):OW b.C0 b.E0 b.H0 b.M0 b.J0 b.L0 b.N0 b.B0 s.h0 s.h1 s.sel bud=C (((),(Px b s bud).2.1,(Px b s bud).2.2,()),((Px b s bud).1.tup,())):=by
 have hc:=Aj hcode;unfold OW Px;rw[Agv hb hcode s hs hbud hR];have hf:=Bh4 hcode s ω bud
 simp only[a_,Az5,Img.tup];generalize Dd b s bud=w at hf⊢;cases w.2.2.2 !=0 with
 |true=>rfl
 |false=>
  simp only[c_];rw[Anm hb w.2.1 hf ω w.1]
  simp only[a_,Mch.tup];generalize PK b w.2.1 w.1=f;cases f.2 !=0<;>rfl
def Ann(hb:b.small)(hcode:b.code=0):HD b.C0 b.E0 b.H0 b.M0 b.J0 b.L0 b.N0 b.B0=C (((),(PT b).2,()),((PT b).1.tup,())):=by
 unfold HD PT;rw[hcode];simp only[l_,d_];rw[show OW b.C0 b.E0 b.H0 b.M0 b.J0 b.L0 b.N0 b.B0 (aG (Array.mk [])) (aG (Array.mk [])) 0 1048576=_ from Apn hb hcode aC (by decide) (bud:=1048576) ω (Ajy hcode)]
 rfl
end Go.Ovl
