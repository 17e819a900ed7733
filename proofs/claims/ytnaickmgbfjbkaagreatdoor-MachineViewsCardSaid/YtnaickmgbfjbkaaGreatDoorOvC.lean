import Derived.Test.YtnaickmgbfjbkaaGreatDoorOvB
import Derived.Test.YtnaickmgbfjbkaaGreatDoorDefs6
set_option linter.all false
set_option maxRecDepth 100000
open Go.Ovl.Sat renaming ret->A,bifT->E,bindS->H,bic->I,bindE->S,loop->aA
open Bool renaming true->B,false->C,and_eq_true_iff->aP
open Go.Ovl renaming Aa->J,bv->N,Bldg->V,Sat->W,View->aB,Feedback->aD,CarInput->aE
open Go.Ab renaming inB->O
open Go.IntKind renaming i64->U,wrap->Y,u64->aG,u32->aJ
open Int renaming tmod->X,toNat->Z,fdiv->aK,eq_ofNat_of_zero_le->aQ
open Option renaming some->aC
open Nat renaming blt->aF,not_lt_zero->aM
open Go.Ovl.View renaming mk->aH
open List renaming replicate->aI
open Min renaming min->aL
open Go.Ovl.Calls renaming mk->aN
open Go.Ovl.CarInput renaming mk->aO
open BitVec renaming getLsbD_and->aR
namespace Go.Ovl
open Go Go.Ab
variable{b:V}{t:Tk}{i j most:Nat}{m:Mch}{α:Type}{s:ByteArray}{n:Int}{p:α->Bool}{l:List α}
def TI.wr(h:TI b t){im:Img}{s:Sto}{bu e:Int}(h1:ImgOK b im)(h2:bu<9223372036854775808)(h3:im.A0=t.m.H0.A0):TI b (t.wr im s bu e):=⟨h1,h.con,h.bel,h.beld,h.car,h.caru,h.lod,h.lit,by show t.m.J1.length=im.A0.length;rw[h3];exact h.exl,h.exv,h2,h.oc,h.su⟩
def TL.wr(h:TL b t)(im:Img)(s:Sto)(bu e:Int):TL b (t.wr im s bu e):=⟨h.shows,h.was,h.cmds⟩
def Tk.stat(t:Tk)(n:Int):Tk:={ t with out:={ t.out with G5:=n } }
def TI.stat(h:TI b t)(n:Int):TI b (t.stat n):=⟨h.img,h.con,h.bel,h.beld,h.car,h.caru,h.lod,h.lit,h.exl,h.exv,h.bud,h.oc,h.su⟩
def TL.stat(h:TL b t)(n:Int):TL b (t.stat n):=⟨h.shows,h.was,h.cmds⟩
section
variable{b:V}(hb:b.small)(hcode:b.code=0){x:Inp}{g:Bool}(hx:g=B->x.cars.length=b.B0.length/\0<=x.car/\x.car<(b.B0.length:Int))
include hb hcode in
theorem Bdy(hi:TI b t)(hl:TL b t):W (DJ b.D0 b.E0 b.J0 b.O0 b.L0 b.N0 b.P0 b.B0 t.m.H0.F0 t.m.H0.M0 t.m.H0.I0 t.m.H0.A0 t.m.W0.h0 t.m.W0.h1 t.m.W0.sel t.m.E1 t.m.R0 t.m.B0 t.m.Y1 t.m.J1 t.m.D3 t.m.C3 t.m.J2 t.m.C2 x.press.1 x.press.2 x.kind x.car x.cars g t.shows t.was t.cmds t.budget t.e t.out.E5 t.out.P4 t.out.B5 t.out.H3 t.out.O5 t.out.N0 t.out.G5 t.out.B0) λy=>∃t',y=((),(t'.tup b x g,()))/\TI b t'/\TL b t':=by
 have hc:=Ai hcode;unfold DJ;refine H (Q:=λy=>∃l:List Record,y=(((),l,()),(t.tup b x g,()))/\l.length<=1000/\K456 l) ?_ λy hy=>?_
 .refine aA (λ(k:Nat) z=>∃(l:List Record) (i:Nat),z=(((),l,(i:Int),()),(t.tup b x g,()))/\l.length<=i/\K456 l/\i+k=b.B0.length) (λk z hz=>?_) b.B0.length ⟨[],0,rfl,H_ 0,K1.nil.2,k_ _⟩ ω;obtain⟨l,i,rfl,h1,h2,hk⟩:=hz;unfold IT;refine I (λgg=>?_) λ_=>A ⟨l,rfl,ω,h2⟩;have gg:(i:Int)<(b.B0.length:Int):=o_ gg;have w:=Br (n:=i) ω;have i2:O (i:Int) t.m.R0.length=B:=J ω (by rw[hi.bel];exact gg);have i3:O (i:Int) t.m.B0.length=B:=J ω (by rw[hi.car];exact gg);have i4:O (i:Int) t.was.length=B:=J ω (by rw[hl.was];exact gg);have i5:O (i:Int) t.m.H0.M0.length=B:=J ω (by rw[hi.img.lf];exact gg);refine E i4 ?_;refine H (Q:=λy=>∃q:Bool,y=(((),l,(i:Int),q,()),(t.tup b x g,()))) ?_ λy hy=>?_
  .refine H (Dv _) λ_ _=>I (λ_=>?_) λ_=>?_
   .refine E i2 (I (λ_=>E i5 (A ⟨_,rfl⟩)) λ_=>?_);refine H (Dn _) λ_ _=>I (λ_=>?_) λ_=>A ⟨_,rfl⟩;exact E i3 (I (λ_=>E i5 (A ⟨_,rfl⟩)) λ_=>A ⟨_,rfl⟩)
   .refine H (Dn _) λ_ _=>I (λ_=>?_) λ_=>A ⟨_,rfl⟩;exact E i3 (I (λ_=>E i5 (A ⟨_,rfl⟩)) λ_=>A ⟨_,rfl⟩)
  obtain⟨q,rfl⟩:=hy;refine I (λ_=>?_) λ_=>A ⟨k-1,ω,l,i+1,by first|(rw[<-w];rfl)|rw[<-w],ω,h2,ω⟩;refine E (Ah (ω:l.length+1<=_)) (A ⟨k-1,ω,l++[Record.mk 5 0 0 (i:Int) 1],i+1,by first|(rw[<-w];rfl)|rw[<-w],?_,h2.app (K1.r5 _ _ _ _).2,ω⟩);rw[h_];show l.length+1<=_;omega
 .obtain⟨l,rfl,h1,h2⟩:=hy;refine H (Ym hb hcode hi.img hi.bud l ω) λy hy=>?_;obtain⟨im,s,bu,e,rfl,w1,w2,w3⟩:=hy;exact A ⟨t.wr im s bu e,rfl,hi.wr w1 w2 (w3 h2),hl.wr _ _ _ _⟩
include hb hcode in
theorem Asp(hi:TI b t)(hxl:x.cars.length=b.B0.length):W (CF (r27_ticker.mk b.D0 b.E0 b.J0 b.O0 b.L0 b.N0 b.P0 b.B0 t.m.H0.F0 t.m.H0.M0 t.m.H0.I0 t.m.H0.A0 t.m.W0.h0 t.m.W0.h1 t.m.W0.sel t.m.E1 t.m.R0 t.m.B0 t.m.Y1 t.m.J1 t.m.D3 t.m.C3 t.m.J2 t.m.C2 x.press.1 x.press.2 x.kind x.car x.cars g t.shows t.was t.cmds t.budget t.e t.out.E5 t.out.P4 t.out.B5 t.out.H3 t.out.O5 t.out.N0 t.out.G5 t.out.B0)) λy=>∃c:List Bool,y=((c,()),())/\c.length=b.B0.length:=by
 have hc:=Ai hcode;unfold CF;have hcap:((decide ((0:Int)<=(b.B0.length:Int))&&decide ((b.B0.length:Int)<=(b.B0.length:Int)))&&decide ((b.B0.length:Int)<=2147483648))=B:=by simp only[b_ (ω:(0:Int)<=(b.B0.length:Int)),b_ (a2_ (b.B0.length:Int)),b_ (ω:(b.B0.length:Int)<=2147483648),V_]
 refine E hcap ?_;refine H (Q:=λy=>∃c:List Bool,y=((c,()),())/\c.length=b.B0.length) ?_ λy hy=>by obtain⟨c,rfl,h⟩:=hy;exact A ⟨c,rfl,h⟩
 refine aA (λ(k:Nat) z=>∃(c:List Bool) (i:Nat),z=((r27_ticker.mk b.D0 b.E0 b.J0 b.O0 b.L0 b.N0 b.P0 b.B0 t.m.H0.F0 t.m.H0.M0 t.m.H0.I0 t.m.H0.A0 t.m.W0.h0 t.m.W0.h1 t.m.W0.sel t.m.E1 t.m.R0 t.m.B0 t.m.Y1 t.m.J1 t.m.D3 t.m.C3 t.m.J2 t.m.C2 x.press.1 x.press.2 x.kind x.car x.cars g t.shows t.was t.cmds t.budget t.e t.out.E5 t.out.P4 t.out.B5 t.out.H3 t.out.O5 t.out.N0 t.out.G5 t.out.B0,c,(i:Int),()),())/\c.length=b.B0.length/\i+k=b.B0.length) (λk z hz=>?_) b.B0.length ⟨_,0,rfl,by rw[J_,i_],k_ _⟩ ω;obtain⟨c,i,rfl,h1,hk⟩:=hz;unfold JL;refine I (λgg=>?_) λ_=>A ⟨c,rfl,h1⟩;have gg:(i:Int)<(c.length:Int):=o_ gg;have hin:i<b.B0.length:=ω;have w:=Br (n:=i) ω;have i1:O (i:Int) t.m.H0.F0.length=B:=J ω (by rw[hi.img.lp];omega);have i2:O (i:Int) t.m.R0.length=B:=J ω (by rw[hi.bel];omega);have i3:O (i:Int) t.m.B0.length=B:=J ω (by rw[hi.car];omega);have i4:O (i:Int) c.length=B:=J ω gg;have i5:O (i:Int) x.cars.length=B:=J ω ω;have hbd:(t.m.R0.getD i Pm).K0.length<=1000:=hi.beld _ (AT _ (by rw[hi.bel];exact hin));have hcu:ucR (t.m.B0.getD i WM).I1:=hi.caru _ (AT _ (by rw[hi.car];exact hin));refine E i1 (H (Dv _) λ_ _=>I (λ_=>?_) λ_=>?_)
 .refine E i2 (H (Aq4 hb hcode hin (t.m.R0.getD i Pm) hbd) λy _=>E i4 ?_);exact A ⟨k-1,ω,c.set i y.1.1,i+1,by first|(rw[<-w];rfl)|rw[<-w],by rw[E_];exact h1,ω⟩
 refine H (Dn _) λ_ _=>I (λ_=>?_) λ_=>?_
 .refine E i3 (E i5 (H (Aq2 hb hcode (t.m.B0.getD i WM) hcu _ _ _ _) λy _=>E i4 ?_));exact A ⟨k-1,ω,c.set i y.1.1,i+1,by first|(rw[<-w];rfl)|rw[<-w],by rw[E_];exact h1,ω⟩
 .exact A ⟨k-1,ω,c,i+1,by first|(rw[<-w];rfl)|rw[<-w],h1,ω⟩
include hb hcode hx in
theorem Az8(hi:TI b t)(hl:TL b t):W (Dr b.D0 b.E0 b.J0 b.O0 b.L0 b.N0 b.P0 b.B0 t.m.H0.F0 t.m.H0.M0 t.m.H0.I0 t.m.H0.A0 t.m.W0.h0 t.m.W0.h1 t.m.W0.sel t.m.E1 t.m.R0 t.m.B0 t.m.Y1 t.m.J1 t.m.D3 t.m.C3 t.m.J2 t.m.C2 x.press.1 x.press.2 x.kind x.car x.cars g t.shows t.was t.cmds t.budget t.e t.out.E5 t.out.P4 t.out.B5 t.out.H3 t.out.O5 t.out.N0 t.out.G5 t.out.B0) λy=>∃t',(y=.inl ((),(t'.tup b x g,()))\/y=.inr ((),(t'.tup b x g,())))/\TI b t'/\TL b t':=by
 have hc:=Ai hcode;unfold Dr;refine I (λ_=>A ⟨t,.inl rfl,hi,hl⟩) λhg=>?_;rw[d2_]at hg;obtain⟨hxl,hxc⟩:=hx hg;refine E (Ah (by show 0+t.m.H0.M0.length<=_;rw[hi.img.lf];omega)) ?_;refine H (Asp hb hcode hi hxl) λy hy=>?_;obtain⟨c1,rfl,hc1⟩:=hy;refine H (Aq9 hb hi.img x.kind x.car hc1) λy2 h2=>?_;refine H (Ym hb hcode (t:=t.stat y2.1.2.1) hi.img hi.bud y2.1.1 (by have:=h2.1;omega)) λy hy=>?_;obtain⟨im,s,bu,e,rfl,w1,w2,w3⟩:=hy;have hi2:=(hi.stat y2.1.2.1).wr (s:=s) (e:=e) w1 w2 (w3 h2.2);have hl2:=(hl.stat y2.1.2.1).wr im s bu e;generalize(t.stat y2.1.2.1).wr im s bu e=t2 at hi2 hl2;refine I (λ_=>A ⟨t2,.inl rfl,hi2,hl2⟩) λ_=>?_;refine E (Ah (by show 0+t2.m.H0.M0.length<=_;rw[hi2.img.lf];omega)) ?_;refine H (Asp hb hcode hi2 hxl) λy hy=>?_;obtain⟨c2,rfl,hc2⟩:=hy;refine H (Q:=λy=>∃c:List Bool,y=(((),[]++t.m.H0.M0,[]++t2.m.H0.M0,c,()),(t2.tup b x g,()))/\c.length=b.B0.length) ?_ λy hy=>?_
 .refine I (λ_=>?_) λ_=>A ⟨c2,rfl,hc2⟩;exact E (J hxc.1 (by rw[hc2];exact hxc.2)) (A ⟨_,rfl,by rw[E_];exact hc2⟩)
 obtain⟨c3,rfl,hc3⟩:=hy;refine H (Avh hb hi2.img hc3) λy6 h6=>?_;refine H (Ym hb hcode hi2.img hi2.bud y6.1.1 (by have:=h6.1;omega)) λy hy=>?_;obtain⟨im',s',bu',e',rfl,v1,v2,v3⟩:=hy;have hi3:=hi2.wr (s:=s') (e:=e') v1 v2 (v3 h6.2);have hl3:=hl2.wr im' s' bu' e';have hfl2:=hi2.img.lf;generalize t2.wr im' s' bu' e'=t3 at hi3 hl3;refine I (λ_=>A ⟨t3,.inl rfl,hi3,hl3⟩) λ_=>?_;refine H (Q:=λy=>∃t',y=((),(t'.tup b x g,()))/\TI b t'/\TL b t') ?_ λy hy=>by obtain⟨t',rfl,h⟩:=hy;exact A ⟨t',.inr rfl,h⟩
 have hA:([]++t.m.H0.M0).length=b.B0.length:=by rw[y_];exact hi.img.lf
 have hB:([]++t2.m.H0.M0).length=b.B0.length:=by rw[y_];exact hfl2
 generalize []++t.m.H0.M0=fa at hA;generalize []++t2.m.H0.M0=fb at hB;refine aA (λ(k:Nat) z=>∃(t':Tk) (i:Nat),z=(((),fa,fb,(i:Int),()),(t'.tup b x g,()))/\TI b t'/\TL b t'/\i+k=b.B0.length) (λk z hz=>?_) b.B0.length ⟨t3,0,rfl,hi3,hl3,k_ _⟩ ω;obtain⟨t',i,rfl,hi,hl,hk⟩:=hz;unfold Ix;refine I (λgg=>?_) λ_=>A ⟨t',rfl,hi,hl⟩;have gg:(i:Int)<(t'.was.length:Int):=o_ gg;have hwl:=hl.was;have hin:i<b.B0.length:=ω;have w:=Br (n:=i) ω;have i1:O (i:Int) t'.m.H0.F0.length=B:=J ω (by rw[hi.img.lp];omega);have i2:O (i:Int) t'.m.R0.length=B:=J ω (by rw[hi.bel];omega);have i3:O (i:Int) t'.m.B0.length=B:=J ω (by rw[hi.car];omega);have i4:O (i:Int) t'.was.length=B:=J ω gg;have i5:O (i:Int) t'.cmds.length=B:=J ω (by rw[hl.cmds];omega);have i6:O (i:Int) fa.length=B:=J ω ω;have i7:O (i:Int) fb.length=B:=J ω ω;have hbd:(t'.m.R0.getD i Pm).K0.length<=1000:=hi.beld _ (AT _ (by rw[hi.bel];exact hin));refine E i4 (E i1 ?_);refine H (Q:=λy=>∃q:Bool,y=(((),fa,fb,(i:Int),q,()),(t'.tup b x g,()))) ?_ λy hy=>?_
 .refine I (λ_=>?_) λ_=>A ⟨_,rfl⟩;refine H (Dv _) λ_ _=>I (λ_=>?_) λ_=>?_
  .refine H (Dv _) λ_ _=>I (λ_=>?_) λ_=>A ⟨_,rfl⟩;refine H (Dn _) λ_ _=>I (λ_=>?_) λ_=>A ⟨_,rfl⟩;exact H (Dn _) λ_ _=>A ⟨_,rfl⟩
  .refine H (Dn _) λ_ _=>I (λ_=>?_) λ_=>A ⟨_,rfl⟩;exact H (Dn _) λ_ _=>A ⟨_,rfl⟩
 obtain⟨q,rfl⟩:=hy;refine I (λ_=>?_) λ_=>?_
 .refine S rfl (E i2 (E i3 (E i5 ?_)));refine A ⟨k-1,ω,(t'.sBel i (Belief.mk (-1) 0 0 [] 0 C)).sCar i (NewCar.mk 0 0 0 0 0 C 0 0 0 0 0 0 0 C) 0,i+1,by first|(rw[<-w];rfl)|rw[<-w],(hi.sBel i (G_ _)).sCar i ⟨a2_ 0,show(0:Int)<4294967296 from by decide⟩ _,(hl.sBel i _).sCar i _ _,ω⟩
 refine H (Q:=λy=>∃q:Bool,y=(((),fa,fb,(i:Int),q,()),(t'.tup b x g,()))) ?_ λy hy=>?_
 .exact E i6 (I (λ_=>E i7 (A ⟨_,rfl⟩)) λ_=>A ⟨_,rfl⟩)
 obtain⟨q,rfl⟩:=hy;refine I (λ_=>?_) λ_=>A ⟨k-1,ω,t',i+1,by first|(rw[<-w];rfl)|rw[<-w],hi,hl,ω⟩;refine E i2 (H (Ao4 hb hcode hin (t'.m.R0.getD i Pm) hbd) λy5 h5=>E i2 (E i3 (E i5 ?_)));refine A ⟨k-1,ω,(t'.sBel i (Belief.mk y5.2.1.1 y5.2.1.2.1 y5.2.1.2.2.1 y5.2.1.2.2.2.1 y5.2.1.2.2.2.2.1 y5.2.1.2.2.2.2.2.1)).sCar i (NewCar.mk 0 0 0 0 0 C 0 0 0 0 0 0 0 C) 0,i+1,by first|(rw[<-w];rfl)|rw[<-w],(hi.sBel i h5).sCar i ⟨a2_ 0,show(0:Int)<4294967296 from by decide⟩ _,(hl.sBel i _).sCar i _ _,ω⟩
end
def Bld(p:Outputs):Int×Int×Int×Int×Bool×Bool×Int×List CarOutput×Unit:=(p.E5,p.P4,p.B5,p.H3,p.O5,p.N0,p.G5,p.B0,())
def coT(x:CarOutput):Int×Int×Bool×Int×Int×Bool×Int×Int×Bool×Unit:=(x.Z2,x.T2,x.N4,x.D5,x.O4,x.M5,x.J5,x.K5,x.N5,())
def Ay9(b:V)(vs:List aB)(ps:List Calls):∀(m i:Nat) (s:Lan),(Cr (Qa b vs ps) m i s).lit.length=s.lit.length+m/\(Cr (Qa b vs ps) m i s).gong.length=s.gong.length+m
 |0,_,_=>⟨rfl,rfl⟩
 |m+1,i,s=>by
  obtain⟨h1,h2⟩:=Ay9 b vs ps m (i+1) (Qa b vs ps i s);have e1:(Qa b vs ps i s).lit.length=s.lit.length+1:=by unfold Qa;show(s.lit++[_]).length=_;rw[h_];rfl
  have e2:(Qa b vs ps i s).gong.length=s.gong.length+1:=by unfold Qa;show(s.gong++[_]).length=_;rw[h_];rfl
  exact⟨by show(Cr (Qa b vs ps) m (i+1) (Qa b vs ps i s)).lit.length=_;omega,by show(Cr (Qa b vs ps) m (i+1) (Qa b vs ps i s)).gong.length=_;omega⟩
def Az5(b:V)(m:Img)(xs:List Int)(vs:List aB)(ps:List Calls)(press:Int×Int)(good:Bool):(Ahr b m xs vs ps press good).lan.lit.length=vs.length/\(Ahr b m xs vs ps press good).lan.gong.length=vs.length:=by
 show(BH b m xs vs ps press good).lan.lit.length=vs.length/\(BH b m xs vs ps press good).lan.gong.length=vs.length;unfold BH;cases good with
 |true=>rw[d_,Apd];obtain⟨h1,h2⟩:=Ay9 b vs ps vs.length 0 Lan.none;exact⟨h1.trans (k_ _),h2.trans (k_ _)⟩
 |false=>exact⟨J_,J_⟩
structure TJ(b:Bldg)(t:Tk):Prop where
 img:ImgOK b t.m.H0
 con:t.m.E1.length=b.B0.length
 bel:t.m.R0.length=b.B0.length
 beld:∀x∈t.m.R0,x.K0.length<=1000
 car:t.m.B0.length=b.B0.length
 caru:∀x∈t.m.B0,ucR x.I1
 lod:t.m.Y1.length=b.B0.length
 lit:t.m.D3.length=b.B0.length
 exl:t.m.J1.length<=1000
 su:Ln (Ahg t.out)
 cmds:t.cmds.length=b.B0.length
def TJ.sBel(h:TJ b t)(i:Nat){v:Belief}(hv:v.K0.length<=1000):TJ b (t.sBel i v):=⟨h.img,h.con,by show(t.m.R0.set i v).length=_;rw[E_];exact h.bel,Ajb h.beld hv i,h.car,h.caru,h.lod,h.lit,h.exl,h.su,h.cmds⟩
def Tk.exp(t:Tk)(xs:List Int)(rf:Int)(fu:Bool):Tk:={ t with m:={ t.m with J1:=xs,C2:=rf },out:={ t.out with N0:=fu } }
def Alg(a c:Int):W (MJ a c) λ_=>True:=by unfold MJ;exact Sat.go
structure RI(b:Bldg)(r:Rnd):Prop where
 recs:r.recs.length<=1000
 lit:r.lan.lit.length=b.B0.length
 gong:r.lan.gong.length=b.B0.length
 xs:r.xs.length<=1000
section
variable{b:V}(hb:b.small)(hcode:b.code=0)(hc3:b.B0.length<=3)(hld:b.loads){x:Inp}{g:Bool}(hx:g=B->x.cars.length=b.B0.length/\0<=x.car/\x.car<(b.B0.length:Int))
include hb hcode hc3 hx in
theorem Bdz(hi:TI b t)(hl:TL b t):W (DK b.D0 b.E0 b.J0 b.O0 b.L0 b.N0 b.P0 b.B0 t.m.H0.F0 t.m.H0.M0 t.m.H0.I0 t.m.H0.A0 t.m.W0.h0 t.m.W0.h1 t.m.W0.sel t.m.E1 t.m.R0 t.m.B0 t.m.Y1 t.m.J1 t.m.D3 t.m.C3 t.m.J2 t.m.C2 x.press.1 x.press.2 x.kind x.car x.cars g t.shows t.was t.cmds t.budget t.e t.out.E5 t.out.P4 t.out.B5 t.out.H3 t.out.O5 t.out.N0 t.out.G5 t.out.B0) λy=>∃(r:Rnd) (t':Tk),y=(((),()),(r.tup,t'.tup b x g,()))/\RI b r/\TJ b t'/\t'.out.B0=[]:=by
 have hc:=Ai hcode;unfold DK;refine H (Q:=λy=>∃vs:List aB,y=(((),(),vs,()),(Rnd.none.tup,t.tup b x g,()))/\vs.length=b.B0.length/\okViews vs) ?_ λy hy=>?_
 .refine aA (λ(k:Nat) z=>∃(vs:List aB) (i:Nat),z=(((),(),vs,(i:Int),()),(Rnd.none.tup,t.tup b x g,()))/\vs.length=i/\okViews vs/\i+k=b.B0.length) (λk z hz=>?_) b.B0.length ⟨[],0,rfl,rfl,λv h=>(by cases h),k_ _⟩ ω;obtain⟨vs,i,rfl,h1,h2,hk⟩:=hz;unfold IU;refine I (λgg=>?_) λgg=>A ⟨vs,rfl,?_,h2⟩
  .have gg:(i:Int)<(b.B0.length:Int):=o_ gg;have hin:i<b.B0.length:=ω;have w:=Br (n:=i) ω;have i4:O (i:Int) t.was.length=B:=J ω (by rw[hl.was];exact gg);have i6:O (i:Int) t.shows.length=B:=J ω (by rw[hl.shows];exact gg);have app:∀v:aB,v.ok->okViews (vs++[v]):=λv hv u hu=>by
    rcases u_.1 hu with hu|hu
    .exact h2 u hu
    .rw[d1_]at hu;subst hu;exact hv
   have ln:∀v:aB,(vs++[v]).length=i+1:=λv=>by rw[h_,h1];rfl
   refine H (Adh hi.img hin) λy1 u1=>I (λhg=>?_) λ_=>?_
   .obtain⟨hxl,_⟩:=hx hg;have i7:O (i:Int) x.cars.length=B:=J ω (by rw[hxl];exact gg);refine E i7 (H (Avj hb hi.img hi.bel hi.car hi.lod hi.beld hi.caru hin _ _ _ _) λy2 u2=>?_);refine E i4 (H (Dv _) λ_ _=>I (λ_=>?_) λ_=>?_)
    .refine E i6 (E (Ah (ω:vs.length+1<=_)) (A ⟨k-1,ω,vs++[aH y2.2.1.1 y2.2.1.2.1 y2.2.1.2.2.1 y2.2.1.2.2.2.1 y2.2.1.2.2.2.2.1 y2.2.1.2.2.2.2.2.1 y2.2.1.2.2.2.2.2.2.1 (t.shows.getD i (aN 0 0)).Up (t.shows.getD i (aN 0 0)).H5 y2.2.1.2.2.2.2.2.2.2.2.2.1 y2.2.1.2.2.2.2.2.2.2.2.2.2.1 y2.2.1.2.2.2.2.2.2.2.2.2.2.2.1],i+1,by first|(rw[<-w];rfl)|rw[<-w],ln _,app _ ⟨u2.1,u2.2.1,u2.2.2⟩,ω⟩))
    .exact E (Ah (ω:vs.length+1<=_)) (A ⟨k-1,ω,vs++[aH y2.2.1.1 y2.2.1.2.1 y2.2.1.2.2.1 y2.2.1.2.2.2.1 y2.2.1.2.2.2.2.1 y2.2.1.2.2.2.2.2.1 y2.2.1.2.2.2.2.2.2.1 y2.2.1.2.2.2.2.2.2.2.1 y2.2.1.2.2.2.2.2.2.2.2.1 y2.2.1.2.2.2.2.2.2.2.2.2.1 y2.2.1.2.2.2.2.2.2.2.2.2.2.1 y2.2.1.2.2.2.2.2.2.2.2.2.2.2.1],i+1,by first|(rw[<-w];rfl)|rw[<-w],ln _,app _ ⟨u2.1,u2.2.1,u2.2.2⟩,ω⟩)
   .exact E (Ah (ω:vs.length+1<=_)) (A ⟨k-1,ω,vs++[aH y1.2.1.1 y1.2.1.2.1 y1.2.1.2.2.1 y1.2.1.2.2.2.1 y1.2.1.2.2.2.2.1 y1.2.1.2.2.2.2.2.1 y1.2.1.2.2.2.2.2.2.1 y1.2.1.2.2.2.2.2.2.2.1 y1.2.1.2.2.2.2.2.2.2.2.1 y1.2.1.2.2.2.2.2.2.2.2.2.1 y1.2.1.2.2.2.2.2.2.2.2.2.2.1 y1.2.1.2.2.2.2.2.2.2.2.2.2.2.1],i+1,by first|(rw[<-w];rfl)|rw[<-w],ln _,app _ ⟨u1.1,u1.2.1,u1.2.2⟩,ω⟩)
  .have gg:¬(i:Int)<(b.B0.length:Int):=K_ gg;omega
 .obtain⟨vs,rfl,hv1,hv2⟩:=hy;have hP:PlanW b t.m.H0 vs t.m.J1:=⟨hb,hcode,ω,hi.img,⟨hv1,hv2⟩,hi.exl,hi.exv⟩
  have ht:=Aq8 hP (ps:=t.m.D3) hi.lit x.press g;have hlan:=Az5 b t.m.H0 t.m.J1 vs t.m.D3 x.press g;obtain⟨hok,hrl⟩:=Ae2 hb hcode hi.img hi.exl (vs:=vs) t.m.D3 x.press g;have he:=Bv hb hok.img;have hpl:=Aka b (BH b t.m.H0 t.m.J1 vs t.m.D3 x.press g).img (BH b t.m.H0 t.m.J1 vs t.m.D3 x.press g).xs vs;have hRI:RI b (Ahr b t.m.H0 t.m.J1 vs t.m.D3 x.press g):=⟨by
   show((BH b t.m.H0 t.m.J1 vs t.m.D3 x.press g).recs++(Na b (BH b t.m.H0 t.m.J1 vs t.m.D3 x.press g).img (BH b t.m.H0 t.m.J1 vs t.m.D3 x.press g).xs vs).1).length<=1000;rw[h_];omega,ω,ω,by
   show(Na b (BH b t.m.H0 t.m.J1 vs t.m.D3 x.press g).img (BH b t.m.H0 t.m.J1 vs t.m.D3 x.press g).xs vs).2.1.length<=1000;omega⟩
  generalize Ahr b t.m.H0 t.m.J1 vs t.m.D3 x.press g=R at ht hRI;refine S ht (Sat.bindR ?_);refine H (Ym hb hcode hi.img hi.bud R.recs (by have:=hRI.recs;omega)) λy hy=>?_;obtain⟨im,s,bu,e,rfl,w1,w2,w3⟩:=hy;have fin:∀(n:Int) (f:Bool),TJ b ((t.wr im s bu e).exp R.xs n f):=λn f=>⟨w1,hi.con,hi.bel,hi.beld,hi.car,hi.caru,hi.lod,hi.lit,hRI.xs,hi.su,hl.cmds⟩
  refine I (λ_=>?_) λ_=>?_
  .exact H (SX _) λy5 _=>A ⟨R,(t.wr im s bu e).exp R.xs y5.1.1 B,rfl,hRI,fin _ _,hi.oc⟩
  .exact A ⟨R,(t.wr im s bu e).exp R.xs t.m.C2 t.out.N0,rfl,hRI,fin _ _,hi.oc⟩
def Tk.srv(t:Tk)(c:Int×Int):Tk:={ t with out:={ t.out with B5:=c.1,H3:=c.2 } }
def Tk.lmp(t:Tk)(c:Int×Int)(bad:Bool):Tk:={ t with out:={ t.out with E5:=c.1,P4:=c.2,O5:=bad } }
def Tk.oCar(t:Tk)(c:CarOutput):Tk:={ t with out:={ t.out with B0:=t.out.B0++[c] } }
def Tk.sLit(t:Tk)(l:List Calls):Tk:={ t with m:={ t.m with D3:=l } }
include hb hcode in
theorem Az7{r:Rnd}(hr:RI b r)(hi:TJ b t)(ho:t.out.B0=[]):W (Dq r.recs r.img.F0 r.img.M0 r.img.I0 r.img.A0 r.xs r.lan.lit r.lan.gong r.lan.cl.1 r.lan.cl.2 r.ref.1 r.ref.2 b.D0 b.E0 b.J0 b.O0 b.L0 b.N0 b.P0 b.B0 t.m.H0.F0 t.m.H0.M0 t.m.H0.I0 t.m.H0.A0 t.m.W0.h0 t.m.W0.h1 t.m.W0.sel t.m.E1 t.m.R0 t.m.B0 t.m.Y1 t.m.J1 t.m.D3 t.m.C3 t.m.J2 t.m.C2 x.press.1 x.press.2 x.kind x.car x.cars g t.shows t.was t.cmds t.budget t.e t.out.E5 t.out.P4 t.out.B5 t.out.H3 t.out.O5 t.out.N0 t.out.G5 t.out.B0) λy=>∃t':Tk,y=((),(t'.tup b x g,()))/\TJ b t'/\t'.out.B0.length=b.B0.length:=by
 have hc:=Ai hcode;have hrr:=hr.recs;unfold Dq;refine H (Q:=λy=>∃t':Tk,y=(((),(),(),()),(r.tup,t'.tup b x g,()))/\TJ b t'/\t'.out.B0=[]) ?_ λy hy=>?_
 .refine aA (λ(k:Nat) z=>∃(t':Tk) (i:Nat),z=(((),(),(),(i:Int),()),(r.tup,t'.tup b x g,()))/\TJ b t'/\t'.out.B0=[]/\i+k=r.recs.length) (λk z hz=>?_) r.recs.length ⟨t,0,rfl,hi,ho,k_ _⟩ ω;obtain⟨t',i,rfl,hi,ho,hk⟩:=hz;unfold Iv;refine I (λgg=>?_) λ_=>A ⟨t',rfl,hi,ho⟩;have gg:(i:Int)<(r.recs.length:Int):=o_ gg;have w:=Br (n:=i) ω;refine E (J (ω:(0:Int)<=(i:Int)) gg) (I (λ_=>?_) λ_=>A ⟨k-1,ω,t',i+1,by first|(rw[<-w];rfl)|rw[<-w],hi,ho,ω⟩);refine S (LS _ _) (S (IE (Ahg t'.out) _) ?_);refine A ⟨k-1,ω,t'.srv (FL (Ahg t'.out) (Lh (r.recs.getD i (Record.mk 0 0 0 0 0)).C0 (r.recs.getD i (Record.mk 0 0 0 0 0)).G0)),i+1,by first|(rw[<-w];rfl)|rw[<-w],⟨hi.img,hi.con,hi.bel,hi.beld,hi.car,hi.caru,hi.lod,hi.lit,hi.exl,Baa _ _,hi.cmds⟩,ho,ω⟩
 obtain⟨t1,rfl,hi,ho⟩:=hy;have he:=Bv hb hi.img;have hlm:Qs t1.m.H0.F0 t1.m.H0.M0 t1.m.H0.I0 t1.m.H0.A0=aC (((),()),(((ofC t1.m.H0.A0 (0,0)).1,(ofC t1.m.H0.A0 (0,0)).2,()),())):=by unfold Qs;exact Cf (Azr ω) rfl
 refine S hlm ?_;refine H (Q:=λy=>∃t':Tk,y=(((),(),()),(r.tup,t'.tup b x g,()))/\TJ b t'/\t'.out.B0.length=b.B0.length) ?_ λy hy=>?_
 .refine aA (λ(k:Nat) z=>∃(t':Tk) (i:Nat),z=(((),(),(),(i:Int),()),(r.tup,t'.tup b x g,()))/\TJ b t'/\t'.out.B0.length=i/\i+k=b.B0.length) (λk z hz=>?_) b.B0.length ⟨t1.lmp (ofC t1.m.H0.A0 (0,0)) (!g),0,rfl,⟨hi.img,hi.con,hi.bel,hi.beld,hi.car,hi.caru,hi.lod,hi.lit,hi.exl,hi.su,hi.cmds⟩,by show t1.out.B0.length=0;rw[ho];rfl,k_ _⟩ ω;obtain⟨t',i,rfl,hi,hol,hk⟩:=hz;unfold Iw;refine I (λgg=>?_) λgg=>A ⟨t',rfl,hi,?_⟩
  .have gg:(i:Int)<(b.B0.length:Int):=o_ gg;have hin:i<b.B0.length:=ω;have w:=Br (n:=i) ω;have he:=Bv hb hi.img;have hp:=hi.img.lp;have hmx:100000<=maxLen:=by decide
   have i1:O (i:Int) t'.m.H0.F0.length=B:=J ω (by rw[hi.img.lp];omega);have i5:O (i:Int) t'.m.H0.M0.length=B:=J ω (by rw[hi.img.lf];exact gg);have il:O (i:Int) r.lan.lit.length=B:=J ω (by rw[hr.lit];exact gg);have ig:O (i:Int) r.lan.gong.length=B:=J ω (by rw[hr.gong];exact gg);refine E i1 ?_;refine H (Q:=λy=>∃(u:Tk) (p:Int),y=(((),(),(),(i:Int),p,()),(r.tup,u.tup b x g,()))/\TJ b u/\u.out.B0.length=i/\u.m.H0=t'.m.H0) ?_ λy hy=>?_
   .refine H (Q:=λy=>∃(p:Int) (q:Bool),y=(((),(),(),(i:Int),p,q,()),(r.tup,t'.tup b x g,()))) ?_ λy hy=>?_
    .exact H (Dv _) λ_ _=>I (λ_=>E i5 (A ⟨_,_,rfl⟩)) λ_=>A ⟨_,_,rfl⟩
    obtain⟨p,q,rfl⟩:=hy;have i2:O (i:Int) t'.m.R0.length=B:=J ω (by rw[hi.bel];omega);have hbd:(t'.m.R0.getD i Pm).K0.length<=1000:=hi.beld _ (AT _ (by rw[hi.bel];exact hin));refine I (λ_=>?_) λ_=>A ⟨t',p,rfl,hi,hol,rfl⟩;refine E i2 (H (RT hi.img) λrd _=>?_);refine S (Pq hb rd.1.1 t'.m.H0 ω ω (i:Int)) ?_;refine H (Ao5 hb hcode hin (t'.m.R0.getD i Pm) hbd _ _) λy5 h5=>E i2 ?_;exact A ⟨t'.sBel i (Belief.mk y5.2.1.1 y5.2.1.2.1 y5.2.1.2.2.1 y5.2.1.2.2.2.1 y5.2.1.2.2.2.2.1 y5.2.1.2.2.2.2.2.1),p,rfl,hi.sBel i h5,hol,rfl⟩
   obtain⟨u,p,rfl,hu,huo,hum⟩:=hy;have j2:O (i:Int) u.m.R0.length=B:=J ω (by rw[hu.bel];omega);have j3:O (i:Int) u.cmds.length=B:=J ω (by rw[hu.cmds];omega);have j5:O (i:Int) u.m.H0.M0.length=B:=J ω (by rw[hu.img.lf];exact gg);have hbd:(u.m.R0.getD i Pm).K0.length<=1000:=hu.beld _ (AT _ (by rw[hu.bel];exact hin));refine E j2 (H (Aq5 hb hcode hin p (u.m.R0.getD i Pm) hbd) λy7 _=>?_);refine E il (E ig (E j5 ?_));refine H (Q:=λy=>∃c:CarOutput,y=(((),(),(),(i:Int),(),()),(r.tup,coT c,u.tup b x g,()))) ?_ λy hy=>?_
   .refine E j3 (H (Alg _ _) λ_ _=>I (λ_=>E j3 (A ⟨CarOutput.mk y7.2.1.1 y7.2.1.2.1 y7.2.1.2.2.1 (r.lan.lit.getD i (aN 0 0)).Up (r.lan.lit.getD i (aN 0 0)).H5 (r.lan.gong.getD i C) (u.cmds.getD i 0) p (u.m.H0.M0.getD i C),rfl⟩)) λ_=>A ⟨CarOutput.mk y7.2.1.1 y7.2.1.2.1 y7.2.1.2.2.1 (r.lan.lit.getD i (aN 0 0)).Up (r.lan.lit.getD i (aN 0 0)).H5 (r.lan.gong.getD i C) 0 p (u.m.H0.M0.getD i C),rfl⟩)
   obtain⟨c,rfl⟩:=hy;refine E (Ah (ω:u.out.B0.length+1<=_)) (A ⟨k-1,ω,u.oCar c,i+1,by first|(rw[<-w];rfl)|rw[<-w],⟨hu.img,hu.con,hu.bel,hu.beld,hu.car,hu.caru,hu.lod,hu.lit,hu.exl,hu.su,hu.cmds⟩,?_,ω⟩);show(u.out.B0++[c]).length=i+1;rw[h_,huo];rfl
  .have gg:¬(i:Int)<(b.B0.length:Int):=K_ gg;omega
 obtain⟨t2,rfl,hi,ho⟩:=hy;exact A ⟨t2.sLit r.lan.lit,rfl,⟨hi.img,hi.con,hi.bel,hi.beld,hi.car,hi.caru,hi.lod,hr.lit,hi.exl,hi.su,hi.cmds⟩,ho⟩
end
structure MW(b:Bldg)(m:Mch):Prop where
 fit:m.fit
 caru:∀x∈m.B0,ucR x.I1
 beld:∀x∈m.R0,x.K0.length<=1000
def OW(b:V)(o:Outputs):Prop:=Ln (Ahg o)/\o.B0.length=b.B0.length
def TJ.mw(hb:b.small)(hcode:b.code=0)(h:TJ b t):MW b t.m:=by have hc:=Ai hcode;have h1:=h.con;have h2:=h.bel;have h3:=h.car;have h4:=h.lod;have h5:=h.lit;have h6:=h.exl;exact⟨⟨Bj6 hb hcode h.img,ω,ω,λx hx=>by have:=h.beld x hx;omega,ω,ω,ω,ω⟩,h.caru,h.beld⟩
def Bdc(h:((QH b s).2==0)=B):(QH b s).1.cars.length=b.B0.length/\0<=(QH b s).1.car/\(QH b s).1.car<(b.B0.length:Int):=by
 have h:=eq_of_beq h;unfold QH at h|-;cases h1:Pn b s !=0 with
 |true=>rw[h1]at h;have h2:Pn b s=0:=h;rw[h2]at h1;exact absurd h1 τ
 |false=>
  rw[h1]at h;cases h2:KC b (RU b.B0.length s)&&eqB (inV b (RU b.B0.length s)) s with
  |false=>rw[h2]at h;exact absurd (show(31:Int)=0 from h) τ
  |true=>have h3:=(Bool.and_eq_true_iff.1 h2).1;unfold KC at h3;simp only[e_,a3_]at h3;obtain⟨_,_,h4,_,h5,_⟩:=h3;have h4:=Al.1 h4;simp only[c_,d_];omega
section
variable{b:V}(hb:b.small)(hcode:b.code=0)(hc3:b.B0.length<=3)(hld:b.loads)
include hb hcode hc3 hld
theorem Avi(hm:MW b m)(hs:s.size<=1000000){bud:Int}(hbud:bud<9223372036854775808):W (SA b.D0 b.E0 b.J0 b.O0 b.L0 b.N0 b.P0 b.B0 m.H0.F0 m.H0.M0 m.H0.I0 m.H0.A0 m.W0.h0 m.W0.h1 m.W0.sel m.E1 m.R0 m.B0 m.Y1 m.J1 m.D3 m.C3 m.J2 m.C2 s bud) λy=>y.1.2.2.1=0->∃(m':Mch) (o:Outputs),y.2=(m'.tup,Bld o,())/\MW b m'/\OW b o:=by
 have hc:=Ai hcode;unfold SA;refine S (Ny hb hcode hm.fit λx hx=>by have:=hm.caru x hx;unfold ucR at this;omega) ?_;refine I (λ_=>A λh=>absurd (show(1:Int)=0 from h) τ) λhv=>?_;rw[d2_]at hv;have hv:Ei b m=B:=hv;unfold Ei KA FS JO at hv;simp only[e_,a3_]at hv;obtain⟨⟨v1,_⟩,_,v3,v4,_,⟨v6,_⟩,⟨v7,_⟩,⟨v8,_⟩,⟨v9,_⟩,v10⟩:=hv;have himg:=Img.ok_iff.1 v1;refine I (λ_=>A λh=>absurd (show(1:Int)=0 from h) τ) λ_=>?_;refine E (Ah (by show 0+m.E1.length<=_;omega)) (E (Ah (by show 0+m.R0.length<=_;omega)) (E (Ah (by show 0+m.B0.length<=_;omega)) (E (Ah (by show 0+m.Y1.length<=_;omega)) ?_)));refine S (Ak4 hb hcode s hs) ?_;have hx:=Bdc (b:=b) (s:=s);generalize(QH b s).1=x at hx;generalize hg:((QH b s).2==0)=g at hx;have hT:TI b ⟨{ m with E1:=[]++m.E1,R0:=[]++m.R0,B0:=[]++m.B0,Y1:=[]++m.Y1 },[],[],[],bud,0,⟨0,0,0,0,C,C,0,[]⟩⟩:=by
  refine⟨himg,?_,?_,?_,?_,?_,?_,?_,?_,?_,hbud,rfl,⟨⟨a2_ 0,show(0:Int)<4294967296 from by decide⟩,⟨a2_ 0,show(0:Int)<4294967296 from by decide⟩⟩⟩
  .show([]++m.E1).length=_;rw[y_];omega
  .show([]++m.R0).length=_;rw[y_];omega
  .show ∀x∈[]++m.R0,_;rw[y_];exact hm.beld
  .show([]++m.B0).length=_;rw[y_];omega
  .show ∀x∈[]++m.B0,_;rw[y_];exact hm.caru
  .show([]++m.Y1).length=_;rw[y_];omega
  .show m.D3.length=_;omega
  .show m.J1.length=m.H0.A0.length;omega
  .exact λy hy=>Al.1 (C_.1 v4 y hy)
 have hrd:=Bg1 hcode hld (λh=>(hx h).1) hT;refine H (Q:=λy=>∃t':Tk,y.2.2.2.1=t'.tup b x g/\TI b t') ?_ λy5 h5=>?_
 .refine H hrd λy3 h3=>?_;obtain⟨t',h3,hi⟩:=h3;rcases h3 with rfl|rfl
  .exact A ⟨t',rfl,hi⟩
  .exact A ⟨t',rfl,hi⟩
 obtain⟨ya,yb,yc,yt,yu⟩:=y5;obtain⟨t5,e5,i5⟩:=h5;simp only at e5;subst e5;refine H (Bg0 hb hcode (λh=>(hx h).1) i5) λy6 h6=>?_;obtain⟨t6,rfl,i6,l6⟩:=h6;refine H (Bdy hb hcode i6 l6) λy7 h7=>?_;obtain⟨t7,rfl,i7,l7⟩:=h7;refine H (Q:=λy=>∃t':Tk,y.2.2.2.1=t'.tup b x g/\TI b t'/\TL b t') ?_ λy11 h11=>?_
 .refine I (λ_=>?_) λ_=>A ⟨t7,rfl,i7,l7⟩;refine H (Q:=λy=>∃t':Tk,y.2.2.2.1=t'.tup b x g/\TI b t'/\TL b t') ?_ λy10 h10=>A h10;refine H (Az8 hb hcode hx i7 l7) λy8 h8=>?_;obtain⟨t',h8,hi⟩:=h8;rcases h8 with rfl|rfl
  .exact A ⟨t',rfl,hi⟩
  .exact A ⟨t',rfl,hi⟩
 obtain⟨za,zb,zc,zt,zu⟩:=y11;obtain⟨t11,e11,i11,l11⟩:=h11;simp only at e11;subst e11;refine H (Q:=λy=>match y with
  |.inl y=>∃t':Tk,y.2.2.2.1=t'.tup b x g/\t'.e≠0
  |.inr y=>∃(m':Mch) (o:Outputs),y.2.1=m'.tup/\y.2.2.1=Bld o/\MW b m'/\OW b o) ?_ λy14 h14=>?_
 .refine I (λ_=>?_) λh=>A ⟨t11,rfl,λhh=>by have h:(t11.e==0)=C:=h;rw[hh]at h;cases h⟩;refine H (Bdz hb hcode hc3 hx i11 l11) λy12 h12=>?_;obtain⟨r,t12,rfl,hr,j12,o12⟩:=h12;refine I (λ_=>?_) λh=>A ⟨t12,rfl,λhh=>by have h:(t12.e==0)=C:=h;rw[hh]at h;cases h⟩;refine H (Az7 hb hcode hr j12 o12) λy13 h13=>?_;obtain⟨t13,rfl,j13,o13⟩:=h13;exact A ⟨t13.m,t13.out,rfl,rfl,j13.mw hb hcode,j13.su,o13⟩
 .cases y14 with
  |inl y=>obtain⟨wa,wb,wc,wt,wu⟩:=y;obtain⟨t',e',he⟩:=h14;simp only at e';subst e';exact A λh=>absurd (show t'.e=0 from h) he
  |inr y=>obtain⟨wa,wb,wc,wt⟩:=y;obtain⟨m',o,e1,e2,h1,h2⟩:=h14;simp only at e1 e2;subst e1 e2;exact A λ_=>⟨m',o,rfl,h1,h2⟩
end
def CC(b:V):Int:=aJ.wrap (Y aJ (1*2^min (Z (Y aG b.D0)) (IntKind.bits .u32))-1)
def Agn(hb:b.small):0<=CC b/\CC b<2^b.D0.toNat/\2^b.D0.toNat<=(256:Int)/\(∀f:Nat,f<32->CQ (CC b) f=B->(f:Int)<b.D0)/\(∀f:Nat,f<32->CQ (aK (CC b) ((2:Int)^(aL (Z (1:Int)) (IntKind.bits aJ)))) f=B->(f:Int)<b.D0-1):=by
 have lo:=hb.lo;have hi:=hb.hi;unfold CC
 have:b.D0=2\/b.D0=3\/b.D0=4\/b.D0=5\/b.D0=6\/b.D0=7\/b.D0=8:=ω
 rcases this with h|h|h|h|h|h|h<;>rw[h]<;>refine⟨τ,τ,τ,τ,τ⟩
def Bjk(a:Int){c:Int}(hc:0<=c/\c<4294967296):0<=vb (N a&&&N c)/\vb (N a&&&N c)<=c:=by
 have h2:=Awe hc;unfold vb at*;rw[BitVec.toNat_and]
 have:=Nat.and_le_right (n:=(N a).toNat) (m:=(N c).toNat)
 omega
section
variable{b:V}(hb:b.small)(hcode:b.code=0)
include hb in
theorem Bcj(a:Int):flV b (vb (N a&&&N (CC b)))=B:=by
 obtain⟨m0,m1,m2,_⟩:=Agn hb;have h:=Bjk a (c:=CC b) ω;unfold flV;rw[ET ω ω];generalize vb (N a&&&N (CC b))=n at h
 have:n.fdiv (2^b.D0.toNat)=0:=by rw[Int.fdiv_eq_ediv_of_nonneg _ ω];exact Int.ediv_eq_zero_of_lt h.1 ω
 rw[this];rfl
include hb hcode in
theorem Awf(u d:Int):Kf b (vb (N (vb (N u&&&N (CC b)))&&&N (aK (CC b) ((2:Int)^(aL (Z (1:Int)) (IntKind.bits aJ))))),vb (N (vb (N d&&&N (CC b)))&&& ~~~ N 1))=B:=by
 obtain⟨_,_,_,m3,m4⟩:=Agn hb;unfold Kf;rw[Bgk (Azh _ _)];intro f hf D hD;rw[SD _ _ hf,XO hb hcode hf hD];rcases hD with rfl|rfl
 .cases hq:AZ (vb (N (vb (N u&&&N (CC b)))&&&N (aK (CC b) ((2:Int)^(aL (Z (1:Int)) (IntKind.bits aJ))))),vb (N (vb (N d&&&N (CC b)))&&& ~~~ N 1)) f 1 with
  |false=>rfl
  |true=>
   have h1:CQ (vb (N (vb (N u&&&N (CC b)))&&&N (aK (CC b) ((2:Int)^(aL (Z (1:Int)) (IntKind.bits aJ)))))) f=B:=hq;rw[TM,aR,aP]at h1;have h2:=m4 f hf h1.2;have h5:Ak b (f:Int) 1=B:=by unfold Ak Fq;rw[hcode,show inR 0 (b.D0-2) (f:Int)=B from Al.2 ⟨ω,ω⟩];rfl
   rw[h5];rfl
 .cases hq:AZ (vb (N (vb (N u&&&N (CC b)))&&&N (aK (CC b) ((2:Int)^(aL (Z (1:Int)) (IntKind.bits aJ))))),vb (N (vb (N d&&&N (CC b)))&&& ~~~ N 1)) f 2 with
  |false=>rfl
  |true=>
   have h1:CQ (vb (N (vb (N d&&&N (CC b)))&&& ~~~ N 1)) f=B:=hq;rw[TM,aR,Bfa,aR,BitVec.getLsbD_not,aP,aP,aP]at h1;have h2:=m3 f hf h1.1.2;have h3:f≠0:=λh=>by subst h;exact absurd h1.2.2 τ
   have h5:Ak b (f:Int) 2=B:=by unfold Ak Fq;rw[hcode,show inR 1 (b.D0-1) (f:Int)=B from Al.2 ⟨ω,ω⟩];rfl
   rw[h5];rfl
end
def HI(d x:α)(h:i≠j):(l.set i x).getD j d=l.getD j d:=by rw[n_,List.getElem?_set_ne h,<-n_]
section
variable{b:V}(hb:b.small)(hcode:b.code=0)
include hb hcode
theorem Bai(u d kd car:Int){cs:List aE}(hcs:cs.length=b.B0.length):W (HZ b.D0 b.E0 b.J0 b.O0 b.L0 b.N0 b.P0 b.B0 u d kd car cs) λy=>∃x:Inp,y=(((),()),(x.tup,()))/\KC b x=B:=by
 have hc:=Ai hcode;have lo:=hb.lo;have hi:=hb.hi;have hw:=Awf hb hcode u d;unfold HZ;refine E (MB _) ?_;have z8:aG.wrap (b.B0.length:Int)=(b.B0.length:Int):=ET ω ω;refine E (by show(Y aG (b.B0.length:Int) !=0)=B;rw[z8];exact FP ω) ?_;have u64n:∀n:Int,0<=aG.wrap n/\aG.wrap n<18446744073709551616:=λn=>by simp only[Y,IntKind.signed,IntKind.bits];simp;exact⟨Int.emod_nonneg _ τ,Int.emod_lt_of_pos _ τ⟩
 have md:∀(n:Int) (m:Int),0<m->m<=9->0<=U.wrap (X (Y aG n) m)/\U.wrap (X (Y aG n) m)<m:=λn m h0 h1=>by have h2:=(u64n n).1;rw[e8_ h2];have h3:=Int.emod_nonneg (Y aG n) (ω:m≠0);have h4:=Int.emod_lt_of_pos (Y aG n) h0;rw[Ad ω ω];exact⟨h3,h4⟩
 refine H (Q:=λy=>∃(k c:Int),y=(((),(),(),CC b,()),(b.tup,(vb (N (vb (N u&&&N (CC b)))&&&N (aK (CC b) ((2:Int)^(aL (Z (1:Int)) (IntKind.bits aJ))))),vb (N (vb (N d&&&N (CC b)))&&& ~~~ N 1),k,c,cs,()),((0:Int),(0:Int),(0:Int),(0:Int),([]:List aE),()),()))/\inR 0 8 k=B/\inR 0 ((b.B0.length:Int)-1) c=B/\(k==0&&c !=0)=C) ?_ λy hy=>?_
 .have hk:=md kd 9 τ τ;have hkr:inR 0 8 (Y U (X (Y aG kd) 9))=B:=Al.2 ⟨hk.1,ω⟩;simp only[Ame,Uu];refine I (λh=>A ⟨_,_,rfl,hkr,Al.2 ⟨a2_ 0,ω⟩,by rw[h];rfl⟩) λh=>A ⟨_,_,rfl,hkr,?_,by rw[h];rfl⟩;have hcr:=md car (b.B0.length:Int) ω ω;rw[z8];exact Al.2 ⟨hcr.1,ω⟩
 obtain⟨k,c,rfl,hk,hcr,hkc⟩:=hy;have hcap:((decide ((0:Int)<=(b.B0.length:Int))&&decide ((b.B0.length:Int)<=(b.B0.length:Int)))&&decide ((b.B0.length:Int)<=2147483648))=B:=by simp only[b_ (ω:(0:Int)<=(b.B0.length:Int)),b_ (a2_ (b.B0.length:Int)),b_ (ω:(b.B0.length:Int)<=2147483648),V_]
 refine E hcap ?_;generalize hP:(vb (N (vb (N u&&&N (CC b)))&&&N (aK (CC b) ((2:Int)^(aL (Z (1:Int)) (IntKind.bits aJ))))),vb (N (vb (N d&&&N (CC b)))&&& ~~~ N 1))=P at hw;have hP1:=congrArg Prod.fst hP;have hP2:=congrArg Prod.snd hP;simp only at hP1 hP2;rw[hP1,hP2];refine H (Q:=λy=>∃l:List aE,y=(((),(),l,()),((P.1,P.2,k,c,cs,()),((0:Int),(0:Int),(0:Int),(0:Int),([]:List aE),()),()))/\l.length=b.B0.length/\∀j,j<b.B0.length->Ph b (l.getD j VT)=B) ?_ λy hy=>?_
 .refine aA (λ(kk:Nat) z=>∃(l:List aE) (i:Nat),z=(((),(),(),CC b,l,(i:Int),()),(b.tup,(P.1,P.2,k,c,cs,()),((0:Int),(0:Int),(0:Int),(0:Int),([]:List aE),()),()))/\l.length=b.B0.length/\(∀j,j<i->Ph b (l.getD j VT)=B)/\i+kk=b.B0.length) (λkk z hz=>?_) b.B0.length ⟨_,0,rfl,?_,λj hj=>absurd hj (aM j),k_ _⟩ ω
  .obtain⟨l,i,rfl,hl,hj,hkk⟩:=hz;unfold Ww;refine I (λgg=>?_) λgg=>A ⟨l,rfl,hl,?_⟩
   .have gg:(i:Int)<(l.length:Int):=o_ gg;have hin:i<l.length:=ω;have w:=Br (n:=i) ω;have z7:aG.wrap b.D0=b.D0:=ET ω ω;refine E (J (ω:(0:Int)<=(i:Int)) gg) ?_;refine E (by show(Y aG b.D0 !=0)=B;rw[z7];exact FP ω) ?_;simp only[Ame,i_];refine A ⟨kk-1,ω,_,i+1,by first|(rw[<-w];rfl)|rw[<-w],?_,?_,ω⟩
    .simp only[E_];exact hl
    .intro j hjj;by_cases he:j=i
     .subst he;rw[Dt _ _ (by simp only[E_];exact hin),Dt _ _ (by simp only[E_];exact hin),Dt _ _ (by simp only[E_];exact hin),Dt _ _ hin];unfold Ph;have f1:=md (l.getD j (aO 0 C C C C 0 C 0 C 0 0)).S1 b.D0 ω ω;have f2:=md (l.getD j (aO 0 C C C C 0 C 0 C 0 0)).U1 3 τ τ;simp only[Bcj hb,l_];rw[show aG.wrap b.tup.1=b.D0 from z7,Al.2 ⟨f1.1,show _<=b.D0-1 by omega⟩,Al.2 ⟨f2.1,show _<=(2:Int)by omega⟩];rfl
     .rw[HI _ _ (e0_ he),HI _ _ (e0_ he),HI _ _ (e0_ he),HI _ _ (e0_ he)];exact hj j ω
   .have gg:¬(i:Int)<(l.length:Int):=K_ gg;intro j hjj;exact hj j ω
  .show(LM (aI (Z (b.B0.length:Int)) (aO 0 C C C C 0 C 0 C 0 0)) cs).length=b.B0.length;unfold LM;simp only[h_,w_,X_,J_,i_];omega
 obtain⟨l,rfl,hl,hall⟩:=hy;refine A ⟨⟨P,k,c,l⟩,rfl,?_⟩;unfold KC;rw[hw,hk,hcr,hkc,show((l.length:Int)==(b.B0.length:Int))=B by rw[hl];exact s_ _];simp only[l_,a7_];refine C_.2 λe he=>?_;obtain⟨j,hj,rfl⟩:=List.getElem_of_mem he
 have:=hall j ω
 rwa [n_,j_ hj]at this
end
def Bn1:∀k:Fin 16,(arF .quo .f64 (Agq .f64 ((k.val:Nat):Int)) 4622945017495814144).isSome=B:=by decide
def Bn2(h:0<=n/\n<256):W (arF .quo .f64 (Agq .f64 (X n 16)) 4622945017495814144) λ_=>True:=by obtain⟨k,rfl⟩:=aQ h.1;have e:X ((k:Nat):Int) 16=((k%16:Nat):Int):=Lm k 16;have h2:=Bn1 ⟨k%16,Nat.mod_lt _ τ⟩;rw[e];obtain⟨a,ha⟩:=Option.isSome_iff_exists.1 h2;exact⟨a,ha,trivial⟩
def Asr{l:List Int}(h:∀e∈l,u8r e)(n:Nat):u8r (l.getD n 0):=by
 by_cases hn:n<l.length
 .exact Bcn h hn
 .rw[n_,List.getElem?_eq_none ω];exact Bll
section
variable{b:V}(hb:b.small)(hcode:b.code=0)
include hb hcode
theorem Ami{x0 x1 x2 x3 x4 x5:Int}(h:∀e∈[x0,x1,x2,x3,x4,x5],u8r e):W (Ia b.D0 b.E0 b.J0 b.O0 b.L0 b.N0 b.P0 b.B0 x0 x1 x2 x3 x4 x5) λy=>∃x:Inp,y=(((),()),(x.tup,()))/\KC b x=B:=by
 have hc:=Ai hcode;unfold Ia;refine H (Q:=λy=>∃u d:Int,y=(((),(),(),(),()),(b.tup,(x0,x1,x2,x3,x4,x5,()),((0:Int),(0:Int),(0:Int),(0:Int),([]:List aE),()),(u,d,(0:Int),(0:Int),([]:List aE),()),()))) (I (λ_=>A ⟨_,_,rfl⟩) λ_=>A ⟨_,_,rfl⟩) λy hy=>?_;obtain⟨u,d,rfl⟩:=hy;refine H (Q:=λy=>∃k c:Int,y=(((),(),(),(),()),(b.tup,(x0,x1,x2,x3,x4,x5,()),((0:Int),(0:Int),(0:Int),(0:Int),([]:List aE),()),(u,d,k,c,([]:List aE),()),()))) (I (λ_=>A ⟨_,_,rfl⟩) λ_=>A ⟨_,_,rfl⟩) λy hy=>?_;obtain⟨k,c,rfl⟩:=hy;refine H (Q:=λy=>∃cs:List aE,y=(((),(),(),()),(b.tup,((0:Int),(0:Int),(0:Int),(0:Int),([]:List aE),()),(u,d,k,c,cs,()),()))/\cs.length=b.B0.length) ?_ λy hy=>?_
 .refine aA (λ(kk:Nat) z=>∃(cs:List aE) (i:Nat),z=(((),(),(),(),(i:Int),()),(b.tup,(x0,x1,x2,x3,x4,x5,()),((0:Int),(0:Int),(0:Int),(0:Int),([]:List aE),()),(u,d,k,c,cs,()),()))/\cs.length=i/\i+kk=b.B0.length) (λkk z hz=>?_) b.B0.length ⟨[],0,rfl,rfl,k_ _⟩ ω;obtain⟨cs,i,rfl,hcs,hkk⟩:=hz;unfold Wz;refine I (λgg=>?_) λgg=>A ⟨cs,rfl,?_⟩
  .have gg:(i:Int)<(b.B0.length:Int):=o_ gg;have w:=Br (n:=i) ω;have e3:X (i:Int) 3=((i%3:Nat):Int):=Lm i 3;have e4:X (i:Int) 4=((i%4:Nat):Int):=Lm i 4;have w3:U.wrap (3+X (i:Int) 3)=3+((i%3:Nat):Int):=by rw[e3,Ad ω ω]
   have w4:U.wrap (2+X (i:Int) 4)=2+((i%4:Nat):Int):=by rw[e4,Ad ω ω]
   refine E (J (ω:0<=U.wrap (3+X (i:Int) 3)) (ω:U.wrap (3+X (i:Int) 3)<((6:Nat):Int))) ?_;refine E (J (ω:0<=U.wrap (2+X (i:Int) 4)) (ω:U.wrap (2+X (i:Int) 4)<((6:Nat):Int))) ?_;refine H (Bn2 (Asr h _)) λld _=>E (MB _) ?_;refine H (Q:=λy=>∃(z:Int) (ci:aE),y=(((),(),(),(),(i:Int),z,(),()),(b.tup,(x0,x1,x2,x3,x4,x5,()),((0:Int),(0:Int),(0:Int),(0:Int),([]:List aE),()),(u,d,k,c,cs,()),(ci.Y0,ci.B2,ci.L1,ci.M1,ci.F1,ci.S1,ci.E2,ci.U1,ci.G2,ci.I1,ci.X2,()),()))) ?_ λy hy=>?_
   .refine I (λ_=>A ⟨_,aO _ _ _ _ _ _ _ _ _ _ _,rfl⟩) λ_=>A ⟨_,aO _ _ _ _ _ _ _ _ _ _ _,rfl⟩
   obtain⟨z,ci,rfl⟩:=hy;refine E (Ah (ω:cs.length+1<=_)) (A ⟨kk-1,ω,cs++[aO ci.Y0 ci.B2 ci.L1 ci.M1 ci.F1 (Y U (X z 8)) (decide ((0:Int)<X z 5)) (Y U (X (Y IntKind.u8 (Int.tdiv z 8)) 3)) (X z 7==0) ci.I1 ci.X2],i+1,by first|(rw[<-w];rfl)|rw[<-w],by rw[h_,hcs];rfl,ω⟩)
  .have gg:¬(i:Int)<(b.B0.length:Int):=K_ gg;omega
 obtain⟨cs,rfl,hcs⟩:=hy;refine H (Bai hb hcode u d k c hcs) λy hy=>?_;obtain⟨x,rfl,hx⟩:=hy;exact A ⟨x,rfl,hx⟩
theorem Baj{l:List Int}(h:∀e∈l,u8r e)(_hl:l.length<=maxLen)(hm:most<=1000):W (NT b.D0 b.E0 b.J0 b.O0 b.L0 b.N0 b.P0 b.B0 l (most:Int)) λy=>y.1.1.length<=most/\∀s∈y.1.1,s.size<=1000000:=by
 have hc:=Ai hcode;have hmx:maxLen<=9223372036854775807:=by decide
 unfold NT;refine H (Q:=λy=>y.1.1.length<=most/\∀s∈y.1.1,s.size<=1000000) ?_ λy hy=>A hy;refine aA (λ(k:Nat) z=>∃(out:List ByteArray) (i:Nat),z=((l,(most:Int),(),out,(i:Int),()),(b.tup,()))/\i<=out.length/\out.length<=most/\(∀s∈out,s.size<=1000000)/\i+k=most) (λk z hz=>?_) most ⟨[],0,rfl,H_ 0,G_ _,λs hs=>(by cases hs),k_ _⟩ ω;obtain⟨out,i,rfl,h1,h2,h3,hk⟩:=hz;unfold Wx;have w6:U.wrap (6*(i:Int))=6*(i:Int):=Ad ω ω;refine I (λg1=>I (λg2=>?_) λ_=>A ⟨h2,h3⟩) λ_=>A ⟨h2,h3⟩;have g1:U.wrap (6*(i:Int))<(l.length:Int):=o_ g1;have g2:(out.length:Int)<(most:Int):=o_ g2;refine E (by show(decide ((0:Int)<=U.wrap (6*(i:Int)))&&decide (Y U (6*(i:Int))<=(l.length:Int)))=B;rw[b_ (ω:(0:Int)<=U.wrap (6*(i:Int))),b_ (ω:U.wrap (6*(i:Int))<=(l.length:Int))];rfl) ?_;have hz1:∀e∈List.drop (Z (Y U (6*(i:Int)))) (List.take (List.length l) l),u8r e:=λe he=>h e (by
  have:=e6_ he
  exact e5_ this)
 generalize List.drop (Z (Y U (6*(i:Int)))) (List.take (List.length l) l)=L at hz1;dsimp only;have pick:∀n:Nat,u8r (bif aF n L.length then L.getD n 0 else 0):=λn=>by
  cases aF n L.length with
  |true=>exact Asr hz1 n
  |false=>exact Bll
 have hall:∀e∈[(bif aF 0 L.length then L.getD 0 0 else 0),(bif aF 1 L.length then L.getD 1 0 else 0),(bif aF 2 L.length then L.getD 2 0 else 0),(bif aF 3 L.length then L.getD 3 0 else 0),(bif aF 4 L.length then L.getD 4 0 else 0),(bif aF 5 L.length then L.getD 5 0 else 0)],u8r e:=λe he=>by simp only[v_,f0_,or_false]at he;rcases he with rfl|rfl|rfl|rfl|rfl|rfl<;>exact pick _
 have h5:=pick 5;have hin:=Ami hb hcode hall;generalize(bif aF 0 L.length then L.getD 0 0 else 0)=q0 at hin;generalize(bif aF 1 L.length then L.getD 1 0 else 0)=q1 at hin;generalize(bif aF 2 L.length then L.getD 2 0 else 0)=q2 at hin;generalize(bif aF 3 L.length then L.getD 3 0 else 0)=q3 at hin;generalize(bif aF 4 L.length then L.getD 4 0 else 0)=q4 at hin;generalize(bif aF 5 L.length then L.getD 5 0 else 0)=q5 at hin h5;refine H hin λy hy=>?_;obtain⟨x,rfl,hx⟩:=hy;have hxl:x.cars.length=b.B0.length:=by unfold KC at hx;simp only[e_,a3_]at hx;omega
 have hin2:=Akb hb hcode x ω;rw[hx,d_]at hin2;refine S hin2 ?_;have hsz:=Bcr b x;generalize inV b x=s at hsz;have h5':0<=X q5 4/\X q5 4<=3:=by have h50:0<=q5:=h5.1;rw[e8_ h50];omega
 have w5:U.wrap (X q5 4)=X q5 4:=Ad ω ω;refine H (Q:=λy=>∃o:List ByteArray,y=((l,(most:Int),(),o,(i:Int),()),(b.tup,()))/\i+1<=o.length/\o.length<=most/\∀s∈o,s.size<=1000000) ?_ λy hy=>?_
 .refine aA (λ(kk:Nat) z=>∃(o:List ByteArray) (s:ByteArray) (j:Nat),z=((l,(most:Int),(),o,(i:Int),(),s,(j:Int),()),(b.tup,(q0,q1,q2,q3,q4,q5,()),()))/\o.length=out.length+j/\o.length<=most/\(∀s∈o,s.size<=1000000)/\1<=s.size/\s.size<=1000/\j+kk=4) (λkk z hz=>?_) 4 ⟨out,s,0,rfl,rfl,h2,h3,ω,ω,rfl⟩ τ;obtain⟨o,s,j,rfl,o1,o2,o3,s1,s2,hkk⟩:=hz;unfold Wy;have w:=Br (n:=j) ω;refine I (λc1=>I (λc2=>?_) λc2=>A ⟨o,rfl,?_,o2,o3⟩) λc1=>A ⟨o,rfl,?_,o2,o3⟩
  .have c1:(j:Int)<=U.wrap (X q5 4):=o_ c1;have c2:(o.length:Int)<(most:Int):=o_ c2;refine I (λ_=>?_) λ_=>?_
   .have ws:U.wrap ((s.size:Int)-1)=(s.size:Int)-1:=Ad ω ω;refine E (by
     show(decide ((0:Int)<=U.wrap ((s.size:Int)-1))&&decide (Y U ((s.size:Int)-1)<=(s.size:Int)))=B;rw[b_ (ω:(0:Int)<=U.wrap ((s.size:Int)-1)),b_ (ω:U.wrap ((s.size:Int)-1)<=(s.size:Int))];rfl) ?_
    have ex:(s.extract 0 (Z (Y U ((s.size:Int)-1)))).size=s.size-1:=by rw[ByteArray.size_extract,ws];omega
    have sz:(s.extract 0 (Z (Y U ((s.size:Int)-1)))++ByteArray.mk (Array.mk [63])).size=s.size:=by rw[Z_,ex];show s.size-1+1=_;omega
    refine E (Ah (by show(s.extract 0 (Z (Y U ((s.size:Int)-1)))).size+1<=_;omega)) ?_;refine E (Ah (ω:o.length+1<=_)) (A ⟨kk-1,ω,o++[s.extract 0 (Z (Y U ((s.size:Int)-1)))++ByteArray.mk (Array.mk [63])],s.extract 0 (Z (Y U ((s.size:Int)-1)))++ByteArray.mk (Array.mk [63]),j+1,by first|(rw[<-w];rfl)|rw[<-w],by rw[h_,o1];rfl,by rw[h_];show o.length+1<=_;omega,λu hu=>?_,ω,ω,ω⟩);rcases u_.1 hu with hu|hu
    .exact o3 u hu
    .rw[d1_]at hu;subst hu;omega
   .refine E (Ah (ω:o.length+1<=_)) (A ⟨kk-1,ω,o++[s],s,j+1,by first|(rw[<-w];rfl)|rw[<-w],by rw[h_,o1];rfl,by rw[h_];show o.length+1<=_;omega,λu hu=>?_,s1,s2,ω⟩);rcases u_.1 hu with hu|hu
    .exact o3 u hu
    .rw[d1_]at hu;subst hu;omega
  .have c2:¬(o.length:Int)<(most:Int):=K_ c2;omega
  .have c1:¬(j:Int)<=U.wrap (X q5 4):=K_ c1;omega
 obtain⟨o,rfl,o1,o2,o3⟩:=hy;have w:=Br (n:=i) ω;exact A ⟨k-1,ω,o,i+1,by first|(rw[<-w];rfl)|rw[<-w],o1,o2,o3,ω⟩
end
section
variable(b:V){l:List Outputs}(hl:l.length<=100000)(hc:∀o∈l,o.B0.length<=1000){p:Outputs}(hp:p.B0.length<=1000)
include hl hc hp
end
def Awc(fl ca:Nat):(arF .sub .f64 (Au fl ca).N0 4589168020290535424).isSome=B/\(arF .sub .f64 (Au fl ca).P0 4589168020290535424).isSome=B:=by
 have h:(arF .sub .f64 (Au 2 1).N0 4589168020290535424).isSome=B/\(arF .sub .f64 (Au 2 1).P0 4589168020290535424).isSome=B:=by decide+kernel
 exact h
def Ap0(fl ca n1 n2:Nat):(DL fl ca n1 n2).loads:=by obtain⟨h1,h2⟩:=Awc fl ca;obtain⟨a,ha⟩:=Option.isSome_iff_exists.1 h1;obtain⟨c,hc⟩:=Option.isSome_iff_exists.1 h2;exact⟨⟨a,ha,trivial⟩,⟨c,hc,trivial⟩⟩
def Ayn(b:V)(m:Img)(s:Sto):(∀x∈(Hz b m s).1.B0,ucR x.I1)/\∀x∈(Hz b m s).1.R0,x.K0.length<=1000:=by
 unfold Hz;cases KA b m&&decide (s.ok b.J0)with
 |true=>
  refine⟨λx hx=>?_,λx hx=>?_⟩
  .rw[List.eq_of_mem_replicate (show x∈aI b.B0.length AK from hx)];exact⟨a2_ 0,show(0:Int)<4294967296 from by decide⟩
  .rw[List.eq_of_mem_replicate (show x∈aI b.B0.length Ro from hx)];exact G_ _
 |false=>exact⟨λx hx=>(by cases hx),λx hx=>(by cases hx)⟩
def Bdq(hcode:b.code=0):MW b (Aa9 b).1:=by
 unfold Aa9;rw[hcode];have hf:=Ax6 hcode Sto.no τ 1048576
 suffices h:(∀x∈(OZ b Sto.no 1048576).1.B0,ucR x.I1)/\∀x∈(OZ b Sto.no 1048576).1.R0,x.K0.length<=1000 from⟨hf,h.1,h.2⟩
 unfold OZ;generalize Ce b Sto.no 1048576=w;cases w.2.2.2 !=0 with
 |true=>exact⟨λx hx=>(by cases hx),λx hx=>(by cases hx)⟩
 |false=>
  simp only[c_];have h:=Ayn b w.2.1 w.1;generalize Hz b w.2.1 w.1=f at h|-;cases f.2 !=0 with
  |true=>exact⟨λx hx=>(by cases hx),λx hx=>(by cases hx)⟩
  |false=>exact h
def Nz(p:Int):Bool:=p==0||p==1
def Bd2(p:Int):DR p=aC ((Nz p,()),()):=by unfold DR Nz;cases p==0<;>rfl
def Avp(p:Int):Bc p=aC ((Nz p,()),()):=by unfold Bc Nz;cases p==0<;>rfl
def Yj(b:V)(x:NewCar)(f:Int)(l:Bool)(d:Int):Int×Int:=bif !Fx b x then(0,0)else bif x.C1 !=2 then(0,0)else bif !l then(0,0)else bif d !=1 then(0,0)else bif Ak b f x.R2 then HL f x.R2 else(0,0)
def Ao2(hb:b.small)(hcode:b.code=0)(x:NewCar)(hx:ucR x.I1)(f:Int)(l:Bool)(d:Int)(k:Bool):JY b.D0 b.E0 b.J0 b.O0 b.L0 b.N0 b.P0 b.B0 x.R1 x.H1 x.C1 x.V1 x.O1 x.Z1 x.P1 x.V0 x.Z0 x.S0 x.I1 x.R2 x.L4 x.F3 f l d k=aC (((),()),(((Yj b x f l d).1,(Yj b x f l d).2,()),())):=by have hc:=Ep hb f x.R2;unfold JY Yj;rw[IF hb hcode x ⟨hx.1,by have:=hx.2;omega⟩,hc,SV];cases Fx b x<;>cases x.C1 !=2<;>cases l<;>cases d !=1<;>cases Ak b f x.R2<;>rfl
def Bak(h:2<=n/\n<=32)(f s d:Int):FH n f s d=aC ((inR (-1) (n-1) f&&(inR 0 3 s&&inR 0 3 d),()),()):=by
 unfold FH FN inR;rw[b_ h.1,b_ h.2];have e:decide (f<=n-1)=decide (f<n):=by congr 1;exact propext ω
 rw[e];cases decide (-1<=f)<;>cases decide (f<n)<;>cases decide (0<=s)<;>cases decide (s<=3)<;>cases decide (0<=d)<;>rfl
def ZZ(hb:b.small)(hcode:b.code=0)(f s:Int):Ef b.D0 f s 1=aC (((),()),(((bif Ak b f s then HL f s else(0,0)).1,(bif Ak b f s then HL f s else(0,0)).2,()),())):=by
 have lo:=hb.lo;have hi:=hb.hi;have hv:Ak b f s=Fq b.D0 f s:=by unfold Ak;rw[hcode];rfl
 rw[hv];have up:s=1->0<=f->f<b.D0-1->(bif Fq b.D0 f s then HL f s else(0,0))=(Au5 f,0):=λh1 h2 h3=>by subst h1;unfold Fq HL;rw[show inR 0 (b.D0-2) f=B from Al.2 ⟨h2,ω⟩,show inR 0 31 f=B from Al.2 ⟨h2,ω⟩];rfl
 have dn:s=2->0<f->f<b.D0->(bif Fq b.D0 f s then HL f s else(0,0))=(0,Au5 f):=λh1 h2 h3=>by subst h1;unfold Fq HL;rw[show inR 1 (b.D0-1) f=B from Al.2 ⟨h2,ω⟩,show inR 0 31 f=B from Al.2 ⟨ω,ω⟩];rfl
 have no:¬(s=1/\0<=f/\f<b.D0-1)->¬(s=2/\0<f/\f<b.D0)->(bif Fq b.D0 f s then HL f s else(0,0))=(0,0):=λh1 h2=>by
  have:Fq b.D0 f s=C:=by
   cases h:Fq b.D0 f s with
   |false=>rfl
   |true=>unfold Fq at h;simp only[b0_,e_,a3_,Al]at h;omega
  rw[this];rfl
 generalize(bif Fq b.D0 f s then HL f s else((0:Int),(0:Int)))=v at up dn no;refine Sat.eq ?_;have z:¬(s=1/\0<=f/\f<b.D0-1)->¬(s=2/\0<f/\f<b.D0)->((((),()),(((0:Int),(0:Int),()),())):(Unit×Unit)×((Int×Int×Unit)×Unit))=(((),()),((v.1,v.2,()),())):=λh1 h2=>by rw[no h1 h2]
 unfold Ef;refine S (Bak ω f s 1) (I (λh=>A (z ?_ ?_)) λh=>?_)
 .rintro⟨h1,h2,h3⟩;rw[show inR (-1) (b.D0-1) f=B from Al.2 ⟨ω,ω⟩,h1]at h;exact absurd h τ
 .rintro⟨h1,h2,h3⟩;rw[show inR (-1) (b.D0-1) f=B from Al.2 ⟨ω,ω⟩,h1]at h;exact absurd h τ
 have hf:f<=b.D0-1:=by simp only[d2_,e_,Al]at h;exact h.1.2
 refine Sat.bifF rfl (I (λh=>A (z (by have:=o_ h;omega) (by have:=o_ h;omega))) λh0=>?_);have h0:0<=f:=by have:=K_ h0;omega
 have w:U.wrap (b.D0-1)=b.D0-1:=Ad ω ω;refine S (b:=(((),(),((s==1)&&decide (f<b.D0-1)),()),((f,s,(1:Int),()),((0:Int),(0:Int),()),()))) ?_ ?_
 .rw[w];cases s==1<;>rfl
 refine I (λh=>E (b_ h0) (A ?_)) λh1=>?_
 .have h:=Bool.and_eq_true_iff.1 (show((s==1)&&decide (f<b.D0-1))=B from h);rw[up (eq_of_beq h.1) h0 (o_ h.2)];rfl
 have h1:¬(s=1/\0<=f/\f<b.D0-1):=by rintro⟨e1,_,e3⟩;have h1:((s==1)&&decide (f<b.D0-1))=C:=h1;rw[e1,b_ e3]at h1;exact absurd h1 τ
 refine S (b:=(((),(),((s==2)&&decide (0<f)),()),((f,s,(1:Int),()),((0:Int),(0:Int),()),()))) ?_ ?_
 .cases s==2<;>rfl
 refine I (λh=>E (b_ h0) (A ?_)) λh2=>A (z h1 ?_)
 .have h:=Bool.and_eq_true_iff.1 (show((s==2)&&decide (0<f))=B from h);rw[dn (eq_of_beq h.1) (o_ h.2) ω];rfl
 .rintro⟨e1,e2,_⟩;have h2:((s==2)&&decide (0<f))=C:=h2;rw[e1,b_ e2]at h2;exact absurd h2 τ
def Ags(hb:b.small)(hcode:b.code=0)(x:NewCar)(f:Int)(l:Bool)(d:Int)(k:Bool):Lu b.D0 b.E0 b.J0 b.O0 b.L0 b.N0 b.P0 b.B0 x.R1 x.H1 x.C1 x.V1 x.O1 x.Z1 x.P1 x.V0 x.Z0 x.S0 x.I1 x.R2 x.L4 x.F3 f l d k=aC (((),()),(((Yj b x f l d).1,(Yj b x f l d).2,()),())):=by unfold Lu Yj;rw[Sf hb hcode x,ZZ hb hcode];cases Fx b x<;>cases x.C1 !=2<;>cases l<;>cases d !=1<;>rfl
def TR:List Duty->Int×Int->Int×Int
 |[],c=>c
 |d::t,c=>TR t (WX c (HL d.C0 d.G0))
def Bfm:Duty:=Duty.mk 0 0 0
def Ayf{l:List Duty}(hl:l.length<=1000):Je l=aC (((),()),(((TR l (0,0)).1,(TR l (0,0)).2,()),())):=by
 refine Sat.eq ?_;unfold Je;refine H (Q:=λy=>y.2.2.1=((TR l (0,0)).1,(TR l (0,0)).2,())) ?_ λy h=>A (by rw[h]);unfold KY;refine aA (λ(k:Nat) z=>∃(i:Nat) (c:Int×Int),z=(((),(),l,(l.length:Int),(i:Int),()),((0,0,()),(c.1,c.2,()),()))/\i+k=l.length/\TR (l.drop i) c=TR l (0,0)) (λk z hz=>?_) l.length ⟨0,(0,0),rfl,k_ _,rfl⟩ ω;obtain⟨i,c,rfl,hk,hc⟩:=hz;show W (KZ l (l.length:Int) (i:Int) 0 0 c.1 c.2) _;unfold KZ;refine I (λq=>?_) λq=>A ?_
 .have q:(i:Int)<(l.length:Int):=o_ q;have w:=Br (n:=i) ω;refine E (J ω q) (S (TN _ _) (S (WG c (HL _ _)) ?_));rw[AR Bfm (ω:i<l.length)]at hc;exact A ⟨k-1,ω,i+1,_,by first|(rw[<-w];rfl)|rw[<-w],ω,hc⟩
 .have q:=K_ q;rw[List.drop_eq_nil_of_le ω]at hc;show(c.1,c.2,())=_;rw[<-hc];rfl
def vPh(m:Img)(i:Nat):Int:=m.F0.getD i 0
def vFl(m:Img)(i:Nat):Bool:=m.M0.getD i C
def vLv(m:Img)(i:Nat):Bool:=m.I0.getD i C
def vRd(m:Img)(i:Nat):Bool:=(vPh m i==0||vPh m i==4)&&(!vFl m i&&!vLv m i)
def vSv(m:Img)(i:Nat):Bool:=vPh m i==0||(vPh m i==1||vPh m i==4)
def Ble(r:Bool):aB:=aH r C C C 0 0 0 0 0 0 0 0
def Abw(b:V)(m:Img)(i:Nat):Int×Int:=JS b m (aI b.B0.length (Ble (vRd m i))) (i:Int)
def Aba{vs ws:List aB}{car:Int}(h:(AD vs car).O2=(AD ws car).O2):∀(l:List Entry) (c:Int×Int),Ll vs car l c=Ll ws car l c
 |[],_=>rfl
 |e::t,c=>by unfold Ll Jz Ahm;rw[h];exact Aba h t _
section
variable{b:V}{m:Img}(hm:ImgOK b m)
include hm
def Rdy(b:V)(m:Img)(vs:List aB)(i:Nat):Prop:=vs.length=b.B0.length/\∀j,j<i->(vs.getD j noV).O2=vRd m j
omit hm in
theorem Akp{vs:List aB}(h:Rdy b m vs b.B0.length)(hi:i<b.B0.length):JS b m vs (i:Int)=Abw b m i:=by
 have e:(AD vs (i:Int)).O2=(AD (aI b.B0.length (Ble (vRd m i))) (i:Int)).O2:=by unfold AD;rw[i_];refine(h.2 i hi).trans ?_;rw[n_,List.getElem?_replicate_of_lt hi];rfl
 unfold Abw JS;rw[Aba e,h.1,J_]
theorem Bac(hi:i<b.B0.length):JB m.F0 m.M0 m.I0 m.A0 (i:Int)=aC ((B,()),()):=by unfold JB;simp only[hm.lp,hm.lf,hm.ll,b_ (ω:(0:Int)<=(i:Int)),f_ (I_ (b.B0.length:Int)),d_,c_,b_ (ω:(i:Int)<(b.B0.length:Int)),a_]
theorem Aht(hi:i<b.B0.length):JA m.F0 m.M0 m.I0 m.A0 (i:Int)=aC ((vRd m i,()),())/\HG m.F0 m.M0 m.I0 m.A0 (i:Int)=aC ((vRd m i,()),()):=by
 have i1:O (i:Int) m.F0.length=B:=J ω (by rw[hm.lp];omega);have i2:O (i:Int) m.M0.length=B:=J ω (by rw[hm.lf];omega);have i3:O (i:Int) m.I0.length=B:=J ω (by rw[hm.ll];omega);unfold JA HG vRd vPh vFl vLv;refine⟨Ag (a:=(((m.F0.getD i 0==0||m.F0.getD i 0==4)&&(!m.M0.getD i C&&!m.I0.getD i C),()),())) (Ag (Bac hm hi) ?_) rfl,Ag (a:=(((m.F0.getD i 0==0||m.F0.getD i 0==4)&&(!m.M0.getD i C&&!m.I0.getD i C),()),())) (Ag (Vm hm hi) ?_) rfl⟩<;>
 .simp only[i1,i2,i3,d_,i_];cases m.F0.getD i 0==0<;>cases m.F0.getD i 0==4<;>cases m.M0.getD i C<;>rfl
theorem Apt(hi:i<b.B0.length):Hj m.F0 m.M0 m.I0 m.A0 (i:Int)=aC ((vSv m i,()),())/\GO m.F0 m.M0 m.I0 m.A0 (i:Int)=aC ((vSv m i,()),()):=by
 have i1:O (i:Int) m.F0.length=B:=J ω (by rw[hm.lp];omega);unfold Hj GO vSv vPh;refine⟨Ag (Bac hm hi) ?_,Ag (a:=((m.F0.getD i 0==0||(m.F0.getD i 0==1||m.F0.getD i 0==4),()),())) (Ag (Vm hm hi) ?_) rfl⟩<;>
 .simp only[i1,d_,c_,m_,i_];cases m.F0.getD i 0==0<;>cases m.F0.getD i 0==1<;>rfl
theorem Blm(hi:i<b.B0.length):HH m.F0 m.M0 m.I0 m.A0 (i:Int)=aC (((),()),((C,vSv m i,C,(vFl m i||!vSv m i),(-1:Int),(0:Int),(0:Int),(0:Int),(0:Int),(0:Int),(0:Int),(0:Int),()),())):=by unfold HH;refine Ag (Apt hm hi).2 ?_;rw[J (ω:(0:Int)<=(i:Int)) (show(i:Int)<(m.M0.length:Int)by rw[hm.lf];omega)];show Option.bind (bif !vSv m i then _ else bif B then aC (((),()),((C,vSv m i,C,vFl m i,_),_))else none) _=_;cases vSv m i<;>cases vFl m i<;>rfl
theorem Aag:W (HV m.F0 m.M0 m.I0 m.A0) λy=>Rdy b m y.1.1 b.B0.length:=by
 have hcc:=Ai hm.code;have hp:=hm.lp;unfold HV;refine E (by simp only[e_,R_];omega) (H (Q:=λy=>Rdy b m y.1.1 b.B0.length) ?_ λ_ h=>A h);have h0:(aI (Z (m.F0.length:Int)) (aH C C C C 0 0 0 0 0 0 0 0)).length=b.B0.length:=by rw[J_];omega
 generalize aI (Z (m.F0.length:Int)) (aH C C C C 0 0 0 0 0 0 0 0)=L at h0;unfold Kk;refine aA (λ(k:Nat) z=>∃(i:Nat) (l:List aB),z=(((),l,(L.length:Int),(i:Int),()),(m.tup,()))/\Rdy b m l i/\i+k=L.length) (λk z hz=>?_) L.length ⟨0,L,rfl,⟨h0,λj hj=>absurd hj (aM j)⟩,k_ _⟩ ω;obtain⟨i,l,rfl,hl,hk⟩:=hz;show W (Kl l (L.length:Int) (i:Int) m.F0 m.M0 m.I0 m.A0) _;unfold Kl;refine I (λq=>?_) λq=>A (by have q:=K_ q;rwa [show i=b.B0.length by omega]at hl);have q:=o_ q;have w:=Br (n:=i) ω;have hll:=hl.1;refine S (Aht hm (ω:i<b.B0.length)).1 (E (J ω ω) ?_);refine A ⟨k-1,ω,i+1,_,by first|(rw[<-w];rfl)|rw[<-w],⟨by rw[E_];exact hll,λj hj=>?_⟩,ω⟩;rw[i_];by_cases e:i=j
 .subst e;rw[Dt _ _ ω]
 .rw[HI _ _ e];exact hl.2 j ω
theorem Ai5:W (Em m.F0 m.M0 m.I0 m.A0) λy=>Rdy b m y.1.1 b.B0.length:=by
 have hcc:=Ai hm.code;have hp:=hm.lp;unfold Em;refine E (by simp only[e_,R_];omega) (H (Q:=λy=>Rdy b m y.1.1 b.B0.length) ?_ λ_ h=>A h);have h0:(aI (Z (m.F0.length:Int)) (aH C C C C 0 0 0 0 0 0 0 0)).length=b.B0.length:=by rw[J_];omega
 generalize aI (Z (m.F0.length:Int)) (aH C C C C 0 0 0 0 0 0 0 0)=L at h0;unfold OJ;refine aA (λ(k:Nat) z=>∃(i:Nat) (l:List aB),z=(((),l,(i:Int),()),(m.tup,()))/\Rdy b m l i/\i+k=b.B0.length) (λk z hz=>?_) b.B0.length ⟨0,L,rfl,⟨h0,λj hj=>absurd hj (aM j)⟩,k_ _⟩ ω;obtain⟨i,l,rfl,hl,hk⟩:=hz;show W (Kz l (i:Int) m.F0 m.M0 m.I0 m.A0) _;unfold Kz;have hll:=hl.1;refine I (λq=>?_) λq=>A (by have q:=K_ q;rwa [show i=b.B0.length by omega]at hl);have q:=o_ q;have w:=Br (n:=i) ω;refine S (Aht hm (ω:i<b.B0.length)).2 (E (J ω ω) ?_);refine A ⟨k-1,ω,i+1,_,by first|(rw[<-w];rfl)|rw[<-w],⟨by rw[E_];exact hll,λj hj=>?_⟩,ω⟩;rw[i_];by_cases e:i=j
 .subst e;rw[Dt _ _ ω]
 .rw[HI _ _ e];exact hl.2 j ω
end
@[reducible] def vwT(v:aB):Bool×Bool×Bool×Bool×Int×Int×Int×Int×Int×Int×Int×Int×Unit:=(v.O2,v.L2,v.N2,v.B3,v.C0,v.G0,v.X2,v.I2,v.X1,v.D2,v.G1,v.D1,())
@[reducible] def Bk5(x:NewCar):Int×Int×Int×Int×Int×Bool×Int×Int×Int×Int×Int×Int×Int×Bool×Unit:=(x.R1,x.H1,x.C1,x.V1,x.O1,x.Z1,x.P1,x.V0,x.Z0,x.S0,x.I1,x.R2,x.L4,x.F3,())
def Amd(m:Mch)(i:Nat):aB:=aH (vRd m.H0 i) (vSv m.H0 i) (Nz (vPh m.H0 i)) (vFl m.H0 i||!vSv m.H0 i) (m.R0.getD i Jw).C0 (m.R0.getD i Jw).G0 0 0 0 0 (TR (m.R0.getD i Jw).K0 (0,0)).1 (TR (m.R0.getD i Jw).K0 (0,0)).2
def Aa8(b:V)(m:Mch)(i:Nat)(f:Int)(l:Bool)(d:Int):Int×Int:=bif vPh m.H0 i==4 then Yj b (m.B0.getD i AK) f l d else(0,0)
def Bfu(b:V)(m:Mch)(i:Nat)(f:Int)(l:Bool)(d:Int):aB:=aH (vRd m.H0 i) (vSv m.H0 i) (Nz (vPh m.H0 i)) (vFl m.H0 i||!vSv m.H0 i) f (m.B0.getD i AK).R1 (m.Y1.getD i BP).F5 (Aa8 b m i f l d).1 (Aa8 b m i f l d).2 (m.B0.getD i AK).I1 (Abw b m.H0 i).1 (Abw b m.H0 i).2
def Yo(b:V)(m:Mch)(i:Nat)(f:Int)(l:Bool)(d:Int):aB:=bif Nz (vPh m.H0 i)then Amd m i else Bfu b m i f l d
def Ast(h:Nz (vPh m.H0 i)=B)(f:Int)(l:Bool)(d:Int):Yo b m i f l d=Amd m i:=by unfold Yo;rw[h];rfl
def Ass(h:Nz (vPh m.H0 i)=C)(f:Int)(l:Bool)(d:Int):Yo b m i f l d=Bfu b m i f l d:=by unfold Yo;rw[h];rfl
section
variable{b:V}(hb:b.small){m:Mch}(hm:ImgOK b m.H0)(hbl:m.R0.length=b.B0.length)(hcl:m.B0.length=b.B0.length)(hll:m.Y1.length=b.B0.length)(hbd:∀x∈m.R0,x.K0.length<=1000)(hcu:∀x∈m.B0,ucR x.I1){i:Nat}(hi:i<b.B0.length)
include hb hm hi
omit hm in
theorem Bgi{m:Img}(hm:ImgOK b m):W (Gg b.D0 b.E0 b.J0 b.O0 b.L0 b.N0 b.P0 b.B0 m.F0 m.M0 m.I0 m.A0 (i:Int)) λy=>y=(((),()),(((Abw b m i).1,(Abw b m i).2,()),())):=by
 have hcc:=Ai hm.code;have he:=Bv hb hm;have hp:=hm.lp;have hmx:1000<=maxLen:=by decide
 unfold Gg;refine H (Aag hm) λy1 h1=>S (Afl hb y1.1.1 m ω ω (i:Int)) (A ?_);rw[Akp h1 hi]
include hbl hcl hll hbd
theorem Agm(f:Int)(l:Bool)(d:Int)(k:Bool):W (Ig b.D0 b.E0 b.J0 b.O0 b.L0 b.N0 b.P0 b.B0 m.H0.F0 m.H0.M0 m.H0.I0 m.H0.A0 m.W0.h0 m.W0.h1 m.W0.sel m.E1 m.R0 m.B0 m.Y1 m.J1 m.D3 m.C3 m.J2 m.C2 (i:Int) f l d k) λy=>y=(((),()),(vwT (Yo b m i f l d),())):=by
 have i1:O (i:Int) m.H0.F0.length=B:=J ω (by rw[hm.lp];omega);have i2:O (i:Int) m.R0.length=B:=J ω ω;have i3:O (i:Int) m.B0.length=B:=J ω ω;have i4:O (i:Int) m.H0.M0.length=B:=J ω (by rw[hm.lf];omega);have i5:O (i:Int) m.Y1.length=B:=J ω ω;have hD:(m.R0.getD i Jw).K0.length<=1000:=hbd _ (AT _ ω);unfold Ig;refine E i1 (E i3 (S (Aht hm hi).1 (S (Apt hm hi).1 (S (Bd2 _) ?_))));refine S (b:=(((i:Int),(),(),(),(),vPh m.H0 i,(),(),()),((b.D0,b.E0,b.J0,b.O0,b.L0,b.N0,b.P0,b.B0,()),(m.H0.F0,m.H0.M0,m.H0.I0,m.H0.A0,m.W0.h0,m.W0.h1,m.W0.sel,m.E1,m.R0,m.B0,m.Y1,m.J1,m.D3,m.C3,m.J2,m.C2,()),(f,l,d,k,()),(C,C,C,C,(0:Int),(0:Int),(0:Int),(0:Int),(0:Int),(0:Int),(0:Int),(0:Int),()),Bk5 (m.B0.getD i AK),(vRd m.H0 i,vSv m.H0 i,Nz (vPh m.H0 i),(vFl m.H0 i||!vSv m.H0 i),(0:Int),(0:Int),(0:Int),(0:Int),(0:Int),(0:Int),(0:Int),(0:Int),()),()))) ?_ ?_
 .show(bif O (i:Int) m.H0.M0.length then(bif vFl m.H0 i then _ else _)else none)=_;rw[i4,d_];cases vFl m.H0 i<;>rfl
 refine I (λh=>E i2 (S (Ayf hD) (A ?_))) λh=>E i5 ?_
 .rw[Ast h];rfl
 rw[Ass h];refine S (b:=(((i:Int),(),(),(),(),(),()),((b.D0,b.E0,b.J0,b.O0,b.L0,b.N0,b.P0,b.B0,()),(m.H0.F0,m.H0.M0,m.H0.I0,m.H0.A0,m.W0.h0,m.W0.h1,m.W0.sel,m.E1,m.R0,m.B0,m.Y1,m.J1,m.D3,m.C3,m.J2,m.C2,()),(C,C,C,C,(0:Int),(0:Int),(0:Int),(0:Int),(0:Int),(0:Int),(0:Int),(0:Int),()),Bk5 (m.B0.getD i AK),(vRd m.H0 i,vSv m.H0 i,Nz (vPh m.H0 i),(vFl m.H0 i||!vSv m.H0 i),f,(m.B0.getD i AK).R1,(m.Y1.getD i BP).F5,(Aa8 b m i f l d).1,(Aa8 b m i f l d).2,(0:Int),(0:Int),(0:Int),()),()))) ?_ ?_
 .show(bif(vPh m.H0 i==4)then _ else _)=_;unfold Aa8;cases vPh m.H0 i==4 with
  |true=>exact Ag (Ags hb hm.code (m.B0.getD i AK) f l d k) rfl
  |false=>rfl
 refine H (Bgi hb hi hm) λy8 h8=>A ?_;rw[h8];rfl
include hcu
theorem Arb(f:Int)(l:Bool)(d:Int)(k:Bool):W (Jl b.D0 b.E0 b.J0 b.O0 b.L0 b.N0 b.P0 b.B0 m.H0.F0 m.H0.M0 m.H0.I0 m.H0.A0 m.W0.h0 m.W0.h1 m.W0.sel m.E1 m.R0 m.B0 m.Y1 m.J1 m.D3 m.C3 m.J2 m.C2 f l d k (i:Int)) λy=>y=(((),()),(vwT (Yo b m i f l d),())):=by
 have hc:=Ai hm.code;have he:=Bv hb hm;have hp:=hm.lp;have hmx:100000<=maxLen:=by decide
 have i1:O (i:Int) m.H0.F0.length=B:=J ω ω;have i2:O (i:Int) m.R0.length=B:=J ω ω;have i3:O (i:Int) m.B0.length=B:=J ω ω;have i4:O (i:Int) m.Y1.length=B:=J ω ω;unfold Jl;refine S (Blm hm hi) (S (Aht hm hi).2 (E i1 (S (Avp _) ?_)));refine I (λh=>?_) λh=>?_
 .have h:Nz (vPh m.H0 i)=B:=h;rw[Ast h];refine E i2 (E i2 ?_);refine H (Q:=λy=>y.2.2.1=vwT (Amd m i)) ?_ λy hy=>A (by rw[hy]);have hD:(m.R0.getD i Jw).K0.length<=1000:=hbd _ (AT _ ω);refine aA (λ(kk:Nat) z=>∃(j:Nat) (c:Int×Int),z=(((i:Int),(),(),(),(j:Int),()),((m.H0.F0,m.H0.M0,m.H0.I0,m.H0.A0,m.W0.h0,m.W0.h1,m.W0.sel,m.E1,m.R0,m.B0,m.Y1,m.J1,m.D3,m.C3,m.J2,m.C2,()),(C,C,C,C,(0:Int),(0:Int),(0:Int),(0:Int),(0:Int),(0:Int),(0:Int),(0:Int),()),(vRd m.H0 i,vSv m.H0 i,Nz (vPh m.H0 i),(vFl m.H0 i||!vSv m.H0 i),(m.R0.getD i Jw).C0,(m.R0.getD i Jw).G0,(0:Int),(0:Int),(0:Int),(0:Int),c.1,c.2,()),()))/\j+kk=(m.R0.getD i Jw).K0.length/\TR ((m.R0.getD i Jw).K0.drop j) c=TR (m.R0.getD i Jw).K0 (0,0)) (λkk z hz=>?_) (m.R0.getD i Jw).K0.length ⟨0,(0,0),rfl,k_ _,rfl⟩ ω;obtain⟨j,c,rfl,hk,hcc⟩:=hz;unfold TE;refine E i2 (I (λg=>?_) λg=>A ?_)
  .have g:(j:Int)<((m.R0.getD i Jw).K0.length:Int):=o_ g;have w:=Br (n:=j) ω;refine E i2 (E (J (ω:(0:Int)<=(j:Int)) g) ?_);refine S (SV _ _) (S (Aas c (HL _ _)) ?_);rw[AR Bfm (ω:j<(m.R0.getD i Jw).K0.length)]at hcc;exact A ⟨kk-1,ω,j+1,_,by first|(rw[<-w];rfl)|rw[<-w],ω,hcc⟩
  .have g:¬(j:Int)<((m.R0.getD i Jw).K0.length:Int):=K_ g;rw[List.drop_eq_nil_of_le ω]at hcc;unfold Amd;rw[<-hcc];rfl
 .have h:Nz (vPh m.H0 i)=C:=h;rw[Ass h];have hcu':=hcu (m.B0.getD i AK) (AT _ ω);refine E i3 (E i4 ?_);refine S (b:=(((i:Int),(),(),(),(),()),((b.D0,b.E0,b.J0,b.O0,b.L0,b.N0,b.P0,b.B0,()),(m.H0.F0,m.H0.M0,m.H0.I0,m.H0.A0,m.W0.h0,m.W0.h1,m.W0.sel,m.E1,m.R0,m.B0,m.Y1,m.J1,m.D3,m.C3,m.J2,m.C2,()),(C,C,C,C,(0:Int),(0:Int),(0:Int),(0:Int),(0:Int),(0:Int),(0:Int),(0:Int),()),(vRd m.H0 i,vSv m.H0 i,Nz (vPh m.H0 i),(vFl m.H0 i||!vSv m.H0 i),f,(m.B0.getD i AK).R1,(m.Y1.getD i BP).F5,(Aa8 b m i f l d).1,(Aa8 b m i f l d).2,(0:Int),(0:Int),(0:Int),()),()))) ?_ ?_
  .show(bif O (i:Int) m.H0.F0.length then(bif(vPh m.H0 i==4)then(bif O (i:Int) m.B0.length then _ else none)else _)else none)=_;unfold Aa8;rw[i1,i3,d_,d_];cases vPh m.H0 i==4 with
   |true=>exact Ag (Ao2 hb hm.code (m.B0.getD i AK) hcu' f l d k) rfl
   |false=>rfl
  refine E i3 (H (Ai5 hm) λrd hr=>?_);refine S (Pq hb rd.1.1 m.H0 ω ω (i:Int)) (A ?_);rw[Akp hr hi];rfl
end
def fbV(b:V)(x:aD):Bool:=decide (0<=x.C0)&&(decide (x.C0<b.D0)&&(decide (0<=x.K2)&&decide (x.K2<=2)))
def Nw:aD:=Feedback.mk 0 C 0 C
def Ary(b:V)(x:aD):FO b.D0 b.E0 b.J0 b.O0 b.L0 b.N0 b.P0 b.B0 x.C0 x.L5 x.K2 x.P5=aC ((fbV b x,()),())/\Dz b.D0 b.E0 b.J0 b.O0 b.L0 b.N0 b.P0 b.B0 x.C0 x.L5 x.K2 x.P5=aC ((fbV b x,()),()):=by unfold FO Dz fbV;cases decide (0<=x.C0)<;>cases decide (x.C0<b.D0)<;>cases decide (0<=x.K2)<;>exact⟨rfl,rfl⟩
def Amr(d:α)(h:∀j,j<l.length->p (l.getD j d)=B):l.all p=B:=
 C_.2 λx hx=>by
  obtain⟨j,hj,rfl⟩:=List.getElem_of_mem hx
  have:=h j hj
  rwa [n_,j_ hj]at this
def Axw(d:α)(hj:j<l.length)(h:p (l.getD j d)=C):l.all p=C:=by
 cases q:l.all p with
 |false=>rfl
 |true=>rw[C_.1 q _ (AT d hj)]at h;exact h
def Bco(d x:α)(h:j<l.length):(l++[x]).getD j d=l.getD j d:=by rw[n_,c0_ h,<-n_]
def Bcp(d x:α)(h:j=l.length):(l++[x]).getD j d=x:=by subst h;rw[n_,b9_ (H_ _),Nat.sub_self];rfl
def HA(b:V)(m:Mch)(fb:List aD):Bool:=Ei b m&&(((fb.length:Int)==(b.B0.length:Int))&&fb.all (fbV b))
def VAt(b:V)(m:Mch)(fb:List aD)(vs:List aB)(n:Nat):Prop:=∀i,i<n->vs.getD i noV=Yo b m i (fb.getD i Nw).C0 (fb.getD i Nw).L5 (fb.getD i Nw).K2
def VWs(b:V)(m:Mch)(fb:List aD)(vs:List aB):Prop:=(HA b m fb=B->vs.length=b.B0.length/\VAt b m fb vs b.B0.length)/\(HA b m fb=C->vs=[])
def VWs.no{fb:List aD}(h:HA b m fb=C):VWs b m fb []:=⟨λh2=>absurd (h2.symm.trans h) τ,λ_=>rfl⟩
section
variable{b:V}(hb:b.small)(hcode:b.code=0){m:Mch}(hm:MW b m)(fb:List aD)
include hb hcode hm
omit hm hcode hb in
theorem Aym(hl:fb.length<=1000):Ar fb b.D0 b.E0 b.J0 b.O0 b.L0 b.N0 b.P0 b.B0=aC ((!fb.all (fbV b),()),(b.tup,())):=by
 refine Sat.eq ?_;unfold Ar AE;refine H (Q:=λy=>y.2.1=b.tup/\decide (0<=y.1.1)=!fb.all (fbV b)) ?_ λy h=>A (by rw[h.1,h.2]);refine H (Q:=λy=>match y with
  |.inl y=>y=((),(b.tup,()))/\fb.all (fbV b)=B
  |.inr y=>∃n:Nat,y=(((n:Int),()),(b.tup,()))/\fb.all (fbV b)=C) ?_ λy hy=>?_
 .refine aA (λ(k:Nat) z=>∃(i:Nat),z=((fb,(),(fb.length:Int),(i:Int),()),(b.tup,()))/\i+k=fb.length/\∀j,j<i->fbV b (fb.getD j Nw)=B) (λk z hz=>?_) fb.length ⟨0,rfl,k_ _,λj hj=>absurd hj (aM j)⟩ ω;obtain⟨i,rfl,hk,hj⟩:=hz;unfold Bm;refine I (λg=>?_) λg=>A ⟨rfl,Amr Nw λj hjj=>hj j (by have g:¬(i:Int)<(fb.length:Int):=K_ g;omega)⟩;have g:(i:Int)<(fb.length:Int):=o_ g;have w:=Br (n:=i) ω;refine E (J (ω:(0:Int)<=(i:Int)) g) (S (Ag (Ary b (fb.getD i Nw)).1 rfl) ?_);refine I (λh=>A ⟨i,rfl,Axw Nw (ω:i<fb.length) ?_⟩) λh=>A ⟨k-1,ω,i+1,by first|(rw[<-w];rfl)|rw[<-w],ω,λj hjj=>?_⟩
  .have h:(!fbV b (fb.getD i Nw))=B:=h;simpa using h
  .have h:(!fbV b (fb.getD i Nw))=C:=h;by_cases e:j=i
   .subst e;simpa using h
   .exact hj j ω
 .cases y with
  |inl y=>obtain⟨rfl,h⟩:=hy;exact A ⟨rfl,by rw[h];rfl⟩
  |inr y=>obtain⟨n,rfl,h⟩:=hy;exact A ⟨rfl,by rw[h];exact b_ (ω:(0:Int)<=(n:Int))⟩
omit hm in
theorem Agl(hv:Ei b m=B):ImgOK b m.H0/\m.R0.length=b.B0.length/\m.B0.length=b.B0.length/\m.Y1.length=b.B0.length:=by unfold Ei KA FS JO at hv;simp only[e_,a3_]at hv;obtain⟨⟨v1,_⟩,_,v3,v4,_,⟨v6,_⟩,⟨v7,_⟩,⟨v8,_⟩,⟨v9,_⟩,v10⟩:=hv;exact⟨Img.ok_iff.1 v1,ω,ω,ω⟩
theorem TZ:W (DQ b.D0 b.E0 b.J0 b.O0 b.L0 b.N0 b.P0 b.B0 m.H0.F0 m.H0.M0 m.H0.I0 m.H0.A0 m.W0.h0 m.W0.h1 m.W0.sel m.E1 m.R0 m.B0 m.Y1 m.J1 m.D3 m.C3 m.J2 m.C2 fb) λy=>VWs b m fb y.1.1:=by
 have hc:=Ai hcode;unfold DQ;refine S (Yd hb hcode hm.fit) (I (λh=>A (VWs.no ?_)) λhv=>I (λh=>A (VWs.no ?_)) λhl=>?_)
 .have h:(!Ei b m)=B:=h;unfold HA;rw[a5_]at h;rw[h];rfl
 .have h:(!((fb.length:Int)==(b.B0.length:Int)))=B:=h;rw[a5_]at h;unfold HA;rw[h,S_,a9_]
 have hv:Ei b m=B:=by simpa using(show(!Ei b m)=C from hv)
 have hl':((fb.length:Int)==(b.B0.length:Int))=B:=by simpa using(show(!((fb.length:Int)==(b.B0.length:Int)))=C from hl)
 have hl:fb.length=b.B0.length:=by have:=eq_of_beq hl';omega
 have hG:HA b m fb=fb.all (fbV b):=by unfold HA;rw[hv,hl'];rfl
 obtain⟨f1,f2,f3,f4⟩:=Agl hb hcode hv;refine S (Aym fb ω) (I (λh=>A (VWs.no ?_)) λh=>?_)
 .rw[hG];simpa using(show(!fb.all (fbV b))=B from h)
 have hg:HA b m fb=B:=by rw[hG];simpa using(show(!fb.all (fbV b))=C from h)
 refine E (by simp only[e_,R_];omega) (H (Q:=λy=>y.1.1.length=b.B0.length/\VAt b m fb y.1.1 b.B0.length) ?_ λy h=>A ⟨λ_=>h,λh2=>by rw[hg]at h2;cases h2⟩);have h0:(aI (Z (fb.length:Int)) (aH C C C C 0 0 0 0 0 0 0 0)).length=b.B0.length:=by rw[J_];omega
 generalize aI (Z (fb.length:Int)) (aH C C C C 0 0 0 0 0 0 0 0)=L at h0;unfold Mb;refine aA (λ(k:Nat) z=>∃(i:Nat) (l:List aB),z=((fb,(),(),l,(L.length:Int),(i:Int),()),(b.tup,m.tup,()))/\l.length=b.B0.length/\VAt b m fb l i/\i+k=L.length) (λk z hz=>?_) L.length ⟨0,L,rfl,h0,λj hj=>absurd hj (aM j),k_ _⟩ ω;obtain⟨i,l,rfl,hll,hv,hk⟩:=hz;show W (Me fb l (L.length:Int) (i:Int) b.D0 b.E0 b.J0 b.O0 b.L0 b.N0 b.P0 b.B0 m.H0.F0 m.H0.M0 m.H0.I0 m.H0.A0 m.W0.h0 m.W0.h1 m.W0.sel m.E1 m.R0 m.B0 m.Y1 m.J1 m.D3 m.C3 m.J2 m.C2) _;unfold Me;refine I (λq=>?_) λq=>A ⟨hll,by have q:=K_ q;rwa [show i=b.B0.length by omega]at hv⟩;have q:=o_ q;have w:=Br (n:=i) ω;refine E (J ω ω) (H (Agm hb f1 f2 f3 f4 hm.beld (ω:i<b.B0.length) _ _ _ _) λy1 h1=>E (J ω ω) ?_);subst h1;refine A ⟨k-1,ω,i+1,_,by first|(rw[<-w];rfl)|rw[<-w],by rw[E_];exact hll,λj hj=>?_,ω⟩;rw[i_];by_cases e:i=j
 .subst e;exact Dt _ _ ω
 .rw[HI _ _ e];exact hv j ω
theorem Apb:W (Ms b.D0 b.E0 b.J0 b.O0 b.L0 b.N0 b.P0 b.B0 m.H0.F0 m.H0.M0 m.H0.I0 m.H0.A0 m.W0.h0 m.W0.h1 m.W0.sel m.E1 m.R0 m.B0 m.Y1 m.J1 m.D3 m.C3 m.J2 m.C2 fb) λy=>VWs b m fb y.1.1:=by
 have hc:=Ai hcode;unfold Ms;refine S (Ny hb hcode hm.fit λx hx=>by have:=hm.caru x hx;unfold ucR at this;omega) (I (λh=>A (VWs.no ?_)) λhv=>I (λh=>A (VWs.no ?_)) λhl=>?_)
 .have h:(!Ei b m)=B:=h;unfold HA;rw[a5_]at h;rw[h];rfl
 .have h:(!((fb.length:Int)==(b.B0.length:Int)))=B:=h;rw[a5_]at h;unfold HA;rw[h,S_,a9_]
 have hv:Ei b m=B:=by simpa using(show(!Ei b m)=C from hv)
 have hl':((fb.length:Int)==(b.B0.length:Int))=B:=by simpa using(show(!((fb.length:Int)==(b.B0.length:Int)))=C from hl)
 have hl:fb.length=b.B0.length:=by have:=eq_of_beq hl';omega
 have hG:HA b m fb=fb.all (fbV b):=by unfold HA;rw[hv,hl'];rfl
 obtain⟨f1,f2,f3,f4⟩:=Agl hb hcode hv;refine H (Q:=λy=>match y with
  |.inl y=>y=((fb,(),(),()),(b.tup,m.tup,()))/\fb.all (fbV b)=B
  |.inr y=>y=(([],()),())/\fb.all (fbV b)=C) ?_ λy hy=>?_
 .refine aA (λ(k:Nat) z=>∃(i:Nat),z=((fb,(),(),(i:Int),()),(b.tup,m.tup,()))/\i+k=fb.length/\∀j,j<i->fbV b (fb.getD j Nw)=B) (λk z hz=>?_) fb.length ⟨0,rfl,k_ _,λj hj=>absurd hj (aM j)⟩ ω;obtain⟨i,rfl,hk,hj⟩:=hz;unfold YL;refine I (λg=>?_) λg=>A ⟨rfl,Amr Nw λj hjj=>hj j (by have g:¬(i:Int)<(fb.length:Int):=K_ g;omega)⟩;have g:(i:Int)<(fb.length:Int):=o_ g;have w:=Br (n:=i) ω;refine E (J (ω:(0:Int)<=(i:Int)) g) (S (Ary b (fb.getD i Nw)).2 ?_);refine I (λh=>A ⟨rfl,Axw Nw (ω:i<fb.length) ?_⟩) λh=>A ⟨k-1,ω,i+1,by first|(rw[<-w];rfl)|rw[<-w],ω,λj hjj=>?_⟩
  .have h:(!fbV b (fb.getD i Nw))=B:=h;simpa using h
  .have h:(!fbV b (fb.getD i Nw))=C:=h;by_cases e:j=i
   .subst e;simpa using h
   .exact hj j ω
 cases y with
 |inr y=>obtain⟨rfl,h⟩:=hy;exact A (VWs.no (by rw[hG];exact h))
 |inl y=>
  obtain⟨rfl,h⟩:=hy;have hg:HA b m fb=B:=by rw[hG];exact h
  refine H (Q:=λy=>y.1.1.length=b.B0.length/\VAt b m fb y.1.1 b.B0.length) ?_ λy h=>A ⟨λ_=>h,λh2=>by rw[hg]at h2;cases h2⟩;refine aA (λ(k:Nat) z=>∃(i:Nat) (l:List aB),z=((fb,(),(),l,(i:Int),()),(b.tup,m.tup,()))/\l.length=i/\VAt b m fb l i/\i+k=fb.length) (λk z hz=>?_) fb.length ⟨0,[],rfl,rfl,λj hj=>absurd hj (aM j),k_ _⟩ ω;obtain⟨i,l,rfl,hll,hv,hk⟩:=hz;unfold YM;refine I (λq=>?_) λq=>A ?_
  .have q:(i:Int)<(fb.length:Int):=o_ q;have w:=Br (n:=i) ω;refine E (J (ω:(0:Int)<=(i:Int)) q) (H (Arb hb f1 f2 f3 f4 hm.beld hm.caru (ω:i<b.B0.length) _ _ _ _) λy1 h1=>?_);subst h1;refine E (Ah (ω:l.length+1<=_)) (A ⟨k-1,ω,i+1,_,by first|(rw[<-w];rfl)|rw[<-w],by rw[h_,hll];rfl,λj hj=>?_,ω⟩);by_cases e:j=i
   .subst e;exact Bcp _ _ hll.symm
   .rw[Bco _ _ (ω:j<l.length)];exact hv j ω
  .have q:¬(i:Int)<(fb.length:Int):=K_ q;have e:i=b.B0.length:=ω;exact⟨by rw[<-e];exact hll,by rw[<-e];exact hv⟩
end
def Bcs:Ja=aC ((B,()),()):=by decide+kernel
def Ar9(b:V):MW b Mch.none:=⟨XV Sto.no,λx hx=>(by cases hx),λx hx=>(by cases hx)⟩
section
variable{b:V}(hb:b.small)(hcode:b.code=0)(hc3:b.B0.length<=3)(hld:b.loads)
include hb hcode hc3 hld
theorem Azu(hm:MW b m){fr:List ByteArray}(hfl:fr.length<=1000)(hfr:∀s∈fr,s.size<=1000000):W (UI b.D0 b.E0 b.J0 b.O0 b.L0 b.N0 b.P0 b.B0 m.H0.F0 m.H0.M0 m.H0.I0 m.H0.A0 m.W0.h0 m.W0.h1 m.W0.sel m.E1 m.R0 m.B0 m.Y1 m.J1 m.D3 m.C3 m.J2 m.C2 fr) λy=>∃m',y.2.1=m'.tup/\MW b m':=by
 have hn:=Ar9 b;unfold UI;refine S (Ny hb hcode hm.fit λx hx=>by have:=hm.caru x hx;unfold ucR at this;omega) ?_;refine I (λ_=>A ⟨_,rfl,hn⟩) λ_=>I (λ_=>A ⟨_,rfl,hn⟩) λ_=>?_;refine H (Q:=λy=>match y with
  |.inl y=>∃m':Mch,y.2.1=m'.tup/\MW b m'
  |.inr y=>∃m':Mch,y.2.1=m'.tup/\MW b m') ?_ λy hy=>by
   cases y with
   |inl y=>exact A hy
   |inr y=>exact A hy
 refine aA (λ(k:Nat) z=>∃(m:Mch) (out:List Outputs) (i:Nat),z=((fr,(),(),(),out,(i:Int),()),(b.tup,m.tup,Mch.none.tup,()))/\MW b m/\out.length=i/\i+k=fr.length) (λk z hz=>?_) fr.length ⟨m,[],0,rfl,hm,rfl,k_ _⟩ ω;obtain⟨m,out,i,rfl,hm,hol,hk⟩:=hz;unfold Acx;refine I (λgg=>?_) λ_=>A ⟨m,rfl,hm⟩;have gg:(i:Int)<(fr.length:Int):=o_ gg;have w:=Br (n:=i) ω;refine E (J (ω:(0:Int)<=(i:Int)) gg) ?_;refine H (Avi hb hcode hc3 hld hm (hfr _ (AT _ (ω:(i:Int).toNat<fr.length))) (show(1048576:Int)<9223372036854775808 from by decide)) λy1 h1=>?_;refine I (λ_=>A ⟨_,rfl,hn⟩) λhz=>?_;obtain⟨ya,yb⟩:=y1;have hz:ya.2.2.1=0:=by have hz:(ya.2.2.1 !=0)=C:=hz;rw[bne,d2_]at hz;exact eq_of_beq hz
 obtain⟨m',o,e,h2,h3⟩:=h1 hz;simp only at e;subst e;exact Sat.bindR (E (Ah (ω:out.length+1<=_)) (A ⟨k-1,ω,m',out++[o],i+1,by first|(rw[<-w];rfl)|rw[<-w],h2,by rw[h_,hol];rfl,ω⟩))
theorem Bf1{l:List Int}(h:∀e∈l,u8r e)(hl:l.length<=maxLen)(hm:most<=1000):W (Ml b.D0 b.E0 b.J0 b.O0 b.L0 b.N0 b.P0 b.B0 l (most:Int)) λy=>∃m':Mch,y=(((),()),(m'.tup,()))/\MW b m':=by unfold Ml;refine S (Apa hb hcode) (Sat.bindR (H (Baj hb hcode h hl hm) λy3 h3=>?_));refine H (Azu hb hcode hc3 hld (Bdq hcode) ω h3.2) λy4 h4=>?_;obtain⟨m',e,h⟩:=h4;exact A ⟨m',by rw[e],h⟩
omit hld in
theorem Ayr{n0 n1 n2:Int}(h0:0<=n0/\n0<256)(h1:0<=n1/\n1<256)(h2:0<=n2/\n2<256)(raw:List aD)(m:Mch):W (DZ ((raw,(),(),(),([]:List aD),(0:Int),()),((n0,n1,n2,()),b.tup,m.tup,()))) λy=>∃good:List aD,y=((raw,(),(),good,()),(b.tup,m.tup,())):=by
 have hc:=Ai hcode;refine aA (λ(k:Nat) z=>∃(good:List aD) (i:Nat),z=((raw,(),(),(),good,(i:Int),()),((n0,n1,n2,()),b.tup,m.tup,()))/\good.length=i/\i+k=b.B0.length) (λk z hz=>?_) b.B0.length ⟨[],0,rfl,rfl,k_ _⟩ ω;obtain⟨good,i,rfl,hg,hk⟩:=hz;unfold OL;refine I (λq=>?_) λ_=>A ⟨good,rfl⟩;have q:(i:Int)<(b.B0.length:Int):=o_ q;have w:=Br (n:=i) ω;refine H (Ami hb hcode (x0:=IntKind.u8.wrap (i:Int)) (x1:=n0) (x2:=n1) (x3:=n2) (x4:=0) (x5:=0) λe he=>?_) λy1 hy=>?_
 .rw[Aps (n:=(i:Int)) ω ω]at he;simp only[v_,f0_,or_false]at he;unfold u8r;omega
 obtain⟨x,rfl,hx⟩:=hy;have hxl:x.cars.length=b.B0.length:=by unfold KC at hx;simp only[e_,a3_]at hx;omega
 exact E (J (ω:(0:Int)<=(i:Int)) (ω:(i:Int)<(x.cars.length:Int))) (E (Ah (ω:good.length+1<=_)) (A ⟨k-1,ω,_,i+1,by first|(rw[<-w];rfl)|rw[<-w],by rw[h_,hg];rfl,ω⟩))
end
def Bbv{v w:aB}(h:v=w):(!((v.O2==w.O2)&&((v.L2==w.L2)&&((v.N2==w.N2)&&((v.B3==w.B3)&&((v.C0==w.C0)&&((v.G0==w.G0)&&((v.X2==w.X2)&&((v.I2==w.I2)&&((v.X1==w.X1)&&((v.D2==w.D2)&&((v.G1==w.G1)&&((v.D1==w.D1)&&B)))))))))))))=C:=by subst h;simp only[s_,c4_,m_]
def Aya{xs ys:List aB}(hl:xs.length=ys.length)(hx:xs.length<=1000)(h:∀i,i<xs.length->xs.getD i noV=ys.getD i noV)(good:List aD)(s:List (List aD))(n k:Int):W (Eb (((),(),good,xs,ys,(0:Int),s,n,k,()),(b.tup,m.tup,()))) λy=>y=.inl (((),(),good,s,n,k,()),(b.tup,m.tup,())):=by refine aA (λ(kk:Nat) z=>∃(i:Nat),z=(((),(),good,xs,ys,(i:Int),s,n,k,()),(b.tup,m.tup,()))/\i+kk=xs.length) (λkk z hz=>?_) xs.length ⟨0,rfl,k_ _⟩ ω;obtain⟨i,rfl,hk⟩:=hz;unfold ON;refine I (λq=>?_) λ_=>A rfl;have q:(i:Int)<(xs.length:Int):=o_ q;have w:=Br (n:=i) ω;refine E (J (ω:(0:Int)<=(i:Int)) q) (E (J (ω:(0:Int)<=(i:Int)) (ω:(i:Int)<(ys.length:Int))) ?_);exact Sat.bifF (Bbv (h i ω)) (A ⟨kk-1,ω,i+1,by first|(rw[<-w];rfl)|rw[<-w],ω⟩)
def Bab(hb:b.small)(hcode:b.code=0)(hm:MW b m)(good:List aD){s:List (List aD)}(hs:s.length<=1000):W (Ea (((),(),good,s,(s.length:Int),(0:Int),()),(b.tup,m.tup,()))) λy=>y=.inl (((),good,()),(b.tup,())):=by
 have hc:=Ai hcode;refine aA (λ(kk:Nat) z=>∃(i:Nat),z=(((),(),good,s,(s.length:Int),(i:Int),()),(b.tup,m.tup,()))/\i+kk=s.length) (λkk z hz=>?_) s.length ⟨0,rfl,k_ _⟩ ω;obtain⟨i,rfl,hk⟩:=hz;unfold OM;refine I (λq=>?_) λ_=>A rfl;have q:(i:Int)<(s.length:Int):=o_ q;have w:=Br (n:=i) ω;refine E (J (ω:(0:Int)<=(i:Int)) q) ?_;refine H (TZ hb hcode hm (s.getD i [])) λy1 h1=>H (Apb hb hcode hm (s.getD i [])) λy2 h2=>?_;have hh:y1.1.1.length=y2.1.1.length/\y1.1.1.length<=1000/\∀j,j<y1.1.1.length->y1.1.1.getD j noV=y2.1.1.getD j noV:=by
  cases hg:HA b m (s.getD i [])with
  |true=>obtain⟨a1,a2⟩:=h1.1 hg;obtain⟨c1,c2⟩:=h2.1 hg;exact⟨ω,ω,λj hj=>by rw[a2 j ω,c2 j ω]⟩
  |false=>rw[h1.2 hg,h2.2 hg];exact⟨rfl,G_ _,λj _=>rfl⟩
 obtain⟨e1,e2,e3⟩:=hh;refine Sat.bifF (show((y1.1.1.length:Int) !=(y2.1.1.length:Int))=C by rw[e1];exact L_ _) (H (Aya e1 e2 e3 good s (s.length:Int) (i:Int)) λy3 h3=>?_);subst h3;exact A ⟨kk-1,ω,i+1,by first|(rw[<-w];rfl)|rw[<-w],ω⟩
def Bc7(hcode:b.code=0)(fb:List aD):HA b Mch.none fb=C:=by
 cases h:HA b Mch.none fb with
 |false=>rfl
 |true=>
  have hc:=Ai hcode;unfold HA at h;have hv:=(Bool.and_eq_true_iff.1 h).1;unfold Ei at hv;simp only[e_,a3_]at hv
  have:(([]:List Calls).length:Int)=(b.B0.length:Int):=hv.2.2.2.2.2.2.2.2.2
  have:((0:Nat):Int)=(b.B0.length:Int):=this
  omega
def Aej(n_f0:Int)(n_f1:Int)(n_f2:Int)(l:List Int)(raw:List aD)(h_n_f0:0<=n_f0/\n_f0<256)(h_n_f1:0<=n_f1/\n_f1<256)(h_n_f2:0<=n_f2/\n_f2<256)(h_l:l.length<=maxLen/\∀e∈l,(0<=e/\e<256))(h_raw:raw.length<=maxLen/\∀e∈raw,(-9223372036854775808<=e.C0/\e.C0<9223372036854775808)/\(-9223372036854775808<=e.K2/\e.K2<9223372036854775808)):F_l27_MachineViews n_f0 n_f1 n_f2 l raw=aC ((B,()),()):=by
 have hs:=Bcs;refine Sat.eq ?_;unfold F_l27_MachineViews;obtain⟨k0,rfl⟩:=aQ h_n_f0.1;obtain⟨k1,rfl⟩:=aQ h_n_f1.1;obtain⟨k2,rfl⟩:=aQ h_n_f2.1;refine S (Acg (n0:=k0) (n1:=k1) (n2:=k2) ω ω ω) ?_;obtain⟨hfl,hca⟩:(2<=FE k0/\FE k0<=6)/\1<=Fh k0/\Fh k0<=3:=by unfold FE Fh;omega
 have hfacts:=Apz (n1:=k1) (n2:=k2) hfl hca ω ω;have hld:=Ap0 (FE k0) (Fh k0) k1 k2;have hb:=hfacts.1;have hcode:=hfacts.2.1;have hcl:=hfacts.2.2.1;generalize DL (FE k0) (Fh k0) k1 k2=b at hb hcode hcl hld;refine Sat.bindR (H (Bf1 hb hcode ω hld (l:=l) (λe he=>h_l.2 e he) h_l.1 (most:=50) ω) λy3 h3=>?_);obtain⟨m,rfl,hm⟩:=h3;refine H (Ayr hb hcode ω h_n_f0 h_n_f1 h_n_f2 raw m) λy4 h4=>?_;obtain⟨good,rfl⟩:=h4;refine Sat.bindR (H (Bab hb hcode hm good (s:=[good,raw,[]]) (by show 3<=1000;omega)) λy6 h6=>?_);subst h6;refine H (Q:=λy=>y=((B,()),())) ?_ λy h=>A (by rw[h]);refine H (TZ hb hcode (Ar9 b) good) λy8 h8=>?_;have e8:=h8.2 (Bc7 hcode good);exact E (show((y8.1.1.length:Int)==0)=B by rw[e8];rfl) (S hs (A rfl))
end Go.Ovl
