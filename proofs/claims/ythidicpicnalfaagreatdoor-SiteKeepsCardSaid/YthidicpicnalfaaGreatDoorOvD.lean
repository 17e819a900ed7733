import Derived.Test.YthidicpicnalfaaGreatDoorOvC
import Derived.Test.YthidicpicnalfaaGreatDoorOvB
set_option linter.all false
set_option maxRecDepth 100000
open Bool renaming true->A,false->B
open Go.Ovl.Sat renaming ret->C,bifT->J,bindS->O,bindE->R,bic->Z,bifF->aE,loop->aK
open Go.Ovl renaming Af->E,phA->H,AF->N,Ag->S,AT->U,Sat->W,Bldg->aB,Record->aD,outP->aF,Relay->aH,SitOK->aJ,CarInput->aN,Debounced->aO
open Go.IntKind renaming i64->V,wrap->aA,u64->aI,u8->aM
open Int renaming tmod->aC,tdiv->aL,toNat->aP
open Option renaming some->aG
open List renaming getElem?_replicate->aQ,mem_or_eq_of_mem_set->aR,replicate->aS,mem_append_left->aT
namespace Go.Ovl
open Go Go.Ab
variable{b:aB}{i:Nat}{cs:List Car}{l:List Int}{r:aD}{s:ByteArray}{x z:Inp}{m:Mch}{o:Outputs}{p:Psh}{t t':Pk}{n kind bud:Int}{c:Car}{g:Bool}
section
variable{b:aB}(hw:BW b){x:Inp}{g:Bool}(hx:g=A->InOK b x)
include hw hx
theorem Atw(hm:PM b t.m)(v:PR b t)(hb:Bud t):W (t.ap Cz b x g) λy=>∃(t':Pk) (vs:List View),y=((),(t'.tup b x g,()))/\Dsp b x g t t' vs/\Sm t t'/\t'.m.Z0=t.m.Z0/\∀j,j<b.A0.length->(t'.out.A0.getD j E).T1=(t.out.A0.getD j E).T1:=by
 have hf:=Ah hw.code;unfold Pk.ap Cz;obtain⟨y1,D,vs,rfl,d⟩:=Asf hw hx hm v;refine R D ?_;have hxv:inX t.m.Z2:=hm.exv;have hd:=Tu hw.small hw.code hm.jst.img hm.exl t.m.F4 x.press g hxv.exp (VA.ok hw d) d.len hm.lit;obtain⟨a,I⟩:=Adm hw.small hw.code hm.jst.img hm.exl hxv t.m.F4 x.press g d.len;obtain⟨f,k⟩:=Aj4 b t.m.E0 t.m.Z2 vs t.m.F4 x.press g;rw[d.len]at f k;refine R hd ?_;have hR:MK b t.m.E0 t.m.Z2 vs t.m.F4 x.press g=KU b x g t vs:=rfl;rw[hR]at a I f k|-;have L:∀(t':Pk),(Al b t t' (KU b x g t vs).recs\/De b t t' (KU b x g t vs).recs)->_->_->_->_->Dsp b x g t t' vs:=λt' h1 h2 P F h5=>⟨d,D,a,h1,h2,P,F,h5⟩
 generalize he:KU b x g t vs=r at a I f k L;refine Sat.bindR ?_;refine O (Q:=λy=>∃t',y=(((),(),()),(r.tup,t'.tup b x g,()))/\Wr b t r.recs t') ?_ λy6 h6=>?_
 .refine O (Oo hw.small (x:=x) (g:=g) hm.jst hb.2 hb.1 a.good (ω:r.recs.length<=100000)) λy4 F=>?_;obtain⟨t',e|e,h⟩:=F
  .subst e;exact C ⟨t',rfl,h⟩
  .subst e;exact C ⟨t',rfl,h⟩
 obtain⟨t1,rfl,w⟩:=h6;obtain⟨im,s,Y,e,rfl,w⟩:=w;refine O (Q:=λy=>∃n,y=(((),(),()),(r.tup,((t.wr im s Y e).sRnd r n<|!isZ r.ref).tup b x g,()))/\0<=n/\n<=1000000) (Z (λq=>O (Zl hm.ref) λy7 h7=>C ⟨y7.1.1,rfl,h7⟩) λq=>C ⟨t.m.F3,rfl,hm.ref⟩) λy8 h8=>?_;obtain⟨n,rfl,hn⟩:=h8;refine O (Air r ω<|(t.wr im s Y e).sRnd r n<|!isZ r.ref) λy9 h9=>?_;subst h9;refine O (Ais r (t:=((t.wr im s Y e).sRnd r n<|!isZ r.ref).sServ<|QI r.recs (t.out.L4,t.out.I4)) (by show t.out.A0.length<=1000;rw[v.oc];omega) (by show _=t.out.A0.length;rw[v.oc];exact f) (by show _=t.out.A0.length;rw[v.oc];exact k)) λha h0=>?_;obtain⟨l,rfl,hl,hc⟩:=h0;replace hl:l.length=t.out.A0.length:=hl;replace hc:∀j,j<t.out.A0.length->Ahh r j (t.out.A0.getD j E) (l.getD j E):=hc;rw[v.oc]at hl hc;refine C ⟨_,vs,rfl,L _ ?_ rfl hl hc rfl,⟨rfl,rfl,rfl⟩,rfl,λj hj=>(hc j hj).2.2.2⟩;rcases w with⟨rfl,rfl,h1,h2,P,F,_⟩|⟨rfl,h1,h2,P⟩
 .rw[a.img]at h1;refine .inl ⟨rfl,?_,⟨v.leg,v.sho,v.rst,hl,λi=>by
   by_cases q:i<b.A0.length
   .show CmdR (l.getD i E).T1;rw[(hc i q).2.2.2];exact v.cmd i
   .show CmdR (l.getD i E).T1;rw[show(l.getD i E)=E by rw[g_,List.getElem?_eq_none ω];rfl];rfl⟩,rfl,P,F,(by show t.budget-_<=Y;omega),rfl⟩
  have:=hm.rnd a f h1 hn
  rw[<-a.img]at this;exact this
 .exact .inr ⟨rfl,ω,h2,P⟩
end
structure FinX(m:Img)(t t':Pk)(i:Nat):Prop where
 bel:AI (phA m i)=true->∀e∈(t'.m.P0.getD i AL).V0,e∈(t.m.P0.getD i AL).V0\/(e.U3=0/\Ax ((t'.out.A0.getD i Af).M1,(t'.out.A0.getD i Af).E1) e.D0.toNat e.H0=true)
 rst:t.reset.getD i false=true->(t'.out.A0.getD i Af).T1=0
 cmd:t.reset.getD i false=false->Me (phA m i) (t.out.A0.getD i Af).T1=true->(t'.out.A0.getD i Af).T1=(t.out.A0.getD i Af).T1
section
variable{b:aB}(hw:BW b){x:Inp}{g:Bool}
include hw
set_option maxHeartbeats 4000000 in
theorem At5(hm:PM b t.m)(hr:PR b t):W (BG (((),t.m.E0.G0,(t.m.E0.G0.length:Int),(0:Int),()),(t.tup b x g,()))) λy=>∃t',y=((),(t'.tup b x g,()))/\PM b t'.m/\Fix t t'/\t'.out.A0.length=b.A0.length/\(∀i,i<b.A0.length->FinO b t.m.E0 i (t.out.A0.getD i E) (t'.out.A0.getD i E))/\(t'.m.A0=t.m.A0/\t'.reset=t.reset)/\∀i,i<b.A0.length->FinX t.m.E0 t t' i:=by
 have x0:=Ah hw.code;have hp:=hm.jst.img.lp;unfold BG;refine aK (λ(k:Nat) z=>∃(i:Nat) (t':Pk),z=(((),t.m.E0.G0,(t.m.E0.G0.length:Int),(i:Int),()),(t'.tup b x g,()))/\i+k=b.A0.length/\PM b t'.m/\PR b t'/\Fix t t'/\(∀j,j<i->FinO b t.m.E0 j (t.out.A0.getD j E) (t'.out.A0.getD j E))/\(∀j,i<=j->t'.out.A0.getD j E=t.out.A0.getD j E)/\(t'.m.A0=t.m.A0/\t'.reset=t.reset)/\(∀j,j<i->FinX t.m.E0 t t' j)/\∀j,i<=j->t'.m.P0.getD j AL=t.m.P0.getD j AL) (λk z hz=>?_) b.A0.length ⟨0,t,rfl,n_ _,hm,hr,.rfl' t,λj hj=>absurd hj<|Y_ j,λj _=>rfl,⟨rfl,rfl⟩,λj hj=>absurd hj<|Y_ j,λj _=>rfl⟩ ω;obtain⟨i,u,rfl,hk,D,ha,hf,h1,h2,hs,hX,hB⟩:=hz;show W (u.ap (CB t.m.E0.G0 (t.m.E0.G0.length:Int) (i:Int)) b x g) _;unfold Pk.ap CB;refine Z (λq=>?_) λq=>C ⟨u,rfl,D,hf,ha.oc,λj hj=>h1 j (by have:=o_ q;omega),hs,λj hj=>hX j (by have:=o_ q;omega)⟩;have q:(i:Int)<(t.m.E0.G0.length:Int):=k_ q;have hi:i<b.A0.length:=ω;have w:=Cm (n:=i) ω;have hu:inB (i:Int) u.m.E0.R0.length=A:=Ac ω (by rw[D.jst.img.lf];omega);refine J (Ac ω q) ?_;refine O (Q:=λy=>∃v:Pk,y=(((),(i:Int),H t.m.E0 i,t.m.E0.G0,(t.m.E0.G0.length:Int),(i:Int),()),(v.tup b x g,()))/\PM b v.m/\PR b v/\Fix t v/\v.out=u.out/\(v.m.A0=u.m.A0/\v.reset=u.reset)/\(∀j,j≠i->v.m.P0.getD j AL=u.m.P0.getD j AL)/\∀e∈(v.m.P0.getD i AL).V0,e∈(u.m.P0.getD i AL).V0\/e.U3=0) ?_ λy5 h5=>?_
 .refine O (Q:=λy=>∃c:Bool,y=(((),(i:Int),H t.m.E0 i,t.m.E0.G0,(t.m.E0.G0.length:Int),(i:Int),c,()),(u.tup b x g,()))) (R (Qq _) (Z (λ_=>J hu<|C ⟨_,rfl⟩) λ_=>C ⟨_,rfl⟩)) λy2 h2=>?_;obtain⟨c,rfl⟩:=h2;have i2:inB (i:Int) u.m.P0.length=A:=Ac ω (by rw[D.bel];omega);refine Z (λ_=>J i2 ?_) λ_=>C ⟨u,rfl,D,ha,hf,rfl,⟨rfl,rfl⟩,λ_ _=>rfl,λe he=>.inl he⟩;refine O (YV hw D.jst.img (i:Int)) λy3 _=>?_;obtain⟨⟨ya,yb,yc⟩,e1,v,e4,hv⟩:=Ui hw.small hw.code hi (D.belv i hi) y3.2.1.1 y3.2.1.2.1;obtain⟨y4,e2,hq⟩:=Azs hw.small hw.code hi (D.belv i hi) y3.2.1.1 y3.2.1.2.1;rw[e1]at e2;obtain rfl:=s_ e2;change yb=_ at e4;subst e4;refine R e1<|J i2<|C ⟨u.sBel i v,rfl,D.sBel hv,ha.sBel i v,⟨⟨hf.im,hf.st,hf.bu,hf.e,hf.out⟩,hf.con⟩,rfl,⟨rfl,rfl⟩,λj hj=>As _ _<|a7_ hj,?_⟩;show ∀e∈((u.m.P0.set i v).getD i AL).V0,_;rw[Am _ _ (by rw[D.bel];exact hi)];exact hq
 obtain⟨v,rfl,h8,F,Y,h3,h9,hg,hn⟩:=h5;have j2:inB (i:Int) v.m.P0.length=A:=Ac ω (by rw[h8.bel];omega);have jo:inB (i:Int) v.out.A0.length=A:=Ac ω (by rw[F.oc];omega);have jf:inB (i:Int) v.m.E0.R0.length=A:=Ac ω (by rw[h8.jst.img.lf];omega);have jr:inB (i:Int) v.reset.length=A:=Ac ω (by rw[F.rst];omega);have I:i<v.out.A0.length:=by rw[F.oc];exact hi
 obtain⟨y6,e6,h6⟩:=Aq9 hw hi (H t.m.E0 i)<|h8.belv i hi;have hy:AI (H t.m.E0 i)=A->∀e∈(v.m.P0.getD i AL).V0,e.U3=0->Ax (y6.2.1.1,y6.2.1.2.1) e.D0.toNat e.H0=A:=λhp=>by obtain⟨y7,e7,h7⟩:=Be4 hw.small hw.code hi (h8.belv i hi) hp;rw[e6]at e7;obtain rfl:=s_ e7;exact h7
 refine J jo<|J j2<|R e6<|J jf<|J jr ?_;obtain⟨a,d,kc,rfl,P,h4⟩:=h6;have f:v.out.A0.getD i E=t.out.A0.getD i E:=by rw[h3];exact h2 i<|t_ i
 have L:flA v.m.E0 i=flA t.m.E0 i:=by rw[Y.im]
 have e9:=Ag7 I a d kc (H t.m.E0 i)<|flA v.m.E0 i;have hd:=Ane I a d kc (H t.m.E0 i)<|flA v.m.E0 i;have done:∀c:CarOutput,FinO b t.m.E0 i (t.out.A0.getD i E) c->(c.M1,c.E1)=(a,d)->(v.reset.getD i B=A->c.T1=0)->(v.reset.getD i B=B->Me (H t.m.E0 i) (t.out.A0.getD i E).T1=A->c.T1=(t.out.A0.getD i E).T1)->PM b (v.sOuts<|v.out.A0.set i c).m/\PR b (v.sOuts<|v.out.A0.set i c)/\Fix t (v.sOuts<|v.out.A0.set i c)/\(∀j,j<i+1->FinO b t.m.E0 j (t.out.A0.getD j E) ((v.sOuts<|v.out.A0.set i c).out.A0.getD j E))/\(∀j,i+1<=j->(v.sOuts<|v.out.A0.set i c).out.A0.getD j E=t.out.A0.getD j E)/\(v.m.A0=t.m.A0/\v.reset=t.reset)/\(∀j,j<i+1->FinX t.m.E0 t (v.sOuts<|v.out.A0.set i c) j)/\∀j,i+1<=j->v.m.P0.getD j AL=t.m.P0.getD j AL:=λc hc ht ho hh=>by
  refine⟨h8,⟨F.leg,F.sho,F.rst,(by show(v.out.A0.set i c).length=_;rw[z_];exact F.oc),Agv F.cmd hc.cmdr i⟩,⟨⟨Y.im,Y.st,Y.bu,Y.e,by show({ v.out with A0:=_ }:Outputs)=_;rw[Y.out];rfl⟩,Y.con⟩,λj hj=>?_,λj hj=>?_,⟨h9.1.trans hs.1,h9.2.trans hs.2⟩,λj hj=>?_,λj hj=>(hg j ω).trans<|hB j ω⟩
  .show FinO b t.m.E0 j (t.out.A0.getD j E) ((v.out.A0.set i c).getD j E);by_cases e:i=j
   .subst e;rw[Am _ _ I];exact hc
   .rw[As _ _ e,h3];exact h1 j ω
  .show(v.out.A0.set i c).getD j E=_;rw[As _ _ ω,h3];exact h2 j ω
  .by_cases e:j=i
   .rw[e];refine⟨λhp x he=>?_,λz=>?_,λz z2=>?_⟩
    .have k0:=hn x he;rw[hB i<|t_ i]at k0;refine k0.imp id λh0=>⟨h0,?_⟩
     show Ax (((v.out.A0.set i c).getD i E).M1,((v.out.A0.set i c).getD i E).E1) _ _=A;rw[Am _ _ I,ht];exact hy hp x he h0
    .show((v.out.A0.set i c).getD i E).T1=0;rw[Am _ _ I];exact ho (by rw[h9.2,hs.2];exact z)
    .show((v.out.A0.set i c).getD i E).T1=_;rw[Am _ _ I];exact hh (by rw[h9.2,hs.2];exact z) z2
   .have k0:=hX j ω;refine⟨λhp x he=>?_,λz=>?_,λz z2=>?_⟩
    .show _\/(_/\Ax (((v.out.A0.set i c).getD j E).M1,((v.out.A0.set i c).getD j E).E1) _ _=A)
     rw[As _ _<|a7_ e,h3];have he:x∈(v.m.P0.getD j AL).V0:=he;rw[hg j e]at he;exact k0.bel hp x he
    .show((v.out.A0.set i c).getD j E).T1=0;rw[As _ _<|a7_ e,h3];exact k0.rst z
    .show((v.out.A0.set i c).getD j E).T1=_;rw[As _ _<|a7_ e,h3];exact k0.cmd z z2
 refine Z (λqr=>?_) λqr=>R (Adw _ _) (Z (λq7=>?_) λq7=>?_)
 .obtain⟨d1,d2,d3,d4,d5⟩:=done (o4<|o3 (o2 (o1 (v.out.A0.getD i E) a d kc)<|H t.m.E0 i)<|flA v.m.E0 i) ⟨by rw[<-f];rfl,by rw[<-f];rfl,by rw[<-f];rfl,rfl,L,P,rfl,rfl,h4⟩ rfl (λ_=>rfl) (λz=>by have qr:v.reset.getD i B=A:=qr;rw[qr]at z;cases z);refine C ⟨k-1,ω,i+1,v.sOuts<|Aaj v.out.A0 i a d kc (H t.m.E0 i)<|flA v.m.E0 i,by first|(rw[<-w];rfl)|rw[<-w],ω,?_⟩;rw[hd];exact⟨d1,d2,d3,d4,d5⟩
 .obtain⟨d1,d2,d3,d4,d5⟩:=done (o4<|o3 (o2 (o1 (v.out.A0.getD i E) a d kc)<|H t.m.E0 i)<|flA v.m.E0 i) ⟨by rw[<-f];rfl,by rw[<-f];rfl,by rw[<-f];rfl,rfl,L,P,rfl,rfl,h4⟩ rfl (λ_=>rfl) (λ_ z=>by
   have q7:(!Me (H t.m.E0 i) ((WT v.out.A0 i a d kc (H t.m.E0 i)<|flA v.m.E0 i).getD i E).T1)=A:=q7;rw[e9,Am _ _ I]at q7;have q7:(!Me (H t.m.E0 i) (v.out.A0.getD i E).T1)=A:=q7;rw[f,z]at q7;cases q7)
  refine C ⟨k-1,ω,i+1,v.sOuts<|Aaj v.out.A0 i a d kc (H t.m.E0 i)<|flA v.m.E0 i,by first|(rw[<-w];rfl)|rw[<-w],ω,?_⟩;rw[hd];exact⟨d1,d2,d3,d4,d5⟩
 .have q7:(!Me (H t.m.E0 i) ((WT v.out.A0 i a d kc (H t.m.E0 i)<|flA v.m.E0 i).getD i E).T1)=B:=q7;rw[e9,Am _ _ I]at q7;obtain⟨d1,d2,d3,d4,d5⟩:=done (o3 (o2 (o1 (v.out.A0.getD i E) a d kc)<|H t.m.E0 i)<|flA v.m.E0 i) ⟨by rw[<-f];rfl,by rw[<-f];rfl,by rw[<-f];rfl,rfl,L,P,by simpa using q7,(by show CmdR (v.out.A0.getD i E).T1;exact F.cmd i),h4⟩ rfl (λz=>by have qr:v.reset.getD i B=B:=qr;rw[qr]at z;cases z) (λ_ _=>by show(v.out.A0.getD i E).T1=_;rw[f]);refine C ⟨k-1,ω,i+1,v.sOuts<|WT v.out.A0 i a d kc (H t.m.E0 i)<|flA v.m.E0 i,by first|(rw[<-w];rfl)|rw[<-w],ω,?_⟩;rw[e9];exact⟨d1,d2,d3,d4,d5⟩
theorem Bbc(hm:PM b t.m)(d:PR b t):W (t.ap Ca b x g) λy=>∃t',y=((),(t'.tup b x g,()))/\Fin b g t t'/\t'.m.A0=t.m.A0/\∀i,i<b.A0.length->FinX t.m.E0 t t' i:=by
 have D:=CW hw.small hm.jst.img;have j:ET t.m.E0.G0 t.m.E0.R0 t.m.E0.K0 t.m.E0.B0=aG (((),()),(((ofC t.m.E0.B0 (0,0)).1,(ofC t.m.E0.B0 (0,0)).2,()),())):=by unfold ET;exact Ae (Vm ω) rfl
 unfold Pk.ap Ca;refine R j ?_;refine O (At5 hw (x:=x) (g:=g) (t:=t.sLmp (ofC t.m.E0.B0 (0,0))<|!g) hm ⟨d.leg,d.sho,d.rst,d.oc,d.cmd⟩) λw a=>?_;obtain⟨t',rfl,h1,a,q,v,k,f⟩:=a;exact C ⟨t',rfl,⟨h1,a.im,a.st,a.bu,a.e,by rw[a.out];rfl,q,v,a.con⟩,k.1,λi hi=>⟨(f i hi).bel,(f i hi).rst,(f i hi).cmd⟩⟩
end
section
variable{b:aB}(hw:BW b)
include hw
theorem Bgh(hm:PM b m)(v:RdX b s):∃m' o,HN b.C0 b.F0 b.J0 b.L0 b.I0 b.M0 b.O0 b.A0 m.E0.G0 m.E0.R0 m.E0.K0 m.E0.B0 m.S1.h0 m.S1.h1 m.S1.sel m.Z0 m.P0 m.A0 m.L3 m.Z2 m.F4 m.J4 m.X3 m.F3 s 1048576=aG (((),(),0,()),(m'.tup,aF o,()))/\PM b m'/\o.A0.length=b.A0.length/\Bdq b m s 1048576 0 m' o:=by
 obtain⟨y,h,e,m',o,rfl,f⟩:=Bkv hw hm v (bud:=1048576) τ;have a:=f;obtain⟨x,t',_,_,k,j,h0,h1⟩:=f;rcases k.cases hw ⟨rfl,show _<=1048576 by decide,show 1048576<9223372036854775808 by decide⟩with⟨k1,d,q,_⟩|⟨_,d⟩
 .rw[k1]at j;subst j;obtain⟨rfl,rfl⟩:=h0 rfl;exact⟨_,_,h,d,q,a⟩
 .exact absurd (show(1048576:Int)<300000 from d) τ
end
def Bd9{b:aB}:∀{l:List aD}(n:Img),(∀r∈l,Uv b r)->(Ar n l).G0=n.G0/\(Ar n l).K0=n.K0
 |[],_,_=>⟨rfl,rfl⟩
 |r::l,n,h=>by obtain⟨e,d⟩:=Bd9 (Aw n r) λr a=>h r<|F_ _ a;obtain⟨i,_,rfl⟩:=h r<|C_ ..;exact⟨e,d⟩
structure TickF(b:Bldg)(m:Mch)(x:Inp)(g:Bool)(m':Mch)(o:Outputs)(l1 l2:List Record)(u:Mch)(vs:List View)(X:Rnd):Prop where
 fl:∀r∈l1,Uv b r
 op:(g=false/\l2=[])\/(g=true/\∃(i:Nat) (cm:List Bool) (fr:Bool),x.car=(i:Int)/\i<b.A0.length/\cm.length=b.A0.length/\l2=FX b (Ar m.E0 l1) x.kind i cm fr)
 pu:PM b u
 iu:u.E0=Ar (Ar m.E0 l1) l2
 va:VA b u.E0 g vs
 hX:X=MK b u.E0 u.Z2 vs u.F4 x.press g
 rg:Rg b u.E0 X
 img:m'.E0=X.img
 pm:PM b m'
 oc:o.A0.length=b.A0.length
 cars:∀i,i<b.A0.length->∃c d,Ahh X i c d/\FinO b m'.E0 i d (o.A0.getD i Af)
 lu:o.E6=(ofC m'.E0.B0 (0,0)).1
 ld:o.C6=(ofC m'.E0.B0 (0,0)).2
 bad:o.F6=!g
 served:(o.L4,o.I4)=QI X.recs (0,0)
 full:o.M0=!isZ X.ref
 st:0<=o.D6/\o.D6<=65535
 free:g=true->∃(i:Nat) (cm:List Bool) (fr:Bool),i<b.A0.length/\l2=FX b (Ar m.E0 l1) x.kind i cm fr/\Ey (Ar m.E0 l1).G0 (Ar m.E0 l1).R0 (Ar m.E0 l1).K0 (Ar m.E0 l1).B0=some ((fr,()),())/\x.car=(i:Int)/\cm.length=b.A0.length/\∀j,j<b.A0.length->cm.getD j false=true->(AI (phA m.E0 j)=true/\(m'.Z0.getD j An).U1=true)\/(Dg (phA m.E0 j)=true/\(x.cars.getD j CY).J2=true/\(x.cars.getD j CY).Z1=2)
def Bkn(m:Img)(kind:Int)(i:Nat)(a fr:Bool):0<=(Ip m kind i a fr).2/\(Ip m kind i a fr).2<=65535:=by
 have ite:∀(c:Bool) {x y:List aD×Int},(0<=x.2/\x.2<=65535)->(0<=y.2/\y.2<=65535)->0<=(bif c then x else y).2/\(bif c then x else y).2<=65535:=λc _ _ h1 d=>by
  cases c
  .exact d
  .exact h1
 have k:∀(l:List aD) {n:Int},0<=n/\n<=65535->0<=((l,n):List aD×Int).2/\((l,n):List aD×Int).2<=65535:=λ_ _ h=>h;exact ite _ (k _ τ)<|ite _ (ite _ (k _ τ)<|k _ τ)<|ite _ (k _ τ)<|ite _ (k _ τ)<|ite _ (k _ τ)<|ite _ (k _ τ)<|ite _ (ite _ (k _ τ)<|k _ τ)<|ite _ (ite _ (k _ τ)<|k _ τ)<|ite _ (ite _ (k _ τ)<|k _ τ)<|ite _ (k _ τ)<|k _ τ
def TickF.of(hw:BW b){y f k t4:Pk}{l1 l2:List aD}{vs:List View}(Y:g=A->x.cars.length=b.A0.length)(f1:FixR (pk0 b m bud) y)(D:∀r∈l1,Uv b r)(o2:f.out={ y.out with A0:=f.out.A0 }/\(g=A->∀j,j<b.A0.length->AI (H y.m.E0 j)=A->DC f j))(a2:Al b y f l1)(v:(g=B/\k=f/\l2=[])\/(g=A/\Opr b x g f k l2))(a3:Al b f k l2)(w:Dsp b x g k t4 vs)(a4:Al b k t4 (KU b x g k vs).recs)(d:Fin b g t4 t'):TickF b m x g t'.m t'.out l1 l2 k.m vs<|KU b x g k vs:=by
 have i1:y.m.E0=m.E0:=f1.im;have L:f.m.E0=Ar m.E0 l1:=by rw[a2.im,i1]
 have out1:f.out={ (pk0 b m bud).out with A0:=f.out.A0 }:=by rw[o2.1,f1.out]
 have a:∃s,k.out={ f.out with D6:=s }/\0<=s/\s<=65535:=by
  rcases v with⟨_,rfl,_⟩|⟨_,h⟩
  .refine⟨k.out.D6,rfl,?_⟩;rw[out1];exact show _<=0/\0<=65535 by decide
  .obtain⟨_,_,_,_,_,_,_,e,_⟩:=h.how;exact⟨_,e,Bkn ..⟩
 obtain⟨s,a,Q⟩:=a;refine⟨D,?_,a3.m,by rw[a3.im,L],w.va,rfl,w.rg,by rw[d.im,a4.im,w.rg.img],d.m,d.oc,λi hi=>?_,?_,?_,?_,?_,?_,?_,λhg=>?_⟩
 .rcases v with⟨h1,_,F⟩|⟨h1,h⟩
  .exact .inl ⟨h1,F⟩
  .obtain⟨i,cm,fr,F,h3,h4,I,_⟩:=h.how;exact .inr ⟨h1,i,cm,fr,F,h3,h4,by rw[<-L];exact I⟩
 .refine⟨_,_,w.cars i hi,?_⟩;rw[d.im];exact d.cars i hi
 .rw[d.out,d.im]
 .rw[d.out,d.im]
 .rw[d.out]
 .rw[d.out];rw[w.out,a,out1];rfl
 .rw[d.out];rw[w.out]
 .rw[d.out];rw[w.out,a];exact Q
 .rcases v with⟨h1,_⟩|⟨_,h⟩
  .rw[hg]at h1;cases h1
  .obtain⟨i,cm,fr,F,h3,h4,I,_,h7,h8⟩:=h.how;rw[L]at I h8;refine⟨i,cm,fr,h3,I,h8,F,h4,λj hj hc=>?_⟩;obtain⟨_,e,h0,rfl,_,hp⟩:=Ami hw a2.m<|Y hg;rw[h7]at e;have e:=(Prod.mk.inj (Prod.mk.inj<|s_ e).1).1;have P:H f.m.E0 j=H m.E0 j:=by rw[L];unfold H;rw[(Bd9 m.E0 D).1]
   have hq:=hp j hj (by rw[<-e];exact hc);unfold Ul at hq;rw[P]at hq;rcases hq with⟨q1,q2⟩|q
   .refine .inl ⟨q1,?_⟩
    have:=o2.2 hg j hj (by rw[i1];exact q1) q2
    rw[d.con,a4.con,a3.con];exact this
   .exact .inr q
def RunR.fact(hw:BW b)(f:g=A->x.cars.length=b.A0.length)(h:RunR b x g (pk0 b m bud) t')(h0:t'.e=0):∃l1 l2 u vs X,TickF b m x g t'.m t'.out l1 l2 u vs X:=by
 have no:∀{u v:Pk}{l:List aD},De b u v l->v.e=0->False:=λd e=>by have:=d.e;omega
 obtain⟨t1,Y,l1,m1,r1,w,a,I,o2,⟨d,rfl⟩|⟨F,L,l2,j,h⟩⟩:=h
 .exact(no d h0).elim
 rcases h with⟨d,rfl⟩|⟨y,Q,vs,k,h⟩
 .exact(no d h0).elim
 rcases h with⟨P,rfl⟩|⟨_,q⟩
 .omega
 rcases k.res with D|d
 .exact⟨l1,l2,L.m,vs,_,.of hw f w a o2 F j y k D q⟩
 .have:=q.e
  exact(no d ω).elim
def Baj(m:Img)(h:r.C1≠4/\r.C1≠5/\r.C1≠6):(Aw m r).G0=m.G0/\(Aw m r).R0=m.R0/\(Aw m r).K0=m.K0:=by unfold Aw;rw[Ao h.1,Ao h.2.1,Ao h.2.2];cases Ej r.D0 r.H0 m.B0 0==-1<;>cases r.C1==1<;>cases r.C1==2<;>cases r.C1==3<;>cases r.C1==7<;>exact⟨rfl,rfl,rfl⟩
def Aia:∀{l:List aD}(m:Img),(∀r∈l,r.C1≠4/\r.C1≠5/\r.C1≠6)->(Ar m l).G0=m.G0/\(Ar m l).R0=m.R0/\(Ar m l).K0=m.K0
 |[],_,_=>⟨rfl,rfl,rfl⟩
 |r::t,m,h=>by obtain⟨h1,e,d⟩:=Baj m<|h r<|C_ ..;obtain⟨k1,f,a⟩:=Aia _ λx hx=>h x<|F_ _ hx;exact⟨k1.trans h1,f.trans e,a.trans d⟩
def Xl{α:Type}(get:Img->α)(p:aD->Prop)(v:aD->α)(I:Img->Prop):∀{l:List aD}{m:Img},(∀r∈l,∀n,I n->I (Aw n r)/\((p r/\get (Aw n r)=v r)\/(¬p r/\get (Aw n r)=get n)))->I m->(get (Ar m l)=get m/\∀r∈l,¬p r)\/∃r∈l,p r/\get (Ar m l)=v r
 |[],_,_,_=>.inl ⟨rfl,λr h=>by cases h⟩
 |r::l,m,h,hm=>by
  obtain⟨h1,f⟩:=h r (C_ ..) m hm;rcases Xl get p v I (λs a=>h s<|F_ _ a) h1 with⟨e,n⟩|⟨s,a,e⟩
  .rcases f with⟨q,d⟩|⟨q,d⟩
   .exact .inr ⟨r,C_ ..,q,e.trans d⟩
   .refine .inl ⟨e.trans d,λs a=>?_⟩;rcases A_.1 a with rfl|a
    .exact q
    .exact n s a
  .exact .inr ⟨s,F_ _ a,e⟩
def Img.fits(b:aB)(m:Img):Prop:=m.G0.length=b.A0.length/\m.R0.length=b.A0.length
def ImgOK.fits{m:Img}(h:ImgOK b m):m.fits b:=⟨h.lp,h.lf⟩
def Amj(f:NH b r){n:Img}(a:n.fits b){c:Nat}(hc:c<b.A0.length):(Aw n r).fits b/\H (Aw n r) c=(bif r.C1==4&&r.X0==(c:Int)then r.P2 else H n c)/\flA (Aw n r) c=(bif r.C1==5&&r.X0==(c:Int)then r.P2==1 else flA n c):=by
 obtain⟨i,k,v,hi,rfl,h⟩:=f;have d:k=4\/k=5\/k=6:=ω;rcases d with rfl|rfl|rfl
 .refine⟨⟨by show(n.G0.set i v).length=_;rw[z_];exact a.1,a.2⟩,?_,rfl⟩;show(n.G0.set i v).getD c 0=bif(i:Int)==c then v else n.G0.getD c 0;by_cases e:i=c
  .subst e;rw[q_,i_,Am _ _ (by rw[a.1];exact hc)]
  .rw[Ao ω,j_,As _ _ e]
 .refine⟨⟨a.1,by show(n.R0.set i _).length=_;rw[z_];exact a.2⟩,rfl,?_⟩;show(n.R0.set i _).getD c B=bif _==(c:Int)then v==1 else n.R0.getD c B;by_cases e:i=c
  .subst e;rw[q_,i_,Am _ _ (by rw[a.2];exact hc)]
  .rw[Ao (ω:¬i=(c:Int)),j_,As _ _ e]
 .exact⟨a,rfl,rfl⟩
section
variable{b:aB}{l:List aD}(hl:∀r∈l,NH b r){m:Img}(hm:m.fits b){c:Nat}(hc:c<b.A0.length)
include hl hm hc
theorem Aom:(H (Ar m l) c=H m c/\∀r∈l,¬(r.C1=4/\r.X0=(c:Int)))\/∃r∈l,(r.C1=4/\r.X0=(c:Int))/\H (Ar m l) c=r.P2:=
 Xl (λn=>H n c) _ _ _ (λr e n d=>by
  obtain⟨h1,a,_⟩:=Amj (hl r e) d hc;refine⟨h1,?_⟩;by_cases q:r.C1=4/\r.X0=c
  .exact .inl ⟨q,by rw[a,q.1,q.2,q_,q_];rfl⟩
  .refine .inr ⟨q,?_⟩;rw[a,show(r.C1==4&&r.X0==c)=B by rw[Bool.and_eq_false_iff,beq_eq_false_iff_ne,beq_eq_false_iff_ne];omega];rfl) hm
theorem Bbf:(flA (Ar m l) c=flA m c/\∀r∈l,¬(r.C1=5/\r.X0=(c:Int)))\/∃r∈l,(r.C1=5/\r.X0=(c:Int))/\flA (Ar m l) c=(r.P2==1):=
 Xl (λn=>flA n c) _ _ _ (λr e n d=>by
  obtain⟨h1,_,a⟩:=Amj (hl r e) d hc;refine⟨h1,?_⟩;by_cases q:r.C1=5/\r.X0=c
  .exact .inl ⟨q,by rw[a,q.1,q.2,q_,q_];rfl⟩
  .refine .inr ⟨q,?_⟩;rw[a,show(r.C1==5&&r.X0==c)=B by rw[Bool.and_eq_false_iff,beq_eq_false_iff_ne,beq_eq_false_iff_ne];omega];rfl) hm
end
def Aoi(m:Img)(kind:Int)(hi:i<b.A0.length)(cm:List Bool)(fr:Bool):∀r∈FX b m kind i cm fr,NH b r:=λr a=>by
 rcases m_.1 a with h|h
 .exact(Zq m kind hi _ fr).1 r h
 .exact ZV _ _ _ (t_ _) r h
def WK(a z:Int):Prop:=(a=0/\z=1)\/(a=1/\z=0)\/(a=1/\z=2)\/(a=2/\z=0)\/(a=2/\z=3)\/(a=3/\z=2)\/(a=3/\z=4)\/(a=4/\z=2)
def Aap{m:Img}{j fr:Bool}(h:r∈(Ip m kind i j fr).1):r.X0=(i:Int)/\kind≠0/\((r.C1=4/\WK (H m i) r.P2/\(r.P2=2->H m i=3/\j=A))\/r.C1=6\/(r.C1=5/\kind=8)):=by
 have ite:∀(c:Bool) {p:Prop}{x y:List aD×Int},r∈(bif c then x else y).1->(c=A->r∈x.1->p)->(c=B->r∈y.1->p)->p:=λc p x y h h1 v=>by
  cases c
  .exact v rfl h
  .exact h1 rfl h
 have one:∀{q:aD}{e:Int},r∈([q],e).1->r=q:=λh=>y_.1 h;refine ite _ h (λ_ h=>by cases h) λh0 h=>?_;have h0:kind≠0:=by simpa using h0
 have a:∀{c d:Bool},(c&&d)=A->c=A/\d=A:=λ{c d} h=>by simpa using h
 refine ite _ h (λq h=>ite _ h (λ_ h=>?_) λ_ h=>by cases h) λ_ h=>?_
 .obtain⟨_,f⟩:=a q;rw[one h];exact⟨rfl,h0,.inl ⟨rfl,.inl ⟨eq_of_beq f,rfl⟩,λh=>absurd h (show ¬1=2 by decide)⟩⟩
 refine ite _ h (λq h=>?_) λ_ h=>?_
 .obtain⟨_,f⟩:=a q;rw[one h];exact⟨rfl,h0,.inl ⟨rfl,.inr<|.inl ⟨eq_of_beq f,rfl⟩,λh=>absurd h (show ¬0=2 by decide)⟩⟩
 refine ite _ h (λq h=>?_) λ_ h=>?_
 .obtain⟨_,f⟩:=a q;rw[one h];exact⟨rfl,h0,.inl ⟨rfl,.inr<|.inr<|.inr<|.inl ⟨eq_of_beq f,rfl⟩,λh=>absurd h (show ¬0=2 by decide)⟩⟩
 refine ite _ h (λq h=>?_) λ_ h=>?_
 .rw[one h];exact⟨rfl,h0,.inr<|.inl rfl⟩
 refine ite _ h (λq h=>?_) λ_ h=>?_
 .obtain⟨_,f⟩:=a q;rw[one h];exact⟨rfl,h0,.inl ⟨rfl,.inr<|.inr<|.inr<|.inr<|.inl ⟨eq_of_beq f,rfl⟩,λh=>absurd h (show ¬3=2 by decide)⟩⟩
 refine ite _ h (λq h=>ite _ h (λhc h=>?_) λ_ h=>by cases h) λ_ h=>?_
 .obtain⟨_,f⟩:=a q;rw[one h];exact⟨rfl,h0,.inl ⟨rfl,.inr<|.inr<|.inr<|.inr<|.inr<|.inl ⟨eq_of_beq f,rfl⟩,λ_=>⟨eq_of_beq f,hc⟩⟩⟩
 refine ite _ h (λq h=>ite _ h (λ_ h=>?_) λ_ h=>by cases h) λ_ h=>?_
 .obtain⟨_,f⟩:=a q;rw[one h];exact⟨rfl,h0,.inl ⟨rfl,.inr<|.inr<|.inr<|.inr<|.inr<|.inr<|.inl ⟨eq_of_beq f,rfl⟩,λh=>absurd h (show ¬4=2 by decide)⟩⟩
 refine ite _ h (λq h=>ite _ h (λ_ h=>?_) λ_ h=>by cases h) λ_ h=>?_
 .rw[one h];exact⟨rfl,h0,.inr<|.inl rfl⟩
 refine ite _ h (λq h=>?_) λ_ h=>by cases h
 obtain⟨k,_⟩:=a q;rw[one h];exact⟨rfl,h0,.inr<|.inr ⟨rfl,eq_of_beq k⟩⟩
def Al6{m:Img}{a:List Bool}:∀{n:Nat}{r:aD},r∈FR m a n->∃i:Nat,i<n/\r.X0=(i:Int)/\Pe m a i=A/\((r.C1=4/\r.P2=2)\/r.C1=6\/(r.C1=5/\r.P2=0))/\⟨4,0,0,(i:Int),2⟩∈FR m a n
 |0,_,h=>by cases h
 |n+1,r,h=>by
  rcases m_.1 h with h|h
  .obtain⟨i,h1,k,f,j,e⟩:=Al6 h;exact⟨i,ω,k,f,j,aT _ e⟩
  .unfold NF at h;cases d:Pe m a n with
   |false=>rw[d]at h;cases h
   |true=>
    have hi:(⟨4,0,0,n,2⟩:aD)∈FR m a (n+1):=List.mem_append_right _ (by unfold NF;rw[d];exact aT _<|aT _<|y_.2 rfl);rw[d]at h;refine⟨n,ω,?_⟩;rcases m_.1 h with h|h
    .rcases m_.1 h with h|h
     .rw[y_.1 h];exact⟨rfl,d,.inl ⟨rfl,rfl⟩,hi⟩
     .cases hl:JJ m n with
      |false=>rw[hl]at h;cases h
      |true=>rw[hl]at h;rw[y_.1 h];exact⟨rfl,d,.inr<|.inl rfl,hi⟩
    .cases hl:flA m n with
     |false=>rw[hl]at h;cases h
     |true=>rw[hl]at h;rw[y_.1 h];exact⟨rfl,d,.inr<|.inr ⟨rfl,rfl⟩,hi⟩
def Bfm{m:Img}{a:List Bool}(h:Pe m a i=A):a.getD i B=A/\(H m i=1\/H m i=4)/\Sg m i=B:=by unfold Pe JJ at h;simp only[b_,O_,I_,b4_]at h;exact⟨h.1,ω,h.2.2⟩
section
variable{b:aB}{m:Img}(hm:m.fits b){kind:Int}{i:Nat}(hi:i<b.A0.length){cm:List Bool}(hcm:cm.length=b.A0.length){fr:Bool}{c:Nat}(hc:c<b.A0.length)
include hm hi hcm hc
theorem Aoj(D:r∈FX b m kind i cm fr)(h0:r.X0=(c:Int)):(r∈(Ip m kind i (cm.getD i B) fr).1/\c=i/\kind≠0)\/(cm.getD c B=A/\(kind≠0->c≠i)/\(H m c=1\/H m c=4)/\Sg m c=B/\((r.C1=4/\r.P2=2)\/r.C1=6\/(r.C1=5/\r.P2=0))/\(⟨4,0,0,(c:Int),2⟩:aD)∈FX b m kind i cm fr):=by
 have ok1:=(Zq m kind hi (cm.getD i B) fr).1;have f:(Ar m (Ip m kind i _ fr).1).B0=m.B0:=Vf _ λr D=>by obtain⟨j,k,v,_,rfl,h⟩:=ok1 r D;show k=4\/k=5\/k=6;omega
 rcases m_.1 D with h|h
 .have h1:=Aap h;exact .inl ⟨h,ω,h1.2.1⟩
 .obtain⟨j,Q,h2,L,Y,h4⟩:=Al6 h;obtain rfl:j=c:=ω;obtain⟨w,I,y⟩:=Bfm L;have a:kind≠0->j≠i:=λq e=>by
   subst e;rw[FT q,i_,Am _ _ ω]at w;cases w
  have d:cm.getD j B=A:=by
   by_cases q:kind=0
   .subst q;exact w
   .rw[FT q,i_,As _ _<|a7_<|a q]at w;exact w
  refine .inr ⟨d,a,?_,?_,Y,List.mem_append_right _ h4⟩
  .rcases Aom ok1 hm Q with⟨e,_⟩|⟨r',F,⟨_,h6⟩,_⟩
   .rw[e]at I;exact I
   .have P:=Aap F;exact absurd ω<|a P.2.1
  .unfold Sg at y|-;rw[f]at y;exact y
theorem Ayk:H (Ar m<|FX b m kind i cm fr) c=H m c\/WK (H m c) (H (Ar m<|FX b m kind i cm fr) c):=by
 rcases Aom (Aoi m kind hi cm fr) hm hc with⟨e,_⟩|⟨r,d,⟨f,a⟩,e⟩
 .exact .inl e
 .rw[e];right;rcases Aoj hm hi hcm hc d a with⟨h,rfl,_⟩|⟨_,_,h,_,j,_⟩
  .rcases(Aap h).2.2 with⟨_,h,_⟩|h|⟨h,_⟩
   .exact h
   .omega
   .omega
  .unfold WK;omega
end
def kdR(r:aD):Prop:=r.C1≠4/\r.C1≠5/\r.C1≠6
def Ar5(b:aB):∀(l:List Entry) {X:Rnd},(∀r∈X.recs,kdR r)->∀r∈(Lx b l X).recs,kdR r
 |[],_,h=>h
 |e::t,X,h=>by
  refine Ar5 b t ?_;unfold Px;cases Pu b X.img with
  |false=>exact h
  |true=>
   intro r a;rcases m_.1 a with a|a
   .exact h r a
   .rw[y_.1 a];exact⟨show 1≠4 by decide,show 1≠5 by decide,show 1≠6 by decide⟩
section
variable{b:aB}(hb:b.small)(hcode:b.code=0){m:Img}(hm:ImgOK b m){xs:List Int}(hx:xs.length=m.B0.length)(hxv:inX xs){vs:List View}(ps:List Calls)(press:Int×Int)(good:Bool)
include hcode hm
theorem Bc5:∀r∈(FD b m xs vs ps press good).recs,kdR r:=by
 cases good with
 |false=>exact λr h=>by cases h
 |true=>
  have a:=QJ hcode vs λe d=>(Fy.1<|hm.en e d).1;refine Ar5 b _ λr f=>?_
  have:=(a r f).2
  exact⟨ω,ω,ω⟩
variable(hvl:vs.length=b.A0.length)
include hb hx hxv hvl
theorem Bc4:∀r∈(MK b m xs vs ps press good).recs,kdR r:=λr a=>by
 have hp:=Af2 hb hcode hm hx hxv ps press good hvl;rcases m_.1 a with h|h
 .exact Bc5 hcode hm ps press good r h
 .rw[hp]at h
  have:=Xz b vs _ _ r h
  exact⟨ω,ω,ω⟩
end
def Bk5(b:aB)(s:ByteArray)(x:Inp)(g:Bool):Prop:=((Ek b s=0/\InOK b x)\/(Ek b s≠0/\x=Inp.none))/\g=(Ek b s==0)/\EF b.C0 b.F0 b.J0 b.L0 b.I0 b.M0 b.O0 b.A0 s=aG (((),Ek b s,()),(x.tup,()))
def Bep(hw:BW b)(hm:PM b m)(k:RdX b s):∃m' o,JP b.C0 b.F0 b.J0 b.L0 b.I0 b.M0 b.O0 b.A0 m.E0.G0 m.E0.R0 m.E0.K0 m.E0.B0 m.S1.h0 m.S1.h1 m.S1.sel m.Z0 m.P0 m.A0 m.L3 m.Z2 m.F4 m.J4 m.X3 m.F3 s 1048576=aG (((),(),0,()),(m'.tup,aF o,()))/\PM b m'/\∃x g l1 l2 u vs X,Bk5 b s x g/\TickF b m x g m' o l1 l2 u vs X:=by obtain⟨m',o,h1,w,y,x,t',hx,a,f,v,h0,_⟩:=Bgh hw hm k;obtain⟨l1,l2,u,vs,X,d⟩:=f.fact hw (λe=>hx.elim (λh=>h.2.len) λh=>absurd (eq_of_beq e) h.1) v.symm;obtain⟨q,j⟩:=h0 rfl;rw[<-q,<-j]at d;refine⟨m',o,?_,w,x,_,l1,l2,u,vs,X,⟨hx,rfl,a⟩,d⟩;exact Ae (hm.isM_eq hw)<|Ae (Aym<|hm.fit hw)<|Ae h1 rfl
def Sit.none:Sit:=⟨Mch.none,[],[]⟩
@[reducible] def coT(z:CarOutput):=(z.M1,z.E1,z.C3,z.E3,z.X2,z.P5,z.T1,z.V2,z.K4,())
section
variable{b:aB}(hw:BW b)
theorem SitOK.setL{s:Sit}(h:aJ b s){r:aH}(a:RelOK b r)(i:Nat):aJ b ⟨s.m,s.rl.set i r,s.rg⟩:=⟨h.pm,by rw[z_];exact h.rll,λx hx=>(aR hx).elim (h.rl x) λe=>by rw[e];exact a,h.rgl,h.rg⟩
theorem SitOK.setG{s:Sit}(h:aJ b s){r:Rig}(a:RigOK b.C0 r)(i:Nat):aJ b ⟨s.m,s.rl,s.rg.set i r⟩:=⟨h.pm,h.rll,h.rl,by rw[z_];exact h.rgl,λx hx=>(aR hx).elim (h.rg x) λe=>by rw[e];exact a⟩
include hw
theorem RdX.made(h:InS b x):RdX b<|inV b x:=Bmr hw ⟨x,⟨h.inV hw.small,h.pu⟩,rfl,rfl⟩
end
def Aup{m:Img}(hm:m.fits b)(hi:i<b.A0.length){cm:List Bool}(hcm:cm.length=b.A0.length){fr:Bool}{c:Nat}(hc:c<b.A0.length)(h0:∀j,j<b.A0.length->flA m j=B):flA (Ar m<|FX b m kind i cm fr) c=B:=by
 rcases Bbf (Aoi m kind hi cm fr) hm hc with⟨e,_⟩|⟨r,d,⟨k,a⟩,e⟩
 .rw[e];exact h0 c hc
 .rw[e];rcases Aoj hm hi hcm hc d a with⟨h,_,_⟩|⟨_,_,_,_,h,_⟩
  .have f:kind=8:=by
    rcases(Aap h).2.2 with⟨z,_⟩|z|⟨_,z⟩
    .omega
    .omega
    .exact z
   subst f;unfold Ip Ni at h;rw[h0 i hi]at h;simp at h
  .rcases h with h|h|h
   .omega
   .omega
   .rw[h.2];rfl
structure TkX(b:Bldg)(x:Inp)(rg:Nat->Rig)(t t':Pk)(i:Nat):Prop where
 ph:phA t'.m.E0 i=phA t.m.E0 i\/WK (phA t.m.E0 i) (phA t'.m.E0 i)
 fl:flA t'.m.E0 i=false
 oph:(t'.out.A0.getD i Af).V2=phA t'.m.E0 i
 ofl:(t'.out.A0.getD i Af).K4=flA t'.m.E0 i
 con:t'.m.Z0.getD i An=Ts b (t.m.Z0.getD i An) (x.cars.getD i CY)
 wir:AI (phA t'.m.E0 i)=true->El (phA t.m.E0 i) (phA t'.m.E0 i)->∃v,Agd b (Ts b (t.m.Z0.getD i An) (x.cars.getD i CY)) (t.m.P0.getD i AL).V0 v/\∀e∈(t'.m.P0.getD i AL).V0,e∈v.V0\/(e.U3=0/\Ax ((t'.out.A0.getD i Af).M1,(t'.out.A0.getD i Af).E1) e.D0.toNat e.H0=true)
 win:AI (phA t'.m.E0 i)=true->¬El (phA t.m.E0 i) (phA t'.m.E0 i)->∀e∈(t'.m.P0.getD i AL).V0,e.U3=0/\Ax ((t'.out.A0.getD i Af).M1,(t'.out.A0.getD i Af).E1) e.D0.toNat e.H0=true
 dir:Dg (phA t'.m.E0 i)=true->El (phA t.m.E0 i) (phA t'.m.E0 i)->(t'.m.A0.getD i Aj).K2=false/\CmdQ b.C0 (b.A0.getD i Ag).B1 (b.A0.getD i Ag).V1 (t'.m.A0.getD i Aj) (rg i) (t'.out.A0.getD i Af).T1
 din:Dg (phA t'.m.E0 i)=true->¬El (phA t.m.E0 i) (phA t'.m.E0 i)->t'.m.A0.getD i Aj=Aj/\(t'.out.A0.getD i Af).T1=0
def Awl{p c:Int}(h:Dg p=A):Me p c=A:=by unfold Me;unfold Dg at h;rw[h,Bool.or_true]
section
variable{b:aB}(hw:BW b){x:Inp}(hx:InOK b x)
include hw hx
theorem Bmv(rg:Nat->Rig)(hm:PM b t.m)(hr:PR b t)(hb:Bud t)(hg:∀i,i<b.A0.length->flA t.m.E0 i=B)(x0:∀j,t.reset.getD j B=B)(hH:∀i,i<b.A0.length->CarHyp b x rg t i):W (t.ap DG b x A) λy=>∃t',(y=.inl ((),(t'.tup b x A,()))\/y=.inr ((),(t'.tup b x A,())))/\(t'.e=0->∀i,i<b.A0.length->TkX b x rg t t' i):=by
 unfold Pk.ap DG;refine O (Q:=λy=>∃f,y=(((),(),(),(),()),(((),(),(),(),(),()),f.tup b x A,()))/\PM b f.m/\PR b f/\FixR t f/\(f.m.P0=t.m.P0/\f.m.A0=t.m.A0/\f.reset=t.reset/\f.out=t.out)/\∀j,j<b.A0.length->f.m.Z0.getD j An=Ts b (t.m.Z0.getD j An) (x.cars.getD j CY)) ?_ λy3 h3=>?_
 .refine O (Bkq hw hx hm hr) λy1 h1=>?_;obtain⟨f,e|e,h⟩:=h1
  .subst e;exact C ⟨f,rfl,h⟩
  .subst e;exact C ⟨f,rfl,h⟩
 obtain⟨f,rfl,m1,r1,f1,⟨s1,s2,s3,s4⟩,c1⟩:=h3;have b1:Bud f:=⟨f1.e.trans hb.1,by rw[f1.bu];exact hb.2⟩
 refine aE (show(f.e !=0)=B by rw[b1.1];rfl) ?_;refine O (Bja hw hx rg m1 r1 b1 λi hi=>⟨by rw[f1.im,s1];exact(hH i hi).wir,by rw[f1.im,s2];exact(hH i hi).dir⟩) λy4 h4=>?_;obtain⟨F,rfl,m2,r2,b2,i2,c2,_,_,hz,o2⟩:=h4;have h0:F.m.E0=t.m.E0:=i2.trans f1.im;refine aE (show(F.e !=0)=B by rw[b2.1];rfl) ?_;refine O (Q:=λy=>∃(a:Pk) (l2:List aD),y=((),(a.tup b x A,()))/\Opr b x A F a l2/\(a.e=0->∀j,j<b.A0.length->OprC F.m.E0 a.m.E0 F a j)) ?_ λy5 h5=>?_
 .show W (F.ap BI b x A) _;unfold Pk.ap BI;refine J rfl ?_;refine O (Q:=λy=>∃(a:Pk) (l2:List aD),y=((),(a.tup b x A,()))/\Opr b x A F a l2/\(a.e=0->∀j,j<b.A0.length->OprC F.m.E0 a.m.E0 F a j)) ?_ λy3 h3=>by obtain⟨a,l2,rfl,h⟩:=h3;exact C ⟨a,l2,rfl,h⟩
  refine O (Ayi hw hx (g:=A) m2 r2 b2 (by rw[h0];exact hg)) λy1 h1=>?_;obtain⟨a,l2,e|e,h⟩:=h1
  .subst e;exact C ⟨a,l2,rfl,h⟩
  .subst e;exact C ⟨a,l2,rfl,h⟩
 obtain⟨a,l2,rfl,ha,oc⟩:=h5;refine Z (λq=>C ⟨a,.inl rfl,λz=>?_⟩) λq=>?_
 .have q:(a.e !=0)=A:=q;rw[z]at q;cases q
 have q:a.e=0:=by have q:(a.e !=0)=B:=q;simpa using q
 have a3:Al b F a l2:=by
  rcases ha.res with h|h
  .exact h
  .have:=h.e;omega
 have oc:=oc q;have b3:=a3.bud b2;refine O (Atw hw (λ_=>hx) (g:=A) a3.m a3.r b3) λy6 h6=>?_;obtain⟨Y,vs,rfl,hd,D,x1,hh⟩:=h6;refine Z (λq=>C ⟨Y,.inl rfl,λz=>?_⟩) λq=>?_
 .have q:(Y.e !=0)=A:=q;rw[z]at q;cases q
 have q:Y.e=0:=by have q:(Y.e !=0)=B:=q;simpa using q
 have a4:Al b a Y (KU b x A a vs).recs:=by
  rcases hd.res with h|h
  .exact h
  .have:=h.e;omega
 refine O (Bbc hw (x:=x) (g:=A) a4.m a4.r) λy7 h7=>?_;obtain⟨L,rfl,P,hn,hv⟩:=h7;have he:(L.e !=0)=B:=by rw[P.e,a4.e];rfl
 refine aE he<|C ⟨L,.inr rfl,λ_ i hi=>?_⟩;have kd:=Bc4 hw.small hw.code a3.m.jst.img a3.m.exl a3.m.exv (vs:=vs) a.m.F4 x.press A hd.va.len;obtain⟨p4,f4,_⟩:=Aia a.m.E0 kd;have hu:Y.m.E0=Ar a.m.E0 (MK b a.m.E0 a.m.Z2 vs a.m.F4 x.press A).recs:=a4.im;rw[<-hu]at p4 f4;obtain⟨j,cm,fr,x4,hj,hcm,ht,x2,_⟩:=ha.how;have hs:a.m.E0=Ar t.m.E0 (FX b t.m.E0 x.kind j cm fr):=by rw[a3.im,ht,h0]
 have e5:H L.m.E0 i=H a.m.E0 i:=by rw[P.im];unfold H;rw[p4]
 have e4:H Y.m.E0 i=H a.m.E0 i:=by unfold H;rw[p4]
 have w:=oc i hi;rw[h0]at w;have hy:a.out.A0=F.out.A0:=by rw[x2]
 have h2:=hv i hi;have co:=o2 i hi;have h9:f.m.E0=t.m.E0:=f1.im;have v:∀{e:Duty},AI (H a.m.E0 i)=A->e∈(L.m.P0.getD i AL).V0->e∈(a.m.P0.getD i AL).V0\/(e.U3=0/\Ax ((L.out.A0.getD i E).M1,(L.out.A0.getD i E).E1) e.D0.toNat e.H0=A):=λ{e} hp he=>by
  have:=h2.bel (by rw[e4];exact hp) e he
  rwa [D.b]at this
 have ho:L.m.Z0=f.m.Z0:=P.con.trans<|x1.trans<|a3.con.trans c2;refine⟨?_,?_,(P.cars i hi).phase.trans (by rw[P.im]),(P.cars i hi).flag.trans (by rw[P.im]),?_,?_,?_,?_,?_⟩
 .rw[e5,hs];exact Ayk hm.jst.img.fits hj hcm hi
 .have:flA L.m.E0 i=flA a.m.E0 i:=by rw[P.im];unfold flA;rw[f4]
  rw[this,hs];exact Aup hm.jst.img.fits hj hcm hi hg
 .rw[ho];exact c1 i hi
 .rw[e5];intro hp d;have I:AI (H t.m.E0 i)=A:=by
   unfold AI at hp|-;unfold El at d;simp only[O_,I_]at hp|-;omega
  rcases w with⟨_,o1,_,_⟩|⟨o1,_⟩
  .have k:=co.wir (by rw[h9];exact I);rw[c1 i hi,s1]at k;refine⟨_,k,λe he=>?_⟩
   have:=v hp he
   rwa [o1]at this
  .exact absurd d o1
 .rw[e5];intro hp d e he;rcases w with⟨o1,_⟩|⟨_,o1,_,_⟩
  .exact absurd o1 d
  .have:=v hp he
   rw[o1]at this;rcases this with h|h
   .cases h
   .exact h
 .rw[e5];intro hp d;have I:Dg (H t.m.E0 i)=A/\AI (H t.m.E0 i)=B:=by
   unfold Dg at hp|-;unfold AI;unfold El at d;simp only[O_,I_,Bool.or_eq_false_iff,beq_eq_false_iff_ne]at hp|-;omega
  rcases w with⟨_,_,h8,x3⟩|⟨o1,_⟩
  .obtain⟨k1,k2⟩:=co.dir (by rw[h9];exact I.2) (by rw[h9];exact I.1);have rz:Y.reset.getD i B=B:=by rw[D.r,x3,hz,s3];exact x0 i
   have hk:=h2.cmd rz<|Awl (by rw[e4];exact hp);rw[hh i hi,hy]at hk;rw[hn,D.c,h8,hk];exact⟨k1,k2⟩
  .exact absurd d o1
 .rw[e5];intro hp d;rcases w with⟨o1,_⟩|⟨_,_,o1,h8⟩
  .exact absurd o1 d
  .refine⟨by rw[hn,D.c,o1],h2.rst ?_⟩;rw[D.r,h8]
end
def Bas(a i:Nat)(s:ByteArray):byN (tl a s) i=byN s (a+i):=by
 have e:bl (tl a s)=(bl s).drop a:=by unfold tl;rw[Rf,<-Fx s];exact a3_ (by rw[U_];exact t_ _)
 unfold byN;rw[e,g_,g_,c1_]
def Afc(hcode:b.code=0)(hl:x.cars.length=b.A0.length):Ek b (inV b x)=0:=by
 have k:=Ah hcode;have a:=Xh b x;have q:aI.wrap (b.A0.length:Int)=(b.A0.length:Int):=ES ω ω;have e:∃r,inV b x=nmB 165 1++(nmB (b.A0.length:Int) 1++r):=by unfold inV NO;rw[Xa];unfold Pf;rw[q];simp only[ByteArray.append_assoc];exact⟨_,rfl⟩
 obtain⟨r,e⟩:=e;have j:BJ (inV b x) 0=165:=by rw[Jl,e];exact Lr (n:=165) τ _
 have d:BJ (inV b x) 1=(b.A0.length:Int):=by rw[Jl];show((byN (inV b x) (1+0):Nat):Int)=_;rw[<-Bas,e,Ga<|Ce 165 1];exact Lr ω _
 unfold Ek;rw[show(((inV b x).size:Int) !=14+19*(b.A0.length:Int))=B by rw[a,hl];simp,j_,j,d,show(aA V 165 !=165)=B by decide,j_,show(aA V (b.A0.length:Int) !=(b.A0.length:Int))=B by rw[Aa ω ω];exact Q_ _,j_];unfold MI;rw[c_ (ω:¬((inV b x).size:Int)<2),j_];have f:(inV b x).extract 0 ((inV b x).size-2)=x.cars.foldl OU (Pf b x):=by unfold inV;rw[Pw,Nat.add_sub_cancel];unfold NO;apply Rh;rw[Rf,OT,d8_,Nat.sub_zero];exact d9_<|Fx _
 rw[f,show NO (x.cars.foldl OU<|Pf b x)=inV b x from rfl,Ba7];rfl
structure SameI(a c:CarInput):Prop where
 f:a.H1=c.H1
 u:a.T2=c.T2
 d:a.G2=c.G2
 o:a.H2=c.H2
 k:a.U1=c.U1
 ff:a.D2=c.D2
 fl:a.J2=c.J2
 fd:a.Z1=c.Z1
def Axi(a b c d e f:Bool)(r:ByteArray):(flL ((byN (ZW [a,b,c,d,e,f]++r) 0:Nat):Int))=[a,b,c,d,e,f]:=by
 have h:∀n:Int,0<=n/\n<64->flL n=[a,b,c,d,e,f]->(flL ((byN (nmB n 1++r) 0:Nat):Int))=[a,b,c,d,e,f]:=λn h1 j=>by rw[Lr (n:=n) ω r];exact j
 refine h _ ?_ ?_
 .cases a<;>cases b<;>cases c<;>cases d<;>cases e<;>cases f<;>decide
 .cases a<;>cases b<;>cases c<;>cases d<;>cases e<;>cases f<;>decide+kernel
def Awx(hb:b.small){c:aN}(h:Pg b c=A)(j:0<=c.H1/\c.H1<4294967296)(l:List aN):SameI (Ags<|KV<|c::l) c:=by
 have hi:=hb.hi;unfold Pg at h;simp only[b_]at h;obtain⟨_,_,a,d⟩:=h;have a:=Ak.1 a;have d:=Ak.1 d;have u:∀n:Int,0<=n/\n<256->aI.wrap n=n:=λn h=>ES h.1 ω;have q:=λr=>Ga (Ce (aA aI c.H1) 4) r;have e:=λr=>Ga (Sd [c.T2,c.G2,c.H2,c.U1,c.J2,c.A3]) r;have k:=λr=>Ga (Ce (aA aI c.D2) 1) r;have f:=λr=>Axi c.T2 c.G2 c.H2 c.U1 c.J2 c.A3 r;rw[ZK];unfold Ags;rw[q,e,k,f];refine⟨?_,rfl,rfl,rfl,rfl,?_,rfl,?_⟩
 .show IntKind.u32.wrap (leV _ 4)=_;rw[Wi,ZP j]
 .show((byN (nmB (aA aI c.D2) 1++_) 0:Nat):Int)=_;rw[u c.D2 ω,Lr ω]
 .show((byN (nmB (aA aI c.Z1) 1++_) 0:Nat):Int)=_;rw[u c.Z1 ω,Lr ω]
def Ad5{b:aB}(hb:b.small):∀(l:List aN),(∀c∈l,Pg b c=A/\0<=c.H1/\c.H1<4294967296)->∀j,j<l.length->SameI ((NI l.length<|KV l).getD j CY) (l.getD j CY)
 |[],_,_,d=>absurd d<|Y_ _
 |c::l,h,0,_=>Awx hb (h c<|C_ ..).1 (h c<|C_ ..).2 l
 |c::l,h,j+1,d=>by show SameI ((NI l.length<|rest<|KV<|c::l).getD j CY) (l.getD j CY);rw[(Aga hb (h c<|C_ ..).1 l).2];exact Ad5 hb l (λa e=>h a<|F_ _ e) j (by rw[D_]at d;omega)
def Ayx(hb:b.small)(hcode:b.code=0)(h:InS b x):∃z:Inp,EF b.C0 b.F0 b.J0 b.L0 b.I0 b.M0 b.O0 b.A0 (inV b x)=aG (((),(0:Int),()),(z.tup,()))/\∀j,j<b.A0.length->SameI (z.cars.getD j CY) (x.cars.getD j CY):=by
 have hc:=Ah hcode;have a:=h.len;have w:=Afc hcode a;have e:(inV b x).size<=1000000:=by rw[Xh];omega
 have hm:=h.inV hb;obtain⟨q,_⟩:=Av1 hb hcode hm;have d:=RT hb hcode e w (by rw[Aak];exact q);rw[Aak]at d;refine⟨_,d,λj F=>?_⟩;have D:=λr=>Ga (Ce (aA aI x.press.1) 4) r;have k:=λr=>Ga (Ce (aA aI x.press.2) 4) r;have y:=λr=>Ga (Ce (aA aI x.kind) 1) r;have f:=λr=>Ga (Ce (aA aI x.car) 1) r;have v:(hdP b.A0.length<|Vu x).cars=NI b.A0.length (KV x.cars):=by unfold hdP Vu;show NI _ _=_;rw[D,k,y,f]
 rw[v,<-a];refine Ad5 hb x.cars (λc hc=>⟨(h.cars c hc).inV hb,?_⟩) j ω;have h1:=(h.cars c hc).fl;have I:=Af4 hb;obtain⟨L,P⟩:=h1;omega
def Anp(r:aH)(g:Rig):aN:=CarInput.mk (Cw r).C0 (Cw r).Up (Cw r).C4 (Cw r).M4 (Cw r).E4 g.D0 (g.Y1==0) g.Y0 B 0 0
def Zn(f:Int):aH:=Relay.mk 0 f 0 0 2 0 0 0 0
def Ahn(f:Int):Rig:=Rig.mk f f 0 2 0 0
def MU(p q:Int)(r:aH)(g:Rig):aH:=if q=2/\(p=3\/p=4)then Zn g.D0 else if q=0/\p=2 then Zn r.D0 else r
def Amm(q:Int)(r:aH)(g:Rig):Rig:=if q=3 then Ahn r.D0 else g
section
variable{b:aB}(hw:BW b)
include hw
theorem Ash{r:aH}(h:RelOK b r):W (Ia r.R1 r.D0 r.H0 r.I2 r.Y0 r.M2 r.P1 r.D1 r.X0) λy=>y.2.1=((Cw r).C0,(Cw r).Up,(Cw r).C4,(Cw r).M4,(Cw r).E4,()):=by
 have e:=h.fl;have hi:=hw.small.hi;unfold Ia;refine O (Q:=λy=>y.2.1.2.1=r.D0/\y.2.2.2.1=((0:Int),(r.H0==1),(r.H0==2),(r.Y0==1),(r.Y0==2),())/\y.1.2.2.2.1=!(r.R1==1)) (Z (λq=>R (Ps ..)<|C ⟨rfl,rfl,?_⟩) λq=>C ⟨rfl,rfl,?_⟩) λy j=>?_
 .have q:(!(r.R1==1))=A:=q;rw[q];exact Ak.2 ⟨e.1,show r.D0<=31 by omega⟩
 .have q:(!(r.R1==1))=B:=q;rw[q]
 obtain⟨f,a,d⟩:=j;unfold Cw;refine Z (λq=>?_) λq=>?_
 .rw[f];have q:(r.R1==1)=B:=by have:=d.symm.trans q;simpa using this
  refine J (a_ e.1)<|C ?_;rw[a,q];rfl
 .have q:(r.R1==1)=A:=by have:=d.symm.trans q;simpa using this
  refine C ?_;rw[a,q];rfl
theorem Azt{s:Sit}(h:aJ b s)(hp:PshOK b p):W (p.ap<|s.ap<|b.ap Lf) λy=>∃x:Inp,y=(((),0,()),(x.tup,()))/\∀j,j<b.A0.length->SameI (x.cars.getD j CY) (Anp (s.rl.getD j N)<|s.rg.getD j U):=by
 have P:=Ah hw.code;have l1:=h.rll;have l2:=h.rgl;unfold Lf;refine R (Wd hw h)<|aE rfl<|R (ZF hw hp)<|aE rfl ?_;refine O (Q:=λy=>∃(xs:List aN) (w:Unit×Unit×Unit),y=(w,((0,0,0,0,[],()),(p.press.1,p.press.2,p.kind,p.car,xs,()),()))/\∀j,j<b.A0.length->SameI (xs.getD j CY) (Anp (s.rl.getD j N)<|s.rg.getD j U)) ?_ λy Y=>by obtain⟨xs,w,rfl,d⟩:=Y;exact C ⟨⟨p.press,p.kind,p.car,xs⟩,rfl,d⟩
 unfold LM;refine aK (λ(k:Nat) z=>∃(i:Nat) (xs:List aN),z=(((),(),(),(),(b.A0.length:Int),(i:Int),()),(En s,RL p,(0,0,0,0,[],()),(p.press.1,p.press.2,p.kind,p.car,xs,()),()))/\i+k=b.A0.length/\xs.length=i/\∀j,j<i->SameI (xs.getD j CY) (Anp (s.rl.getD j N)<|s.rg.getD j U)) (λk z D=>?_) b.A0.length ⟨0,[],rfl,n_ _,rfl,λj f=>absurd f<|Y_ j⟩ ω;obtain⟨i,xs,rfl,hk,hx,d⟩:=D;show W (p.ap (s.ap<|LO (b.A0.length:Int) (i:Int)) 0 0 0 0 [] p.press.1 p.press.2 p.kind p.car xs) _;unfold LO;refine Z (λq=>?_) λq=>C ⟨xs,_,rfl,λj f=>d j (by have:=o_ q;omega)⟩;have q:(i:Int)<(b.A0.length:Int):=k_ q;have v:=Cm (n:=i) ω;have a:∀{n:Nat},n=b.A0.length->inB (i:Int) n=A:=λe=>by rw[e];exact Ac ω q
 have F:=h.rl _<|Av N (ω:i<s.rl.length);refine J (a l1) (O (Ash hw F) λL h1=>J (a l2)<|J (a hp.bl)<|R rfl<|J (a hp.cl)<|J (a hp.ll)<|J (AR (by show xs.length+1<=_;omega))<|C ⟨k-1,ω,i+1,_,by first|(rw[<-v];rfl)|rw[<-v],ω,by rw[f_];show xs.length+1=_;omega,λj f=>?_⟩);by_cases e:j=i
 .subst e;rw[g_,b8_ ω,show j-xs.length=0 by omega];obtain⟨ya,I,yc⟩:=L;change I=_ at h1;subst h1;exact⟨rfl,rfl,rfl,rfl,rfl,rfl,rfl,rfl⟩
 .rw[g_,b2_ ω,<-g_];exact d j ω
theorem Bax{u:Sit}(h:aJ b u)(hi:i<b.A0.length)(fr to:Int):W (u.ap<|HA (i:Int) fr to) λy=>∃t,y.2.1=En t/\aJ b t/\t.m=u.m/\t.rl.getD i N=MU fr to (u.rl.getD i N) (u.rg.getD i U)/\t.rg.getD i U=Amm to (u.rl.getD i N) (u.rg.getD i U)/\∀j,j≠i->t.rl.getD j N=u.rl.getD j N/\t.rg.getD j U=u.rg.getD j U:=by
 have l1:=h.rll;have l2:=h.rgl;have w:inB (i:Int) u.rl.length=A:=Ac ω ω;have I:inB (i:Int) u.rg.length=A:=Ac ω ω;have F:=h.rl _<|Av N (ω:i<u.rl.length);have L:=h.rg _<|Av U (ω:i<u.rg.length);unfold HA MU Amm;refine Z (λq=>J w<|R rfl<|J I<|C ⟨⟨u.m,u.rl,u.rg.set i<|Ahn (u.rl.getD i N).D0⟩,rfl,h.setG (RigOK.new F.fl) i,rfl,?_,?_,λj k=>⟨rfl,As _ _<|a7_ k⟩⟩) λq=>?_
 .have q:to=3:=eq_of_beq q;rw[if_neg ω,if_neg ω]
 .have q:to=3:=eq_of_beq q;rw[if_pos q];exact Am _ _ ω
 have q:to≠3:=λe=>by have q:(to==3)=B:=q;rw[e]at q;cases q
 rw[if_neg q];refine O (Q:=λy=>∃c:Bool,y=(((),(i:Int),fr,to,c,()),(En u,()))/\(c=A↔to=2/\(fr=3\/fr=4))) (Z (λd=>Z (λa=>C ⟨_,rfl,?_⟩) λa=>C ⟨_,rfl,?_⟩) λd=>C ⟨_,rfl,?_⟩) λy D=>?_
 .have d:to=2:=eq_of_beq d;have a:fr=3:=eq_of_beq a;exact⟨λ_=>⟨d,.inl a⟩,λ_=>rfl⟩
 .have d:to=2:=eq_of_beq d;have a:fr≠3:=λe=>by have q:(fr==3)=B:=a;rw[e]at q;cases q
  show(fr==4)=A↔_;rw[I_];exact⟨λz=>⟨d,.inr z⟩,λz=>z.2.resolve_left a⟩
 .have d:to≠2:=λe=>by have q:(to==2)=B:=d;rw[e]at q;cases q
  exact⟨λz=>(by cases z),λz=>absurd z.1 d⟩
 obtain⟨c,rfl,hc⟩:=D;refine Z (λd=>J I<|R rfl<|J w<|C ⟨⟨u.m,u.rl.set i<|Zn (u.rg.getD i U).D0,u.rg⟩,rfl,h.setL (RelOK.new hw.small hw.code L.f) i,rfl,?_,rfl,λj k=>⟨As _ _<|a7_ k,rfl⟩⟩) λd=>?_
 .rw[if_pos<|hc.1 d];exact Am _ _ ω
 have d:¬(to=2/\(fr=3\/fr=4)):=λz=>by have d:c=B:=d;have:=hc.2 z;rw[d]at this;cases this
 rw[if_neg d];refine O (Q:=λy=>∃c:Bool,y=(((),(i:Int),c,()),(En u,()))/\(c=A↔to=0/\fr=2)) (Z (λa=>C ⟨_,rfl,?_⟩) λa=>C ⟨_,rfl,?_⟩) λy D=>?_
 .have a:to=0:=eq_of_beq a;show(fr==2)=A↔_;rw[I_];exact⟨λz=>⟨a,z⟩,λz=>z.2⟩
 .have a:to≠0:=λe=>by have q:(to==0)=B:=a;rw[e]at q;cases q
  exact⟨λz=>(by cases z),λz=>absurd z.1 a⟩
 obtain⟨P,rfl,v⟩:=D;refine Z (λa=>J w<|R rfl<|J w<|C ⟨⟨u.m,u.rl.set i<|Zn (u.rl.getD i N).D0,u.rg⟩,rfl,h.setL (RelOK.new hw.small hw.code F.fl) i,rfl,?_,rfl,λj k=>⟨As _ _<|a7_ k,rfl⟩⟩) λa=>C ⟨u,rfl,h,rfl,?_,rfl,λ_ _=>⟨rfl,rfl⟩⟩
 .rw[if_pos<|v.1 a];exact Am _ _ ω
 .have a:¬(to=0/\fr=2):=λz=>by have d:P=B:=a;have:=v.2 z;rw[d]at this;cases this
  rw[if_neg a]
end
def Aac(p q:Int)(r:aH)(g:Rig):Rig:=if p=q then g else Amm q r g
def Be2{p:Int}(r:aH)(g:Rig):MU p p r g=r:=by unfold MU;rw[if_neg ω,if_neg ω]
def RelTm.chg{r:aH}(h:RelTm (crB b i) r)(p q:Int)(g:Rig):RelTm (crB b i)<|MU p q r g:=by
 unfold MU Zn
 repeat' split
 .exact RelTm.of<|.inl rfl
 .exact RelTm.of<|.inl rfl
 .exact h
structure SitX(b:Bldg)(s:Sit)(p:Psh)(o:Outputs)(u:Sit)(i:Nat):Prop where
 wir:AI (o.A0.getD i Af).V2=true->RelQ b.C0 (crB b i) (MU (phA s.m.E0 i) (o.A0.getD i Af).V2 (s.rl.getD i AF) (s.rg.getD i AT)) (u.rl.getD i AF) (Em ((MU (phA s.m.E0 i) (o.A0.getD i Af).V2 (s.rl.getD i AF) (s.rg.getD i AT)).P1,(MU (phA s.m.E0 i) (o.A0.getD i Af).V2 (s.rl.getD i AF) (s.rg.getD i AT)).D1) (Dz ((o.A0.getD i Af).M1,(o.A0.getD i Af).E1) (Bj b)))
 rl:AI (o.A0.getD i Af).V2=false->u.rl.getD i AF=MU (phA s.m.E0 i) (o.A0.getD i Af).V2 (s.rl.getD i AF) (s.rg.getD i AT)
 dir:Dg (o.A0.getD i Af).V2=true->∃g0 z,g0=Aac (phA s.m.E0 i) (o.A0.getD i Af).V2 (s.rl.getD i AF) (s.rg.getD i AT)/\Jc b.C0 g0.D0 g0.R2 g0.Y1 g0.Y0 g0.Z3 g0.G3 (o.A0.getD i Af).T1 (p.times.getD i 0)=some (z,(Hw (u.rg.getD i AT),()))
section
variable{b:aB}(hw:BW b)
include hw
theorem Aqt{s t:Sit}(h:aJ b s)(ht:aJ b t)(he:t.rl=s.rl)(ha:t.rg=s.rg)(hT:∀i,i<b.A0.length->RelTm (crB b i) (s.rl.getD i N))(hp:PshOK b p)(ho:o.A0.length=b.A0.length):W (ND (((),(),(),(),(),(),(),o.A0,(o.A0.length:Int),(0:Int),()),(b.tup,En s,RL p,En Sit.none,aF noOut,En t,aF o,()))) λy=>∃u,y.2.2.2.1=En u/\y.2.2.2.2.1=aF o/\aJ b u/\u.m=t.m/\∀i,i<b.A0.length->SitX b s p o u i:=by
 have hf:=Ah hw.code;have lo:=hw.small.lo;have hi:=hw.small.hi;have h9:=h.pm.jst.img.lp;unfold ND;refine aK (λ(k:Nat) z=>∃(i:Nat) (u:Sit),z=(((),(),(),(),(),(),(),o.A0,(o.A0.length:Int),(i:Int),()),(b.tup,En s,RL p,En Sit.none,aF noOut,En u,aF o,()))/\i+k=o.A0.length/\aJ b u/\u.m=t.m/\(∀j,j<i->SitX b s p o u j)/\∀j,i<=j->u.rl.getD j N=s.rl.getD j N/\u.rg.getD j U=s.rg.getD j U) (λk z hz=>?_) o.A0.length ⟨0,t,rfl,n_ _,ht,rfl,λj I=>absurd I<|Y_ j,λj _=>⟨by rw[he],by rw[ha]⟩⟩ ω;obtain⟨i,u,rfl,hk,hu,hm,hd,h8⟩:=hz;show W (o.ap<|u.ap<|noOut.ap<|Sit.none.ap<|p.ap<|s.ap<|b.ap<|RD o.A0 (o.A0.length:Int) (i:Int)) _;unfold RD;refine Z (λq=>?_) λq=>C ⟨u,rfl,rfl,hu,hm,λj I=>hd j (by have:=o_ q;omega)⟩;have q:(i:Int)<(o.A0.length:Int):=k_ q;have wr:=Cm (n:=i) ω;have h0:i<b.A0.length:=ω;have F:∀{n:Nat},n=b.A0.length->inB (i:Int) n=A:=λe=>by rw[e];exact Ac ω ω
 obtain⟨ur,ug⟩:=h8 i<|t_ i;refine J (Ac ω q) (O (Q:=λy=>∃(v:Sit),y=(((),(),(),(),(),(),(),(i:Int),(),o.A0,(o.A0.length:Int),(i:Int),()),(b.tup,En s,RL p,En Sit.none,aF noOut,En v,aF o,coT<|o.A0.getD i E,()))/\aJ b v/\v.m=t.m/\v.rl.getD i N=MU (H s.m.E0 i) (o.A0.getD i E).V2 (s.rl.getD i N) (s.rg.getD i U)/\v.rg.getD i U=Aac (H s.m.E0 i) (o.A0.getD i E).V2 (s.rl.getD i N) (s.rg.getD i U)/\∀j,j≠i->v.rl.getD j N=u.rl.getD j N/\v.rg.getD j U=u.rg.getD j U) ?_ λy hy=>?_)
 .refine J (F h9) (Z (λz=>O (Bax hw hu h0 _ _) λy1 h1=>?_) λz=>C ⟨u,rfl,hu,hm,?_,?_,λ_ _=>⟨rfl,rfl⟩⟩)
  .have z:H s.m.E0 i≠(o.A0.getD i E).V2:=by
    have z:(H s.m.E0 i !=(o.A0.getD i E).V2)=A:=z;simpa using z
   obtain⟨v,f,L,a,e4,e5,e6⟩:=h1;rw[ur,ug]at e4 e5;refine C ⟨v,?_,L,a.trans hm,e4,?_,e6⟩
   .rw[f];rfl
   .unfold Aac;rw[if_neg z];exact e5
  .have z:H s.m.E0 i=(o.A0.getD i E).V2:=by
    have z:(H s.m.E0 i !=(o.A0.getD i E).V2)=B:=z;simpa using z
   rw[z,Be2];exact ur
  .have z:H s.m.E0 i=(o.A0.getD i E).V2:=by
    have z:(H s.m.E0 i !=(o.A0.getD i E).V2)=B:=z;simpa using z
   unfold Aac;rw[if_pos z];exact ug
 obtain⟨v,rfl,hv,P,vr,vg,vo⟩:=hy;have l1:=hv.rll;have l2:=hv.rgl;have hr:=hv.rl _<|Av N (ω:i<v.rl.length);have hg:=hv.rg _<|Av U (ω:i<v.rg.length);have f:V.wrap ((i:Int)+1)=((i+1:Nat):Int):=by first|exact wr|(rw[<-wr];rfl)
 have kl:∀(iu id pr:Int),W (JS b.C0 b.F0 b.J0 b.L0 b.I0 b.M0 b.O0 b.A0 (i:Int) (v.rl.getD i N).R1 (v.rl.getD i N).D0 (v.rl.getD i N).H0 (v.rl.getD i N).I2 (v.rl.getD i N).Y0 (v.rl.getD i N).M2 (v.rl.getD i N).P1 (v.rl.getD i N).D1 (v.rl.getD i N).X0 iu id pr) λy=>∃D,y.2.1=Ki D/\RelOK b D/\RelQ b.C0 (crB b i) (v.rl.getD i N) D (Em ((v.rl.getD i N).P1,(v.rl.getD i N).D1)<|Dz (iu,id)<|Bj b):=λiu id pr=>by obtain⟨y,f,r1,L,k1⟩:=Aks hw.small hw.code h0 hr iu id pr;obtain⟨y',h5,r2,a,k2⟩:=Aov hw.small hw.code h0 hr (by rw[vr];exact(hT i h0).chg _ _ _) (iu,id) pr;have h5:=f.symm.trans h5;obtain rfl:=s_ h5;obtain rfl:=Bci<|L.symm.trans a;exact⟨y,f,r1,L,k1,k2⟩
 have Y:∀{w:Sit},aJ b w->w.m=t.m->(∀j,j≠i->w.rl.getD j N=v.rl.getD j N/\w.rg.getD j U=v.rg.getD j U)->SitX b s p o w i->∃m':Nat,k=m'+1/\∃(j:Nat) (u:Sit),(((),(),(),(),(),(),(),o.A0,(o.A0.length:Int),V.wrap<|(i:Int)+1,()),(b.tup,En s,RL p,En Sit.none,aF noOut,En w,aF o,()))=(((),(),(),(),(),(),(),o.A0,(o.A0.length:Int),(j:Int),()),(b.tup,En s,RL p,En Sit.none,aF noOut,En u,aF o,()))/\j+m'=o.A0.length/\aJ b u/\u.m=t.m/\(∀j',j'<j->SitX b s p o u j')/\∀j',j<=j'->u.rl.getD j' N=s.rl.getD j' N/\u.rg.getD j' U=s.rg.getD j' U:=λ{w} h1 h2 d h4=>by
  refine⟨k-1,ω,i+1,w,by rw[f],ω,h1,h2,λj I=>?_,λj I=>?_⟩
  .by_cases e:j=i
   .rw[e];exact h4
   .obtain⟨g1,g2⟩:=d j e;obtain⟨g3,g4⟩:=vo j e;have k0:=hd j ω;refine⟨λz=>?_,λz=>?_,λz=>?_⟩
    .rw[g1,g3];exact k0.wir z
    .rw[g1,g3];exact k0.rl z
    .rw[g2,g4];exact k0.dir z
  .obtain⟨g1,g2⟩:=d j ω;obtain⟨g3,g4⟩:=vo j ω;rw[g1,g2,g3,g4];exact h8 j ω
 have nw:∀{q:Int},(o.A0.getD i E).V2=q->AI q=B->AI (o.A0.getD i E).V2=A->False:=λf L a=>by rw[f,L]at a;cases a
 have nd:∀{q:Int},(o.A0.getD i E).V2=q->Dg q=B->Dg (o.A0.getD i E).V2=A->False:=λf L a=>by rw[f,L]at a;cases a
 have h6:∀{q:Int}{D:aH},(o.A0.getD i E).V2=q->AI q=A->Dg q=B->RelOK b D->RelQ b.C0 (crB b i) (v.rl.getD i N) D (Em ((v.rl.getD i N).P1,(v.rl.getD i N).D1)<|Dz ((o.A0.getD i E).M1,(o.A0.getD i E).E1)<|Bj b)->SitX b s p o ⟨v.m,v.rl.set i D,v.rg⟩ i:=λ{q D} f L e4 e5 a=>by
  refine⟨λ_=>?_,λz=>?_,λz=>(nd f e4 z).elim⟩
  .show RelQ _ _ _ ((v.rl.set i D).getD i N) _;rw[Am _ _ ω,<-vr];exact a
  .rw[f,L]at z;cases z
 have h7:∀{q:Int}{g':Rig}{z},(o.A0.getD i E).V2=q->AI q=B->Jc b.C0 (v.rg.getD i U).D0 (v.rg.getD i U).R2 (v.rg.getD i U).Y1 (v.rg.getD i U).Y0 (v.rg.getD i U).Z3 (v.rg.getD i U).G3 (o.A0.getD i E).T1 (p.times.getD i 0)=aG (z,(Hw g',()))->SitX b s p o ⟨v.m,v.rl,v.rg.set i g'⟩ i:=λ{q g' z} f L a=>by refine⟨λz=>(nw f L z).elim,λ_=>vr,λ_=>⟨v.rg.getD i U,z,vg,?_⟩⟩;show _=aG (z,(Hw<|(v.rg.set i g').getD i U,()));rw[Am _ _ ω];exact a
 refine Z (λz=>?_) λz0=>Z (λz=>?_) λz1=>Z (λz=>?_) λz3=>Z (λz=>?_) λz4=>C<|Y hv P (λ_ _=>⟨rfl,rfl⟩) ⟨λz=>?_,λ_=>vr,λz=>?_⟩
 .have z:(o.A0.getD i E).V2=0:=eq_of_beq z;refine J (F l1)<|J (F hp.cl) (O (kl _ _ _) λy3 d=>J (F l1) ?_);obtain⟨D,a,d,h4⟩:=d;rw[a];exact C<|Y (hv.setL d i) P (λj I=>⟨As _ _<|a7_ I,rfl⟩)<|h6 z rfl rfl d h4
 .have z:(o.A0.getD i E).V2=1:=eq_of_beq z;refine J (F l1)<|J (F hp.cl) (O (kl _ _ _) λy3 d=>J (F l1) ?_);obtain⟨D,a,d,h4⟩:=d;rw[a];exact C<|Y (hv.setL d i) P (λj I=>⟨As _ _<|a7_ I,rfl⟩)<|h6 z rfl rfl d h4
 .have z:(o.A0.getD i E).V2=3:=eq_of_beq z;obtain⟨y3,e4,D,a,d⟩:=Abr ⟨lo,hi⟩ hg (o.A0.getD i E).T1<|p.times.getD i 0;refine J (F l2)<|J (F hp.tl)<|R e4<|J (F l2) ?_;obtain⟨ya,yb,yc⟩:=y3;change yb=_ at a;subst a;exact C<|Y (hv.setG d i) P (λj I=>⟨rfl,As _ _<|a7_ I⟩)<|h7 z rfl e4
 .have z:(o.A0.getD i E).V2=4:=eq_of_beq z;obtain⟨y3,e4,D,a,d⟩:=Abr ⟨lo,hi⟩ hg (o.A0.getD i E).T1<|p.times.getD i 0;refine J (F l2)<|J (F hp.tl)<|R e4<|J (F l2) ?_;obtain⟨ya,yb,yc⟩:=y3;change yb=_ at a;subst a;exact C<|Y (hv.setG d i) P (λj I=>⟨rfl,As _ _<|a7_ I⟩)<|h7 z rfl e4
 .have z0:((o.A0.getD i E).V2==0)=B:=z0;have z1:((o.A0.getD i E).V2==1)=B:=z1;unfold AI at z;rw[z0,z1]at z;cases z
 .have z3:((o.A0.getD i E).V2==3)=B:=z3;have z4:((o.A0.getD i E).V2==4)=B:=z4;unfold Dg at z;rw[z3,z4]at z;cases z
end
structure CarI(b:Bldg)(s:Sit)(i:Nat):Prop where
 tm:RelTm (crB b i) (s.rl.getD i AF)
 wd:ZU (crB b i) (s.rl.getD i AF) (Js (s.m.Z0.getD i An))
 du:AI (phA s.m.E0 i)=true->∀e∈(s.m.P0.getD i AL).V0,duI b i (s.rl.getD i AF) e.D0.toNat e.H0 e.U3
 rg:Dg (phA s.m.E0 i)=true->(s.m.A0.getD i Aj).K2=false/\RigI (b.A0.getD i Ag).B1 (b.A0.getD i Ag).V1 (s.m.A0.getD i Aj) (s.rg.getD i AT)
 fl:flA s.m.E0 i=false
structure SKI(b:Bldg)(s:Sit):Prop where
 ok:SitOK b s
 car:∀i,i<b.A0.length->CarI b s i
def duI.age{r:aH}{g:Nat}{d a:Int}(e:FitB b i)(h:duI b i r g d a):a+1<=(crB b i).K1:=by
 have:=e.deb
 rcases h with⟨_,h,_⟩|⟨_,h⟩<;>omega
def Baz{z:aO}(d:(Js z).wf)(e:(Js z).is n)(k:Contacts):Js (YI<|(Js z).step n k)=(Js z).step n k:=by obtain⟨a,_⟩:=Wh d e k;generalize(Js z).step n k=s at a;unfold Js;rw[show YD (YI s)=s.k from TE a.len];rfl
section
variable{b:aB}(hw:BW b)
include hw
theorem Bim(hm:PM b m)(w:EF b.C0 b.F0 b.J0 b.L0 b.I0 b.M0 b.O0 b.A0 s=aG (((),(0:Int),()),(z.tup,())))(F:InOK b z)(f:Nat->Rig)(D:∀i,i<b.A0.length->flA m.E0 i=B)(Y:∀i,i<b.A0.length->CarHyp b z f (pk0 b m 1048576) i):W (JP b.C0 b.F0 b.J0 b.L0 b.I0 b.M0 b.O0 b.A0 m.E0.G0 m.E0.R0 m.E0.K0 m.E0.B0 m.S1.h0 m.S1.h1 m.S1.sel m.Z0 m.P0 m.A0 m.L3 m.Z2 m.F4 m.J4 m.X3 m.F3 s 1048576) λy=>∃e m' o t',y=(((),(),e,()),(m'.tup,aF o,()))/\(e=0->m'=t'.m/\o=t'.out/\∀i,i<b.A0.length->TkX b z f (pk0 b m 1048576) t' i):=by
 have h2:=Ah hw.code;have d:=hm.fit hw;have a:((decide ((0:Int)<=(b.A0.length:Int))&&decide ((b.A0.length:Int)<=(b.A0.length:Int)))&&decide ((b.A0.length:Int)<=2147483648))=A:=by simp only[b_,r_];omega
 have P:W (HN b.C0 b.F0 b.J0 b.L0 b.I0 b.M0 b.O0 b.A0 m.E0.G0 m.E0.R0 m.E0.K0 m.E0.B0 m.S1.h0 m.S1.h1 m.S1.sel m.Z0 m.P0 m.A0 m.L3 m.Z2 m.F4 m.J4 m.X3 m.F3 s 1048576) λy=>∃e m' o t',y=(((),(),e,()),(m'.tup,aF o,()))/\(e=0->m'=t'.m/\o=t'.out/\∀i,i<b.A0.length->TkX b z f (pk0 b m 1048576) t' i):=by
  unfold HN;refine R w<|J a<|J a<|J a<|J a ?_;refine R (BX m.Z0 d.co)<|R (BX m.P0 d.be)<|R (BX m.A0 d.ca)<|R (BX m.L3 d.lo) ?_;have v:PR b<|pk0 b m 1048576:=⟨P_,P_,P_,P_,λi=>Aq8 _ i⟩
  have k:=Bmv hw F f (t:=pk0 b m 1048576) hm v ⟨rfl,by show(0:Int)<=1048576;decide,by show(1048576:Int)<9223372036854775808;decide⟩ D (λj=>by show(aS b.A0.length B).getD j B=B;rw[g_,aQ];split<;>rfl) Y;refine O (Q:=λy=>∃t',y=(((),(),(),()),(Mch.none.tup,aF noOut,t'.tup b z A,()))/\(t'.e=0->∀i,i<b.A0.length->TkX b z f (pk0 b m 1048576) t' i)) ?_ λy8 I=>?_
  .refine O k λy6 L=>?_;obtain⟨t',e|e,h⟩:=L
   .subst e;exact C ⟨t',rfl,h⟩
   .subst e;exact C ⟨t',rfl,h⟩
  obtain⟨t',rfl,hR⟩:=I;refine Z (λq=>?_) λq=>?_
  .have q:(t'.e !=0)=A:=q;have q:t'.e≠0:=by simpa using q
   exact C ⟨t'.e,{ Mch.none with S1:=t'.m.S1 },noOut,t',rfl,λh=>absurd h q⟩
  .have q:(t'.e !=0)=B:=q;have q:t'.e=0:=by simpa using q
   exact C ⟨0,t'.m,t'.out,t',rfl,λ_=>⟨rfl,rfl,hR q⟩⟩
 unfold JP;refine R (hm.isM_eq hw)<|aE rfl<|aE rfl<|R (Aym d) (O P λy hy=>?_);obtain⟨e,m',o,t',rfl,h⟩:=hy;exact C ⟨e,m',o,t',rfl,h⟩
theorem CarI.next{s u:Sit}(hi:i<b.A0.length)(hF:FitB b i)(hs:aJ b s)(hu:aJ b u)(hI:CarI b s i)(hz:SameI (z.cars.getD i CY)<|Anp (s.rl.getD i N)<|s.rg.getD i U)(hm:u.m=t'.m)(ho:o=t'.out)(Y:TkX b z (λi=>s.rg.getD i U) (pk0 b s.m 1048576) t' i)(hx:SitX b s p o u i)(hp:1<=p.times.getD i 0/\p.times.getD i 0<=(b.A0.getD i S).B1/\p.times.getD i 0<=(b.A0.getD i S).V1):CarI b u i:=by
 obtain⟨ct,cs⟩:=Ad6 hw.small hw.code hi;have hr:=hs.rl _<|Av N (show i<s.rl.length by rw[hs.rll];exact hi);have hg:=hs.rg _<|Av U (show i<s.rg.length by rw[hs.rgl];exact hi);have h6:=hu.rl _<|Av N (show i<u.rl.length by rw[hu.rll];exact hi);have hf:=hs.pm.conv _<|Av An (show i<s.m.Z0.length by rw[hs.pm.con];exact hi);have hD:=Amr.1 hf.1;have hW:(Js<|s.m.Z0.getD i An).wf:=⟨hf.2,rfl,λj hj=>(hD.2.2 j hj).1,λj hj=>by have:=(hD.2.2 j hj).2;have:=hD.2.1;omega⟩
 have h4:Ts b (s.m.Z0.getD i An) (z.cars.getD i CY)=YI ((Js<|s.m.Z0.getD i An).step b.F0<|Cw<|s.rl.getD i N):=by unfold Ts;rw[hz.f,hz.u,hz.d,hz.o,hz.k];rfl
 have h7:(o.A0.getD i E).V2=H u.m.E0 i:=by rw[ho,hm];exact Y.oph
 have h5:Js (u.m.Z0.getD i An)=(Js<|s.m.Z0.getD i An).step b.F0 (Cw<|s.rl.getD i N):=by rw[hm,Y.con];show Js (Ts b (s.m.Z0.getD i An)<|z.cars.getD i CY)=_;rw[h4];exact Baz hW hD _
 obtain⟨w1,w2⟩:=Wh hW hD<|Cw<|s.rl.getD i N;have I:H u.m.E0 i=H s.m.E0 i\/WK (H s.m.E0 i) (H u.m.E0 i):=by rw[hm];exact Y.ph
 have x1:=hx.wir;have x2:=hx.rl;have x3:=hx.dir;rw[h7]at x1 x2 x3;have tw:=Y.wir;have tn:=Y.win;have td:=Y.dir;have Q:=Y.din;rw[<-hm,<-ho]at tw tn td Q;have tw:AI (H u.m.E0 i)=A->El (H s.m.E0 i) (H u.m.E0 i)->∃v,Agd b (Ts b (s.m.Z0.getD i An)<|z.cars.getD i CY) (s.m.P0.getD i AL).V0 v/\∀e∈(u.m.P0.getD i AL).V0,e∈v.V0\/(e.U3=0/\Ax ((o.A0.getD i E).M1,(o.A0.getD i E).E1) e.D0.toNat e.H0=A):=tw;have tn:AI (H u.m.E0 i)=A->¬El (H s.m.E0 i) (H u.m.E0 i)->∀e∈(u.m.P0.getD i AL).V0,e.U3=0/\Ax ((o.A0.getD i E).M1,(o.A0.getD i E).E1) e.D0.toNat e.H0=A:=tn;have td:Dg (H u.m.E0 i)=A->El (H s.m.E0 i) (H u.m.E0 i)->_:=td;have Q:Dg (H u.m.E0 i)=A->¬El (H s.m.E0 i) (H u.m.E0 i)->_:=Q;have x0:flA u.m.E0 i=B:=by rw[hm];exact Y.fl
 clear Y hx hm ho h7;generalize x5:H s.m.E0 i=p0 at*;generalize hk:H u.m.E0 i=q at*
 have h9:AI q=A->El p0 q->MU p0 q (s.rl.getD i N) (s.rg.getD i U)=s.rl.getD i N:=λh1 h2=>by unfold AI at h1;unfold El at h2;simp only[O_,I_]at h1;unfold MU;rw[if_neg ω,if_neg ω]
 have hy:AI q=A->¬El p0 q->MU p0 q (s.rl.getD i N) (s.rg.getD i U)=Zn (s.rl.getD i N).D0:=λh1 h2=>by unfold AI at h1;unfold El at h2;unfold WK at I;simp only[O_,I_]at h1;unfold MU;rw[if_neg ω,if_pos ω]
 have hh:∀e∈(u.m.P0.getD i AL).V0,Aq b e.D0 e.H0=A:=λe he=>((hu.pm.belv i hi).dut.each e he).1;have new:∀{r0:aH}{e:Duty},e∈(u.m.P0.getD i AL).V0->RelQ b.C0 (crB b i) r0 (u.rl.getD i N) (Em (r0.P1,r0.D1)<|Dz ((o.A0.getD i E).M1,(o.A0.getD i E).E1)<|Bj b)->e.U3=0->Ax ((o.A0.getD i E).M1,(o.A0.getD i E).E1) e.D0.toNat e.H0=A->duI b i (u.rl.getD i N) e.D0.toNat e.H0 e.U3:=λ{r0 e} he hq h0 hb=>by obtain⟨hc,hn⟩:=YW hw.code<|hh e he;have x8:=hc.lt;have h8:=hw.small.hi;rw[h0];refine RelQ.new hw.small hF h6 hq hc ?_;rw[MA,Kr,hb,Mn hw.small hw.code ω hc.dir,hn,hh e he,f4_,Bool.or_true]
 refine⟨?_,?_,?_,?_,x0⟩
 .cases w:AI q with
  |true=>exact(x1 w).tm
  |false=>rw[x2 w];exact hI.tm.chg _ _ _
 .rw[h5];cases w:AI q with
  |true=>
   have hq:=x1 w;by_cases h:El p0 q
   .rw[h9 w h]at hq;exact Azh hq hr h6 hW hD hI.wd
   .rw[hy w h]at hq;intro L j hj _;rcases hq.wait L with e|⟨e,_⟩
    .have:=(w2.2.2 j hj).1
     omega
    .exact absurd e (show ¬(0:Int)=3 by decide)
  |false=>
   rw[x2 w];intro L j hj P;unfold MU Zn at L P|-;by_cases c1:q=2/\(p0=3\/p0=4)
   .rw[if_pos c1]at L;exact absurd L (show ¬(0:Int)=3 by decide)
   .rw[if_neg c1]at L P|-;by_cases c2:q=0/\p0=2
    .rw[if_pos c2]at L;exact absurd L (show ¬(0:Int)=3 by decide)
    .rw[if_neg c2]at L P|-
     have:=ZG hW hD hI.wd L j hj P
     omega
 .rw[hk];intro w e he;have hq:=x1 w;by_cases h:El p0 q
  .rw[h9 w h]at hq;obtain⟨v,⟨_,sh,oo,pp,qq,uu,ww,d1,d2,d3⟩,hv⟩:=tw w h;rcases hv e he with hv|⟨h0,hb⟩
   .obtain⟨a,ha,f1,f2,f3,f4⟩:=d3 e hv;have x4:AI p0=A:=by
     unfold AI at w|-;unfold El at h;simp only[O_,I_]at w|-;omega
    have x6:=((hs.pm.belv i hi).dut.each a ha).1;obtain⟨hc,_⟩:=YW hw.code x6;have hd:=hI.du (by rw[x5];exact x4) a ha;rw[f1,f2,f3];rw[h4]at d1;refine RelQ.next hw.small hw.code hF hr h6 hI.tm hq (λg d hg hb=>?_) hW hD hI.wd d1 d2 hc hd f4;rw[MA,hb,Bool.true_or]
   .exact new he hq h0 hb
  .obtain⟨h0,hb⟩:=tn w h e he;exact new he hq h0 hb
 .rw[hk];intro D;obtain⟨g0,zz,e0,e1⟩:=x3 D;by_cases h:El p0 q
  .obtain⟨k1,k2⟩:=td D h;have eg:g0=s.rg.getD i U:=by
    rw[e0];unfold Aac Amm;unfold Dg at D;unfold El at h;simp only[O_,I_]at D;by_cases c:p0=q
    .rw[if_pos c]
    .rw[if_neg c,if_neg ω]
   subst eg;obtain⟨y,y1,r',F,y3⟩:=Beg ⟨hw.small.lo,hw.small.hi⟩ hg ct cs k2 hp;rw[e1]at y1;obtain rfl:=s_ y1;have F:Hw (u.rg.getD i U)=Hw r':=F
   have:u.rg.getD i U=r':=by generalize u.rg.getD i U=r at F;cases r;cases r';simp only[Hw,b9_,and_true]at F;simp only[F]
   rw[this];exact⟨k1,y3⟩
  .obtain⟨k1,k2⟩:=Q D h;have eg:g0=Ahn (s.rl.getD i N).D0:=by
    rw[e0];unfold Aac Amm;unfold Dg at D;unfold El at h;unfold WK at I;simp only[O_,I_]at D;rw[if_neg ω,if_pos ω]
   subst eg;rw[k1];have k2:(o.A0.getD i E).T1=0:=k2;rw[k2]at e1;have x7:CmdQ b.C0 (b.A0.getD i S).B1 (b.A0.getD i S).V1 Aj (Ahn (s.rl.getD i N).D0) 0:=.inl ⟨⟨rfl,rfl,rfl⟩,rfl,.inl ⟨rfl,rfl,rfl⟩⟩;obtain⟨y,y1,r',F,y3⟩:=Beg ⟨hw.small.lo,hw.small.hi⟩ (RigOK.new hr.fl:RigOK b.C0<|Ahn (s.rl.getD i N).D0) ct cs x7 hp;have y1:=e1.symm.trans y1;obtain rfl:=s_ y1;have F:Hw (u.rg.getD i U)=Hw r':=F
   have:u.rg.getD i U=r':=by generalize u.rg.getD i U=r at F;cases r;cases r';simp only[Hw,b9_,and_true]at F;simp only[F]
   rw[this];exact⟨rfl,y3⟩
end
def SameI.trans{a c d:aN}(h:SameI a c)(k:SameI c d):SameI a d:=⟨h.f.trans k.f,h.u.trans k.u,h.d.trans k.d,h.o.trans k.o,h.k.trans k.k,h.ff.trans k.ff,h.fl.trans k.fl,h.fd.trans k.fd⟩
def Ars{y:Inp}(h:x.tup=y.tup):x=y:=by obtain⟨⟨e,q⟩,a,k,v⟩:=x;obtain⟨⟨c1,f⟩,d,c4,j⟩:=y;simp only[Inp.tup,b9_,and_true]at h;simp only[h]
def Bfv{x y:Mch}(h:x.tup=y.tup):x=y:=by obtain⟨⟨a1,a2,a3,Y⟩,⟨a5,a6,a7⟩,a8,a9,L,a,I,d,P,f,q⟩:=x;obtain⟨⟨c1,c2,c3,c4⟩,⟨c5,c6,c7⟩,Q,c9,e,D,k,w,F,j,v⟩:=y;simp only[Mch.tup,b9_,and_true]at h;simp only[h]
section
variable{b:aB}(hw:BW b)
include hw
theorem Ay7{s:Sit}(h:SKI b s)(hF:∀i,i<b.A0.length->FitB b i)(hp:PshOK b p)(w:p.bad=B)(h7:∀i,i<b.A0.length->1<=p.times.getD i 0/\p.times.getD i 0<=(b.A0.getD i S).B1/\p.times.getD i 0<=(b.A0.getD i S).V1):W (p.ap (s.ap<|b.ap HG) 1048576) λy=>∃t o,y=(((),(),0,()),(En t,aF o,()))/\SKI b t/\o.A0.length=b.A0.length/\∀i,i<b.A0.length->(o.A0.getD i E).K4=B:=by
 have h9:=Ah hw.code;have l1:=h.ok.rll;have l2:=h.ok.rgl;obtain⟨_,hin,x,rfl,hx⟩:=Ah5 hw h.ok hp;obtain⟨_,D,x2,rfl,h6⟩:=Azt hw h.ok hp;have e:=s_<|hin.symm.trans D;have e:=Ars (Prod.mk.inj (Prod.mk.inj e).2).1;subst e;obtain⟨z,k,h5⟩:=Ayx hw.small hw.code hx;have hq:=RdX.made hw hx;have ho:=Afc hw.code hx.len;have hz:InOK b z:=by obtain⟨z',h1,_,h2⟩:=hq;rw[ho,k]at h1;have e:=s_ h1;have e:=Ars (Prod.mk.inj (Prod.mk.inj e).2).1;rw[e];exact h2 ho
 have a:∀i,i<b.A0.length->SameI (z.cars.getD i CY) (Anp (s.rl.getD i N)<|s.rg.getD i U):=λi hi=>(h5 i hi).trans<|h6 i hi;obtain⟨y,h3,P,m1,o1,t',rfl,hT⟩:=Bim hw h.ok.pm k hz (λi=>s.rg.getD i U) (λi hi=>(h.car i hi).fl) λi hi=>⟨λh0 e he=>((h.car i hi).du h0 e he).age<|hF i hi,λF=>⟨((h.car i hi).rg F).1,h.ok.rg _<|Av U (ω:i<s.rg.length),((h.car i hi).rg F).2,(a i hi).ff,(a i hi).fl,(a i hi).fd⟩⟩
 obtain⟨m',o,ht,L,x',g,r1,r2,u,vs,X,h8,j⟩:=Bep hw h.ok.pm hq;have e:=s_<|h3.symm.trans ht;have e0:P=0:=b5_ (λ(t:(Unit×Unit×Int×Unit)×_)=>t.1.2.2.1) e;have em:=(Prod.mk.inj e).2;obtain⟨q,f,d⟩:=hT e0;have h4:m1=m':=by
  have:=(Prod.mk.inj em).1
  exact Bfv this
 have Y:o1=o:=by
  have:=(Prod.mk.inj (Prod.mk.inj em).2).1
  cases o1;cases o;simp only[aF,b9_,and_true]at this;simp only[this]
 rw[h4]at q;rw[Y]at f;unfold HG;refine R hin<|aE rfl<|aE rfl<|R (Aqi hw.small hw.code hx) ?_;refine O (Q:=λy=>y=((1048576,(),(),(),(),(),inV b x,()),(b.tup,En s,RL p,En Sit.none,aF noOut,()))) (aE w<|C rfl) λy hy=>?_;subst hy;refine R (BX s.rl ω)<|R (BX s.rg ω)<|R ht<|aE rfl (O (Aqt hw h.ok (t:=⟨m',s.rl,s.rg⟩) ⟨L,l1,h.ok.rl,l2,h.ok.rg⟩ rfl rfl (λi hi=>(h.car i hi).tm) hp j.oc) λy hy=>?_);obtain⟨v,P,e2,e3,I,e5⟩:=hy;rw[P,e2];have I:v.m=t'.m:=(show v.m=m' from I).trans q;refine C ⟨v,o,rfl,⟨e3,λi hi=>(h.car i hi).next hw hi (hF i hi) h.ok e3 (a i hi) I f (d i hi) (e5 i hi)<|h7 i hi⟩,j.oc,λi hi=>?_⟩;rw[f,(d i hi).ofl];exact(d i hi).fl
end
def Baq{d f j:Nat}(h1:f<256)(v:j<256):BW<|FS (Lw d) (Ig d) f j:=by
 have e:(2<=Lw d/\Lw d<=6)/\1<=Ig d/\Ig d<=3:=by unfold Lw Ig;omega
 obtain⟨q,w,y,_,_,D⟩:=Aps e.1 e.2 h1 v;have hl:(arF .sub .f64 (Bc 2 1).M0 4589168020290535424).isSome=A/\(arF .sub .f64 (Bc 2 1).O0 4589168020290535424).isSome=A:=by decide+kernel
 obtain⟨a,k⟩:=Option.isSome_iff_exists.1 hl.1;obtain⟨c,hc⟩:=Option.isSome_iff_exists.1 hl.2;exact⟨q,w,ω,⟨a,k,trivial⟩,⟨c,hc,trivial⟩⟩
def Sj(h:b.code=0):inR 2 32 b.C0=A/\inR 1 8 (b.A0.length:Int)=A/\inR 1 16 b.F0=A/\inR 1 10000 b.L0=A/\b.A0.all (BQ b.C0)=A/\b.loadsOK=A:=by unfold Bldg.code at h;revert h;cases inR 2 32 b.C0<;>cases inR 1 8 _<;>cases inR 1 16 b.F0<;>cases inR 1 10000 b.L0<;>cases b.A0.all _<;>cases b.loadsOK<;>(intro h;first|exact⟨rfl,rfl,rfl,rfl,rfl,rfl⟩|(exact absurd h σ))
structure CrsOK(b:Bldg)(cs:List Car):Prop where
 len:cs.length=b.A0.length
 ok:∀c∈cs,BQ b.C0 c=true
def CrsOK.code(h:b.code=0)(hc:CrsOK b cs):({ b with J0:=4000,A0:=cs }:aB).code=0:=by
 obtain⟨q,k,w,j,D,v⟩:=Sj h;have f:=Ah h;have a:inR 1 8 cs.length=A:=by rw[hc.len];exact k
 have e:cs.all _=A:=G_.2 hc.ok;have d:({ b with J0:=4000,A0:=cs }:aB).loadsOK=A:=v;have y:inR (18*cs.length+24) 65536 4000=A:=Ak.2 (by rw[hc.len];omega);unfold Bldg.code;rw[d];rw[q,a,w,j,e,y];rfl
def CrsOK.self(h:b.code=0):CrsOK b b.A0:=⟨rfl,λ_ hc=>Ij h hc⟩
def CrsOK.set(hc:CrsOK b cs)(h:BQ b.C0 c=A)(i:Nat):CrsOK b<|cs.set i c:=⟨by rw[z_];exact hc.len,λx hx=>(aR hx).elim (hc.ok x) λe=>by rw[e];exact h⟩
def Kt{a:Int}:BQ a c=A↔((1<=c.K1/\c.K1<=10000)/\(1<=c.N3/\c.N3<=10000)/\(1<=c.T3/\c.T3<=10000)/\(1<=c.V1/\c.V1<=10000)/\(1<=c.B1/\c.B1<=10000)/\(1<=c.F1/\c.F1<=10000)/\(1<=c.P3/\c.P3<=10000))/\(0<=c.B3/\c.B3<=10000)/\c.F1<=c.P3/\0<=c.H4/\c.H4<=V.wrap (a-1):=by unfold BQ;simp only[T_,f7_,g1_,b_,Ak,r_]
def Aui:∀n:Nat,n<16->(arF BinOp.quo FloatKind.f64 (Afa FloatKind.f64 (n:Int)) 4624070917402656768).isSome=A:=by decide+kernel
def Aik(h1:0<=n)(a:n<256):1<=V.wrap (1+aC (aA V<|aA aM<|aL n 5) 8)/\V.wrap (1+aC (aA V<|aA aM<|aL n 5) 8)<=8:=by rw[Int.tdiv_eq_ediv_of_nonneg h1,Adn (n:=n/5) ω ω,Aa (n:=n/5) ω ω,a9_ ω,Aa ω ω];omega
def tmB(b:aB)(j:Nat)(t:Int):Prop:=1<=t/\t<=(b.A0.getD j S).B1/\t<=(b.A0.getD j S).V1
structure PshT(b:Bldg)(p:Psh):Prop where
 ok:PshOK b p
 bad:p.bad=false
 tm:∀j,j<b.A0.length->tmB b j (p.times.getD j 0)
section
variable{b:aB}(hw:BW b)
include hw
theorem Bgs{x0 x1 I D Y:Int}(h0:u8r x0)(h6:u8r x1)(h2:u8r I)(h3:u8r D)(h4:u8r Y):W (RZ b.C0 b.F0 b.J0 b.L0 b.I0 b.M0 b.O0 b.A0 x0 x1 I D Y) λy=>∃p:Psh,y=(((),()),(RL p,()))/\PshT b p:=by
 have h7:=Ah hw.code;have lo:=hw.small.lo;have hi:=hw.small.hi;unfold RZ;refine R (Aqn hw.small hw.code) ?_;refine O (Q:=λy=>∃c:Int×Int,y=(((),(),(),(),()),(b.tup,(x0,x1,I,D,Y,()),(0,0,0,0,[],[],[],[],B,()),(c.1,c.2,0,0,[],[],[],[],B,()),()))/\Fz b c) (Z (λ_=>R (Aqo (_,_)<|Bj b)<|C ⟨Dz _<|Bj b,rfl,?_⟩) λ_=>C ⟨(0,0),rfl,Ux hw.small hw.code⟩) λy hy=>?_
 .refine(Mo hw.small hw.code).2 ⟨Ab7 _ _,λf hf d hd q=>?_⟩;rw[Kr,Mn hw.small hw.code hf hd,b_]at q;exact q.2
 obtain⟨c,rfl,hc⟩:=hy;refine O (Q:=λy=>∃n m:Int,y=(((),(),(),(),()),(b.tup,(x0,x1,I,D,Y,()),(0,0,0,0,[],[],[],[],B,()),(c.1,c.2,n,m,[],[],[],[],B,()),()))/\(0<=n/\n<=8)/\(0<=m/\m<(b.A0.length:Int))/\(n=0->m=0)) (O (Q:=λy=>∃g:Bool,y=(((),(),(),(),g,()),(b.tup,(x0,x1,I,D,Y,()),(0,0,0,0,[],[],[],[],B,()),(c.1,c.2,0,0,[],[],[],[],B,()),()))) (Z (λ_=>C ⟨_,rfl⟩) λ_=>C ⟨_,rfl⟩) λy hy=>?_) λy hy=>?_
 .obtain⟨g,rfl⟩:=hy;refine Z (λ_=>J ?_<|C ⟨_,_,rfl,?_,?_,?_⟩) λ_=>C ⟨0,0,rfl,⟨τ,τ⟩,⟨τ,ω⟩,λ_=>rfl⟩
  .show((b.A0.length:Int) !=0)=A;exact bne_iff_ne.2 ω
  .have:=Aik h2.1 h2.2
   exact⟨Int.le_trans τ this.1,this.2⟩
  .show 0<=aC (aA V D) (b.A0.length:Int)/\aC (aA V D) (b.A0.length:Int)<(b.A0.length:Int)
   have ha:=h3.1;have hz:=h3.2;rw[Aa (n:=D) ω ω,a9_ ha];exact⟨f2_ _ ω,f1_ _ ω⟩
  .intro e;have k1:=Aik h2.1 h2.2;have e:V.wrap (1+aC (aA V<|aA aM<|aL I 5) 8)=0:=e;omega
 obtain⟨n,m,rfl,hn,hm,h5⟩:=hy;refine O (Q:=λy=>∃p:Psh,y.2.2.1=RL p/\PshT b p) ?_ λy hy=>?_
 .unfold SZ;refine aK (λ(k:Nat) z=>∃(i:Nat) (L F:List Int) (bs:List Bool) (ls:List Nat),z=(((),(),(),(),(i:Int),()),(b.tup,(x0,x1,I,D,Y,()),(0,0,0,0,[],[],[],[],B,()),(c.1,c.2,n,m,L,F,bs,ls,B,()),()))/\i+k=b.A0.length/\L.length=i/\(∀c∈L,C2 b.C0 c)/\F.length=i/\bs.length=i/\ls.length=i/\∀j,j<i->tmB b j (F.getD j 0)) (λk z hz=>?_) b.A0.length ⟨0,[],[],[],[],rfl,n_ _,rfl,λc hc=>(by cases hc),rfl,rfl,rfl,λj hj=>absurd hj<|Y_ j⟩ ω;obtain⟨i,L,F,bs,ls,rfl,hk,e1,e2,e3,e4,e5,e6⟩:=hz;show W (Tc (i:Int) b.C0 b.F0 b.J0 b.L0 b.I0 b.M0 b.O0 b.A0 x0 x1 I D Y 0 0 0 0 [] [] [] [] B c.1 c.2 n m L F bs ls B) _;unfold Tc;refine Z (λq=>?_) λq=>?_
  .have q:(i:Int)<(b.A0.length:Int):=k_ q;have wr:=Cm (n:=i) ω;have ib:inB (i:Int) b.A0.length=A:=Ac ω q;have t2:aC (i:Int) 2=0\/aC (i:Int) 2=1:=by rw[a9_ ω];omega
   have t3:0<=aC (i:Int) 3/\aC (i:Int) 3<3:=by rw[a9_ ω];omega
   have u3:aI.wrap (aC (i:Int) 3)=aC (i:Int) 3:=ES t3.1 ω;have uf:aI.wrap b.C0=b.C0:=ES ω ω;have ht:=Kt.1<|Ij hw.code<|Av S (ω:i<b.A0.length);have hv:∃v:Int,List.getD [x0,x1,I,D,Y] (aP<|aA V<|3+aC (i:Int) 2) 0=v/\u8r v/\inB (aA V<|3+aC (i:Int) 2) 5=A:=by
    rcases t2 with e|e<;>rw[e]
    .exact⟨D,rfl,h3,rfl⟩
    .exact⟨Y,rfl,h4,rfl⟩
   obtain⟨v,v1,v2,v3⟩:=hv;have hp:(0:Int)<2^(Min.min (aP<|aA aI<|aC (i:Int) 3)<|IntKind.bits aM):=Int.pow_pos τ;have P:0<=Int.fdiv v ((2:Int)^(Min.min (aP<|aA aI<|aC (i:Int) 3)<|IntKind.bits aM))/\Int.fdiv v ((2:Int)^(Min.min (aP<|aA aI<|aC (i:Int) 3)<|IntKind.bits aM))<256:=by rw[H_ _<|Int.le_of_lt hp];exact⟨Int.ediv_nonneg v2.1<|Int.le_of_lt hp,Int.lt_of_le_of_lt (Int.ediv_le_self _ v2.1) v2.2⟩
   refine J v3<|J (a_ (by rw[u3];exact t3.1))<|J (a_ (by rw[uf];omega)) ?_;rw[v1];generalize h8:Int.fdiv v ((2:Int)^(Min.min (aP<|aA aI<|aC (i:Int) 3)<|IntKind.bits aM))=z2 at P;have ar:W (arF BinOp.quo FloatKind.f64 (Afa FloatKind.f64<|aC z2 16) 4624070917402656768) λ_=>True:=by
    have e:aC z2 16=((z2%16).toNat:Int):=by rw[a9_ P.1];omega
    rw[e];obtain⟨a,ha⟩:=Option.isSome_iff_exists.1<|Aui (z2%16).toNat ω;exact⟨a,ha,trivial⟩
   refine J (AR (by show L.length+1<=_;omega))<|J ib<|J ib<|J ?_<|J (AR (by show F.length+1<=_;omega))<|J (AR (by show bs.length+1<=_;omega)) (O ar λy1 _=>J (AR (by show ls.length+1<=_;omega))<|C ⟨k-1,ω,i+1,_,_,_,_,by first|(rw[<-wr];rfl)|rw[<-wr],ω,by rw[f_];show L.length+1=_;omega,λc hc=>?_,by rw[f_];show F.length+1=_;omega,by rw[f_];show bs.length+1=_;omega,by rw[f_];show ls.length+1=_;omega,λj hj=>?_⟩)
   .show((bif decide ((b.A0.getD i S).B1<(b.A0.getD i S).V1)then(b.A0.getD i S).B1 else(b.A0.getD i S).V1) !=0)=A;rw[bne_iff_ne];cases decide ((b.A0.getD i S).B1<(b.A0.getD i S).V1)
    .show(b.A0.getD i S).V1≠0;omega
    .show(b.A0.getD i S).B1≠0;omega
   .rcases m_.1 hc with hc|hc
    .exact e2 c hc
    .rw[y_.1 hc,uf];exact C2.and<|C2.all ⟨lo,hi⟩
   .by_cases e:j=i
    .subst e;rw[g_,b8_ ω,show j-F.length=0 by omega];show tmB b j (aA V<|1+aC (aA V<|aA aM<|aL z2 4) (bif decide ((b.A0.getD j S).B1<(b.A0.getD j S).V1)then(b.A0.getD j S).B1 else(b.A0.getD j S).V1));have h4:0<=aL z2 4/\aL z2 4<64:=by rw[Int.tdiv_eq_ediv_of_nonneg P.1];omega
     rw[Adn h4.1 ω,Aa (n:=aL z2 4) ω ω];clear hn hm h5 P;have h1:∀w:Int,1<=w->w<=10000->w<=(b.A0.getD j S).B1->w<=(b.A0.getD j S).V1->tmB b j (aA V<|1+aC (aL z2 4) w):=λw w1 w2 w3 w4=>by have k1:=f2_ (aL z2 4) (ω:w≠0);have k2:=f1_ (aL z2 4) (ω:0<w);rw[a9_ h4.1,Aa ω ω];unfold tmB;omega
     by_cases g:(b.A0.getD j S).B1<(b.A0.getD j S).V1
     .rw[a_ g,i_];exact h1 _ ω ω ω ω
     .rw[c_ g,j_];exact h1 _ ω ω ω ω
    .rw[g_,b2_ ω,<-g_];exact e6 j ω
  .have q:=o_ q;exact C ⟨⟨c,n,m,L,F,bs,ls,B⟩,rfl,⟨hc.1,hc.2,hn,hm,h5,by show L.length=_;omega,e2,by show F.length=_;omega,by show bs.length=_;omega,by show ls.length=_;omega⟩,rfl,λj hj=>e6 j ω⟩
 .obtain⟨p,e1,e2⟩:=hy;rw[e1];exact C ⟨p,rfl,e2⟩
end
def Mm{α:Type}{l:List α}(h:i<l.length)(d x:α)(j:Nat):(l.set i x).getD j d=if j=i then x else l.getD j d:=by
 by_cases e:j=i
 .rw[if_pos e,e,Am d x h]
 .rw[if_neg e,As _ _<|a7_ e]
structure CarS(c:Car):Prop where
 s:c.V1<=3
 t:c.B1<=3
 d:c.F1<=4
def Bj6{a d e:Int}(h0:0<=a/\a<256)(h1:0<=d/\d<256)(f:0<=e/\e<256):∃b:aB,Mt a d e=aG (((),()),(b.tup,()))/\BW b/\b.F0<=3/\∀c∈b.A0,CarS c:=by obtain⟨k,rfl⟩:=c6_ h0.1;obtain⟨k1,rfl⟩:=c6_ h1.1;obtain⟨j,rfl⟩:=c6_ f.1;refine⟨_,Aa0 ω ω ω,Baq ω ω,by show((1+j%3:Nat):Int)<=3;omega,λc hc=>?_⟩;obtain⟨i,_,rfl⟩:=b6_.1 hc;exact⟨by show((1+k1%3:Nat):Int)<=3;omega,by show((1+k1/3%3:Nat):Int)<=3;omega,by show((1+k1/9%3:Nat):Int)<=4;omega⟩
structure FitI(b:Bldg)(cs:List Car)(i:Nat)(P:Car->Prop):Prop where
 ok:CrsOK b cs
 s:∀c∈cs,CarS c
 p:∀j,j<i->P (cs.getD j Ag)
def FitI.set{P:Car->Prop}(h:FitI b cs i P)(hi:i<cs.length)(h1:BQ b.C0 c=A)(d:CarS c)(a:P c):FitI b (cs.set i c) (i+1) P:=
 ⟨h.ok.set h1 i,λx hx=>(aR hx).elim (h.s x) λe=>by rw[e];exact d,λj f=>by
  rw[Mm hi];by_cases e:j=i
  .rw[if_pos e];exact a
  .rw[if_neg e];exact h.p j ω⟩
section
variable{b:aB}(hb:b.small)(hcode:b.code=0)(hd3:b.F0<=3)
include hcode hd3
theorem At6(h:FitI b cs 0 λc=>b.F0+1<=c.F1):W (Nf (((),(),(0:Int),()),((b.C0,b.F0,4000,b.L0,b.I0,b.M0,b.O0,cs,()),(0,0,0,0,0,0,0,[],()),()))) λy=>∃a,y.2.1=(b.C0,b.F0,4000,b.L0,b.I0,b.M0,b.O0,a,())/\y.2.2.1=(0,0,0,0,0,0,0,[],())/\FitI b a b.A0.length λc=>b.F0+1<=c.F1:=by
 have L:=Ah hcode;have Q:=Ak.1 (Sj hcode).2.2.1;have F:V.wrap (b.F0+1)=b.F0+1:=Aa ω ω;unfold Nf;refine aK (λ(k:Nat) z=>∃(i:Nat) (cs:List Car),z=(((),(),(i:Int),()),((b.C0,b.F0,4000,b.L0,b.I0,b.M0,b.O0,cs,()),(0,0,0,0,0,0,0,[],()),()))/\i+k=b.A0.length/\FitI b cs i λc=>b.F0+1<=c.F1) (λk z w=>?_) b.A0.length ⟨0,cs,rfl,n_ _,h⟩ ω;obtain⟨i,cs,rfl,Y,h⟩:=w;have hl:=h.ok.len;show W (Vb (i:Int) b.C0 b.F0 4000 b.L0 b.I0 b.M0 b.O0 cs 0 0 0 0 0 0 0 []) _;unfold Vb;refine Z (λq=>?_) λq=>C ⟨cs,rfl,rfl,by have q:=o_ q;rwa [show b.A0.length=i by omega]⟩;have q:(i:Int)<(cs.length:Int):=k_ q;have v:=Cm (n:=i) ω;have hm:=Av S (ω:i<cs.length);have I:=Kt.1<|h.ok.ok _ hm;have j:=h.s _ hm;refine J (Ac ω q)<|C ⟨k-1,ω,i+1,_,by first|(rw[<-v];rfl)|rw[<-v],ω,?_⟩;simp only[l_,F];rw[show Car.mk 0 0 0 0 0 0 0 0 0=S from rfl];generalize hc:cs.getD i S=c at I j;simp only[Am S _ (ω:i<cs.length)];obtain⟨d,f,P⟩:=j;have e:∀D:Int,(D=c.F1\/D=b.F0+1)->c.F1<=D->BQ b.C0 (Car.mk c.K1 c.N3 c.T3 c.B3 c.V1 c.B1 D (bif decide (c.P3<D)then D else c.P3) c.H4)=A:=λD h1 h2=>by
  by_cases q:c.P3<D
  .rw[a_ q];refine Kt.2 ?_;simp only[i_];omega
  .rw[c_ q];refine Kt.2 ?_;simp only[j_];omega
 rw[g8_];by_cases q:c.F1<b.F0+1
 .rw[a_ q];exact h.set ω (e _ (.inr rfl) (by show c.F1<=b.F0+1;omega)) ⟨d,f,by show b.F0+1<=4;omega⟩<|e1_ _
 .rw[c_ q];exact h.set ω (e _ (.inl rfl)<|e1_ _) ⟨d,f,P⟩ (by show b.F0+1<=c.F1;omega)
include hb
theorem Ays(h:CrsOK b cs)(D:∀c∈cs,CarS c)(hi:i<cs.length):W (Ny b.C0 b.F0 4000 b.L0 b.I0 b.M0 b.O0 cs (i:Int)) λy=>y.1.1=(3*b.C0+1)*(3*(2*(cs.getD i S).B1+(cs.getD i S).F1)+(cs.getD i S).V1+2)/\1<=y.1.1/\y.1.1<=9000:=by
 have lo:=hb.lo;have Q:=hb.hi;have hl:=h.len;have P:=Ah hcode;have hm:=Av S (ω:i<cs.length);have w:=Kt.1<|h.ok _ hm;have a:=D _ hm;unfold Ny;refine R (PK { b with J0:=4000,A0:=cs })<|aE (by show(({ b with J0:=4000,A0:=cs }:aB).code !=0)=B;rw[h.code hcode];rfl)<|aE (c_ ω)<|aE (c_ ω)<|J (Ac ω ω)<|C ?_;simp only[l_];rw[show Car.mk 0 0 0 0 0 0 0 0 0=S from rfl];generalize cs.getD i S=c at w a;obtain⟨s1,s2,s3⟩:=a;have Y:V.wrap (3*b.C0)=3*b.C0:=Aa ω ω;have L:V.wrap (3*b.C0+1)=3*b.C0+1:=Aa ω ω;have v:V.wrap (2*c.B1)=2*c.B1:=Aa ω ω;have f:V.wrap (2*c.B1+c.F1)=2*c.B1+c.F1:=Aa ω ω;have d:V.wrap (3*(2*c.B1+c.F1))=3*(2*c.B1+c.F1):=Aa ω ω;have I:V.wrap (3*(2*c.B1+c.F1)+c.V1)=3*(2*c.B1+c.F1)+c.V1:=Aa ω ω;have j:V.wrap (3*(2*c.B1+c.F1)+c.V1+2)=3*(2*c.B1+c.F1)+c.V1+2:=Aa ω ω;rw[Y,L,v,f,d,I,j];generalize hy:3*(2*c.B1+c.F1)+c.V1+2=y;have q:1<=y/\y<=35:=ω;have F:b.C0=2\/b.C0=3\/b.C0=4\/b.C0=5\/b.C0=6\/b.C0=7\/b.C0=8:=ω;have k:1<=(3*b.C0+1)*y/\(3*b.C0+1)*y<=9000:=by rcases F with e|e|e|e|e|e|e<;>rw[e]<;>omega
 rw[Aa ω ω];exact⟨rfl,k⟩
def Bbe(b:aB)(c:Car):Prop:=b.F0+1<=c.F1/\c.K1=(3*b.C0+1)*(3*(2*c.B1+c.F1)+c.V1+2)+b.F0+2
theorem At7(h:FitI b cs b.A0.length λc=>b.F0+1<=c.F1):W (Ng (((),(),(0:Int),()),((b.C0,b.F0,4000,b.L0,b.I0,b.M0,b.O0,cs,()),(0,0,0,0,0,0,0,[],()),()))) λy=>∃v,y.2.1=(b.C0,b.F0,4000,b.L0,b.I0,b.M0,b.O0,v,())/\FitI b v b.A0.length (Bbe b):=by
 have h0:=Ah hcode;have hd:=Ak.1 (Sj hcode).2.2.1;unfold Ng;refine aK (λ(k:Nat) z=>∃(i:Nat) (cs:List Car),z=(((),(),(i:Int),()),((b.C0,b.F0,4000,b.L0,b.I0,b.M0,b.O0,cs,()),(0,0,0,0,0,0,0,[],()),()))/\i+k=b.A0.length/\FitI b cs i (Bbe b)/\∀j,j<b.A0.length->b.F0+1<=(cs.getD j S).F1) (λk z L=>?_) b.A0.length ⟨0,cs,rfl,n_ _,⟨h.ok,h.s,λj F=>absurd F<|Y_ j⟩,h.p⟩ ω;obtain⟨i,cs,rfl,hk,h,hp⟩:=L;have hl:=h.ok.len;show W (Vc (i:Int) b.C0 b.F0 4000 b.L0 b.I0 b.M0 b.O0 cs 0 0 0 0 0 0 0 []) _;unfold Vc;refine Z (λq=>?_) λq=>C ⟨cs,rfl,by have q:=o_ q;rwa [show b.A0.length=i by omega]⟩;have q:(i:Int)<(cs.length:Int):=k_ q;have I:=Cm (n:=i) ω;have hm:=Av S (ω:i<cs.length);have P:=Kt.1<|h.ok.ok _ hm;have D:=h.s _ hm;have a:=hp i ω;refine O (Ays hb hcode hd3 h.ok h.s (ω:i<cs.length)) λQ f=>(J (Ac ω q)<|C ⟨k-1,ω,i+1,_,by first|(rw[<-I];rfl)|rw[<-I],ω,?_⟩)
 generalize Q.1.1=n at f;obtain⟨w,f⟩:=f;have w1:V.wrap (n+b.F0)=n+b.F0:=Aa ω ω;have Y:V.wrap (n+b.F0+2)=n+b.F0+2:=Aa ω ω;simp only[l_,w1,Y];rw[show Car.mk 0 0 0 0 0 0 0 0 0=S from rfl,c_ (ω:¬(10000:Int)<n+b.F0+2)];simp only[j_];generalize hc:cs.getD i S=c at P D a w;refine⟨h.set ω (Kt.2 (by simp only[];omega)) ⟨D.s,D.t,D.d⟩ ⟨a,by show n+b.F0+2=_;rw[w]⟩,λj F=>?_⟩;rw[Mm ω];by_cases e:j=i
 .rw[if_pos e];exact a
 .rw[if_neg e];exact hp j F
end
def Bj7{q d f:Int}(h0:0<=q/\q<256)(h1:0<=d/\d<256)(v:0<=f/\f<256):W (Fv q d f) λy=>∃b:aB,y=(((),()),(b.tup,()))/\BW b/\∀i,i<b.A0.length->FitB b i:=by
 obtain⟨b,e,hw,hd3,w⟩:=Bj6 h0 h1 v;have h5:=Ah hw.code;have Y:=Ak.1 (Sj hw.code).2.2.1;have lo:=hw.small.lo;have h4:=hw.small.hi;unfold Fv;refine R e<|R rfl (O (Q:=λy=>∃cs,y.2.1=(b.C0,b.F0,4000,b.L0,b.I0,b.M0,b.O0,cs,())/\FitI b cs b.A0.length (Bbe b)) ?_ λy hy=>?_)
 .show W (Ub b.C0 b.F0 4000 b.L0 b.I0 b.M0 b.O0 b.A0) _;unfold Ub;refine R (PK { b with J0:=4000,A0:=b.A0 })<|aE (by show(({ b with J0:=4000,A0:=b.A0 }:aB).code !=0)=B;rw[(CrsOK.self hw.code).code hw.code];rfl)<|J (AR (by show 0+b.A0.length<=_;omega)) (O (At6 hw.code hd3 (cs:=b.A0) ⟨CrsOK.self hw.code,w,λj hj=>absurd hj<|Y_ j⟩) λy2 v=>?_);obtain⟨c1,k,a,L⟩:=v;rw[k,a];refine O (At7 hw.small hw.code hd3 L) λy3 h3=>?_;obtain⟨P,I,e5⟩:=h3;exact C ⟨P,I,e5⟩
 .obtain⟨cs,k,a⟩:=hy;have hl:=a.ok.len;refine C ⟨{ b with J0:=4000,A0:=cs },by rw[k];rfl,⟨⟨hw.small.lo,hw.small.hi⟩,a.ok.code hw.code,show(4000:Int)<=5000 by decide,hw.full,hw.over⟩,λi hi=>?_⟩;have hi:i<cs.length:=hi;have ht:=Kt.1<|a.ok.ok _<|Av S hi;obtain⟨F,D⟩:=a.p i ω;refine⟨Y.1,F,?_⟩;show((2+(cs.getD i S).V1.toNat+(cs.getD i S).F1.toNat+2*(cs.getD i S).B1.toNat+wV (2*(cs.getD i S).B1.toNat+(cs.getD i S).F1.toNat) (cs.getD i S).V1.toNat (cs.getD i S).B1.toNat (2*b.C0.toNat) 2:Nat):Int)+b.F0<=(cs.getD i S).K1;rw[D];generalize cs.getD i S=c at ht;unfold wV;have hf:b.C0=2\/b.C0=3\/b.C0=4\/b.C0=5\/b.C0=6\/b.C0=7\/b.C0=8:=ω;clear F D w;rcases hf with e|e|e|e|e|e|e<;>rw[e]<;>simp only[Int.reduceToNat,Int.reduceMul,Int.reduceAdd,Nat.reduceMul]<;>omega
def Ay9{X Y:Type}{s:X->Option (Sum X Y)}(L:X->Option Y)(_:L=BM s DF):X->Option (Sum X Y):=s
def Aza{X Y:Type}{s:X->Option (Sum X Y)}{L:X->Option Y}(h:L=BM s DF){n:Nat}{x:X}{y:Y}(hi:BM (Ay9 L h) n x=aG y)(a:n<=18446744073709551616):L x=aG y:=by rw[h];exact AA hi a
def Bat(l:List UInt8):ByteArray:=ByteArray.mk<|Array.mk l
noncomputable abbrev sQ0:=Ay9 JW rfl
def Bi9:List Car:=[⟨198,2,1,0,1,1,2,2,0⟩]
def deS(f:Int)(u c:Bool):aO:=⟨f,u,B,B,c,0,0,0,0,0,0,0,0,0,0,0,0,0,0,0,0,0,0,0,0,0,0,0,0,0,0,0,0,0,0,0,0,0,0,0,0⟩
def siS(e:List Entry)(h:ByteArray)(c:aO)(q:Belief)(d:Int)(x:List Int)(t:Int)(r:aH):List Int×List Bool×List Bool×List Entry×ByteArray×ByteArray×Int×List aO×List Belief×List NewCar×List Loaded×List Int×List Calls×Int×Int×Int×List aH×List Rig×Unit:=([0],[B],[B],e,Bat [],h,1,[c],[q],[⟨0,0,0,0,0,B,0,0,0,0,0,0,0,B⟩],[⟨d⟩],x,[⟨0,0⟩],t,0,0,[r],[⟨0,0,0,2,0,0⟩],())
def zQ(i:Int)(k:Int)(p:List Int×List Bool×List Bool×List Entry×ByteArray×ByteArray×Int×List aO×List Belief×List NewCar×List Loaded×List Int×List Calls×Int×Int×Int×List aH×List Rig×Unit):(Unit×Unit×Int×Unit×Int×Unit)×((Int×Int×Int×Int×Nat×Nat×Nat×List Car×Unit)×(List Int×List Bool×List Bool×List Entry×ByteArray×ByteArray×Int×List aO×List Belief×List NewCar×List Loaded×List Int×List Calls×Int×Int×Int×List aH×List Rig×Unit)×(Int×Int×Int×Int×List Int×List Int×List Bool×List Nat×Bool×Unit)×Unit):=(((),(),0,(),i,()),((4,1,4000,1,4591870180066957722,4605380978949069210,4607632778762754458,Bi9,()),p,(k,0,0,0,[0],[1],[B],[0],B,()),()))
def hA:ByteArray:=Bat [4,0,0,2,0,165,5,0,0,2,0,199,6,0,0,2,0,97]
def hB:ByteArray:=Bat [4,0,0,2,0,165,5,0,0,2,0,199,6,0,0,2,0,97,1,1,1,2,0,53,3,1,1,2,0,241]
def p0Q:=siS [] hA (deS 0 B B) ⟨(-1),0,0,[],0,B⟩ 0 [] 0 ⟨0,0,0,0,2,0,0,0,0⟩
def p1Q:=siS [⟨1,1,0,0,B⟩] hB (deS 1 B A) ⟨0,0,2,[⟨1,1,0⟩],1,B⟩ 1 [1] 1 ⟨1,0,1,0,2,1,2,0,0⟩
def p2Q:=siS [⟨1,1,0,0,B⟩] hB (deS 0 A A) ⟨0,1,2,[⟨1,1,1⟩],0,B⟩ 1 [0] 2 ⟨2,1,1,2,0,1,2,0,0⟩
def p3Q:=siS [⟨1,1,0,0,B⟩] hB (deS 2 A B) ⟨1,1,0,[⟨1,1,2⟩],0,B⟩ 1 [0] 3 ⟨3,1,1,2,1,2,0,0,0⟩
def Ay3:JW (zQ 0 2 p0Q)=aG (.inr ((A,()),())):=
 have a:sQ0 (zQ 0 2 p0Q)=aG (.inl<|zQ 1 0 p1Q):=κ;have e:sQ0 (zQ 1 0 p1Q)=aG (.inl<|zQ 2 0 p2Q):=κ;have f:sQ0 (zQ 2 0 p2Q)=aG (.inl<|zQ 3 0 p3Q):=κ;have d:sQ0 (zQ 3 0 p3Q)=aG (.inr<|.inr ((A,()),())):=κ
 Aza rfl (n:=4) ((BH a).trans<|(BH e).trans<|(BH f).trans<|AU d) τ
def Axu:KB=aG ((A,()),()):=by unfold KB;refine Ae (a:=(((),()),((4,1,4000,1,4591870180066957722,4605380978949069210,4607632778762754458,Bi9,()),()))) κ ?_;refine Ae (a:=(([0],()),())) κ ?_;refine Ae (a:=(((),0,()),(p0Q,()))) κ ?_;refine Ae (a:=(((),()),((0,0,0,0,[0],[1],[B],[0],B,()),()))) κ ?_;exact Ae Ay3 rfl
section
variable{b:aB}(hw:BW b)
include hw
theorem Axj(I:0<=n/\n<256):W (GV b.C0 b.F0 b.J0 b.L0 b.I0 b.M0 b.O0 b.A0 n) λy=>y.1.1.length=b.A0.length/\∀f∈y.1.1,0<=f/\f<b.C0:=by
 have v:=Ah hw.code;have lo:=hw.small.lo;have w:=hw.small.hi;unfold GV;refine O (Q:=λy=>y.1.1.length=b.A0.length/\∀f∈y.1.1,0<=f/\f<b.C0) ?_ λy D=>C D;unfold PP;refine aK (λ(k:Nat) z=>∃(i:Nat) (l:List Int),z=((n,(),l,(i:Int),()),(b.tup,()))/\i+k=b.A0.length/\l.length=i/\∀f∈l,0<=f/\f<b.C0) (λk z j=>?_) b.A0.length ⟨0,[],rfl,n_ _,rfl,λf d=>(by cases d)⟩ ω;obtain⟨i,l,rfl,F,hl,d⟩:=j;show W (PU n l (i:Int) b.C0 b.F0 b.J0 b.L0 b.I0 b.M0 b.O0 b.A0) _;unfold PU;refine Z (λq=>?_) λq=>C ⟨by have q:=o_ q;show l.length=_;omega,d⟩;have q:(i:Int)<(b.A0.length:Int):=k_ q;have e:=Cm (n:=i) ω;refine J (bne_iff_ne.2 ω)<|J (AR (by show l.length+1<=_;omega))<|C ⟨k-1,ω,i+1,_,by first|(rw[<-e];rfl)|rw[<-e],ω,by rw[f_];show l.length+1=_;omega,λf a=>?_⟩;rcases m_.1 a with a|a
 .exact d f a
 .rw[y_.1 a,Aa (n:=n) ω ω,Aa (n:=3*(i:Int)) ω ω,Aa (n:=n+3*(i:Int)) ω ω,a9_ ω];exact⟨f2_ _ ω,f1_ _ ω⟩
theorem Ay8:(Kl b).1.P0=aS b.A0.length VX:=by
 have hcode:=hw.code;have a:=Jst.first hcode;have e:=a.fits;have d:=hw.room;have f:Kl b=((MC b Sto.no 1048576).1,(MC b Sto.no 1048576).2.2):=by unfold Kl;rw[hcode];rfl
 rw[f];rcases Aq7 hw.small a.ok a.img (a.replay hw.small) ω (bud:=1048576) ω with⟨_,j,q⟩|⟨k,_⟩
 .rw[j];rfl
 .omega
theorem Au8(hl:l.length=b.A0.length)(h0:∀f∈l,0<=f/\f<b.C0):W (Jd b.C0 b.F0 b.J0 b.L0 b.I0 b.M0 b.O0 b.A0 l) λy=>∃s:Sit,y=(((),0,()),(En s,()))/\SKI b s:=by
 have h1:=Ah hw.code;have lo:=hw.small.lo;obtain⟨hm,d,w⟩:=Bcy hw;unfold Jd;refine R (Add hw.small hw.code) ?_;rw[w];refine aE rfl<|aE (by rw[hl];exact Q_ _)<|R (Bfy hw hl h0)<|aE rfl (O (Q:=λy=>∃s:Sit,y.2.2.1=En s/\SKI b s) ?_ λy hy=>?_)
 .unfold Tb;refine aK (λ(k:Nat) z=>∃(i:Nat) (s:Sit),z=(((),(),l,(l.length:Int),(i:Int),()),(En Sit.none,En s,()))/\i+k=l.length/\s.m=(Kl b).1/\s.rl.length=i/\(∀r∈s.rl,RelOK b r/\r.R1=0)/\s.rg.length=i/\(∀r∈s.rg,RigOK b.C0 r)) (λk z hz=>?_) l.length ⟨0,⟨(Kl b).1,[],[]⟩,rfl,n_ _,rfl,rfl,λr a=>(by cases a),rfl,λr a=>(by cases a)⟩ ω;obtain⟨i,s,rfl,hk,j,e2,v,e4,I⟩:=hz;show W (s.ap<|Sit.none.ap<|Td l (l.length:Int) (i:Int)) _;unfold Td;refine Z (λq=>?_) λq=>?_
  .have q:(i:Int)<(l.length:Int):=k_ q;have P:=Cm (n:=i) ω;have F:=h0 _<|Av (0:Int) (ω:i<l.length);refine J (Ac ω q)<|R rfl<|J (AR (by show s.rl.length+1<=_;omega))<|R rfl<|J (AR (by show s.rg.length+1<=_;omega))<|C ⟨k-1,ω,i+1,⟨s.m,s.rl++[Zn<|l.getD i 0],s.rg++[Ahn<|l.getD i 0]⟩,by first|(rw[<-P];rfl)|rw[<-P],ω,j,by rw[f_];show s.rl.length+1=_;omega,λr a=>?_,by rw[f_];show s.rg.length+1=_;omega,λr a=>?_⟩
   .rcases m_.1 a with a|a
    .exact v r a
    .rw[y_.1 a];exact⟨RelOK.new hw.small hw.code F,rfl⟩
   .rcases m_.1 a with a|a
    .exact I r a
    .rw[y_.1 a];exact RigOK.new F
  .have q:=o_ q;refine C ⟨s,rfl,⟨⟨by rw[j];exact hm,ω,λr a=>(v r a).1,ω,I⟩,λi hi=>?_⟩⟩;have a:=(v _<|Av N (ω:i<s.rl.length)).2;have p1:H s.m.E0 i=0:=by rw[j,d];show(aS b.A0.length (0:Int)).getD i 0=0;rw[g_,aQ];split<;>rfl
   have Y:flA s.m.E0 i=B:=by rw[j,d];show(aS b.A0.length B).getD i B=B;rw[g_,aQ];split<;>rfl
   refine⟨⟨λe=>by omega,λe=>by omega,λe=>by omega⟩,λe=>by omega,λ_ e L=>?_,λD=>?_,Y⟩
   .rw[j,Ay8 hw,g_,aQ,if_pos hi]at L;cases L
   .rw[p1]at D;exact absurd D τ
 .obtain⟨s,g1,g2⟩:=hy;rw[g1];exact C ⟨s,rfl,g2⟩
theorem Bcf(hl:l.length<=maxLen)(hv:∀e∈l,u8r e)(hi:i<1000):W (GW b.C0 b.F0 b.J0 b.L0 b.I0 b.M0 b.O0 b.A0 l (i:Int)) λy=>∃p:Psh,y=(((),()),(RL p,()))/\PshT b p:=by
 have hm:maxLen<=9223372036854775807:=by decide
 unfold GW;refine O (Q:=λy=>∃D F f d I u,y=(((),(),(),()),(b.tup,u,(D,F,f,d,I,()),()))/\u8r D/\u8r F/\u8r f/\u8r d/\u8r I) ?_ λy hy=>?_
 .unfold PQ;refine aK (λ(k:Nat) z=>∃(j:Nat) (D F f d I:Int),z=((l,(i:Int),(),(),(),(j:Int),()),(b.tup,(0,0,0,0,[],[],[],[],B,()),(D,F,f,d,I,()),()))/\j+k=5/\u8r D/\u8r F/\u8r f/\u8r d/\u8r I) (λk z L=>?_) 5 ⟨0,0,0,0,0,0,rfl,rfl,Apf,Apf,Apf,Apf,Apf⟩ τ;obtain⟨j,D,F,f,d,I,rfl,hk,h0,h1,h2,h3,Y⟩:=L;show W (PV l (i:Int) (j:Int) b.C0 b.F0 b.J0 b.L0 b.I0 b.M0 b.O0 b.A0 0 0 0 0 [] [] [] [] B D F f d I) _;unfold PV;refine Z (λq=>Z (λP=>?_) λ_=>C ⟨D,F,f,d,I,_,rfl,h0,h1,h2,h3,Y⟩) λ_=>C ⟨D,F,f,d,I,_,rfl,h0,h1,h2,h3,Y⟩;have q:(j:Int)<5:=k_ q;have P:(0:Int)<(l.length:Int):=k_ P;have wr:=Cm (n:=j) ω;have w:V.wrap (aA V (5*(i:Int))+(j:Int))=((5*i+j:Nat):Int):=by
   rw[Aa (n:=5*(i:Int)) ω ω,Aa ω ω];omega
  have L:0<=aC (aA V<|aA V (5*(i:Int))+(j:Int)) (l.length:Int)/\aC (aA V<|aA V (5*(i:Int))+(j:Int)) (l.length:Int)<(l.length:Int):=by rw[w,a9_ ω];exact⟨f2_ _ ω,f1_ _ P⟩
  have hx:u8r<|l.getD (aP<|aC (aA V<|aA V (5*(i:Int))+(j:Int)) (l.length:Int)) 0:=hv _<|Av (0:Int) ω;have sel:∀(g:Bool) {u v:Int},u8r u->u8r v->u8r (bif g then u else v):=λg u v a c=>by cases g;exact c;exact a
  refine J (bne_iff_ne.2 ω)<|J (Ac L.1 L.2)<|J (Ac ω q)<|C ⟨k-1,ω,j+1,_,_,_,_,_,by first|(rw[<-wr];rfl)|rw[<-wr],ω,sel _ hx h0,sel _ hx h1,sel _ hx h2,sel _ hx h3,sel _ hx Y⟩
 .obtain⟨D,F,f,d,I,u,rfl,a0,a1,a2,a3,a4⟩:=hy;refine O (Bgs hw a0 a1 a2 a3 a4) λy hy=>?_;obtain⟨p,rfl,hp⟩:=hy;exact C ⟨p,rfl,hp⟩
theorem Bfl(n:Int)(s t:Sit)(e:o.A0.length<=1000)(h:∀i,i<o.A0.length->(o.A0.getD i E).K4=B):W (Ge ((l,(),(),0,n,(),(),(0:Int),()),(b.tup,En s,En t,aF o,()))) λy=>y=.inl ((l,(),(),0,n,(),()),(b.tup,En s,En t,())):=by unfold Ge;refine aK (λ(k:Nat) z=>∃i:Nat,z=((l,(),(),0,n,(),(),(i:Int),()),(b.tup,En s,En t,aF o,()))/\i+k=o.A0.length) (λk z d=>?_) o.A0.length ⟨0,rfl,n_ _⟩ ω;obtain⟨i,rfl,f⟩:=d;show W (o.ap<|t.ap<|s.ap<|b.ap<|MR l 0 n (i:Int)) _;unfold MR;refine Z (λq=>?_) λ_=>C rfl;have q:(i:Int)<(o.A0.length:Int):=k_ q;have a:=Cm (n:=i) ω;exact J (Ac ω q)<|aE (h i ω)<|C ⟨k-1,ω,i+1,by first|(rw[<-a];rfl)|rw[<-a],ω⟩
theorem Axr(L:∀i,i<b.A0.length->FitB b i)(hl:l.length<=maxLen)(Y:∀e∈l,u8r e){s:Sit}(d:SKI b s):W (Gd ((l,(),(),0,(0:Int),()),(b.tup,En s,()))) λy=>y=.inl ((),()):=by have P:=Ah hw.code;unfold Gd;refine aK (λ(k:Nat) z=>∃(i:Nat) (s:Sit),z=((l,(),(),0,(i:Int),()),(b.tup,En s,()))/\i+k=250/\SKI b s) (λk z v=>?_) 250 ⟨0,s,rfl,rfl,d⟩ τ;obtain⟨i,s,rfl,hk,d⟩:=v;show W (s.ap<|b.ap<|MQ l 0 (i:Int)) _;unfold MQ;refine Z (λq=>?_) λ_=>C rfl;have q:(i:Int)<250:=k_ q;have a:=Cm (n:=i) ω;obtain⟨_,w,p,rfl,hp⟩:=Bcf hw hl Y (ω:i<1000);obtain⟨_,I,t,o,rfl,D,Q,f⟩:=Ay7 hw d L hp.ok hp.bad hp.tm;refine R rfl<|R w<|R I<|aE rfl<|aE rfl<|aE (by show((o.A0.length:Int) !=(b.A0.length:Int))=B;rw[Q];exact Q_ _) (O (Bfl hw _ s t ω λj hj=>f j ω) λy3 F=>?_);subst F;exact C ⟨k-1,ω,i+1,t,by first|(rw[<-a];rfl)|rw[<-a],ω,D⟩
end
def Akh(a:Int)(f:Int)(j:Int)(l:List Int)(d:Int)(q:0<=a/\a<256)(w:0<=f/\f<256)(v:0<=j/\j<256)(y:l.length<=maxLen/\∀e∈l,(0<=e/\e<256))(k:0<=d/\d<256):F_l28_SiteKeeps a f j l d=aG ((A,()),()):=by refine Sat.eq ?_;unfold F_l28_SiteKeeps;obtain⟨_,D,b,rfl,hw,P⟩:=Bj7 q w v;refine R D (O (Axj hw k) λY F=>O (Au8 hw F.1 F.2) λy3 L=>?_);obtain⟨s,rfl,I⟩:=L;refine O (Axr hw P y.1 y.2 I) λy4 Q=>?_;subst Q;exact R Axu<|C rfl
end Go.Ovl
