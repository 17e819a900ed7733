import Derived.Test.YtgjkjlidboolgaaGreatDoorOvC
import Derived.Test.YtgjkjlidboolgaaGreatDoorOvB
import Derived.Test.YtgjkjlidboolgaaGreatDoorOvA
import Derived.Test.YtgjkjlidboolgaaGreatDoorDefs4
set_option linter.all false
set_option maxRecDepth 100000
open Bool renaming true->A,false->E,eq_iff_iff->aQ
open Go.Ovl.Sat renaming ret->B,bifT->H,bindE->J,bic->U,bifF->aA,bindS->aB,loop->aK
open Go.Ovl renaming Am->I,Av->S,Bldg->V,Sat->W,Fc->Z,outP->aF,SitOK->aG,Record->aH,Calls->aI,Outputs->aM,CarOutput->aN
open Go.IntKind renaming i64->O,wrap->aD,u8->aO,u64->aP
open Option renaming some->aC
open Int renaming tmod->aE,toNat->aL
open List renaming replicate->aJ,foldl_append->aR,mem_or_eq_of_mem_set->aS
namespace Go.Ovl
open Go Go.Ab
variable{b:V}{l:List aN}{m:Img}{c:Int×Int}{s:Sit}{cm:List Bool}{i f k:Nat}{p:aM}{x:Inp}{r:aH}{kind d:Int}
def ReadX(b:V)(s:ByteArray)(x:Inp)(g:Bool):Prop:=((DK b s=0/\InOK b x)\/(DK b s≠0/\x=Inp.none))/\g=(DK b s==0)/\ER b.C0 b.E0 b.I0 b.M0 b.J0 b.L0 b.N0 b.B0 s=aC (((),DK b s,()),(x.tup,()))
def ReadX.press{s:ByteArray}{g:Bool}(hx:ReadX b s x g):(g=A->JE b x.press=A)/\(g=E->x.press=(0,0)):=by
 refine⟨λhg=>?_,λhg=>?_⟩
 .rcases hx.1 with⟨_,h⟩|⟨h,_⟩
  .exact h.press
  .have e:=hx.2.1;rw[hg,Ao h]at e;cases e
 .rcases hx.1 with⟨h,_⟩|⟨_,h⟩
  .have e:=hx.2.1;rw[hg,h]at e;cases e
  .rw[h];rfl
def Bjo(hw:BW b){m:Mch}(hm:PM b m){s:ByteArray}(hs:RdX b s):∃m' o,NY b.C0 b.E0 b.I0 b.M0 b.J0 b.L0 b.N0 b.B0 m.F0.G0 m.F0.O0 m.F0.K0 m.F0.A0 m.Z0.h0 m.Z0.h1 m.Z0.sel m.K1 m.U0 m.B0 m.N3 m.Y1 m.G3 m.H4 m.T3 m.A3 s 1048576=aC (((),(),0,()),(m'.tup,aF o,()))/\PM b m'/\∃x g l1 l2 u vs X,ReadX b s x g/\TickF b m x g m' o l1 l2 u vs X:=by obtain⟨m',o,h1,h2,h3,x,t',hx,hrd,hr,he,h0,_⟩:=Ble hw hm hs;obtain⟨l1,l2,u,vs,X,hF⟩:=hr.fact hw (λhg=>hx.elim (λh=>h.2.len) λh=>absurd (eq_of_beq hg) h.1) he.symm;obtain⟨e1,e2⟩:=h0 rfl;rw[<-e1,<-e2]at hF;refine⟨m',o,?_,h2,x,_,l1,l2,u,vs,X,⟨hx,rfl,hrd⟩,hF⟩;unfold NY;exact Ae (hm.isM_eq hw) (Ae (Buj (hm.fit hw)) (Ae h1 rfl))
def At6(x c:Int×Int):BR c (Au x c)=(0,0):=by
 have h:∀a d:Int,vb (bv d&&&bv (Adj a d))=0:=λa d=>by
  have e:bv d&&&bv (Adj a d)=0#32:=by
   apply BitVec.eq_of_getLsbD_eq;intro i hi
   have:=Bd (a,0) (d,0) (f:=i) hi 1
   have h1:Eg (Adj a d) i=(Eg a i&&!Eg d i):=this;rw[BitVec.getLsbD_and];show(Eg d i&&Eg (Adj a d) i)=_;rw[h1];cases Eg d i<;>cases Eg a i<;>simp
  rw[e];rfl
 exact Prod.ext (h x.1 c.1) (h x.2 c.2)
def Bay(c:Int×Int):BR c (0,0)=(0,0):=by
 have h:∀d:Int,vb (bv d&&&bv 0)=0:=λd=>by rw[show bv 0=0#32 from rfl,BitVec.and_zero];rfl
 exact Prod.ext (h c.1) (h c.2)
def Jt(l:List aI)(k:Nat):Int×Int:=((l.getD k noP).Up,(l.getD k noP).B4)
def LV(l:List aI):Nat->Int×Int
 |0=>(0,0)
 |k+1=>BD (LV l k) (Jt l k)
def Ajk{l:List aI}(r:List aI)(h:k<l.length):(l++r).getD k noP=l.getD k noP:=by rw[k_,k_,b9_ h]
def Acm{l:List aI}(r:List aI):∀k,k<=l.length->LV (l++r) k=LV l k
 |0,_=>rfl
 |k+1,h=>by show BD (LV (l++r) k) (Jt (l++r) k)=BD (LV l k) (Jt l k);rw[Acm r k ω];unfold Jt;rw[Ajk r ω]
structure Apart(s:Lan):Prop where
 cl:LV s.lit s.lit.length=s.cl
 ap:∀k,k<s.lit.length->BR (LV s.lit k) (Jt s.lit k)=(0,0)
def Apart.step{vs:List View}{ps:List aI}{s:Lan}(h:Apart s)(i:Nat):Apart (Ln b vs ps i s):=by
 have hn:Jt (s.lit++[Calls.mk (NL b vs i s).1 (NL b vs i s).2]) s.lit.length=NL b vs i s:=by unfold Jt;rw[k_,c6_ (y_ _),Nat.sub_self];rfl
 refine⟨?_,λk hk=>?_⟩
 .show LV (s.lit++[_]) (s.lit++[_]).length=BD s.cl (NL b vs i s);rw[g_];show BD (LV (s.lit++[_]) s.lit.length) (Jt (s.lit++[_]) s.lit.length)=_;rw[Acm _ _ (y_ _),h.cl,hn]
 .have hk:k<(s.lit++[Calls.mk (NL b vs i s).1 (NL b vs i s).2]).length:=hk;rw[g_,G_]at hk;show BR (LV (s.lit++[_]) k) (Jt (s.lit++[_]) k)=_;rw[Acm _ _ ω];by_cases e:k<s.lit.length
  .rw[show Jt (s.lit++[Calls.mk (NL b vs i s).1 (NL b vs i s).2]) k=Jt s.lit k by unfold Jt;rw[Ajk _ e]];exact h.ap k e
  .obtain rfl:k=s.lit.length:=ω;rw[hn,h.cl];exact At6 _ _
def Apart.fold{b:V}{vs:List View}{ps:List aI}:∀(n i:Nat) {s:Lan},Apart s->Apart (AV (Ln b vs ps) n i s)
 |0,_,_,h=>h
 |n+1,i,_,h=>Apart.fold n (i+1) (h.step i)
def Aov(n k:Nat):Jt (aJ n noP) k=(0,0):=by unfold Jt;rw[k_,List.getElem?_replicate];split<;>rfl
def Arq(b:V)(m:Img)(xs:List Int)(vs:List View)(ps:List aI)(press:Int×Int)(good:Bool):∀k,k<vs.length->BR (LV (Fg b m xs vs ps press good).lan.lit k) (Jt (Fg b m xs vs ps press good).lan.lit k)=(0,0):=λk hk=>by
 have hl:=(Akp b m xs vs ps press good).1;rw[Aao]at hl|-;cases good with
 |true=>exact(Apart.fold vs.length 0 (s:=Lan.none) ⟨rfl,λk h=>absurd h (e8_ k)⟩).ap k (by rw[<-hl]at hk;exact hk)
 |false=>show BR _ (Jt (aJ vs.length noP) k)=_;rw[Aov];exact Bay _
def Sit.none:Sit:=⟨Mch.none,[],[]⟩
@[reducible] def coT(z:aN):=(z.B1,z.Y0,z.R1,z.I2,z.S1,z.J4,z.G2,z.V1,z.L4,())
section
variable{b:V}(hw:BW b)
theorem SitOK.setL(h:aG b s){r:Relay}(hr:RelOK b r)(i:Nat):aG b ⟨s.m,s.rl.set i r,s.rg⟩:=⟨h.pm,by rw[z_];exact h.rll,λx hx=>(aS hx).elim (h.rl x) λe=>by rw[e];exact hr,h.rgl,h.rg⟩
theorem SitOK.setG(h:aG b s){r:Rig}(hr:RigOK b.C0 r)(i:Nat):aG b ⟨s.m,s.rl,s.rg.set i r⟩:=⟨h.pm,h.rll,h.rl,by rw[z_];exact h.rgl,λx hx=>(aS hx).elim (h.rg x) λe=>by rw[e];exact hr⟩
include hw
theorem RdX.made(h:InS b x):RdX b (inV b x):=Bw6 hw ⟨x,⟨h.inV hw.small,h.pu⟩,rfl,rfl⟩
theorem RdX.cut(h:InS b x):RdX b ((inV b x).extract 0 ((inV b x).size-1)):=by
 have hcc:=Ah hw.code;have hz:=XO b x;have hl:=h.len;have hs:((inV b x).extract 0 ((inV b x).size-1)).size=13+19*b.B0.length:=by rw[ByteArray.size_extract];omega
 have ho:DK b ((inV b x).extract 0 ((inV b x).size-1))≠0:=λe=>by
  have:=Av1 e
  omega
 exact⟨Inp.none,Ux hw.code ω ho,λ_=>rfl,λe=>absurd e ho⟩
theorem Ait(h:aG b s)(hi:i<b.B0.length)(fr to:Int):W (s.ap (Iv (i:Int) fr to)) λy=>∃t,y.2.1=Z t/\aG b t/\t.m=s.m:=by have l1:=h.rll;have l2:=h.rgl;have i1:inB (i:Int) s.rl.length=A:=Ac ω ω;have i2:inB (i:Int) s.rg.length=A:=Ac ω ω;have hr:=h.rl _ (AL KF (ω:i<s.rl.length));have hg:=h.rg _ (AL Kj (ω:i<s.rg.length));unfold Iv;refine U (λ_=>H i1 (J rfl (H i2 (B ⟨⟨s.m,s.rl,s.rg.set i (Rig.mk (s.rl.getD i KF).D0 (s.rl.getD i KF).D0 0 2 0 0)⟩,rfl,h.setG (RigOK.new hr.fl) i,rfl⟩)))) λ_=>?_;refine aB (Q:=λy=>∃c:Bool,y=(((),(i:Int),fr,to,c,()),(Z s,()))) (U (λ_=>U (λ_=>B ⟨_,rfl⟩) λ_=>B ⟨_,rfl⟩) λ_=>B ⟨_,rfl⟩) λy hy=>?_;obtain⟨c,rfl⟩:=hy;refine U (λ_=>H i2 (J rfl (H i1 (B ⟨⟨s.m,s.rl.set i (Relay.mk 0 (s.rg.getD i Kj).D0 0 0 2 0 0 0 0),s.rg⟩,rfl,h.setL (RelOK.new hw.small hw.code hg.f) i,rfl⟩)))) λ_=>?_;refine aB (Q:=λy=>∃c:Bool,y=(((),(i:Int),c,()),(Z s,()))) (U (λ_=>B ⟨_,rfl⟩) λ_=>B ⟨_,rfl⟩) λy hy=>?_;obtain⟨c,rfl⟩:=hy;exact U (λ_=>H i1 (J rfl (H i1 (B ⟨⟨s.m,s.rl.set i (Relay.mk 0 (s.rl.getD i KF).D0 0 0 2 0 0 0 0),s.rg⟩,rfl,h.setL (RelOK.new hw.small hw.code hr.fl) i,rfl⟩)))) λ_=>B ⟨s,rfl,h,rfl⟩
theorem Bc7{t:Sit}(h:aG b s)(ht:aG b t){p:Psh}(hp:PshOK b p){o:aM}(ho:o.B0.length=b.B0.length):W (Mt (((),(),(),(),(),(),(),o.B0,(o.B0.length:Int),(0:Int),()),(b.tup,Z s,UJ p,Z Sit.none,aF noOut,Z t,aF o,()))) λy=>∃u,y.2.2.2.1=Z u/\y.2.2.2.2.1=aF o/\aG b u/\u.m=t.m:=by
 have hcc:=Ah hw.code;have lo:=hw.small.lo;have hi:=hw.small.hi;have hph:=h.pm.jst.img.lp;unfold Mt;refine aK (λ(k:Nat) z=>∃(i:Nat) (u:Sit),z=(((),(),(),(),(),(),(),o.B0,(o.B0.length:Int),(i:Int),()),(b.tup,Z s,UJ p,Z Sit.none,aF noOut,Z u,aF o,()))/\i+k=o.B0.length/\aG b u/\u.m=t.m) (λk z hz=>?_) o.B0.length ⟨0,t,rfl,o_ _,ht,rfl⟩ ω;obtain⟨i,u,rfl,hk,hu,hm⟩:=hz;show W (o.ap (u.ap (noOut.ap (Sit.none.ap (p.ap (s.ap (b.ap (SD o.B0 (o.B0.length:Int) (i:Int))))))))) _;unfold SD;refine U (λq=>?_) λq=>B ⟨u,rfl,rfl,hu,hm⟩;have q:(i:Int)<(o.B0.length:Int):=l_ q;have wr:=Dq (n:=i) ω;have hib:i<b.B0.length:=ω;have ii:∀{n:Nat},n=b.B0.length->inB (i:Int) n=A:=λe=>by rw[e];exact Ac ω ω
 refine H (Ac ω q) (aB (Q:=λy=>∃(v:Sit),y=(((),(),(),(),(),(),(),(i:Int),(),o.B0,(o.B0.length:Int),(i:Int),()),(b.tup,Z s,UJ p,Z Sit.none,aF noOut,Z v,aF o,coT (o.B0.getD i S),()))/\aG b v/\v.m=t.m) ?_ λy hy=>?_)
 .refine H (ii hph) (U (λ_=>aB (Ait hw hu hib _ _) λy1 h1=>?_) λ_=>B ⟨u,rfl,hu,hm⟩);obtain⟨v,e1,e2,e3⟩:=h1;refine B ⟨v,?_,e2,e3.trans hm⟩;rw[e1];rfl
 obtain⟨v,rfl,hv,hvm⟩:=hy;clear hu hm;have l1:=hv.rll;have l2:=hv.rgl;have hr:=hv.rl _ (AL KF (ω:i<v.rl.length));have hg:=hv.rg _ (AL Kj (ω:i<v.rg.length));have e1:O.wrap ((i:Int)+1)=((i+1:Nat):Int):=by first|exact wr|(rw[<-wr];rfl)
 have kl:∀(iu id pr:Int),W (Nq b.C0 b.E0 b.I0 b.M0 b.J0 b.L0 b.N0 b.B0 (i:Int) (v.rl.getD i KF).V3 (v.rl.getD i KF).D0 (v.rl.getD i KF).H0 (v.rl.getD i KF).D3 (v.rl.getD i KF).G1 (v.rl.getD i KF).F4 (v.rl.getD i KF).N2 (v.rl.getD i KF).B2 (v.rl.getD i KF).R0 iu id pr) λy=>∃r',y.2.1=UL r'/\RelOK b r':=Ale hw.small hw.code hib hr;have kg:∀(cmd time:Int),W (Od b.C0 (v.rg.getD i Kj).D0 (v.rg.getD i Kj).X2 (v.rg.getD i Kj).I4 (v.rg.getD i Kj).G1 (v.rg.getD i Kj).O4 (v.rg.getD i Kj).E4 cmd time) λy=>∃r',y.2.1=Yi r'/\RigOK b.C0 r':=λcmd time=>Ari ⟨lo,hi⟩ hg cmd time;have fin:∀{w:Sit},aG b w->w.m=t.m->∃m':Nat,k=m'+1/\∃(j:Nat) (u:Sit),(((),(),(),(),(),(),(),o.B0,(o.B0.length:Int),O.wrap ((i:Int)+1),()),(b.tup,Z s,UJ p,Z Sit.none,aF noOut,Z w,aF o,()))=(((),(),(),(),(),(),(),o.B0,(o.B0.length:Int),(j:Int),()),(b.tup,Z s,UJ p,Z Sit.none,aF noOut,Z u,aF o,()))/\j+m'=o.B0.length/\aG b u/\u.m=t.m:=λ{w} h1 h2=>⟨k-1,ω,i+1,w,by rw[e1],ω,h1,h2⟩
 refine U (λ_=>?_) λ_=>U (λ_=>?_) λ_=>U (λ_=>?_) λ_=>U (λ_=>?_) λ_=>B (fin hv hvm)
 .refine H (ii l1) (H (ii hp.cl) (aB (kl _ _ _) λy3 h3=>H (ii l1) ?_));obtain⟨r',e3,h3⟩:=h3;rw[e3];exact B (fin (hv.setL h3 i) hvm)
 .refine H (ii l1) (H (ii hp.cl) (aB (kl _ _ _) λy3 h3=>H (ii l1) ?_));obtain⟨r',e3,h3⟩:=h3;rw[e3];exact B (fin (hv.setL h3 i) hvm)
 .refine H (ii l2) (H (ii hp.tl) (aB (kg _ _) λy3 h3=>H (ii l2) ?_));obtain⟨r',e3,h3⟩:=h3;rw[e3];exact B (fin (hv.setG h3 i) hvm)
 .refine H (ii l2) (H (ii hp.tl) (aB (kg _ _) λy3 h3=>H (ii l2) ?_));obtain⟨r',e3,h3⟩:=h3;rw[e3];exact B (fin (hv.setG h3 i) hvm)
theorem Apn(h:aG b s){p:Psh}(hp:PshOK b p):W (p.ap (s.ap (b.ap OH)) 1048576) λy=>∃t o,y=(((),(),0,()),(Z t,aF o,()))/\aG b t/\∃q x g l1 l2 u vs X,ReadX b q x g/\TickF b s.m x g t.m o l1 l2 u vs X:=by
 have hcc:=Ah hw.code;have l1:=h.rll;have l2:=h.rgl;obtain⟨_,hin,x,rfl,hx⟩:=Air hw h hp;unfold OH;refine J hin (aA rfl (aA rfl (J (Aq6 hw.small hw.code hx) ?_)));refine aB (Q:=λy=>∃q,y=((1048576,(),(),(),(),(),q,()),(b.tup,Z s,UJ p,Z Sit.none,aF noOut,()))/\RdX b q) ?_ λy hy=>?_
 .refine U (λ_=>?_) λ_=>B ⟨_,rfl,RdX.made hw hx⟩;have hz:(inV b x).size=14+19*b.B0.length:=by rw[XO,hx.len]
  have w1:O.wrap ((((inV b x).size:Nat):Int)-1)=(((inV b x).size-1:Nat):Int):=by rw[Aa ω ω];omega
  show W (bif(decide ((0:Int)<=O.wrap ((((inV b x).size:Nat):Int)-1))&&decide (aD O ((((inV b x).size:Nat):Int)-1)<=(((inV b x).size:Nat):Int)))then aC ((1048576,(),(),(),(),(),(inV b x).extract 0 (aL (aD O ((((inV b x).size:Nat):Int)-1))),()),(b.tup,Z s,UJ p,Z Sit.none,aF noOut,()))else none) _;rw[w1];refine H ?_ (B ⟨_,rfl,?_⟩)
  .rw[b_ (ω:(0:Int)<=(((inV b x).size-1:Nat):Int)),b_ (ω:(((inV b x).size-1:Nat):Int)<=(((inV b x).size:Nat):Int))];rfl
  .rw[j_];exact RdX.cut hw hx
 obtain⟨q,rfl,hq⟩:=hy;obtain⟨m',o,ht,hm',x',g,r1,r2,u,vs,X,hrx,hF⟩:=Bjo hw h.pm hq;refine J (CS s.rl ω) (J (CS s.rg ω) (J ht (aA rfl (aB (Bc7 hw h (t:=⟨m',s.rl,s.rg⟩) ⟨hm',l1,h.rl,l2,h.rg⟩ hp hF.oc) λy hy=>?_))));obtain⟨v,e1,e2,e3,e4⟩:=hy;rw[e1,e2];have e4:v.m=m':=e4;exact B ⟨v,o,rfl,e3,q,x',g,r1,r2,u,vs,X,hrx,by rw[e4];exact hF⟩
end
def Bed{n0 n1 n2:Nat}(h1:n1<256)(h2:n2<256):BW (Gr (Iz n0) (Ii n0) n1 n2):=by
 have hf:(2<=Iz n0/\Iz n0<=6)/\1<=Ii n0/\Ii n0<=3:=by unfold Iz Ii;omega
 obtain⟨g1,g2,g3,_,_,g6⟩:=Aqg (n1:=n1) (n2:=n2) hf.1 hf.2 h1 h2;have hl:(arF .sub .f64 (AH 2 1).L0 4589168020290535424).isSome=A/\(arF .sub .f64 (AH 2 1).N0 4589168020290535424).isSome=A:=by decide+kernel
 obtain⟨a,ha⟩:=Option.isSome_iff_exists.1 hl.1;obtain⟨c,hc⟩:=Option.isSome_iff_exists.1 hl.2;exact⟨g1,g2,ω,⟨a,ha,trivial⟩,⟨c,hc,trivial⟩⟩
def Bt4{n0 n1 n2:Int}(h0:0<=n0/\n0<256)(h1:0<=n1/\n1<256)(h2:0<=n2/\n2<256):∃b:V,KN n0 n1 n2=aC (((),()),(b.tup,()))/\BW b/\PM b (HL b).1:=by obtain⟨k0,rfl⟩:=c3_ h0.1;obtain⟨k1,rfl⟩:=c3_ h1.1;obtain⟨k2,rfl⟩:=c3_ h2.1;have hw:=Bed (n0:=k0) (n1:=k1) (n2:=k2) ω ω;exact⟨_,Abn (n0:=k0) (n1:=k1) (n2:=k2) ω ω ω,hw,(UT hw).1⟩
def Xn(h:b.code=0):inR 2 32 b.C0=A/\inR 1 8 (b.B0.length:Int)=A/\inR 1 16 b.E0=A/\inR 1 10000 b.M0=A/\b.B0.all (Bl b.C0)=A/\b.loadsOK=A:=by unfold Bldg.code at h;revert h;cases inR 2 32 b.C0<;>cases inR 1 8 (b.B0.length:Int)<;>cases inR 1 16 b.E0<;>cases inR 1 10000 b.M0<;>cases b.B0.all (Bl b.C0)<;>cases b.loadsOK<;>(intro h;first|exact⟨rfl,rfl,rfl,rfl,rfl,rfl⟩|(exact absurd h σ))
structure CrsOK(b:Bldg)(cs:List Car):Prop where
 len:cs.length=b.B0.length
 ok:∀c∈cs,Bl b.C0 c=true
def CrsOK.code(h:b.code=0){cs:List Car}(hc:CrsOK b cs):({ b with I0:=4000,B0:=cs }:V).code=0:=by
 obtain⟨e1,e2,e3,e4,e5,e6⟩:=Xn h;have hcc:=Ah h;have e2':inR 1 8 (cs.length:Int)=A:=by rw[hc.len];exact e2
 have e5':cs.all (Bl b.C0)=A:=L_.2 hc.ok;have e6':({ b with I0:=4000,B0:=cs }:V).loadsOK=A:=e6;have e7:inR (18*(cs.length:Int)+24) 65536 4000=A:=An.2 (by rw[hc.len];omega);unfold Bldg.code;rw[e6'];show(bif !inR 2 32 b.C0 then(10:Int)else bif !inR 1 8 (cs.length:Int)then 11 else bif !(inR 1 16 b.E0&&inR 1 10000 b.M0&&cs.all (Bl b.C0))then 12 else bif !A then 13 else bif !inR (18*(cs.length:Int)+24) 65536 4000 then 14 else 0)=0;rw[e1,e2',e3,e4,e5',e7];rfl
def CrsOK.self(h:b.code=0):CrsOK b b.B0:=⟨rfl,λ_ hc=>Qz h hc⟩
def CrsOK.set{cs:List Car}(hc:CrsOK b cs){c:Car}(h:Bl b.C0 c=A)(i:Nat):CrsOK b (cs.set i c):=⟨by rw[z_];exact hc.len,λx hx=>(aS hx).elim (hc.ok x) λe=>by rw[e];exact h⟩
def Ly{fl:Int}{c:Car}:Bl fl c=A↔((1<=c.C1/\c.C1<=10000)/\(1<=c.C3/\c.C3<=10000)/\(1<=c.H3/\c.H3<=10000)/\(1<=c.T2/\c.T2<=10000)/\(1<=c.J1/\c.J1<=10000)/\(1<=c.Q1/\c.Q1<=10000)/\(1<=c.E3/\c.E3<=10000))/\(0<=c.J2/\c.J2<=10000)/\c.Q1<=c.E3/\0<=c.D4/\c.D4<=O.wrap (fl-1):=by unfold Bl;simp only[Z_,h3_,d6_,e_,An,q_]
section
variable{b:V}(hb:b.small)(hcode:b.code=0)
include hcode
theorem Bbq{cs:List Car}(h:CrsOK b cs):W (OI (((),(),(0:Int),()),((b.C0,b.E0,4000,b.M0,b.J0,b.L0,b.N0,cs,()),(0,0,0,0,0,0,0,[],()),()))) λy=>∃cs',y.2.1=(b.C0,b.E0,4000,b.M0,b.J0,b.L0,b.N0,cs',())/\y.2.2.1=(0,0,0,0,0,0,0,[],())/\CrsOK b cs':=by
 have hcc:=Ah hcode;have hd:=An.1 (Xn hcode).2.2.1;have wd:O.wrap (b.E0+1)=b.E0+1:=Aa ω ω;have hl:=h.len;unfold OI;refine aK (λ(k:Nat) z=>∃(i:Nat) (cs:List Car),z=(((),(),(i:Int),()),((b.C0,b.E0,4000,b.M0,b.J0,b.L0,b.N0,cs,()),(0,0,0,0,0,0,0,[],()),()))/\i+k=b.B0.length/\CrsOK b cs) (λk z hz=>?_) b.B0.length ⟨0,cs,rfl,o_ _,h⟩ ω;obtain⟨i,cs,rfl,hk,h⟩:=hz;have hl:=h.len;show W (VZ (i:Int) b.C0 b.E0 4000 b.M0 b.J0 b.L0 b.N0 cs 0 0 0 0 0 0 0 []) _;unfold VZ;refine U (λq=>?_) λ_=>B ⟨cs,rfl,rfl,h⟩;have q:(i:Int)<(cs.length:Int):=l_ q;have wr:=Dq (n:=i) ω;have ht:=Ly.1 (h.ok _ (AL BL (ω:i<cs.length)));refine H (Ac ω q) (B ⟨k-1,ω,i+1,_,by first|(rw[<-wr];rfl)|rw[<-wr],ω,?_⟩);simp only[j_,wd];rw[show Car.mk 0 0 0 0 0 0 0 0 0=BL from rfl];generalize hc:cs.getD i BL=c at ht;simp only[By BL _ (ω:i<cs.length)];have e:∀D:Int,(D=c.Q1\/D=b.E0+1)->c.Q1<=D->Bl b.C0 (Car.mk c.C1 c.C3 c.H3 c.J2 c.T2 c.J1 D (bif decide (c.E3<D)then D else c.E3) c.D4)=A:=λD h1 h2=>by
  by_cases q:c.E3<D
  .rw[b_ q];refine Ly.2 ?_;simp only[d_];omega
  .rw[f_ q];refine Ly.2 ?_;simp only[c_];omega
 rw[h2_];refine h.set ?_ i;by_cases q:c.Q1<b.E0+1
 .rw[b_ q];exact e _ (.inr rfl) (by show c.Q1<=b.E0+1;omega)
 .rw[f_ q];exact e _ (.inl rfl) (d9_ _)
include hb
theorem Av6{cs:List Car}(h:CrsOK b cs)(hi:i<cs.length):W (Pa b.C0 b.E0 4000 b.M0 b.J0 b.L0 b.N0 cs (i:Int)) λy=>1<=y.1.1/\y.1.1<=100000000:=by
 have lo:=hb.lo;have hif:=hb.hi;have hl:=h.len;have hcc:=Ah hcode;have ht:=Ly.1 (h.ok _ (AL BL (ω:i<cs.length)));unfold Pa;refine J (QU { b with I0:=4000,B0:=cs }) (aA (by show(({ b with I0:=4000,B0:=cs }:V).code !=0)=E;rw[h.code hcode];rfl) (aA (f_ ω) (aA (f_ ω) (H (Ac ω ω) (B ?_)))));simp only[j_];rw[show Car.mk 0 0 0 0 0 0 0 0 0=BL from rfl];generalize cs.getD i BL=c at ht;have w1:O.wrap (3*b.C0)=3*b.C0:=Aa ω ω;have w2:O.wrap (3*b.C0+1)=3*b.C0+1:=Aa ω ω;have w3:O.wrap (2*c.J1)=2*c.J1:=Aa ω ω;have w4:O.wrap (2*c.J1+c.Q1)=2*c.J1+c.Q1:=Aa ω ω;have w5:O.wrap (3*(2*c.J1+c.Q1))=3*(2*c.J1+c.Q1):=Aa ω ω;have w6:O.wrap (3*(2*c.J1+c.Q1)+c.T2)=3*(2*c.J1+c.Q1)+c.T2:=Aa ω ω;have w7:O.wrap (3*(2*c.J1+c.Q1)+c.T2+2)=3*(2*c.J1+c.Q1)+c.T2+2:=Aa ω ω;rw[w1,w2,w3,w4,w5,w6,w7];generalize hy:3*(2*c.J1+c.Q1)+c.T2+2=y;have hy1:1<=y/\y<=200000:=ω;have hf:b.C0=2\/b.C0=3\/b.C0=4\/b.C0=5\/b.C0=6\/b.C0=7\/b.C0=8:=ω;have k:1<=(3*b.C0+1)*y/\(3*b.C0+1)*y<=100000000:=by rcases hf with e|e|e|e|e|e|e<;>rw[e]<;>omega
 rw[Aa ω ω];exact k
theorem Bbr{cs:List Car}(h:CrsOK b cs):W (OJ (((),(),(0:Int),()),((b.C0,b.E0,4000,b.M0,b.J0,b.L0,b.N0,cs,()),(0,0,0,0,0,0,0,[],()),()))) λy=>∃cs',y.2.1=(b.C0,b.E0,4000,b.M0,b.J0,b.L0,b.N0,cs',())/\CrsOK b cs':=by
 have hcc:=Ah hcode;have hd:=An.1 (Xn hcode).2.2.1;have hl:=h.len;unfold OJ;refine aK (λ(k:Nat) z=>∃(i:Nat) (cs:List Car),z=(((),(),(i:Int),()),((b.C0,b.E0,4000,b.M0,b.J0,b.L0,b.N0,cs,()),(0,0,0,0,0,0,0,[],()),()))/\i+k=b.B0.length/\CrsOK b cs) (λk z hz=>?_) b.B0.length ⟨0,cs,rfl,o_ _,h⟩ ω;obtain⟨i,cs,rfl,hk,h⟩:=hz;have hl:=h.len;show W (Wa (i:Int) b.C0 b.E0 4000 b.M0 b.J0 b.L0 b.N0 cs 0 0 0 0 0 0 0 []) _;unfold Wa;refine U (λq=>?_) λ_=>B ⟨cs,rfl,h⟩;have q:(i:Int)<(cs.length:Int):=l_ q;have wr:=Dq (n:=i) ω;have ht:=Ly.1 (h.ok _ (AL BL (ω:i<cs.length)));refine aB (Av6 hb hcode h (ω:i<cs.length)) λy1 hn1=>(H (Ac ω q) (B ⟨k-1,ω,i+1,_,by first|(rw[<-wr];rfl)|rw[<-wr],ω,?_⟩))
 generalize y1.1.1=n at hn1;have w1:O.wrap (n+b.E0)=n+b.E0:=Aa ω ω;have w2:O.wrap (n+b.E0+2)=n+b.E0+2:=Aa ω ω;simp only[j_,w1,w2];rw[show Car.mk 0 0 0 0 0 0 0 0 0=BL from rfl];generalize cs.getD i BL=c at ht;refine h.set ?_ i;by_cases q:(10000:Int)<n+b.E0+2
 .rw[b_ q];refine Ly.2 ?_;simp only[d_];omega
 .rw[f_ q];refine Ly.2 ?_;simp only[c_];omega
end
def Bt5{n0 n1 n2:Int}(h0:0<=n0/\n0<256)(h1:0<=n1/\n1<256)(h2:0<=n2/\n2<256):W (KO n0 n1 n2) λy=>∃b:V,y=(((),()),(b.tup,()))/\BW b:=by
 obtain⟨b,e,hw,_⟩:=Bt4 h0 h1 h2;have hcc:=Ah hw.code;unfold KO;refine J e (J rfl (aB (Q:=λy=>∃cs,y.2.1=(b.C0,b.E0,4000,b.M0,b.J0,b.L0,b.N0,cs,())/\CrsOK b cs) ?_ λy hy=>?_))
 .show W (Vd b.C0 b.E0 4000 b.M0 b.J0 b.L0 b.N0 b.B0) _;unfold Vd;refine J (QU { b with I0:=4000,B0:=b.B0 }) (aA (by show(({ b with I0:=4000,B0:=b.B0 }:V).code !=0)=E;rw[(CrsOK.self hw.code).code hw.code];rfl) (H (AR (by show 0+b.B0.length<=_;omega)) (aB (Bbq hw.code (cs:=b.B0) (CrsOK.self hw.code)) λy2 h2=>?_)));obtain⟨c1,e1,e2,e3⟩:=h2;rw[e1,e2];refine aB (Bbr hw.small hw.code e3) λy3 h3=>?_;obtain⟨c2,e4,e5⟩:=h3;exact B ⟨c2,e4,e5⟩
 .obtain⟨cs,e1,e2⟩:=hy;exact B ⟨{ b with I0:=4000,B0:=cs },by rw[e1];rfl,⟨hw.small.lo,hw.small.hi⟩,e2.code hw.code,show(4000:Int)<=5000 by decide,hw.full,hw.over⟩
def Bcc:∀n:Nat,n<16->(arF BinOp.quo FloatKind.f64 (Af0 FloatKind.f64 (n:Int)) 4624070917402656768).isSome=A:=by decide+kernel
def Anb{n:Int}(h1:0<=n)(h2:n<256):1<=O.wrap (1+aE (aD O (aD aO (Int.tdiv n 5))) 8)/\O.wrap (1+aE (aD O (aD aO (Int.tdiv n 5))) 8)<=8:=by rw[Int.tdiv_eq_ediv_of_nonneg h1,Ap1 (n:=n/5) ω ω,Aa (n:=n/5) ω ω,b4_ ω,Aa ω ω];omega
section
variable{b:V}(hw:BW b)
include hw
theorem Bjn{x0 x1 x2 x3 x4:Int}(h0:u8r x0)(_h1:u8r x1)(h2:u8r x2)(h3:u8r x3)(h4:u8r x4):W (PY b.C0 b.E0 b.I0 b.M0 b.J0 b.L0 b.N0 b.B0 x0 x1 x2 x3 x4) λy=>∃p:Psh,y=(((),()),(UJ p,()))/\PshOK b p:=by
 have hcc:=Ah hw.code;have lo:=hw.small.lo;have hi:=hw.small.hi;unfold PY;refine J (Are hw.small hw.code) ?_;refine aB (Q:=λy=>∃c:Int×Int,y=(((),(),(),(),()),(b.tup,(x0,x1,x2,x3,x4,()),(0,0,0,0,[],[],[],[],E,()),(c.1,c.2,0,0,[],[],[],[],E,()),()))/\FV b c) (U (λ_=>J (Arf (_,_) (AW b)) (B ⟨BR _ (AW b),rfl,?_⟩)) λ_=>B ⟨(0,0),rfl,Vz hw.small hw.code⟩) λy hy=>?_
 .refine(NK hw.small hw.code).2 ⟨Uj _ _,λf hf d hd q=>?_⟩;rw[HI,PD hw.small hw.code hf hd,e_]at q;exact q.2
 obtain⟨c,rfl,hc⟩:=hy;refine aB (Q:=λy=>∃n m:Int,y=(((),(),(),(),()),(b.tup,(x0,x1,x2,x3,x4,()),(0,0,0,0,[],[],[],[],E,()),(c.1,c.2,n,m,[],[],[],[],E,()),()))/\(0<=n/\n<=8)/\(0<=m/\m<(b.B0.length:Int))/\(n=0->m=0)) (aB (Q:=λy=>∃g:Bool,y=(((),(),(),(),g,()),(b.tup,(x0,x1,x2,x3,x4,()),(0,0,0,0,[],[],[],[],E,()),(c.1,c.2,0,0,[],[],[],[],E,()),()))) (U (λ_=>B ⟨_,rfl⟩) λ_=>B ⟨_,rfl⟩) λy hy=>?_) λy hy=>?_
 .obtain⟨g,rfl⟩:=hy;refine U (λ_=>H ?_ (B ⟨_,_,rfl,?_,?_,?_⟩)) λ_=>B ⟨0,0,rfl,⟨τ,τ⟩,⟨τ,ω⟩,λ_=>rfl⟩
  .show((b.B0.length:Int) !=0)=A;exact bne_iff_ne.2 ω
  .have:=Anb h2.1 h2.2
   exact⟨Int.le_trans τ this.1,this.2⟩
  .show 0<=aE (aD O x3) (b.B0.length:Int)/\aE (aD O x3) (b.B0.length:Int)<(b.B0.length:Int)
   have ha:=h3.1;have hz:=h3.2;rw[Aa (n:=x3) ω ω,b4_ ha];exact⟨Int.emod_nonneg _ ω,Int.emod_lt_of_pos _ ω⟩
  .intro e;have k1:=Anb h2.1 h2.2;have e:O.wrap (1+aE (aD O (aD aO (Int.tdiv x2 5))) 8)=0:=e;omega
 obtain⟨n,m,rfl,hn,hm,hnm⟩:=hy;refine aB (Q:=λy=>∃p:Psh,y.2.2.1=UJ p/\PshOK b p) ?_ λy hy=>?_
 .unfold Qk;refine aK (λ(k:Nat) z=>∃(i:Nat) (ca ti:List Int) (bs:List Bool) (ls:List Nat),z=(((),(),(),(),(i:Int),()),(b.tup,(x0,x1,x2,x3,x4,()),(0,0,0,0,[],[],[],[],E,()),(c.1,c.2,n,m,ca,ti,bs,ls,E,()),()))/\i+k=b.B0.length/\ca.length=i/\(∀c∈ca,C2 b.C0 c)/\ti.length=i/\bs.length=i/\ls.length=i) (λk z hz=>?_) b.B0.length ⟨0,[],[],[],[],rfl,o_ _,rfl,λc hc=>(by cases hc),rfl,rfl,rfl⟩ ω;obtain⟨i,ca,ti,bs,ls,rfl,hk,e1,e2,e3,e4,e5⟩:=hz;show W (TX (i:Int) b.C0 b.E0 b.I0 b.M0 b.J0 b.L0 b.N0 b.B0 x0 x1 x2 x3 x4 0 0 0 0 [] [] [] [] E c.1 c.2 n m ca ti bs ls E) _;unfold TX;refine U (λq=>?_) λq=>?_
  .have q:(i:Int)<(b.B0.length:Int):=l_ q;have wr:=Dq (n:=i) ω;have ib:inB (i:Int) b.B0.length=A:=Ac ω q;have t2:aE (i:Int) 2=0\/aE (i:Int) 2=1:=by rw[b4_ ω];omega
   have t3:0<=aE (i:Int) 3/\aE (i:Int) 3<3:=by rw[b4_ ω];omega
   have u3:aP.wrap (aE (i:Int) 3)=aE (i:Int) 3:=Gy t3.1 ω;have uf:aP.wrap b.C0=b.C0:=Gy ω ω;have ht:=Ly.1 (Qz hw.code (AL BL (ω:i<b.B0.length)));have hv:∃v:Int,List.getD [x0,x1,x2,x3,x4] (aL (aD O (3+aE (i:Int) 2))) 0=v/\u8r v/\inB (aD O (3+aE (i:Int) 2)) 5=A:=by
    rcases t2 with e|e<;>rw[e]
    .exact⟨x3,rfl,h3,rfl⟩
    .exact⟨x4,rfl,h4,rfl⟩
   obtain⟨v,v1,v2,v3⟩:=hv;have hp:(0:Int)<2^(Min.min (aL (aD aP (aE (i:Int) 3))) (IntKind.bits aO)):=Int.pow_pos τ;have hw2:0<=Int.fdiv v ((2:Int)^(Min.min (aL (aD aP (aE (i:Int) 3))) (IntKind.bits aO)))/\Int.fdiv v ((2:Int)^(Min.min (aL (aD aP (aE (i:Int) 3))) (IntKind.bits aO)))<256:=by rw[P_ _ (Int.le_of_lt hp)];exact⟨Int.ediv_nonneg v2.1 (Int.le_of_lt hp),Int.lt_of_le_of_lt (Int.ediv_le_self _ v2.1) v2.2⟩
   refine H v3 (H (b_ (by rw[u3];exact t3.1)) (H (b_ (by rw[uf];omega)) ?_));rw[v1];generalize hz2:Int.fdiv v ((2:Int)^(Min.min (aL (aD aP (aE (i:Int) 3))) (IntKind.bits aO)))=z2 at hw2;have ar:W (arF BinOp.quo FloatKind.f64 (Af0 FloatKind.f64 (aE z2 16)) 4624070917402656768) λ_=>True:=by
    have e:aE z2 16=((z2%16).toNat:Int):=by rw[b4_ hw2.1];omega
    rw[e];obtain⟨a,ha⟩:=Option.isSome_iff_exists.1 (Bcc (z2%16).toNat ω);exact⟨a,ha,trivial⟩
   refine H (AR (by show ca.length+1<=_;omega)) (H ib (H ib (H ?_ (H (AR (by show ti.length+1<=_;omega)) (H (AR (by show bs.length+1<=_;omega)) (aB ar λy1 _=>H (AR (by show ls.length+1<=_;omega)) (B ⟨k-1,ω,i+1,_,_,_,_,by first|(rw[<-wr];rfl)|rw[<-wr],ω,by rw[g_];show ca.length+1=_;omega,λc hc=>?_,by rw[g_];show ti.length+1=_;omega,by rw[g_];show bs.length+1=_;omega,by rw[g_];show ls.length+1=_;omega⟩)))))))
   .show((bif decide ((b.B0.getD i BL).J1<(b.B0.getD i BL).T2)then(b.B0.getD i BL).J1 else(b.B0.getD i BL).T2) !=0)=A;rw[bne_iff_ne];cases decide ((b.B0.getD i BL).J1<(b.B0.getD i BL).T2)
    .show(b.B0.getD i BL).T2≠0;omega
    .show(b.B0.getD i BL).J1≠0;omega
   .rcases n_.1 hc with hc|hc
    .exact e2 c hc
    .rw[B_.1 hc,uf];exact C2.and (C2.all ⟨lo,hi⟩)
  .have q:=C_ q;exact B ⟨⟨c,n,m,ca,ti,bs,ls,E⟩,rfl,hc.1,hc.2,hn,hm,hnm,by show ca.length=_;omega,e2,by show ti.length=_;omega,by show bs.length=_;omega,by show ls.length=_;omega⟩
 .obtain⟨p,e1,e2⟩:=hy;rw[e1];exact B ⟨p,rfl,e2⟩
end
def Ih(m:Img)(c:Nat):Prop:=phA m c=1\/phA m c=2\/phA m c=3\/lvA m c=A
def Vo{n:Img}{c:Nat}(h1:phA n c=phA m c)(h2:lvA n c=lvA m c)(h:Ih n c):Ih m c:=by unfold Ih at h|-;rw[h1,h2]at h;exact h
def Bwb(hr:Kf b r)(n:Img){c:Nat}(hc:r.R0≠(c:Int)):phA (Ak n r) c=phA n c/\lvA (Ak n r) c=lvA n c:=by
 obtain⟨i,k,v,_,rfl,h⟩:=hr;have hic:i≠c:=λe=>hc (by rw[e]);have hk:k=4\/k=5\/k=6:=ω;rcases hk with rfl|rfl|rfl
 .exact⟨Df _ _ hic,rfl⟩
 .exact⟨rfl,rfl⟩
 .exact⟨rfl,Df _ _ hic⟩
def Avu{b:V}{c:Nat}:∀{l:List aH}(n:Img),(∀r∈l,Kf b r)->(∀r∈l,r.R0≠(c:Int))->phA (Aj n l) c=phA n c/\lvA (Aj n l) c=lvA n c
 |[],_,_,_=>⟨rfl,rfl⟩
 |r::l,n,h1,h2=>by obtain⟨e1,e2⟩:=Bwb (h1 r (p_ ..)) n (h2 r (p_ ..));obtain⟨e3,e4⟩:=Avu (l:=l) (Ak n r) (λr hr=>h1 r (r_ _ hr)) λr hr=>h2 r (r_ _ hr);exact⟨e3.trans e1,e4.trans e2⟩
def Bgo{c:Nat}{calm fr:Bool}(hi:i<b.B0.length)(h:Ih (Aj m (Kt m kind i calm fr).1) c):Ih m c\/(fr=A/\c=i):=by
 by_cases e:c=i
 .subst e;have same:∀{l:List aH},(l=[]\/∃v,l=[⟨5,0,0,(c:Int),v⟩])->Ih (Aj m l) c->Ih m c:=λhl h=>by
   rcases hl with rfl|⟨v,rfl⟩
   .exact h
   .exact h
  unfold Kt NF at h;cases h0:kind==0 with
  |true=>rw[h0]at h;exact .inl h
  |false=>
  rw[h0]at h;simp only[c_]at h;have ite:∀{q:Bool}{x y:List aH×Int},Ih (Aj m (bif q then x else y).1) c->(q=A/\Ih (Aj m x.1) c)\/Ih (Aj m y.1) c:=λ{q x y} h=>by
   cases q with
   |true=>exact .inl ⟨rfl,h⟩
   |false=>exact .inr h
  have ph:∀{q:Bool}{p:Int},(q&&phA m c==p)=A->phA m c=p:=λh=>by rw[e_,R_]at h;exact h.2
  rcases ite h with⟨_,h⟩|h
  .rcases ite h with⟨h,_⟩|h
   .exact .inr ⟨h,rfl⟩
   .exact .inl h
  rcases ite h with⟨q,_⟩|h
  .exact .inl (.inl (ph q))
  rcases ite h with⟨q,_⟩|h
  .exact .inl (.inr (.inl (ph q)))
  rcases ite h with⟨q,_⟩|h
  .simp only[e_]at q;exact .inl (.inr (.inr (.inr q.2.2)))
  rcases ite h with⟨q,_⟩|h
  .exact .inl (.inr (.inl (ph q)))
  rcases ite h with⟨q,_⟩|h
  .exact .inl (.inr (.inr (.inl (ph q))))
  rcases ite h with⟨q,_⟩|h
  .exact .inl (.inr (.inr (.inl (ph q))))
  rcases ite h with⟨_,h⟩|h
  .rcases ite h with⟨h,_⟩|h
   .exact .inr ⟨h,rfl⟩
   .exact .inl h
  rcases ite h with⟨_,h⟩|h
  .exact .inl h
  .exact .inl h
 .left;have ok:=(ZQ (b:=b) m kind hi calm fr).1;obtain⟨e1,e2⟩:=Avu (c:=c) m ok λr hr q=>e (by have:=(Abc hr).1;omega);exact Vo e1 e2 h
def Bar{n c:Nat}(ok:∀r∈Es m cm n,Kf b r)(h:Ih (Aj m (Es m cm n)) c):Ih m c:=by
 by_cases q:∃r∈Es m cm n,r.R0=(c:Int)
 .obtain⟨r,hr,hc⟩:=q;obtain⟨i,_,h2,hg,_⟩:=Aco hr;obtain rfl:i=c:=ω;unfold Ps IA at hg;simp only[e_,Q_,R_]at hg;rcases hg.2.1 with h|h
  .exact .inl h
  .exact .inr (.inr (.inr h.2))
 .obtain⟨e1,e2⟩:=Avu (c:=c) m ok λr hr e=>q ⟨r,hr,e⟩;exact Vo e1 e2 h
def Ao9{c:Nat}{fr:Bool}(hi:i<b.B0.length)(h:Ih (Aj m (Jh b m kind i cm fr)) c):Ih m c\/(fr=A/\c=i):=by have ok:=Adn m kind hi cm fr;unfold Jh at h ok;rw[EO]at h;exact Bgo hi (Bar (λr hr=>ok r (List.mem_append_right _ hr)) h)
def Bkj(hb:b.code=0)(hp:m.G0.length=b.B0.length)(hl':m.K0.length=b.B0.length)(h:Du m.G0 m.O0 m.K0 m.A0=aC ((A,()),())):∀c,c<b.B0.length->¬Ih m c:=by
 have hcc:=Ah hb;have hl:W (Hb (((),m.G0,(m.G0.length:Int),(0:Int),()),(m.tup,()))) λy=>(y=.inl ((),())/\∀c,c<b.B0.length->¬Ih m c)\/y=.inr ((E,()),()):=by
  unfold Hb;refine aK (λ(k:Nat) z=>∃i:Nat,z=(((),m.G0,(m.G0.length:Int),(i:Int),()),(m.tup,()))/\i+k=m.G0.length/\∀c,c<i->¬Ih m c) (λk z hz=>?_) m.G0.length ⟨0,rfl,o_ _,λc h=>absurd h (e8_ c)⟩ ω;obtain⟨i,rfl,hk,hn⟩:=hz;show W (Lb m.G0 (m.G0.length:Int) (i:Int) m.G0 m.O0 m.K0 m.A0) _;unfold Lb;refine U (λq=>?_) λq=>?_
  .have q:(i:Int)<(m.G0.length:Int):=l_ q;have i1:inB (i:Int) m.G0.length=A:=Ac ω q;have i2:inB (i:Int) m.K0.length=A:=Ac ω ω;have w:=Dq (n:=i) ω;refine H i1 (U (λ_=>B (.inr rfl)) λn1=>U (λ_=>B (.inr rfl)) λn2=>U (λ_=>B (.inr rfl)) λn3=>H i2 (U (λ_=>B (.inr rfl)) λn4=>B ⟨k-1,ω,i+1,(by rw[<-w];rfl),ω,λc hc=>?_⟩));by_cases e:c=i
   .subst e;have n1:(phA m c==1)=E:=n1;have n2:(phA m c==2)=E:=n2;have n3:(phA m c==3)=E:=n3;have n4:lvA m c=E:=n4;simp only[beq_eq_false_iff_ne]at n1 n2 n3;unfold Ih;rw[n4];simp[n1,n2,n3]
   .exact hn c ω
  .have q:¬(i:Int)<(m.G0.length:Int):=C_ q;exact B (.inl ⟨rfl,λc hc=>hn c ω⟩)
 obtain⟨y,h1,h2⟩:=hl;unfold Du at h;have h1':Hb (((),m.G0,(m.G0.length:Int),(0:Int),()),((m.G0,m.O0,m.K0,m.A0,()),()))=aC y:=h1;rw[h1']at h;rcases h2 with⟨_,h2⟩|rfl
 .exact h2
 .cases h
def One(b:V)(m:Img):Prop:=∀c d,c<b.B0.length->d<b.B0.length->Ih m c->Ih m d->c=d
section
variable{b:V}(hw:BW b){m:Mch}{x:Inp}{g:Bool}{m':Mch}{o:aM}{l1 l2:List aH}{u:Mch}{vs:List View}{X:Rnd}(h:TickF b m x g m' o l1 l2 u vs X)
include hw h
theorem TickF.one(hm:PM b m)(h1:One b m.F0):One b m'.F0:=by
 have e1:=(h.rest hw).1;have e2:m'.F0.K0=u.F0.K0:=by rw[h.img,<-h.rg.img];exact(YW (l:=X.recs) u.F0 λr hr=>h.recs_kd hw r hr).2.2
 have b1:∀c,Ih m'.F0 c->Ih u.F0 c:=λc hc=>Vo (by unfold phA;rw[e1]) (by unfold lvA;rw[e2]) hc;obtain⟨p1,p2⟩:=Avt (l:=l1) m.F0 h.fl;have b2:∀c,Ih (Aj m.F0 l1) c->Ih m.F0 c:=λc hc=>Vo (by unfold phA;rw[p1]) (by unfold lvA;rw[p2]) hc;intro c d hc hd hbc hbd;have hbc:=b1 c hbc;have hbd:=b1 d hbd;rw[h.iu]at hbc hbd;cases hg:g with
 |false=>
  rcases h.op with⟨_,rfl⟩|⟨q,_⟩
  .exact h1 c d hc hd (b2 c hbc) (b2 d hbd)
  .rw[hg]at q;cases q
 |true=>
  obtain⟨i,cm,fr,hi,rfl,hf,_⟩:=h.free hg;have k1:=Ao9 hi hbc;have k2:=Ao9 hi hbd;cases fr with
  |true=>
   have no:=Bkj hw.code (by rw[p1];exact hm.jst.img.lp) (by rw[p2];exact hm.jst.img.ll) hf;rcases k1 with k1|⟨_,k1⟩
   .exact absurd k1 (no c hc)
   .rcases k2 with k2|⟨_,k2⟩
    .exact absurd k2 (no d hd)
    .rw[k1,k2]
  |false=>
   rcases k1 with k1|⟨k1,_⟩
   .rcases k2 with k2|⟨k2,_⟩
    .exact h1 c d hc hd (b2 c k1) (b2 d k2)
    .cases k2
   .cases k1
end
def Wp(l:List aN)(k:Nat):Int×Int:=((l.getD k S).I2,(l.getD k S).S1)
def Kp(l:List aN):Nat->Int×Int
 |0=>(0,0)
 |k+1=>BD (Kp l k) (Wp l k)
def Amo(hl:l.length<=100000)(h:∀k,k<l.length->BR (Kp l k) (Wp l k)=(0,0)):LC l=aC (((),E,()),(((Kp l l.length).1,(Kp l l.length).2,()),())):=by
 have q:JS (((),(),E,l,(l.length:Int),(0:Int),()),(((0:Int),(0:Int),()),((0:Int),(0:Int),()),()))=aC (((),(),E,()),(((0:Int),(0:Int),()),((Kp l l.length).1,(Kp l l.length).2,()),())):=Ig hl (λi=>(((),(),E,l,(l.length:Int),(i:Int),()),(((0:Int),(0:Int),()),((Kp l i).1,(Kp l i).2,()),()))) (λi hi=>by
  have e1:Cn (Kp l i).1 (Kp l i).2 (l.getD i S).I2 (l.getD i S).S1=_:=EP (Kp l i) (Wp l i);have e2:Ci (Kp l i).1 (Kp l i).2 (l.getD i S).I2 (l.getD i S).S1=_:=EY (Kp l i) (Wp l i);rw[h i hi]at e1;show HF E l (l.length:Int) (i:Int) 0 0 (Kp l i).1 (Kp l i).2=_;unfold HF;rw[Rq hi,Kh hi];simp only[d_,c_,j_];have w:=Lw hl hi;exact Ae (Ae e1 rfl) (Ae e2 (by rw[<-w];rfl))) (by
  show HF E l (l.length:Int) (l.length:Int) 0 0 (Kp l l.length).1 (Kp l l.length).2=_;unfold HF;rw[On];rfl)
 unfold LC;rw[q];rfl
def Ahx{p a:Int}{k:Bool}(h:Ali p a d k):OT p a d k=aC ((A,()),()):=by
 unfold OT;rcases h with⟨rfl,rfl,rfl⟩|⟨h,rfl⟩
 .rfl
 .cases((a==0)&&((d==0)&&A))with
  |true=>rfl
  |false=>exact Ae (Ae (VB p) rfl) (by rw[h])
def Abt{p c:Int}(h:Ue p c=A):FJ p c=aC ((A,()),()):=by
 unfold FJ;unfold Ue at h;cases h0:c==0 with
 |true=>rfl
 |false=>
  rw[h0]at h;cases h1:p==3 with
  |true=>rfl
  |false=>rw[h1]at h;have h:(p==4)=A:=h;show aC ((p==4,()),())=_;rw[h]
def Bao(hl:l.length<=100000)(h:∀k,k<l.length->Ali (l.getD k S).V1 (l.getD k S).B1 (l.getD k S).Y0 (l.getD k S).R1):OP l=aC ((A,()),()):=by
 have q:MU ((l,(l.length:Int),(0:Int),()),())=aC (.inl ((),())):=Ig hl (λi=>((l,(l.length:Int),(i:Int),()),())) (λi hi=>by
  show JY l (l.length:Int) (i:Int)=_;unfold JY;rw[Rq hi,Kh hi,Lw hl hi];simp only[d_,j_];exact Ae (Ahx (h i hi)) rfl) (by
  show JY l (l.length:Int) (l.length:Int)=_;unfold JY;rw[On];rfl)
 unfold OP;exact Ae q rfl
def Amn(hl:l.length<=100000)(h:∀k,k<l.length->Ue (l.getD k S).V1 (l.getD k S).G2=A):LB l=aC ((A,()),()):=by
 have q:JR ((l,(l.length:Int),(0:Int),()),())=aC (.inl ((),())):=Ig hl (λi=>((l,(l.length:Int),(i:Int),()),())) (λi hi=>by
  show HE l (l.length:Int) (i:Int)=_;unfold HE;rw[Rq hi,Kh hi,Lw hl hi];simp only[d_,j_];exact Ae (Abt (h i hi)) rfl) (by
  show HE l (l.length:Int) (l.length:Int)=_;unfold HE;rw[On];rfl)
 unfold LB;exact Ae q rfl
def Av2{a z:Int}(h:Aa3 a z):TU a z=aC ((A,()),()):=by rcases h with⟨rfl,rfl⟩|⟨rfl,rfl⟩|⟨rfl,rfl⟩|⟨rfl,rfl⟩|⟨rfl,rfl⟩|⟨rfl,rfl⟩|⟨rfl,rfl⟩|⟨rfl,rfl⟩<;>decide+kernel
def Bap{p:List aN}(hl:l.length<=100000)(hp:p.length=l.length)(h:∀k,k<l.length->(l.getD k S).V1=(p.getD k S).V1\/Aa3 (p.getD k S).V1 (l.getD k S).V1):OQ p l=aC ((A,()),()):=by
 have q:MV ((p,l,(l.length:Int),(0:Int),()),())=aC (.inl ((),())):=Ig hl (λi=>((p,l,(l.length:Int),(i:Int),()),())) (λi hi=>by
  show JZ p l (l.length:Int) (i:Int)=_;unfold JZ;rw[hp,Rq hi,Kh hi];simp only[d_,j_];have w:=Lw hl hi;refine Ae (a:=((p,l,(l.length:Int),(i:Int),E,()),())) ?_ (by rw[<-w];rfl);cases q:(l.getD i S).V1 !=(p.getD i S).V1 with
  |false=>show(bif(l.getD i S).V1 !=(p.getD i S).V1 then _ else _)=_;rw[q];rfl
  |true=>
   rcases h i hi with e|e
   .rw[e]at q;simp at q
   .show(bif(l.getD i S).V1 !=(p.getD i S).V1 then _ else _)=_;rw[q,d_];exact Ae (Av2 e) rfl) (by
  show JZ p l (l.length:Int) (l.length:Int)=_;unfold JZ;rw[On];rfl)
 unfold OQ;exact Ae q rfl
def tr3(p:Int):Prop:=p=1\/p=2\/p=3
def Aqf(hl:l.length<=100000)(h:∀k j,k<l.length->j<l.length->tr3 (l.getD k S).V1->tr3 (l.getD j S).V1->k=j):W (MJ l) λy=>∃n:Int,y=((n,()),())/\n<=1:=by
 have q:W (Ik (((0:Int),l,(l.length:Int),(0:Int),()),())) λy=>∃n:Int,y=((n,()),())/\n<=1:=by
  unfold Ik;refine aK (λ(k:Nat) z=>∃(i:Nat) (n:Int),z=((n,l,(l.length:Int),(i:Int),()),())/\i+k=l.length/\(n=0\/(n=1/\∃j,j<i/\tr3 (l.getD j S).V1))) (λk z hz=>?_) l.length ⟨0,0,rfl,o_ _,.inl rfl⟩ ω;obtain⟨i,n,rfl,hk,hn⟩:=hz;show W (Ox n l (l.length:Int) (i:Int)) _;unfold Ox;refine U (λq=>?_) λq=>B ⟨n,rfl,ω⟩;have q:(i:Int)<(l.length:Int):=l_ q;have w:=Dq (n:=i) ω;have no:∃k',k=k'+1/\∃(i':Nat) (n':Int),(((n,l,(l.length:Int),O.wrap ((i:Int)+1),()),()):(Int×List aN×Int×Int×Unit)×Unit)=((n',l,(l.length:Int),(i':Int),()),())/\i'+k'=l.length/\(n'=0\/(n'=1/\∃j,j<i'/\tr3 (l.getD j S).V1)):=by
   refine⟨k-1,ω,i+1,n,by rw[<-w],ω,?_⟩;rcases hn with h|⟨h,j,h1,h2⟩
   .exact .inl h
   .exact .inr ⟨h,j,ω,h2⟩
  have yes:tr3 (l.getD i S).V1->∃k',k=k'+1/\∃(i':Nat) (n':Int),(((aD O (n+1),l,(l.length:Int),O.wrap ((i:Int)+1),()),()):(Int×List aN×Int×Int×Unit)×Unit)=((n',l,(l.length:Int),(i':Int),()),())/\i'+k'=l.length/\(n'=0\/(n'=1/\∃j,j<i'/\tr3 (l.getD j S).V1)):=λht=>by
   have h0:n=0:=by
    rcases hn with h0|⟨_,j,h1,h2⟩
    .exact h0
    .exact absurd (h j i ω ω h2 ht) ω
   subst h0;exact⟨k-1,ω,i+1,1,by rw[<-w];rfl,ω,.inr ⟨rfl,i,ω,ht⟩⟩
  refine H (Ac ω q) ?_;by_cases p1:(l.getD i S).V1=1
  .exact J (show(bif(l.getD i S).V1==1 then _ else _)=_ by rw[p1];rfl) (H rfl (B (yes (.inl p1))))
  by_cases p2:(l.getD i S).V1=2
  .exact J (show(bif(l.getD i S).V1==1 then _ else bif(l.getD i S).V1==2 then _ else _)=_ by rw[p2];rfl) (H rfl (B (yes (.inr (.inl p2)))))
  refine J (show(bif(l.getD i S).V1==1 then _ else bif(l.getD i S).V1==2 then _ else _)=_ by rw[Ao p1,Ao p2];rfl) (U (λq=>B (yes (.inr (.inr ?_)))) λ_=>B no);have q:((l.getD i S).V1==3)=A:=q;simpa using q
 obtain⟨y,h1,n,rfl,h2⟩:=q;refine⟨_,?_,n,rfl,h2⟩;unfold MJ;exact Ae h1 rfl
section
variable{b:V}(hb:b.small)
include hb
end
def HX(c:Int×Int)(r:aH):Int×Int:=bif r.Q0==2 then Au (bif r.Q0==1 then BD c (FP r.D0 r.H0)else c) (FP r.D0 r.H0)else(bif r.Q0==1 then BD c (FP r.D0 r.H0)else c)
def Bdh(h:EN c)(r:aH):EN (HX c r):=by
 unfold HX;cases r.Q0==2 with
 |true=>exact GL _ _
 |false=>
  cases r.Q0==1 with
  |true=>exact Lz _ _
  |false=>exact h
def Aea(c:Int×Int)(m:Img):Prop:=∀f:Nat,f<32->∀d:Int,(d=1\/d=2)->(I c f d=A↔((f:Int),d)∈m.A0.map Ce)
def Ah6(p:Int×Int):¬ltC p p:=λh=>by unfold ltC at h;omega
def Bj5{l:List (Int×Int)}(hs:l.Pairwise ltC)(hk:k<l.length)(p:Int×Int):p∈l.take k++l.drop (k+1)↔p∈l/\p≠l[k]:=by
 have e:l=l.take k++l[k]::l.drop (k+1):=by rw[<-List.drop_eq_getElem_cons hk,List.take_append_drop]
 have hs':=hs;rw[e]at hs';obtain⟨_,h2,h3⟩:=f7_.1 hs';obtain⟨h4,_⟩:=e3_.1 h2;constructor
 .intro h;rcases n_.1 h with h|h
  .exact⟨e5_ h,λq=>Ah6 _ (q▸h3 p h l[k] (p_ ..))⟩
  .exact⟨e6_ h,λq=>Ah6 _ (q▸h4 p h)⟩
 .rintro⟨h,hne⟩;rw[e]at h;rcases n_.1 h with h|h
  .exact n_.2 (.inl h)
  .rcases s_.1 h with h|h
   .exact absurd h hne
   .exact n_.2 (.inr h)
def Atn(hb:b.small)(ha:Aea c m)(hm:ImgOK b m)(hv:Ay b r=A):Aea (HX c r) (Ak m r):=by
 intro f hf d hd;have h0:=ha f hf d hd;have hk:=(Wy hv).2;have hcall:(r.Q0=1\/r.Q0=2)->(0<=r.D0/\r.D0<32)/\(r.H0=1\/r.H0=2):=λh=>by
  have lo:=hb.lo;have hi:=hb.hi;have hc:Ar b r.D0 r.H0=A:=by
   rcases hk with q|q|q|q|q|q|q
   .exact q.2.1
   .exact q.2.1
   all_goals omega
  unfold Ar RI at hc;simp only[e_,Q_,R_,An]at hc;omega
 have hone:(r.Q0=1\/r.Q0=2)->(I (FP r.D0 r.H0) f d=A↔((f:Int),d)=(r.D0,r.H0)):=λh=>by obtain⟨h1,h2⟩:=hcall h;rw[LX h1 h2 f hd,q_]
 have same:∀l:List Entry,l.map Ce=m.A0.map Ce->¬r.Q0=1->¬r.Q0=2->(I (HX c r) f d=A↔((f:Int),d)∈l.map Ce):=λl hl h1 h2=>by unfold HX;rw[Ao h1,Ao h2,hl];exact h0
 unfold Ak;by_cases k4:r.Q0=4
 .rw[show(r.Q0==4)=A by rw[k4];rfl];exact same _ rfl ω ω
 rw[Ao k4,c_];by_cases k5:r.Q0=5
 .rw[show(r.Q0==5)=A by rw[k5];rfl];exact same _ rfl ω ω
 rw[Ao k5,c_];by_cases k6:r.Q0=6
 .rw[show(r.Q0==6)=A by rw[k6];rfl];exact same _ rfl ω ω
 rw[Ao k6,c_];rcases To r.D0 r.H0 m.A0 0 with⟨h1,h2⟩|⟨k,h1,h2,h3⟩
 .rw[h1,show((-1:Int)==-1)=A from rfl,d_];by_cases k1:r.Q0=1
  .rw[show(r.Q0==1)=A by rw[k1];rfl,d_];have hins:=XR (c:=⟨r.D0,r.H0,-1,0,E⟩) h2;show _↔((f:Int),d)∈(Ij ⟨r.D0,r.H0,-1,0,E⟩ E m.A0).map Ce;rw[hins];unfold HX;rw[k1];simp only[show((1:Int)==2)=E from rfl,m_,d_,c_];rw[FH,Q_,h0,hone (.inl k1)];generalize AB ⟨r.D0,r.H0,-1,0,E⟩ m.A0=p
   conv=>lhs;rw[<-List.take_append_drop p m.A0]
   simp only[List.map_append,n_,b8_,List.map_nil,B_,Ce];constructor
   .rintro((h|h)|h)
    .exact .inl (.inl h)
    .exact .inr h
    .exact .inl (.inr h)
   .rintro((h|h)|h)
    .exact .inl (.inl h)
    .exact .inr h
    .exact .inl (.inr h)
  .rw[Ao k1,c_];by_cases k2:r.Q0=2
   .unfold HX;rw[k2];simp only[show((2:Int)==1)=E from rfl,m_,d_,c_];rw[Bd _ _ hf,e_,h0,a2_,<-Bool.not_eq_true,hone (.inr k2)];refine⟨λh=>h.1,λh=>⟨h,λq=>?_⟩⟩;obtain⟨e,he,hq⟩:=b6_.1 h
    have:=h2 e he
    rw[Asn.2 (hq.trans q)]at this;cases this
   .exact same _ rfl k1 k2
 .rw[o_]at h2;rw[h2,Ao (ω:¬(k:Int)=-1),c_,j_];have hkc:Ce (m.A0.getD k noE)=(r.D0,r.H0):=Asn.1 h3;have hget:m.A0.getD k noE=m.A0[k]:=by simp[h1]
  by_cases k2:r.Q0=2
  .rw[show(r.Q0==2)=A by rw[k2];rfl,d_];show _↔((f:Int),d)∈(m.A0.take k++m.A0.drop (k+1)).map Ce;have hd1:=Bj5 (l:=m.A0.map Ce) hm.so (k:=k) (by rw[c8_];exact h1) ((f:Int),d);rw[List.map_append,List.map_take,List.map_drop,hd1,List.getElem_map,<-hget,hkc];unfold HX;rw[k2];simp only[show((2:Int)==1)=E from rfl,m_,d_,c_];rw[Bd _ _ hf,e_,h0,a2_,<-Bool.not_eq_true,hone (.inr k2)]
  .rw[Ao k2,c_];by_cases k1:r.Q0=1
   .rw[k1];simp only[show((1:Int)==3)=E from rfl,show((1:Int)==7)=E from rfl,c_];unfold HX;rw[k1];simp only[show((1:Int)==2)=E from rfl,m_,d_,c_];rw[FH,Q_,h0,hone (.inl k1)];refine⟨λh=>?_,λh=>.inl h⟩;rcases h with h|h
    .exact h
    .rw[h,<-hkc];exact b6_.2 ⟨_,AL noE h1,rfl⟩
   .by_cases k3:r.Q0=3
    .rw[show(r.Q0==3)=A by rw[k3];rfl,d_];exact same _ (UE h1 rfl) k1 k2
    .rw[Ao k3,c_];by_cases k7:r.Q0=7
     .rw[show(r.Q0==7)=A by rw[k7];rfl,d_];exact same _ (UE h1 rfl) k1 k2
     .rw[Ao k7,c_];exact same _ rfl k1 k2
def YT{b:V}(hb:b.small):∀(rs:List aH) {c:Int×Int}{m:Img},Aea c m->EN c->ImgOK b m->(∀r∈rs,Ay b r=A)->Aea (rs.foldl HX c) (Aj m rs)/\EN (rs.foldl HX c)/\ImgOK b (Aj m rs)
 |[],_,_,h,hu,hm,_=>⟨h,hu,hm⟩
 |r::t,_c,_m,h,hu,hm,hv=>YT hb t (Atn hb h hm (hv r (p_ ..))) (Bdh hu r) (Ke hm (hv r (p_ ..))).1 λx hx=>hv x (r_ _ hx)
def ND(was:Int×Int)(X:Rnd):Int×Int:=X.recs.foldl HX was
def Aji:∀{l:List aH}(c:Int×Int),(∀r∈l,r.Q0=3\/r.Q0=7)->l.foldl HX c=c
 |[],_,_=>rfl
 |r::t,c,h=>by
  have hr:=h r (p_ ..)
  have:HX c r=c:=by unfold HX;rw[Ao (ω:¬r.Q0=2),Ao (ω:¬r.Q0=1)];rfl
  rw[g5_,this];exact Aji c λx hx=>h x (r_ _ hx)
def Afu(b:V)(vs:List View)(ps:List aI){f:Nat}(hf:f<32)(d:Int):∀(k i:Nat) (s:Lan),i+k=vs.length->I (AV (Ln b vs ps) k i s).cl f d=(I s.cl f d||(vs.drop i).any λv=>I (DE b v) f d)
 |0,i,s,hi=>by rw[show i=vs.length by omega,b3_];simp[AV]
 |k+1,i,s,hi=>by show I (AV (Ln b vs ps) k (i+1) (Ln b vs ps i s)).cl f d=_;rw[Afu b vs ps hf d k (i+1) _ ω,Cm noV (ω:i<vs.length),List.any_cons];show(I (BD s.cl (NL b vs i s)) f d||_)=_;unfold NL;rw[FH,Bd _ _ hf];cases I s.cl f d<;>cases I (DE b (vs.getD i noV)) f d<;>rfl
def Ajw(b:V)(vs:List View)(ps:List aI)(hf:f<32)(d:Int):I (Dk b vs ps).cl f d=Km b vs (f:Int) d:=by unfold Dk Km;rw[Afu b vs ps hf d vs.length 0 Lan.none ω,V_,j_];show(I (0,0) f d||_)=_;rw[EI,Bool.false_or]
def Ake(b:V)(vs:List View){f:Nat}(hf:f<32){d:Int}(hd:d=1\/d=2):∀{l:List Entry}{c:Int×Int},(∀e∈l,RJ e)->(I ((Dp b vs l).foldl HX c) f d=A↔I c f d=A/\¬(((f:Int),d)∈l.map Ce/\Km b vs (f:Int) d=A))
 |[],c,_=>by simp[Dp]
 |e::t,c,h=>by
  have he:=h e (p_ ..);have ht:=λx hx=>h x (r_ _ hx);have e0:Dp b vs (e::t)=(bif Km b vs e.D0 e.H0 then [Record.mk 2 e.D0 e.H0 0 0]else [])++Dp b vs t:=rfl;rw[e0,aR,Ake b vs hf hd ht,b8_,s_];cases hs:Km b vs e.D0 e.H0 with
  |false=>
   show I c f d=A/\_↔_;constructor
   .rintro⟨h1,h2⟩;refine⟨h1,λhh=>h2 ⟨?_,hh.2⟩⟩;rcases hh.1 with hh1|hh1
    .obtain⟨q1,q2⟩:=Prod.mk.inj (show((f:Int),d)=(e.D0,e.H0)from hh1);rw[q1,q2,hs]at hh;cases hh.2
    .exact hh1
   .rintro⟨h1,h2⟩;exact⟨h1,λhh=>h2 ⟨.inr hh.1,hh.2⟩⟩
  |true=>
   have hw:List.foldl HX c [Record.mk 2 e.D0 e.H0 0 0]=Au c (FP e.D0 e.H0):=rfl;rw[d_,hw,Bd _ _ hf,LX he.1 he.2 f hd,e_,a2_,decide_eq_false_iff_not];constructor
   .rintro⟨⟨h1,h2⟩,h3⟩;refine⟨h1,λhh=>h3 ⟨?_,hh.2⟩⟩;rcases hh.1 with hh1|hh1
    .exact absurd hh1 h2
    .exact hh1
   .rintro⟨h1,h2⟩;refine⟨⟨h1,λhq=>h2 ⟨.inl hq,?_⟩⟩,λhh=>h2 ⟨.inr hh.1,hh.2⟩⟩;obtain⟨q1,q2⟩:=Prod.mk.inj hq;rw[q1,q2];exact hs
def Bcj{b:V}:∀{l:List Entry}{X:Rnd},KG b X.img=E->(EL b l X).img=X.img
 |[],_,_=>rfl
 |e::t,X,h=>by
  have e1:(Cz b e X).img=X.img:=by unfold Cz;rw[h];rfl
  show(EL b t (Cz b e X)).img=X.img;rw[Bcj (by rw[e1];exact h),e1]
structure RegBits(b:Bldg)(was:Int×Int)(l:List Entry)(X:Rnd):Prop where
 bits:∀f:Nat,f<32->∀d:Int,(d=1\/d=2)->(Am (ND was (EL b l X)) f d=true↔Am (ND was X) f d=true\/(((f:Int),d)∈l.map Ce/\Am (EL b l X).ref f d=false))
 up:∀f:Nat,f<32->∀d:Int,(d=1\/d=2)->Am X.ref f d=true->Am (EL b l X).ref f d=true
 down:∀f:Nat,f<32->∀d:Int,(d=1\/d=2)->Am (EL b l X).ref f d=true->Am X.ref f d=true\/((f:Int),d)∈l.map Ce
 u32:EN X.ref->EN (EL b l X).ref
 room:(EL b l X).ref=X.ref\/KG b (EL b l X).img=false
def Adx{b:V}{was:Int×Int}:∀{l:List Entry}{X:Rnd},(∀e∈l,RJ e)->(l.map Ce).Pairwise ltC->(∀e∈l,I X.ref e.D0.toNat e.H0=E)->RegBits b was l X
 |[],X,_,_,_=>⟨λf _ d _=>by simp[EL],λ_ _ _ _ h=>h,λ_ _ _ _ h=>.inl h,λh=>h,.inl rfl⟩
 |e::t,X,hc,hp,hr=>by
  have he:=hc e (p_ ..);have hct:=λx hx=>hc x (r_ _ hx);rw[b8_]at hp;obtain⟨hp1,hp2⟩:=e3_.1 hp;have hne:(e.D0,e.H0)∉t.map Ce:=λh=>Ah6 _ (hp1 _ h);have h0:=hr e (p_ ..);have hrt:=λx hx=>hr x (r_ _ hx);have hR:EL b (e::t) X=EL b t (Cz b e X):=rfl;cases hroom:KG b X.img with
  |true=>
   have e1:Cz b e X=RT (Yg e) X:=by unfold Cz;rw[hroom];rfl
   have e2:(Cz b e X).ref=X.ref:=by rw[e1];rfl
   have e3:ND was (Cz b e X)=BD (ND was X) (FP e.D0 e.H0):=by rw[e1];unfold ND RT;simp only;rw[aR];rfl
   have ih:=Adx (b:=b) (was:=was) (X:=Cz b e X) hct hp2 (by rw[e2];exact hrt);have iu:=ih.up;have idn:=ih.down;have iu32:=ih.u32;have irm:=ih.room;rw[e2]at iu idn iu32 irm;rw[<-hR]at iu idn iu32 irm;refine⟨λf hf d hd=>?_,iu,λf hf d hd h=>(idn f hf d hd h).imp id (r_ _),iu32,irm⟩;have hb:=ih.bits f hf d hd;rw[<-hR,e3,FH,LX he.1 he.2 f hd,Q_,q_]at hb;rw[hb,b8_,s_];constructor
   .rintro((h|h)|⟨h1,h2⟩)
    .exact .inl h
    .refine .inr ⟨.inl h,?_⟩;cases hq:I (EL b (e::t) X).ref f d with
     |false=>rfl
     |true=>
      obtain⟨q1,q2⟩:=Prod.mk.inj h;rcases idn f hf d hd hq with hh|hh
      .rw[show f=e.D0.toNat by omega,q2,h0]at hh;cases hh
      .rw[h]at hh;exact absurd hh hne
    .exact .inr ⟨.inr h1,h2⟩
   .rintro(h|⟨h1|h1,h2⟩)
    .exact .inl (.inl h)
    .exact .inl (.inr h1)
    .exact .inr ⟨h1,h2⟩
  |false=>
   have e1:Cz b e X=⟨X.recs,X.img,X.xs,X.lan,BD X.ref (FP e.D0 e.H0)⟩:=by unfold Cz;rw[hroom];rfl
   have e2:(Cz b e X).ref=BD X.ref (FP e.D0 e.H0):=by rw[e1]
   have e3:ND was (Cz b e X)=ND was X:=by rw[e1];rfl
   have hx:∀f:Nat,f<32->∀d:Int,(d=1\/d=2)->(I (Cz b e X).ref f d=A↔I X.ref f d=A\/((f:Int),d)=(e.D0,e.H0)):=λf hf d hd=>by rw[e2,FH,LX he.1 he.2 f hd,Q_,q_]
   have ih:=Adx (b:=b) (was:=was) (X:=Cz b e X) hct hp2 (λx hxt=>by
    have hce:=hct x hxt;cases hq:I (Cz b e X).ref x.D0.toNat x.H0 with
    |false=>rfl
    |true=>
     rcases(hx x.D0.toNat (by have:=hce.1;omega) x.H0 hce.2).1 hq with hh|hh
     .rw[hrt x hxt]at hh;cases hh
     .exfalso;refine hne (b6_.2 ⟨x,hxt,?_⟩);rw[<-hh];show(x.D0,x.H0)=_;rw[f1_ hce.1.1])
   refine⟨λf hf d hd=>?_,λf hf d hd h=>?_,λf hf d hd h=>?_,λ_=>?_,.inr ?_⟩
   .have hb:=ih.bits f hf d hd;rw[<-hR,e3]at hb;rw[hb,b8_,s_];constructor
    .rintro(h|⟨h1,h2⟩)
     .exact .inl h
     .exact .inr ⟨.inr h1,h2⟩
    .rintro(h|⟨h1|h1,h2⟩)
     .exact .inl h
     .exfalso
      have:=ih.up f hf d hd ((hx f hf d hd).2 (.inr h1))
      rw[<-hR,h2]at this;cases this
     .exact .inr ⟨h1,h2⟩
   .rw[hR];exact ih.up f hf d hd ((hx f hf d hd).2 (.inl h))
   .rw[hR]at h;rw[b8_,s_];rcases ih.down f hf d hd h with hh|hh
    .rcases(hx f hf d hd).1 hh with h3|h3
     .exact .inl h3
     .exact .inr (.inl h3)
    .exact .inr (.inr hh)
   .rw[hR];exact ih.u32 (by rw[e2];exact Lz _ _)
   .have e4:(Cz b e X).img=X.img:=by rw[e1]
    rw[hR,Bcj (by rw[e4];exact hroom),e4];exact hroom
def Aoz(hf:f<32)(hd:d=1\/d=2):((f:Int),d)∈(FY c).map Ce↔I c f d=A:=by
 unfold FY;rw[mem_range];constructor
 .rintro⟨g,_,h1,_,h3⟩;have hg:g=f:=by have:(f:Int)=(g:Int):=h1;omega
  rw[hg]at h3;exact h3
 .intro h;exact⟨f,⟨ω,ω⟩,rfl,hd,h⟩
def Vw(hb:b.small)(hm:ImgOK b m):Aea (ofC m.A0 (0,0)) m:=λf _ d hd=>by have hc:∀e∈m.A0,RJ e:=λe he=>Rj hb (CZ.1 (hm.en e he)).1;rw[Aid hc f hd,EI];simp
section
variable{b:V}(hb:b.small)(hcode:b.code=0){m:Img}(hm:ImgOK b m){xs:List Int}(hx:xs.length=m.A0.length)(hxv:inX xs){vs:List View}(hvl:vs.length=b.B0.length)(ps:List aI)(press:Int×Int)
include hb hcode hm hx hxv hvl
theorem Ar2(good:Bool):ofC (Fg b m xs vs ps press good).img.A0 (0,0)=ND (ofC m.A0 (0,0)) (Bu b m xs vs ps press good):=by
 have hfr:=(Ad6 hb hcode hm hx hxv (vs:=vs) ps press good hvl).1;have hp:=QP hb hcode hm hx hxv (vs:=vs) ps press good hvl;obtain⟨a1,a2,a3⟩:=YT hb (Fg b m xs vs ps press good).recs (Vw hb hm) (Aba _ Gz) hm hfr.good.valid;rw[hfr.img]at a1 a3;have hc:∀e∈(Fg b m xs vs ps press good).img.A0,RJ e:=λe he=>Rj hb (CZ.1 (a3.en e he)).1;have e1:(Fg b m xs vs ps press good).recs.foldl HX (ofC m.A0 (0,0))=ND (ofC m.A0 (0,0)) (Bu b m xs vs ps press good):=by show((Bu b m xs vs ps press good).recs++(TF b m xs vs ps press good).1).foldl HX _=_;rw[aR,hp,Aji _ (QJ b vs _ _)];rfl
 rw[<-e1];refine NE (Aba _ Gz) a2 λf hf d hd=>?_;rw[aQ,Aid hc f hd,a1 f hf d hd,EI];simp
theorem Aud:ofC (Fg b m xs vs ps press A).img.A0 (0,0)=BD (Au (ofC m.A0 (0,0)) (Dk b vs ps).cl) (Au (Mw b m press) (Fg b m xs vs ps press A).ref)/\isZ (Au (Fg b m xs vs ps press A).ref (Mw b m press))=A/\((Fg b m xs vs ps press A).ref=(0,0)\/KG b (Bu b m xs vs ps press A).img=E)/\(Fg b m xs vs ps press A).lan=Dk b vs ps/\EN (Fg b m xs vs ps press A).ref:=by
 have hc:∀e∈m.A0,RJ e:=λe he=>Rj hb (CZ.1 (hm.en e he)).1;have hX:Bu b m xs vs ps press A=EL b (FY (Mw b m press)) (wrL (Dp b vs m.A0) ⟨[],m,xs,Dk b vs ps,(0,0)⟩):=rfl;have hT:(Fg b m xs vs ps press A).ref=(Bu b m xs vs ps press A).ref:=rfl;have rb:=Adx (b:=b) (was:=ofC m.A0 (0,0)) (l:=FY (Mw b m press)) (X:=wrL (Dp b vs m.A0) ⟨[],m,xs,Dk b vs ps,(0,0)⟩) (λe he=>by obtain⟨h1,h2,_⟩:=Ajz he;exact⟨h1,h2⟩) (Aag _ 32 0) (λe _=>EI _ _);have e0:∀f:Nat,f<32->∀d:Int,(d=1\/d=2)->(I (Bu b m xs vs ps press A).ref f d=A->I (Mw b m press) f d=A):=λf hf d hd hh=>by
  have hdn:=rb.down f hf d hd;rw[<-hX]at hdn;rcases hdn hh with hq|hq
  .rw[show I (wrL (Dp b vs m.A0) ⟨[],m,xs,Dk b vs ps,(0,0)⟩).ref f d=E from EI f d]at hq;cases hq
  .exact(Aoz hf hd).1 hq
 refine⟨?_,?_,?_,?_,?_⟩
 .rw[Ar2 hb hcode hm hx hxv hvl ps press A,hT];refine NE (YT hb _ (Vw hb hm) (Aba _ Gz) hm (UY hb hcode hm hx hxv (vs:=vs) ps press A).good.valid).2.1 (Lz _ _) λf hf d hd=>?_;have hbb:=rb.bits f hf d hd;have hs:=Ake b vs hf hd (l:=m.A0) (c:=ofC m.A0 (0,0)) hc;have hag:=Vw hb hm f hf d hd;have e2:ND (ofC m.A0 (0,0)) (wrL (Dp b vs m.A0) ⟨[],m,xs,Dk b vs ps,(0,0)⟩)=(Dp b vs m.A0).foldl HX (ofC m.A0 (0,0)):=rfl;rw[e2,<-hX]at hbb;rw[aQ,hbb,hs,FH,Bd _ _ hf,Bd _ _ hf,Ajw b vs ps hf d,Aoz hf hd,Q_,e_,e_,a2_,a2_];constructor
  .rintro(⟨h1,h2⟩|h1)
   .refine .inl ⟨h1,?_⟩;cases hq:Km b vs (f:Int) d with
    |false=>rfl
    |true=>exact absurd ⟨hag.1 h1,hq⟩ h2
   .exact .inr h1
  .rintro(⟨h1,h2⟩|h1)
   .refine .inl ⟨h1,λhh=>?_⟩;rw[h2]at hh;cases hh.2
   .exact .inr h1
 .rw[hT];refine(Lm (GL _ _)).2 λf hf d hd=>?_;rw[Bd _ _ hf];cases hq:I (Bu b m xs vs ps press A).ref f d with
  |false=>rfl
  |true=>rw[e0 f hf d hd hq];rfl
 .rw[hT];have hrm:=rb.room;rw[<-hX]at hrm;exact hrm
 .show(Bu b m xs vs ps press A).lan=_;rw[hX,Adw];rfl
 .rw[hT,hX];exact rb.u32 Gz
end
structure LampF(P N press cl ref served:Int×Int):Prop where
 n:∀f:Nat,f<32->∀d:Int,(d=1\/d=2)->Am N f d=((Am P f d&&!Am cl f d)||(Am press f d&&(!Am P f d&&!Am ref f d)))
 r:∀f:Nat,f<32->∀d:Int,(d=1\/d=2)->Am ref f d=true->Am press f d=true/\Am P f d=false
 s:∀f:Nat,f<32->∀d:Int,(d=1\/d=2)->Am served f d=(Am P f d&&Am cl f d)
 ur:EN ref
 us:EN served
def VT:∀(l:List aH) {k:List aH}{c:Int×Int},GR (l++k) c=GR k (GR l c)
 |[],_,_=>rfl
 |r::l,k,c=>VT l
def Ad2:∀{l:List aH}{c:Int×Int},(∀r∈l,r.Q0≠2)->GR l c=c
 |[],_,_=>rfl
 |r::l,c,h=>by show GR l (bif r.Q0==2 then _ else c)=c;rw[Ao (h r (p_ ..)),c_];exact Ad2 λx hx=>h x (r_ _ hx)
def Akd:∀(l:List aH) {c:Int×Int},EN c->EN (GR l c)
 |[],_,h=>h
 |r::l,c,h=>by
  refine Akd l ?_;cases r.Q0==2 with
  |true=>exact Lz _ _
  |false=>exact h
def Agg(b:V)(vs:List View){f:Nat}{d:Int}(hd:d=1\/d=2):∀{l:List Entry}{c:Int×Int},(∀e∈l,RJ e)->(I (GR (Dp b vs l) c) f d=A↔I c f d=A\/(((f:Int),d)∈l.map Ce/\Km b vs (f:Int) d=A))
 |[],c,_=>by simp[Dp,GR]
 |e::t,c,h=>by
  have he:=h e (p_ ..);have ht:=λx hx=>h x (r_ _ hx);have e0:Dp b vs (e::t)=(bif Km b vs e.D0 e.H0 then [Record.mk 2 e.D0 e.H0 0 0]else [])++Dp b vs t:=rfl;rw[e0,VT,Agg b vs hd ht,b8_,s_];cases hs:Km b vs e.D0 e.H0 with
  |false=>
   show I c f d=A\/_↔_;constructor
   .rintro(h1|⟨h1,h2⟩)
    .exact .inl h1
    .exact .inr ⟨.inr h1,h2⟩
   .rintro(h1|⟨h1|h1,h2⟩)
    .exact .inl h1
    .obtain⟨q1,q2⟩:=Prod.mk.inj (show((f:Int),d)=(e.D0,e.H0)from h1);rw[q1,q2,hs]at h2;cases h2
    .exact .inr ⟨h1,h2⟩
  |true=>
   have hw:GR [Record.mk 2 e.D0 e.H0 0 0] c=BD c (FP e.D0 e.H0):=rfl;rw[d_,hw,FH,LX he.1 he.2 f hd,Q_,q_];constructor
   .rintro((h1|h1)|⟨h1,h2⟩)
    .exact .inl h1
    .refine .inr ⟨.inl h1,?_⟩;obtain⟨q1,q2⟩:=Prod.mk.inj h1;rw[q1,q2];exact hs
    .exact .inr ⟨.inr h1,h2⟩
   .rintro(h1|⟨h1|h1,h2⟩)
    .exact .inl (.inl h1)
    .exact .inl (.inr h1)
    .exact .inr ⟨h1,h2⟩
def Af5(b:V):∀(l:List Entry) (X:Rnd),∃R,(EL b l X).recs=X.recs++R/\∀r∈R,r.Q0=1
 |[],X=>⟨[],(Y_ _).symm,λr h=>by cases h⟩
 |e::t,X=>by
  obtain⟨R,h1,h2⟩:=Af5 b t (Cz b e X);have hR:EL b (e::t) X=EL b t (Cz b e X):=rfl;cases hr:KG b X.img with
  |false=>
   have e1:(Cz b e X).recs=X.recs:=by unfold Cz;rw[hr];rfl
   exact⟨R,by rw[hR,h1,e1],h2⟩
  |true=>
   have e1:(Cz b e X).recs=X.recs++[Yg e]:=by unfold Cz;rw[hr];rfl
   refine⟨Yg e::R,by rw[hR,h1,e1,M_];rfl,λr h=>?_⟩;rcases s_.1 h with rfl|h
   .rfl
   .exact h2 r h
def Amj(n:Nat):∀k,LV (aJ n noP) k=(0,0)
 |0=>rfl
 |k+1=>by show BD (LV _ k) (Jt _ k)=_;rw[Amj n k,Aov];rfl
def Aj0{a:Int×Int}(h:isZ (Au a c)=A)(hf:f<32)(hd:d=1\/d=2)(ha:I a f d=A):I c f d=A:=by
 have:=(Lm (GL _ _)).1 h f hf d hd
 rw[Bd _ _ hf,ha]at this;simpa using this
section
variable{b:V}(hw:BW b){m:Mch}{x:Inp}{g:Bool}{m':Mch}{o:aM}{l1 l2:List aH}{u:Mch}{vs:List View}{X:Rnd}(h:TickF b m x g m' o l1 l2 u vs X)
include hw h
theorem TickF.ents:u.F0.A0=m.F0.A0:=by
 have k1:K3 l1:=λr hr=>by obtain⟨i,_,rfl⟩:=h.fl r hr;exact .inr (.inl rfl)
 have k2:K3 l2:=by
  rcases h.op with⟨_,rfl⟩|⟨_,i,cm,fr,_,hi,_,rfl⟩
  .exact λr h=>by cases h
  .intro r hr;obtain⟨j,k,v,_,rfl,h⟩:=Adn _ _ hi _ _ r hr;show k=4\/k=5\/k=6;omega
 rw[h.iu,OK _ k2,OK _ k1]
theorem TickF.lamps(hx1:g=A->JE b x.press=A)(hx0:g=E->x.press=(0,0)):LampF (ofC m.F0.A0 (0,0)) (ofC m'.F0.A0 (0,0)) x.press (LV X.lan.lit b.B0.length) X.ref (GR X.recs (0,0))/\(g=E->ofC m'.F0.A0 (0,0)=ofC m.F0.A0 (0,0)/\X.ref=(0,0)):=by
 have he:=h.ents hw;have him:=h.pu.jst.img;have hT:=Ar2 hw.small hw.code him h.pu.exl h.pu.exv h.va.len u.G3 x.press g;have hcall:∀e∈u.F0.A0,RJ e:=λe he=>Rj hw.small (CZ.1 (him.en e he)).1;have hag:=Vw hw.small him;have hl:=Aao b u.F0 u.Y1 vs u.G3 x.press g;have hpl:=QP hw.small hw.code him h.pu.exl h.pu.exv (vs:=vs) u.G3 x.press g h.va.len;have hrecs:X.recs=(Bu b u.F0 u.Y1 vs u.G3 x.press g).recs++(TF b u.F0 u.Y1 vs u.G3 x.press g).1:=by rw[h.hX];rfl
 have hplan:∀c,GR (TF b u.F0 u.Y1 vs u.G3 x.press g).1 c=c:=λc=>by rw[hpl];exact Ad2 λr hr=>by have:=QJ b vs _ _ r hr;omega
 rw[<-h.hX]at hT hl;rw[h.img,<-he,hrecs,VT,hplan,hT,hl];cases hg:g with
 |false=>
  rw[hx0 hg];have e1:(Bu b u.F0 u.Y1 vs u.G3 (0,0) E).recs=[]:=rfl;have e2:ND (ofC u.F0.A0 (0,0)) (Bu b u.F0 u.Y1 vs u.G3 (0,0) E)=ofC u.F0.A0 (0,0):=rfl;have e3:X.ref=(0,0):=by rw[h.hX,hg];rfl
  rw[e1,e2,e3,c_];refine⟨?_,λ_=>⟨rfl,rfl⟩⟩;rw[show LV (Aun vs.length).lit b.B0.length=(0,0)from Amj _ _];refine⟨λf hf d hd=>?_,λf hf d hd hq=>?_,λf hf d hd=>?_,Gz,Gz⟩
  .rw[EI];simp
  .rw[EI]at hq;cases hq
  .show I (0,0) f d=_;rw[EI];simp
 |true=>
  have hwi:=hx1 hg;refine⟨?_,λq=>by cases q⟩;have hgood:=Aud hw.small hw.code him h.pu.exl h.pu.exv h.va.len u.G3 x.press;rw[hg]at hT;have hX:Fg b u.F0 u.Y1 vs u.G3 x.press A=X:=by rw[h.hX,hg]
  rw[hX,hT]at hgood;obtain⟨g1,g2,_,_,g5⟩:=hgood;have hcl:LV (Dk b vs u.G3).lit b.B0.length=(Dk b vs u.G3).cl:=by
   have hap:=Apart.fold (b:=b) (vs:=vs) (ps:=u.G3) vs.length 0 (s:=Lan.none) ⟨rfl,λk h=>absurd h (e8_ k)⟩;have hll:=(Aot b vs u.G3 vs.length 0 Lan.none).1;have e:(Dk b vs u.G3).lit.length=b.B0.length:=by show(AV (Ln b vs u.G3) vs.length 0 Lan.none).lit.length=_;rw[hll,h.va.len];exact o_ _
   have:=hap.cl
   rw[<-e];exact this
  rw[g1,d_,hcl];have hfr:∀f:Nat,f<32->∀d:Int,(d=1\/d=2)->I (Mw b u.F0 x.press) f d=(I x.press f d&&!I (ofC u.F0.A0 (0,0)) f d):=λf hf d hd=>by
   unfold Mw;rw[Bd _ _ hf,HI];cases hp:I x.press f d with
   |false=>rfl
   |true=>rw[Aj0 hwi hf hd hp];rfl
  refine⟨λf hf d hd=>?_,λf hf d hd hq=>?_,λf hf d hd=>?_,g5,Akd _ Gz⟩
  .rw[FH,Bd _ _ hf,Bd _ _ hf,hfr f hf d hd];cases I x.press f d<;>cases I (ofC u.F0.A0 (0,0)) f d<;>cases I X.ref f d<;>rfl
  .have:=Aj0 g2 hf hd hq
   rw[hfr f hf d hd]at this;simpa using this
  .obtain⟨R,r1,r2⟩:=Af5 b (FY (Mw b u.F0 x.press)) (wrL (Dp b vs u.F0.A0) ⟨[],u.F0,u.Y1,Dk b vs u.G3,(0,0)⟩);have e4:(Bu b u.F0 u.Y1 vs u.G3 x.press A).recs=Dp b vs u.F0.A0++R:=r1;rw[e4,VT,Ad2 (l:=R) (λr hr=>by have:=r2 r hr;omega),Ajw b vs u.G3 hf d,aQ,Agg b vs hd hcall,EI,e_,hag f hf d hd];simp
end
structure LampG(P N press lit ref served:Int×Int):Prop where
 come:isZ (Au (Au N P) press)=true
 gone:Au P N=served
 lit:Au P N=BR P lit
 dark:isZ (Au (Au press P) (Au N P))=isZ ref
def LampF.good{P N press lit ref served:Int×Int}(h:LampF P N press lit ref served):LampG P N press lit ref served:=by
 have hs:∀f:Nat,f<32->∀d:Int,(d=1\/d=2)->I (Au P N) f d=(I P f d&&I lit f d):=λf hf d hd=>by rw[Bd _ _ hf,h.n f hf d hd];cases I P f d<;>cases I lit f d<;>cases I press f d<;>rfl
 refine⟨(Lm (GL _ _)).2 λf hf d hd=>?_,NE (GL _ _) h.us λf hf d hd=>?_,NE (GL _ _) (Uj _ _) λf hf d hd=>?_,?_⟩
 .rw[Bd _ _ hf,Bd _ _ hf,h.n f hf d hd];cases I P f d<;>cases I press f d<;>simp
 .rw[hs f hf d hd,h.s f hf d hd]
 .rw[hs f hf d hd,HI]
 .rw[aQ,Lm (GL _ _),Lm h.ur];refine forall_congr' λf=>forall_congr' λhf=>forall_congr' λd=>forall_congr' λhd=>?_;have hr:=h.r f hf d hd;rw[Bd _ _ hf,Bd _ _ hf,Bd _ _ hf,h.n f hf d hd];cases hq:I ref f d with
  |true=>obtain⟨e1,e2⟩:=hr hq;rw[e1,e2];simp
  |false=>cases I P f d<;>cases I press f d<;>simp
def Uu(c:Int×Int):HZ c.1 c.2=aC ((isZ c,()),()):=rfl
def Afz(a:Int×Int):Au a a=(0,0):=NE (GL _ _) Gz λf hf d _=>by rw[Bd _ _ hf,EI];simp
structure Bef(b:Bldg)(m:Mch)(p:Outputs):Prop where
 len:p.B0.length=b.B0.length
 ph:∀i,i<b.B0.length->(p.B0.getD i Av).V1=phA m.F0 i
 lamps:(p.G4,p.X3)=ofC m.F0.A0 (0,0)
section
variable{b:V}(hw:BW b){m:Mch}{x:Inp}{g:Bool}{m':Mch}{o:aM}{l1 l2:List aH}{u:Mch}{vs:List View}{X:Rnd}(h:TickF b m x g m' o l1 l2 u vs X)
include hw h
theorem TickF.bef:Bef b m' o:=⟨h.oc,λi hi=>by obtain⟨c,d,_,hf⟩:=h.cars i hi;exact hf.phase,Prod.ext h.lu h.ld⟩
theorem TickF.acc:∀k,k<=b.B0.length->Kp o.B0 k=LV X.lan.lit k
 |0,_=>rfl
 |k+1,hk=>by
  obtain⟨c,d,hl,hf⟩:=h.cars k ω;have e:Wp o.B0 k=Jt X.lan.lit k:=by unfold Wp Jt;rw[hf.lu,hf.ld,hl.1,hl.2.1]
  show BD (Kp o.B0 k) (Wp o.B0 k)=BD (LV X.lan.lit k) (Jt X.lan.lit k);rw[TickF.acc k ω,e]
theorem Bjt(hm:PM b m)(h1:One b m'.F0)(hx:(g=A->JE b x.press=A)/\(g=E->x.press=(0,0)))(hp:Bef b m p):W (Dw b.C0 b.E0 b.I0 b.M0 b.J0 b.L0 b.N0 b.B0 p.G4 p.X3 p.F3 p.R2 p.G6 p.L0 p.M4 p.B0 o.G4 o.X3 o.F3 o.R2 o.G6 o.L0 o.M4 o.B0) λy=>y=((0,()),()):=by
 have hcc:=Ah hw.code;have hoc:=h.oc;have hpl:=hp.len;have hB:=h.bef hw;obtain⟨hL,hbad⟩:=h.lamps hw hx.1 hx.2;have G:=hL.good;have hapart:∀k,k<o.B0.length->BR (Kp o.B0 k) (Wp o.B0 k)=(0,0):=λk hk=>by
  obtain⟨c,d,hl,hf⟩:=h.cars k ω;have e:Wp o.B0 k=Jt X.lan.lit k:=by unfold Wp Jt;rw[hf.lu,hf.ld,hl.1,hl.2.1]
  rw[h.acc hw k ω,e,h.hX];exact Arq b u.F0 u.Y1 vs u.G3 x.press g k (by rw[h.va.len];omega)
 have c1:=Amo (l:=o.B0) ω hapart;have c2:=Bao (l:=o.B0) ω λk hk=>by obtain⟨c,d,_,hf⟩:=h.cars k ω;rw[hf.phase];exact hf.coils
 have c3:=Amn (l:=o.B0) ω λk hk=>by obtain⟨c,d,_,hf⟩:=h.cars k ω;rw[hf.phase];exact hf.cmd
 have c4:=Bap (p:=p.B0) (l:=o.B0) ω ω λk hk=>by rw[hB.ph k ω,hp.ph k ω];exact h.edge hw hm ω
 have c5:=Aqf (l:=o.B0) ω λk j hk hj t1 t2=>by
  rw[hB.ph k ω]at t1;rw[hB.ph j ω]at t2;refine h1 k j ω ω ?_ ?_
  .rcases t1 with q|q|q
   .exact .inl q
   .exact .inr (.inl q)
   .exact .inr (.inr (.inl q))
  .rcases t2 with q|q|q
   .exact .inl q
   .exact .inr (.inl q)
   .exact .inr (.inr (.inl q))
 have ea:=h.acc hw b.B0.length (y_ _);rw[hoc,ea]at c1;have eo:(o.G4,o.X3)=ofC m'.F0.A0 (0,0):=hB.lamps;have es:=h.served;have ep:=hp.lamps;generalize hP:ofC m.F0.A0 (0,0)=P at*;generalize hN:ofC m'.F0.A0 (0,0)=N at*;generalize hC:LV X.lan.lit b.B0.length=C at*;have lu:o.G4=N.1:=by rw[<-eo]
 have ld:o.X3=N.2:=by rw[<-eo]
 have pu:p.G4=P.1:=by rw[<-ep]
 have pd:p.X3=P.2:=by rw[<-ep]
 have su:o.F3=(Au P N).1:=by rw[G.gone,<-es]
 have sd:o.R2=(Au P N).2:=by rw[G.gone,<-es]
 have z6:isZ (Au (Au P N) P)=A:=(Lm (GL _ _)).2 λf hf d _=>by rw[Bd _ _ hf,Bd _ _ hf];cases I P f d<;>cases I N f d<;>rfl
 have z8:isZ (Au (Au P N) C)=A:=(Lm (GL _ _)).2 λf hf d _=>by rw[G.lit,Bd _ _ hf,HI];cases I P f d<;>cases I C f d<;>rfl
 have z10:isZ (Au (Au P N) (Au P N))=A:=by rw[Afz];rfl
 have z14:isZ (BR P (BR N (Au P N)))=A:=(Lm (Uj _ _)).2 λf hf d _=>by rw[HI,HI,Bd _ _ hf];cases I P f d<;>cases I N f d<;>rfl
 unfold Dw;simp only[hpl,hoc,f_ (U_ (b.B0.length:Int)),c_,j_,V_,a8_ (ω:o.B0.length<=b.B0.length),O_,lu,ld,pu,pd,su,sd];refine H σ (J c1 (J (DY P N) (aA rfl (J c2 (aA rfl (J c3 (aA rfl (J c4 (aA rfl ?_)))))))));refine J (DY (Au P N) P) (J (Uu _) (aA (by rw[z6];rfl) (J (DY (Au P N) C) (J (Uu _) (aA (by rw[z8];rfl) ?_)))));refine J (DY (Au P N) (Au P N)) (J (Uu _) (aA (by rw[z10];rfl) (J (EP N (Au P N)) (J (EP P (BR N (Au P N))) (J (Uu _) (aA (by rw[z14];rfl) ?_))))));refine aB (Q:=λy=>y=(((),E,()),((N.1,N.2,(Au P N).1,(Au P N).2,o.G6,o.L0,o.M4,o.B0,()),()))) (U (λq=>?_) λ_=>B rfl) λy16 h16=>?_
 .have hg:g=E:=by
   rw[h.bad]at q;simpa using q
  have e:N=P:=(hbad hg).1;rw[e,Afz];exact aA σ (J (Uu (0,0)) (B rfl))
 .subst h16;obtain⟨_,e17,n,rfl,hn⟩:=c5;exact aA rfl (J e17 (aA (f_ (ω:¬(1:Int)<n)) (B rfl)))
theorem Atv:KH m'.F0.G0 m'.F0.O0 m'.F0.K0 m'.F0.A0=aC ((A,()),()):=by
 have him:=h.pm.jst.img;have hes:=DH hw.small him;have hcc:=Ah hw.code;have q:LM (((),m'.F0.A0,(m'.F0.A0.length:Int),(0:Int),()),(m'.F0.tup,()))=aC (.inl ((),())):=Ig (N:=m'.F0.A0.length) ω (λi=>(((),m'.F0.A0,(m'.F0.A0.length:Int),(i:Int),()),(m'.F0.tup,()))) (λi hi=>by
  have hw':=Lw (ω:m'.F0.A0.length<=100000) hi;have he:=AL (Entry.mk 0 0 0 0 E) hi;have hok:=(CZ.1 (him.en _ he));show Jc m'.F0.A0 (m'.F0.A0.length:Int) (i:Int) m'.F0.G0 m'.F0.O0 m'.F0.K0 m'.F0.A0=_;unfold Jc;rw[Rq hi,Kh hi];simp only[d_,j_];generalize m'.F0.A0.getD i (Entry.mk 0 0 0 0 E)=e at he hok;by_cases e1:e.R0=-1
  .rw[e1,hw'];rfl
  by_cases e2:e.R0=-2
  .rw[e2,hw'];rfl
  rw[Ao e1,Ao e2];obtain⟨j,hj,hjn,hfl,hsv⟩:=h.ent hw he ω;have hs:=WZ him hjn;have i1:inB (j:Int) m'.F0.O0.length=A:=Ac ω (by rw[him.lf];omega);have hfl:m'.F0.O0.getD j E=E:=hfl;rw[hsv]at hs;rw[hj];refine Ae hs ?_;simp only[t_,c_,i1,d_,j_,hfl,hw'];rfl) (by
  show Jc m'.F0.A0 (m'.F0.A0.length:Int) (m'.F0.A0.length:Int) m'.F0.G0 m'.F0.O0 m'.F0.K0 m'.F0.A0=_;unfold Jc;rw[On];rfl)
 unfold KH;exact Ae q rfl
end
def An3(n:Nat):aM:=Outputs.mk 0 0 0 0 E E 0 (aJ n S)
def Ban(hc:b.B0.length<=1000):FD b.C0 b.E0 b.I0 b.M0 b.J0 b.L0 b.N0 b.B0=aC (((),()),(aF (An3 b.B0.length),())):=by unfold FD;simp only[b_ (ω:(0:Int)<=(b.B0.length:Int)),b_ (d9_ (b.B0.length:Int)),b_ (ω:(b.B0.length:Int)<=2147483648),b2_,d_,j_];rfl
def Yh{α:Type}(a d:α)(n k:Nat):(aJ n a).getD k d=a\/(aJ n a).getD k d=d:=by
 rw[k_,List.getElem?_replicate];split
 .exact .inl rfl
 .exact .inr rfl
section
variable{b:V}(hw:BW b)
include hw
theorem Bcn:One b (HL b).1.F0:=by intro c d _ _ h;rw[(UT hw).2.1]at h;have e1:phA (Gu b) c=0:=(Yh (0:Int) 0 b.B0.length c).elim id id;have e2:lvA (Gu b) c=E:=(Yh E E b.B0.length c).elim id id;unfold Ih at h;rw[e1,e2]at h;simp at h
theorem Bas:Bef b (HL b).1 (An3 b.B0.length):=by
 rw[show(HL b).1=(HL b).1 from rfl];refine⟨S_ ..,λi hi=>?_,?_⟩
 .rw[(UT hw).2.1];have e1:phA (Gu b) i=0:=(Yh (0:Int) 0 b.B0.length i).elim id id;rw[e1];have e2:(An3 b.B0.length).B0.getD i S=S:=(Yh S S b.B0.length i).elim id id;rw[e2];rfl
 .rw[(UT hw).2.1];rfl
theorem Aqe{m:Mch}(hm:PM b m):JH b.C0 b.E0 b.I0 b.M0 b.J0 b.L0 b.N0 b.B0 m.F0.G0 m.F0.O0 m.F0.K0 m.F0.A0 m.Z0.h0 m.Z0.h1 m.Z0.sel m.K1 m.U0 m.B0 m.N3 m.Y1 m.G3 m.H4 m.T3 m.A3=aC ((A,()),()):=by have hroom:=hw.room;have hcur:=Buc hm.jst.ok;unfold JH;rw[YB hw.small hw.code m.Z0 ω,hm.jst.replay hw.small];refine Ae rfl ?_;refine Ae (Arb hm.jst.ents.2) ?_;rw[Awe]
end
def Bb1:NV=aC ((A,()),()):=by decide+kernel
section
variable{b:V}(hw:BW b)
include hw
theorem Arl:W (Qd b.C0 b.E0 b.I0 b.M0 b.J0 b.L0 b.N0 b.B0 (aJ (aL (b.B0.length:Int)) 0)) λy=>∃s:Sit,y=(((),0,()),(Z s,()))/\aG b s/\s.m=(HL b).1:=by
 have hcc:=Ah hw.code;have lo:=hw.small.lo;obtain⟨hm,_,hm2⟩:=UT hw;rw[j_];have hl:(aJ b.B0.length (0:Int)).length=b.B0.length:=S_ ..;have h0:∀f∈aJ b.B0.length (0:Int),0<=f/\f<b.C0:=λf hf=>by rw[(List.mem_replicate.1 hf).2];omega
 generalize aJ b.B0.length (0:Int)=l at hl h0;unfold Qd;refine J (Adz hw.small hw.code) ?_;rw[hm2];refine aA rfl (aA (by rw[hl];exact O_ _) (J (Bkz hw hl h0) (aA rfl (aB (Q:=λy=>∃s:Sit,y.2.2.1=Z s/\aG b s/\s.m=(HL b).1) ?_ λy hy=>?_))))
 .unfold Qm;refine aK (λ(k:Nat) z=>∃(i:Nat) (s:Sit),z=(((),(),l,(l.length:Int),(i:Int),()),(Z Sit.none,Z s,()))/\i+k=l.length/\s.m=(HL b).1/\s.rl.length=i/\(∀r∈s.rl,RelOK b r)/\s.rg.length=i/\(∀r∈s.rg,RigOK b.C0 r)) (λk z hz=>?_) l.length ⟨0,⟨(HL b).1,[],[]⟩,rfl,o_ _,rfl,rfl,λr hr=>(by cases hr),rfl,λr hr=>(by cases hr)⟩ ω;obtain⟨i,s,rfl,hk,e1,e2,e3,e4,e5⟩:=hz;show W (s.ap (Sit.none.ap (TY l (l.length:Int) (i:Int)))) _;unfold TY;refine U (λq=>?_) λq=>?_
  .have q:(i:Int)<(l.length:Int):=l_ q;have wr:=Dq (n:=i) ω;have hf:=h0 _ (AL (0:Int) (ω:i<l.length));refine H (Ac ω q) (J rfl (H (AR (by show s.rl.length+1<=_;omega)) (J rfl (H (AR (by show s.rg.length+1<=_;omega)) (B ⟨k-1,ω,i+1,⟨s.m,s.rl++[Relay.mk 0 (l.getD i 0) 0 0 2 0 0 0 0],s.rg++[Rig.mk (l.getD i 0) (l.getD i 0) 0 2 0 0]⟩,by first|(rw[<-wr];rfl)|rw[<-wr],ω,e1,by rw[g_];show s.rl.length+1=_;omega,λr hr=>?_,by rw[g_];show s.rg.length+1=_;omega,λr hr=>?_⟩)))))
   .rcases n_.1 hr with hr|hr
    .exact e3 r hr
    .rw[B_.1 hr];exact RelOK.new hw.small hw.code hf
   .rcases n_.1 hr with hr|hr
    .exact e5 r hr
    .rw[B_.1 hr];exact RigOK.new hf
  .have q:=C_ q;exact B ⟨s,rfl,⟨by rw[e1];exact hm,ω,e3,ω,e5⟩,e1⟩
 .obtain⟨s,g1,g2⟩:=hy;rw[g1];exact B ⟨s,rfl,g2⟩
theorem Bkf{l:List Int}(hl:l.length<=maxLen)(hv:∀e∈l,u8r e)(hi:i<1000)(s:Sit)(p:aM):W (FR ((l,(),(),0,(),(i:Int),(),(0:Int),()),(b.tup,Z s,aF p,(0,0,0,0,0,()),()))) λy=>∃x0 x1 x2 x3 x4,y=((l,(),(),0,(),(i:Int),(),()),(b.tup,Z s,aF p,(x0,x1,x2,x3,x4,()),()))/\u8r x0/\u8r x1/\u8r x2/\u8r x3/\u8r x4:=by
 have hm:maxLen<=9223372036854775807:=by decide
 unfold FR;refine aK (λ(k:Nat) z=>∃(j:Nat) (x0 x1 x2 x3 x4:Int),z=((l,(),(),0,(),(i:Int),(),(j:Int),()),(b.tup,Z s,aF p,(x0,x1,x2,x3,x4,()),()))/\j+k=5/\u8r x0/\u8r x1/\u8r x2/\u8r x3/\u8r x4) (λk z hz=>?_) 5 ⟨0,0,0,0,0,0,rfl,rfl,Ap2,Ap2,Ap2,Ap2,Ap2⟩ τ;obtain⟨j,x0,x1,x2,x3,x4,rfl,hk,h0,h1,h2,h3,h4⟩:=hz;show W (p.ap (s.ap (b.ap (Nt l 0 (i:Int) (j:Int)))) x0 x1 x2 x3 x4) _;unfold Nt;refine U (λq=>U (λq2=>?_) λ_=>B ⟨x0,x1,x2,x3,x4,rfl,h0,h1,h2,h3,h4⟩) λ_=>B ⟨x0,x1,x2,x3,x4,rfl,h0,h1,h2,h3,h4⟩;have q:(j:Int)<5:=l_ q;have q2:(0:Int)<(l.length:Int):=l_ q2;have wr:=Dq (n:=j) ω;have w:O.wrap (aD O (5*(i:Int))+(j:Int))=((5*i+j:Nat):Int):=by rw[Aa (n:=5*(i:Int)) ω ω,Aa ω ω];omega
 have hz:0<=aE (aD O (aD O (5*(i:Int))+(j:Int))) (l.length:Int)/\aE (aD O (aD O (5*(i:Int))+(j:Int))) (l.length:Int)<(l.length:Int):=by rw[w,b4_ ω];exact⟨Int.emod_nonneg _ ω,Int.emod_lt_of_pos _ q2⟩
 have hx:u8r (l.getD (aL (aE (aD O (aD O (5*(i:Int))+(j:Int))) (l.length:Int))) 0):=hv _ (AL (0:Int) ω);have sel:∀(g:Bool) {u v:Int},u8r u->u8r v->u8r (bif g then u else v):=λg u v a c=>by cases g;exact c;exact a
 refine H (bne_iff_ne.2 ω) (H (Ac hz.1 hz.2) (H (Ac ω q) (B ⟨k-1,ω,j+1,_,_,_,_,_,by first|(rw[<-wr];rfl)|rw[<-wr],ω,sel _ hx h0,sel _ hx h1,sel _ hx h2,sel _ hx h3,sel _ hx h4⟩)))
theorem Bc8{l:List Int}(hl:l.length<=maxLen)(hv:∀e∈l,u8r e)(hs:aG b s)(h1:One b s.m.F0)(hp:Bef b s.m p):W (FQ ((l,(),(),0,(),(0:Int),()),(b.tup,Z s,aF p,()))) λy=>y=.inl ((),()):=by unfold FQ;refine aK (λ(k:Nat) z=>∃(i:Nat) (s:Sit) (p:aM),z=((l,(),(),0,(),(i:Int),()),(b.tup,Z s,aF p,()))/\i+k=120/\aG b s/\One b s.m.F0/\Bef b s.m p) (λk z hz=>?_) 120 ⟨0,s,p,rfl,rfl,hs,h1,hp⟩ τ;obtain⟨i,s,p,rfl,hk,hs,h1,hp⟩:=hz;show W (p.ap (s.ap (b.ap (Ns l 0 (i:Int))))) _;unfold Ns;refine U (λq0=>?_) λ_=>B rfl;have q0:(i:Int)<120:=l_ q0;have hwr:=Dq (n:=i) ω;refine aB (Bkf hw hl hv (ω:i<1000) s p) λy1 g1=>?_;obtain⟨x0,x1,x2,x3,x4,rfl,a0,a1,a2,a3,a4⟩:=g1;obtain⟨_,e2,u,rfl,hu⟩:=Bjn hw a0 a1 a2 a3 a4;have hu':PshOK b ⟨u.press,u.kind,u.car,u.cars,u.times,u.blocks,u.loads,aE (i:Int) 19==7⟩:=⟨hu.press,hu.pu,hu.kind,hu.car,hu.none,hu.cl,hu.cv,hu.tl,hu.bl,hu.ll⟩;obtain⟨_,e3,t,o,rfl,ht,q,x,g,l1,l2,v,vs,X,hx,hF⟩:=Apn hw hs hu';have h1':=hF.one hw hs.pm h1;refine J e2 (J rfl (J e3 (aA rfl (aA rfl (aB (Bjt hw hF hs.pm h1' hx.press hp) λy3 h3=>?_)))));subst h3;exact aA rfl (J (Atv hw hF) (aA rfl (J (Aqe hw ht.pm) (aA rfl (B ⟨k-1,ω,i+1,t,o,by first|(rw[<-hwr];rfl)|rw[<-hwr],ω,ht,h1',hF.bef hw⟩)))))
end
def Ah1(n_f0:Int)(n_f1:Int)(n_f2:Int)(l:List Int)(h_n_f0:0<=n_f0/\n_f0<256)(h_n_f1:0<=n_f1/\n_f1<256)(h_n_f2:0<=n_f2/\n_f2<256)(h_l:l.length<=maxLen/\∀e∈l,(0<=e/\e<256)):F_l30_AuditSites n_f0 n_f1 n_f2 l=aC ((A,()),()):=by
 refine Sat.eq ?_;unfold F_l30_AuditSites;obtain⟨_,hbl,b,rfl,hw⟩:=Bt5 h_n_f0 h_n_f1 h_n_f2;have hcc:=Ah hw.code;refine J hbl (H ?_ (aB (Arl hw) λy2 h2=>?_))
 .show((decide ((0:Int)<=(b.B0.length:Int))&&decide ((b.B0.length:Int)<=(b.B0.length:Int)))&&decide ((b.B0.length:Int)<=2147483648))=A;rw[b_ (ω:(0:Int)<=(b.B0.length:Int)),b_ (d9_ (b.B0.length:Int)),b_ (ω:(b.B0.length:Int)<=2147483648)];rfl
 obtain⟨s,rfl,hs,hm⟩:=h2;refine J (Ban ω) (aB (Bc8 hw h_l.1 h_l.2 hs (by rw[hm];exact Bcn hw) (by rw[hm];exact Bas hw)) λy5 h5=>?_);subst h5;exact J Bb1 (B rfl)
end Go.Ovl
