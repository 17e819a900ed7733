import Derived.Test.YtefkhaccplcieaaGreatDoorOvK
set_option linter.all false
open Go.Ovl.Sat renaming ret->A,bindS->D,bifT->H,bic->I,bindE->R,loop->aB
open Bool renaming false->B,true->C
open Go.Ovl renaming Ac->J,Pk->N,CarOutput->P,Bldg->S,Record->U,Sat->V,flA->W,phA->Z,noV->o
open Go.Ab renaming inB->Y
open Go.Ovl.CarOutput renaming mk->aA
open Go.Ovl.machine_ticker renaming mk->aC
open List renaming replicate->aD,set_set->aE
namespace Go.Ovl
open Go Go.Ab
set_option maxRecDepth 100000
variable{b:S}{t:N}{i:Nat}{l:List P}{m:Img}
def Pk.stat(t:N)(n:Int):N:={ t with out:={ t.out with U5:=n } }
def Pk.sRst(t:N)(i:Nat):N:={ t with reset:=t.reset.set i C }
def PR.sRst(h:PR b t)(i:Nat):PR b (t.sRst i):=⟨h.leg,h.sho,by show(t.reset.set i C).length=_;rw[y_];exact h.rst,h.oc⟩
def Md(m:Img)(kind:Int)(i:Nat)(calm fr:Bool):List U×Int:=bif kind==0 then([],(0:Int))else NS m i calm fr kind
def JA(b:S)(r:U):Prop:=∃(i:Nat) (k v:Int),i<b.B0.length∧r=⟨k,0,0,i,v⟩∧((k=4∧0≤v∧v≤4)∨((k=5∨k=6)∧0≤v∧v≤1))
def Arh(hcode:b.code=0){l:List U}(h:∀r∈l,JA b r):K3 l∧∀r∈l,Au b r=C:=by
 refine⟨λr hr=>?_,λr hr=>?_⟩<;>obtain⟨i,k,v,hi,rfl,h⟩:=h r hr
 ·show k=4∨k=5∨k=6;omega
 ·exact Akc hcode ⟨ω,ω⟩ h
def Bf0(hi:i<b.B0.length){k v:Int}(h:(k=4∧0≤v∧v≤4)∨((k=5∨k=6)∧0≤v∧v≤1)):∀r∈[(⟨k,0,0,i,v⟩:U)],JA b r:=λr hr=>⟨i,k,v,hi,E_.1 hr,h⟩
def Zl(m:Img)(kind:Int)(hi:i<b.B0.length)(calm fr:Bool):(∀r∈(Md m kind i calm fr).1,JA b r)∧(Md m kind i calm fr).1.length≤1:=by
 have no:∀e:Int,(∀r∈(([]:List U),e).1,JA b r)∧(([]:List U),e).1.length≤1:=λe=>⟨λr h=>(by cases h),a5_ _⟩
 have one:∀{k v:Int},((k=4∧0≤v∧v≤4)∨((k=5∨k=6)∧0≤v∧v≤1))→(∀r∈([(⟨k,0,0,i,v⟩:U)],(0:Int)).1,JA b r)∧([(⟨k,0,0,i,v⟩:U)],(0:Int)).1.length≤1:=λh=>⟨Bf0 hi h,A_ 1⟩
 unfold Md NS;have ite:∀(c:Bool) {x y:List U×Int},((∀r∈x.1,JA b r)∧x.1.length≤1)→((∀r∈y.1,JA b r)∧y.1.length≤1)→(∀r∈(bif c then x else y).1,JA b r)∧(bif c then x else y).1.length≤1:=λc _ _ h1 h2=>by
  cases c
  ·exact h2
  ·exact h1
 exact ite _ (no 0) (ite _ (ite _ (one (.inl ⟨rfl,τ⟩)) (no _)) (ite _ (one (.inl ⟨rfl,τ⟩)) (ite _ (one (.inl ⟨rfl,τ⟩)) (ite _ (one (.inr ⟨.inr rfl,τ⟩)) (ite _ (one (.inl ⟨rfl,τ⟩)) (ite _ (ite _ (one (.inl ⟨rfl,τ⟩)) (no _)) (ite _ (ite _ (one (.inl ⟨rfl,τ⟩)) (no _)) (ite _ (ite _ (one (.inr ⟨.inr rfl,τ⟩)) (no _)) (ite _ (one (.inr ⟨.inl rfl,τ⟩)) (no _))))))))))
def Agm{b:S}(m:Img)(calm:List Bool):∀n,n≤b.B0.length→∀r∈DO m calm n,JA b r
 |0,_,_,h=>by cases h
 |n+1,hn,r,h=>by
  rcases n_.1 h with h | h
  ·exact Agm m calm n ω r h
  ·unfold Ox at h;cases hg:OD m calm n with
   |false=>rw[hg]at h;cases h
   |true=>
    rw[hg,d_]at h;rcases n_.1 h with h | h
    ·rcases n_.1 h with h | h
     ·exact⟨n,4,2,ω,E_.1 h,.inl ⟨rfl,τ⟩⟩
     ·cases hl:HP m n with
      |false=>rw[hl]at h;cases h
      |true=>rw[hl]at h;exact⟨n,6,0,ω,E_.1 h,.inr ⟨.inr rfl,τ⟩⟩
    ·cases hl:W m n with
     |false=>rw[hl]at h;cases h
     |true=>rw[hl]at h;exact⟨n,5,0,ω,E_.1 h,.inr ⟨.inl rfl,τ⟩⟩
def Iw(b:S)(m:Img)(kind:Int)(i:Nat)(cm:List Bool)(fr:Bool):List U:=(Md m kind i (cm.getD i B) fr).1++DO (Ai m (Md m kind i (cm.getD i B) fr).1) (bif kind !=0 then cm.set i B else cm) b.B0.length
structure Opr(b:Bldg)(x:Inp)(g:Bool)(t t':Pk)(l:List Record):Prop where
 res:Al b t t' l∨De b t t' l
 how:∃(i:Nat) (cm:List Bool) (fr:Bool),x.car=(i:Int)∧i<b.B0.length∧cm.length=b.B0.length∧l=Iw b t.m.E0 x.kind i cm fr∧t'.out={ t.out with U5:=(Md t.m.E0 x.kind i (cm.getD i false) fr).2 }∧BL (t.ap machine_ticker.mk b x g)=some ((cm,()),())∧CY t.m.E0.G0 t.m.E0.O0 t.m.E0.J0 t.m.E0.A0=some ((fr,()),())
section
variable{b:S}(hw:BW b){x:Inp}{g:Bool}(hx:InOK b x)
include hw
theorem BelOK.new:BelOK b i ⟨-1,0,0,[],0,B⟩:=by
 have:=hw.small.lo
 exact⟨⟨τ,show(-1:Int)≤b.C0-1 by omega⟩,τ,τ,τ,λ_=>rfl,.nil⟩
theorem Bf4(hm:PM b t.m)(hr:PR b t)(e:Int)(was:Img)(hwl:was.G0.length=b.B0.length):V (BC (((),(),(),e,t.m.E0.G0,(t.m.E0.G0.length:Int),(0:Int),()),((was.G0,was.O0,was.J0,was.A0,()),(x.kind,x.car,()),t.tup b x g,()))) λy=>∃t':N,y=((),(t'.tup b x g,()))∧PM b t'.m∧PR b t'∧Fix t t'∧t'.out=t.out:=by
 have hcc:=Aj hw.code;have hp:=hm.jst.img.lp;unfold BC;refine aB (λ(k:Nat) z=>∃(i:Nat) (t':N),z=(((),(),(),e,t.m.E0.G0,(t.m.E0.G0.length:Int),(i:Int),()),((was.G0,was.O0,was.J0,was.A0,()),(x.kind,x.car,()),t'.tup b x g,()))∧i+k=b.B0.length∧PM b t'.m∧PR b t'∧Fix t t'∧t'.out=t.out) (λk z hz=>?_) b.B0.length ⟨0,t,rfl,p_ _,hm,hr,.rfl' t,rfl⟩ ω;obtain⟨i,u,rfl,hk,hm,hr,hf,ho⟩:=hz;show V (u.ap (ET e t.m.E0.G0 (t.m.E0.G0.length:Int) (i:Int) was.G0 was.O0 was.J0 was.A0 x.kind x.car) b x g) _;unfold Pk.ap ET;refine I (λq=>?_) λ_=>A ⟨u,rfl,hm,hr,hf,ho⟩;have q:(i:Int)<(t.m.E0.G0.length:Int):=m_ q;have hi:i<b.B0.length:=ω;have w:=Dn (n:=i) ω;have i2:Y (i:Int) u.m.U0.length=C:=J ω (by rw[hm.bel];omega);have i3:Y (i:Int) u.m.B0.length=C:=J ω (by rw[hm.car];omega);have i4:Y (i:Int) u.reset.length=C:=J ω (by rw[hr.rst];omega);refine H (J ω q) (H (J ω ω) ?_);refine D (Q:=λ_=>True) (by unfold Mm;exact Sat.go) λy1 _=>I (λ_=>?_) λ_=>?_
 ·refine R rfl (H i2 (H i3 (H i4 ?_)));exact A ⟨k-1,ω,i+1,((u.sBel i ⟨-1,0,0,[],0,B⟩).sCar i Bw).sRst i,by first | (rw[← w];rfl) | rw[← w],ω,(hm.sBel (BelOK.new hw)).sCar i (ND hw.small),((hr.sBel i _).sCar i _).sRst i,⟨⟨hf.im,hf.st,hf.bu,hf.e,hf.out⟩,hf.con⟩,ho⟩
 refine D (Q:=λy=>∃c:Bool,y=(((),(),(),e,(i:Int),t.m.E0.G0,(t.m.E0.G0.length:Int),(i:Int),c,()),((was.G0,was.O0,was.J0,was.A0,()),(x.kind,x.car,()),u.tup b x g,()))) (I (λ_=>I (λ_=>A ⟨_,rfl⟩) λ_=>A ⟨_,rfl⟩) λ_=>A ⟨_,rfl⟩) λy3 h3=>?_;obtain⟨c,rfl⟩:=h3;refine I (λ_=>H i2 ?_) λ_=>A ⟨k-1,ω,i+1,u,by first | (rw[← w];rfl) | rw[← w],ω,hm,hr,hf,ho⟩;refine D (Ad0 hw.small hw.code hi (hm.belv i hi)) λy4 h4=>H i2 (H i3 (H i4 ?_));obtain⟨ya,yb,yc⟩:=y4;obtain⟨v,e4,hv⟩:=h4;change yb=_ at e4;subst e4;exact A ⟨k-1,ω,i+1,((u.sBel i v).sCar i Bw).sRst i,by first | (rw[← w];rfl) | rw[← w],ω,(hm.sBel hv).sCar i (ND hw.small),((hr.sBel i _).sCar i _).sRst i,⟨⟨hf.im,hf.st,hf.bu,hf.e,hf.out⟩,hf.con⟩,ho⟩
include hx
theorem Bb1(hm:PM b t.m)(hr:PR b t)(hb:Bud t):V (t.ap Dw b x g) λy=>∃(t':N) (l:List U),(y=.inl ((),(t'.tup b x g,()))∨y=.inr ((),(t'.tup b x g,())))∧Opr b x g t t' l:=by
 have hcc:=Aj hw.code;have he:=DQ hw.small hm.jst.img;obtain⟨fr,hfr⟩:=Bkk hm.jst.img;obtain⟨i,hi⟩:=e0_ hx.car.1;have hic:i<b.B0.length:=by have:=hx.car.2;omega
 unfold Pk.ap Dw;obtain⟨y1,hcalm,cm,rfl,hcm,_⟩:=Bal hw (x:=x) (g:=g) hm hx.len;refine R hcalm ?_;have hord:=Ahv hm.jst.img hw.small ω hx.kind hic hcm hfr;rw[← hi]at hord;refine R hord ?_;obtain⟨ok1,len1⟩:=Zl (b:=b) t.m.E0 x.kind hic (cm.getD i B) fr;obtain⟨k31,v1⟩:=Arh hw.code ok1;have hO:(bif x.kind==0 then([],(0:Int))else NS t.m.E0 i (cm.getD i B) fr x.kind)=Md t.m.E0 x.kind i (cm.getD i B) fr:=rfl;have hL:Iw b t.m.E0 x.kind i cm fr=(Md t.m.E0 x.kind i (cm.getD i B) fr).1++DO (Ai t.m.E0 (Md t.m.E0 x.kind i (cm.getD i B) fr).1) (bif x.kind !=0 then cm.set i B else cm) b.B0.length:=rfl;rw[hO];generalize hOO:Md t.m.E0 x.kind i (cm.getD i B) fr=O at ok1 len1 k31 v1 hL;obtain⟨O1,O2⟩:=O;refine D (Q:=λy=>∃t',y=(((),(),(),cm,O2,()),((t.m.E0.G0,t.m.E0.O0,t.m.E0.J0,t.m.E0.A0,()),(x.kind,x.car,()),t'.tup b x g,()))∧Wr b (t.stat O2) O1 t') ?_ λy5 h5=>?_
 ·refine D (Aaq hw.small (x:=x) (g:=g) (t:=t.stat O2) hm.jst hb.2 hb.1 (k31.good _ v1) (show O1.length≤100000 by have:O1.length≤1:=len1;omega)) λy2 h2=>?_;obtain⟨t',e | e,h⟩:=h2
  ·subst e;exact A ⟨t',rfl,h⟩
  ·subst e;exact A ⟨t',rfl,h⟩
 obtain⟨t1,rfl,hw1⟩:=h5;obtain⟨r1,o1⟩:=hw1.fin hw (t:=t.stat O2) hm ⟨hr.leg,hr.sho,hr.rst,hr.oc⟩ k31;have r1:Al b t t1 O1∨De b t t1 O1:=by
  rcases r1 with r | r
  ·exact .inl ⟨r.e,r.m,r.r,r.im,r.b0,r.b1,r.b2,r.con⟩
  ·exact .inr ⟨r.e,r.lo,r.ok,r.rp⟩
 have hsl:(bif x.kind !=0 then cm.set i B else cm).length=b.B0.length:=by
  cases x.kind !=0
  ·exact hcm
  ·show(cm.set i B).length=_;rw[y_];exact hcm
 refine R (b:=(((),(),(),(bif x.kind !=0 then cm.set i B else cm),O2,()),((t.m.E0.G0,t.m.E0.O0,t.m.E0.J0,t.m.E0.A0,()),(x.kind,x.car,()),t1.tup b x g,()))) ?_ ?_
 ·show(bif x.kind !=0 then(bif Y x.car cm.length then _ else none)else _)=_;cases x.kind !=0 with
  |false=>rfl
  |true=>rw[d_,J hx.car.1 (by have:=hx.car.2;omega),d_,d_];show some (((),(),(),cm.set (Int.toNat x.car) B,_,()),_)=_;rw[hi,h_]
 generalize(bif x.kind !=0 then cm.set i B else cm)=c2 at hsl hL;refine D (Q:=λy=>∃t2,y=(((),(),(),O2,()),((t.m.E0.G0,t.m.E0.O0,t.m.E0.J0,t.m.E0.A0,()),(x.kind,x.car,()),t2.tup b x g,()))∧(Al b t t2 (Iw b t.m.E0 x.kind i cm fr)∨De b t t2 (Iw b t.m.E0 x.kind i cm fr))∧t2.out={ t.out with U5:=O2 }) ?_ λy11 h11=>?_
 ·refine I (λq=>?_) λq=>?_
  ·have q:t1.e=0:=eq_of_beq q;have r:Al b t t1 O1:=by
    rcases r1 with r | r
    ·exact r
    ·have:=r.e;omega
   have he1:=DQ hw.small r.m.jst.img;have hb1:=r.bud hb;refine D (Q:=λy=>∃t2,y=(((),(),(),O2,()),((t.m.E0.G0,t.m.E0.O0,t.m.E0.J0,t.m.E0.A0,()),(x.kind,x.car,()),t2.tup b x g,()))∧(Al b t t2 (Iw b t.m.E0 x.kind i cm fr)∨De b t t2 (Iw b t.m.E0 x.kind i cm fr))∧t2.out={ t.out with U5:=O2 }) ?_ λy10 h10=>by obtain⟨t2,rfl,h⟩:=h10;exact A ⟨t2,rfl,h⟩
   have hauto:=Akz r.m.jst.img hw.small ω hsl;have ok2:=Agm (b:=b) t1.m.E0 c2 b.B0.length (A_ _);have len2:=US t1.m.E0 c2 b.B0.length;rw[r.im]at ok2 len2;obtain⟨k32,v2⟩:=Arh hw.code ok2;refine R hauto ?_;rw[r.im];refine D (Aaq hw.small (x:=x) (g:=g) (t:=t1) r.m.jst hb1.2 hb1.1 (k32.good _ v2) (ω:(DO (Ai t.m.E0 O1) c2 b.B0.length).length≤100000)) λy2 h2=>?_;have fin:∀t2,Wr b t1 (DO (Ai t.m.E0 O1) c2 b.B0.length) t2→(Al b t t2 (Iw b t.m.E0 x.kind i cm fr)∨De b t t2 (Iw b t.m.E0 x.kind i cm fr))∧t2.out={ t.out with U5:=O2 }:=λt2 h=>by
    obtain⟨r2,o2⟩:=h.fin hw r.m r.r k32;rw[hL];refine⟨?_,by rw[o2,o1];rfl⟩;rcases r2 with r2 | r2
    ·exact .inl (r.app r2)
    ·exact .inr (r.de r2)
   obtain⟨t2,e | e,h⟩:=h2
   ·subst e;exact A ⟨t2,rfl,fin t2 h⟩
   ·subst e;exact A ⟨t2,rfl,fin t2 h⟩
  ·have q:¬t1.e=0:=λh=>by have q:(t1.e==0)=B:=q;rw[h]at q;cases q
   rcases r1 with r | r
   ·exact absurd r.e q
   ·exact A ⟨t1,rfl,.inr (by rw[hL];exact r.mono _),by rw[o1];rfl⟩
 ·obtain⟨t2,rfl,r2,o2⟩:=h11;have how:∀t':N,t'.out={ t.out with U5:=O2 }→∃(i':Nat) (cm':List Bool) (fr':Bool),x.car=(i':Int)∧i'<b.B0.length∧cm'.length=b.B0.length∧Iw b t.m.E0 x.kind i cm fr=Iw b t.m.E0 x.kind i' cm' fr'∧t'.out={ t.out with U5:=(Md t.m.E0 x.kind i' (cm'.getD i' B) fr').2 }∧BL (t.ap aC b x g)=some ((cm',()),())∧CY t.m.E0.G0 t.m.E0.O0 t.m.E0.J0 t.m.E0.A0=some ((fr',()),()):=λt' ho=>⟨i,cm,fr,hi,hic,hcm,rfl,by rw[hOO];exact ho,hcalm,hfr⟩
  refine I (λ_=>A ⟨t2,_,.inl rfl,r2,how t2 o2⟩) λq=>?_;have q:t2.e=0:=by have q:(t2.e !=0)=B:=q;simpa using q
  have r:Al b t t2 (Iw b t.m.E0 x.kind i cm fr):=by
   rcases r2 with r | r
   ·exact r
   ·have:=r.e;omega
  refine D (Bf4 hw (x:=x) (g:=g) r.m r.r O2 t.m.E0 hm.jst.img.lp) λy12 h12=>?_;obtain⟨t3,rfl,m3,r3,f3,o3⟩:=h12;exact A ⟨t3,_,.inr rfl,.inl ⟨f3.e.trans r.e,m3,r3,f3.im.trans r.im,by rw[f3.bu];exact r.b0,by rw[f3.bu];exact r.b1,by rw[f3.bu];exact r.b2,f3.con.trans r.con⟩,how t3 (o3.trans o2)⟩
end
def inX(l:List Int):Prop:=∀x∈l,0≤x∧x≤1000000
def inX.exp{l:List Int}(h:inX l):Qm l=C:=N_.2 λx hx=>As.2 (h x hx)
def Bt5(E:List Entry){xs:List Int}(h:inX xs)(r:U):inX (xsV E xs r):=by
 unfold xsV;cases(r.Q0==2)&&Gf (Aw r.D0 r.I0) E with
 |true=>
  intro x hx;rcases n_.1 hx with hx | hx
  ·exact h x (d8_ hx)
  ·exact h x (d9_ hx)
 |false=>
  cases(r.Q0==1)&&!Gf (Aw r.D0 r.I0) E with
  |true=>
   intro x hx;rcases n_.1 hx with hx | hx
   ·rcases n_.1 hx with hx | hx
    ·exact h x (d8_ hx)
    ·rw[E_.1 hx];decide
   ·exact h x (d9_ hx)
  |false=>exact h
def Bgk(hcode:b.code=0)(i:Int):0≤(WP b i).K2∧(WP b i).K2≤10000:=by
 by_cases h:i.toNat<b.B0.length
 ·exact(Ad7 hcode h).2.2.2
 ·unfold WP;rw[k_,List.getElem?_eq_none ω];decide
def Bfv(hcode:b.code=0)(vs:List View)(e n:Entry){x:Int}(hx:0≤x∧x≤1000000):0≤Aag b vs e n x∧Aag b vs e n x≤1000000:=by
 unfold Aag;have h1:=Bkh b n.R0 (Ar vs n.R0) e.D0 e.I0;have h2:=Bgk hcode n.R0;rw[Aa (n:=x-1) ω ω,Aa (n:=Sw b n.R0 (Ar vs n.R0) e.D0 e.I0+(WP b n.R0).K2) ω ω];cases n.R0 !=e.R0&&decide (0≤n.R0)with
 |true=>
  rw[d_];by_cases g:1000000<Sw b n.R0 (Ar vs n.R0) e.D0 e.I0+(WP b n.R0).K2
  ·rw[b_ g,d_];decide
  ·rw[f_ g,c_];omega
 |false=>
  rw[c_];by_cases g:x-1<0
  ·rw[b_ g,d_];decide
  ·rw[f_ g,c_];omega
def Aon{b:S}(hcode:b.code=0)(vs:List View):∀(l:List Entry) (xs:List Int),inX xs→inX (MB b vs l xs)
 |[],_,_,_,h=>by simp[MB]at h
 |_::_,[],_,_,h=>by simp[MB]at h
 |e::t,x::xs,hx,y,h=>by
  rcases s_.1 h with rfl | h
  ·exact Bfv hcode vs e _ (hx x (q_ ..))
  ·exact Aon hcode vs t xs (λz hz=>hx z (r_ _ hz)) y h
def Avz(a c:Entry):∀r∈NF a c,r.Q0=3∨r.Q0=7:=by
 unfold NF;intro r h;rcases n_.1 h with h | h
 ·cases q:(a.Z0 !=c.Z0||!(a.R1==c.R1))with
  |false=>rw[q]at h;cases h
  |true=>rw[q]at h;rw[E_.1 h];exact .inr rfl
 ·cases q:a.R0 !=c.R0 with
  |false=>rw[q]at h;cases h
  |true=>rw[q]at h;rw[E_.1 h];exact .inl rfl
def Qt(b:S)(vs:List View):∀(l:List Entry) (xs:List Int),∀r∈GW b vs l xs,r.Q0=3∨r.Q0=7
 |[],_,_,h=>by simp[GW]at h
 |_::_,[],_,h=>by simp[GW]at h
 |e::t,x::xs,r,h=>by
  rcases n_.1 h with h | h
  ·exact Avz _ _ r h
  ·exact Qt b vs t xs r h
structure Rg(b:Bldg)(m:Img)(X:Rnd):Prop where
 good:goodL b m X.recs
 img:Ai m X.recs=X.img
 ok:X.ok b
 xs:inX X.xs
def Rg.step{X:Rnd}(h:Rg b m X){r:U}(hv:Au b r=C)(hf:JC b X.img r=B):Rg b m (RM r X):=⟨h.good.app (k:=[r]) ⟨hv,by rw[h.img];exact hf,trivial⟩,by show Ai m (X.recs++[r])=Am X.img r;rw[En,h.img];rfl,XS h.ok hv,Bt5 _ h.xs r⟩
def Rg.wr{b:S}{m:Img}:∀{l:List U}{X:Rnd},Rg b m X→goodL b X.img l→Rg b m (wrL l X)
 |[],X,h,_=>by unfold wrL;rw[a2_];exact⟨h.good,h.img,⟨h.ok.img,h.ok.len⟩,h.xs⟩
 |r::t,X,h,⟨h1,h2,h3⟩=>by rw[XV];exact Rg.wr (h.step h1 h2) h3
def Rg.reg{b:S}{m:Img}:∀{l:List Entry}{X:Rnd},Rg b m X→(∀e∈l,Ap b e.D0 e.I0=C)→Rg b m (Ek b l X)
 |[],_,h,_=>h
 |e::t,X,h,hv=>by
  refine Rg.reg (l:=t) (X:=Cj b e X) ?_ λx hx=>hv x (r_ _ hx);unfold Cj;cases hr:JY b X.img with
  |true=>exact h.step (Zv (hv e (q_ ..))) (by unfold JC;rw[hr];simp)
  |false=>exact⟨h.good,h.img,⟨h.ok.img,h.ok.len⟩,h.xs⟩
section
variable{b:S}(hb:b.small)(hcode:b.code=0){m:Img}(hm:ImgOK b m){xs:List Int}(hx:xs.length=m.A0.length)(hxv:inX xs){vs:List View}(ps:List Calls)(press:Int×Int)(good:Bool)
include hb hcode hm hx hxv
theorem UJ:Rg b m (Bq b m xs vs ps press good):=by
 have h0:∀L:Lan,Rg b m ⟨[],m,xs,L,(0,0)⟩:=λL=>⟨trivial,rfl,⟨hm,hx⟩,hxv⟩
 unfold Bq;cases good with
 |false=>exact h0 _
 |true=>have hv:=RL hcode vs (l:=m.A0) λe he=>(CM.1 (hm.en e he)).1;exact((h0 _).wr (Xr m λr hr=>⟨(hv r hr).1,by rw[(hv r hr).2];decide⟩)).reg λe he=>Xo hb hcode he
variable(hvl:vs.length=b.B0.length)
include hvl
theorem QB:Ts b m xs vs ps press good=(GW b vs (Bq b m xs vs ps press good).img.A0 (Bq b m xs vs ps press good).xs,MB b vs (Bq b m xs vs ps press good).img.A0 (Bq b m xs vs ps press good).xs,0,()):=by have h:=UJ hb hcode hm hx hxv (vs:=vs) ps press good;unfold Ts OF;rw[Img.ok_iff.2 h.ok.img,show(((Bq b m xs vs ps press good).xs.length:Int)==((Bq b m xs vs ps press good).img.A0.length:Int))=C by rw[h.ok.len];exact l_ _,show((vs.length:Int)==(b.B0.length:Int))=C by rw[hvl];exact l_ _,h.xs.exp];rfl
theorem Adj:Rg b m (EA b m xs vs ps press good)∧(EA b m xs vs ps press good).recs.length≤300:=by
 have hcc:=Aj hcode;have h:=UJ hb hcode hm hx hxv (vs:=vs) ps press good;have hlen:=(Ape hb hcode hm hx (vs:=vs) ps press good).2;have hp:=QB hb hcode hm hx hxv (vs:=vs) ps press good hvl;have he:=DQ hb h.ok.img;unfold EA;rw[hp];generalize Bq b m xs vs ps press good=X at h hlen he;obtain⟨p1,p2,p3⟩:=To (b:=b) ω (by omega:(vs.length:Int)=(b.B0.length:Int)) X.img.A0 X.xs [] X.img h.ok.len h.ok.img rfl;rw[a1_]at p1 p3;have hk:=Qt b vs X.img.A0 X.xs;have hw:=h.wr (l:=GW b vs X.img.A0 X.xs) (Xr X.img λr hr=>⟨p2 r hr,by have:=hk r hr;omega⟩);have hl:=Zr b vs X.img.A0 X.xs;refine⟨⟨hw.good,hw.img,⟨hw.ok.img,?_⟩,Aon hcode vs _ _ h.xs⟩,?_⟩
 ·show(MB b vs X.img.A0 X.xs).length=(Ai X.img (GW b vs X.img.A0 X.xs)).A0.length;rw[p1,Zq b vs _ _ h.ok.len];show _=(OS b vs X.img.A0 X.xs).length;rw[WY b vs _ _ h.ok.len]
 ·show(X.recs++GW b vs X.img.A0 X.xs).length≤300;rw[i_];omega
end
def An4(b:S)(vs:List View)(ps:List Calls):∀(m i:Nat) (s:Lan),(Bo (KC b vs ps) m i s).lit.length=s.lit.length+m∧(Bo (KC b vs ps) m i s).gong.length=s.gong.length+m
 |0,_,_=>⟨rfl,rfl⟩
 |m+1,i,s=>by
  obtain⟨h1,h2⟩:=An4 b vs ps m (i+1) (KC b vs ps i s);have e1:(KC b vs ps i s).lit.length=s.lit.length+1:=by unfold KC;show(s.lit++[_]).length=_;rw[i_];rfl
  have e2:(KC b vs ps i s).gong.length=s.gong.length+1:=by unfold KC;show(s.gong++[_]).length=_;rw[i_];rfl
  exact⟨by show(Bo (KC b vs ps) m (i+1) (KC b vs ps i s)).lit.length=_;omega,by show(Bo (KC b vs ps) m (i+1) (KC b vs ps i s)).gong.length=_;omega⟩
def Ac8(b:S):∀(l:List Entry) (X:Rnd),(Ek b l X).lan=X.lan
 |[],_=>rfl
 |e::t,X=>by show(Ek b t (Cj b e X)).lan=X.lan;rw[Ac8 b t];unfold Cj;cases JY b X.img<;>rfl
def ZL(b:S)(m:Img)(xs:List Int)(vs:List View)(ps:List Calls)(press:Int×Int)(good:Bool):(EA b m xs vs ps press good).lan=bif good then CT b vs ps else Aua vs.length:=by
 show(Bq b m xs vs ps press good).lan=_;unfold Bq;cases good with
 |true=>rw[d_,d_,Ac8];rfl
 |false=>rfl
def Akb(b:S)(m:Img)(xs:List Int)(vs:List View)(ps:List Calls)(press:Int×Int)(good:Bool):(EA b m xs vs ps press good).lan.lit.length=vs.length∧(EA b m xs vs ps press good).lan.gong.length=vs.length:=by
 rw[ZL];cases good with
 |true=>obtain⟨h1,h2⟩:=An4 b vs ps vs.length 0 Lan.none;exact⟨h1.trans (p_ _),h2.trans (p_ _)⟩
 |false=>exact⟨T_,T_⟩
@[reducible] def Bwn(v:View):=(v.B3,v.D3,v.G3,v.V3,v.D0,v.I0,v.I3,v.J3,v.T2,v.Q2,v.D2,v.Q1,())
def Bbv(hb:b.small){x:NewCar}(h:HQ b x=C):Aic x.E2:=by
 have h2:=Bcr hb;unfold HQ at h;cases hf:x.E3 with
 |true=>rw[hf]at h;simp only[d_,Ags,e_,U_]at h;rw[h.2.2.2.2.2.2.2.2.2.2.1];exact⟨τ,τ⟩
 |false=>have hs:=(Ws hb hf).1 (by unfold HQ;exact h);have hc:C2 b.C0 x.E2:=hs.1.ca;unfold C2 at hc;exact⟨hc.1,ω⟩
def Bd7{l:List Duty}(hl:l.length≤1000):V (KX l) λy=>EW (y.2.1.1,y.2.1.2.1):=by unfold KX;refine D (Q:=λy=>EW (y.2.2.1.1,y.2.2.1.2.1)) ?_ λ_ h=>A h;unfold Jn;refine aB (λ(k:Nat) z=>∃(i:Nat) (c:Int×Int),z=(((),(),l,(l.length:Int),(i:Int),()),((0,0,()),(c.1,c.2,()),()))∧i+k=l.length∧EW c) (λk z hz=>?_) l.length ⟨0,(0,0),rfl,p_ _,GO⟩ ω;obtain⟨i,c,rfl,hk,hc⟩:=hz;show V (ML l (l.length:Int) (i:Int) 0 0 c.1 c.2) _;unfold ML;refine I (λq=>?_) λ_=>A hc;have q:(i:Int)<(l.length:Int):=m_ q;have w:=Dn (n:=i) ω;refine H (J ω q) (R (Kw _ _) (R (Fl c (FP _ _)) ?_));exact A ⟨k-1,ω,i+1,_,by first | (rw[← w];rfl) | rw[← w],ω,Pi _ _⟩
structure VI(b:Bldg)(m:Img)(good:Bool)(i:Nat)(v:View):Prop where
 ok:v.ok
 ready:v.B3=(good&&Sh m i)
 serving:v.D3=FR m i
 lost:v.V3=(flA m i||!FR m i)
section
variable{b:S}(hw:BW b){x:Inp}{g:Bool}(hx:g=C→InOK b x)
include hw
theorem Bt0{m:Mch}(hm:PM b m)(hi:i<b.B0.length)(f:Int)(l:Bool)(d:Int)(k:Bool):V (Nn b.C0 b.F0 b.H0 b.M0 b.K0 b.L0 b.N0 b.B0 m.E0.G0 m.E0.O0 m.E0.J0 m.E0.A0 m.B1.h0 m.B1.h1 m.B1.sel m.J1 m.U0 m.B0 m.C3 m.B2 m.Y2 m.Z3 m.H3 m.R2 (i:Int) f l d k) λy=>∃v,y=(((),()),(Bwn v,()))∧VI b m.E0 C i v:=by
 have i1:Y (i:Int) m.E0.G0.length=C:=J ω (by rw[hm.jst.img.lp];omega);have i2:Y (i:Int) m.U0.length=C:=J ω (by rw[hm.bel];omega);have i3:Y (i:Int) m.B0.length=C:=J ω (by rw[hm.car];omega);have i4:Y (i:Int) m.E0.O0.length=C:=J ω (by rw[hm.jst.img.lf];omega);have i5:Y (i:Int) m.C3.length=C:=J ω (by rw[hm.lod];omega);have hc:=Bbv hw.small (hm.carv _ (BU Bw (show i<m.B0.length by rw[hm.car];exact hi)));have hd:=((hm.belv i hi).dut).len hw.small;unfold Nn;refine H i1 (H i3 (R (Al3 hm.jst.img hi) (R (WE hm.jst.img hi) (R (XU _) ?_))));have z0:Aic 0:=⟨τ,τ⟩
 refine R (b:=(((i:Int),(),(),(),(),Z m.E0 i,(),(),()),((b.C0,b.F0,b.H0,b.M0,b.K0,b.L0,b.N0,b.B0,()),(m.E0.G0,m.E0.O0,m.E0.J0,m.E0.A0,m.B1.h0,m.B1.h1,m.B1.sel,m.J1,m.U0,m.B0,m.C3,m.B2,m.Y2,m.Z3,m.H3,m.R2,()),(f,l,d,k,()),(B,B,B,B,(0:Int),(0:Int),(0:Int),(0:Int),(0:Int),(0:Int),(0:Int),(0:Int),()),Bd2 (m.B0.getD i Bw),(Sh m.E0 i,FR m.E0 i,DS (Z m.E0 i),(W m.E0 i||!FR m.E0 i),(0:Int),(0:Int),(0:Int),(0:Int),(0:Int),(0:Int),(0:Int),(0:Int),()),()))) ?_ ?_
 ·show(bif Y (i:Int) m.E0.O0.length then(bif W m.E0 i then _ else _)else none)=_;rw[i4,d_];cases W m.E0 i<;>rfl
 refine I (λ_=>H i2 (D (Bd7 (by show(m.U0.getD i GV).W0.length≤1000;omega)) λy5 h5=>?_)) λ_=>H i5 ?_
 ·exact A ⟨View.mk (Sh m.E0 i) (FR m.E0 i) (DS (Z m.E0 i)) (W m.E0 i||!FR m.E0 i) (m.U0.getD i GV).D0 (m.U0.getD i GV).I0 0 0 0 0 y5.2.1.1 y5.2.1.2.1,rfl,⟨z0,h5.1,h5.2⟩,rfl,rfl,rfl⟩
 refine D (Q:=λy=>∃(su sd:Int) (o1 o2 o3 o4:Int),y=(((i:Int),(),(),(),(),(),()),((b.C0,b.F0,b.H0,b.M0,b.K0,b.L0,b.N0,b.B0,()),(m.E0.G0,m.E0.O0,m.E0.J0,m.E0.A0,m.B1.h0,m.B1.h1,m.B1.sel,m.J1,m.U0,m.B0,m.C3,m.B2,m.Y2,m.Z3,m.H3,m.R2,()),(B,B,B,B,(0:Int),(0:Int),(0:Int),(0:Int),(0:Int),(0:Int),(0:Int),(0:Int),()),Bd2 (m.B0.getD i Bw),(Sh m.E0 i,FR m.E0 i,DS (Z m.E0 i),(W m.E0 i||!FR m.E0 i),f,(m.B0.getD i Bw).V1,o1,su,sd,o2,o3,o4,()),()))) ?_ λy7 h7=>?_
 ·refine I (λ_=>?_) λ_=>A ⟨_,_,_,_,_,_,rfl⟩;exact D (Ahq hw.small hw.code (m.B0.getD i Bw) f l d k) λ_ _=>A ⟨_,_,_,_,_,_,rfl⟩
 obtain⟨su,sd,o1,o2,o3,o4,rfl⟩:=h7;refine D (Anl hw hm.jst.img (i:Int)) λy8 h8=>?_;exact A ⟨View.mk (Sh m.E0 i) (FR m.E0 i) (DS (Z m.E0 i)) (W m.E0 i||!FR m.E0 i) f (m.B0.getD i Bw).V1 o1 su sd (m.B0.getD i Bw).E2 y8.2.1.1 y8.2.1.2.1,rfl,⟨hc,h8.1,h8.2⟩,rfl,rfl,rfl⟩
structure VA(b:Bldg)(m:Img)(good:Bool)(vs:List View):Prop where
 len:vs.length=b.B0.length
 vi:∀i,i<b.B0.length→VI b m good i (vs.getD i noV)
theorem VA.ok{vs:List View}(h:VA b m g vs):okViews vs:=λv hv=>by
 obtain⟨i,hi,rfl⟩:=g1_ hv
 have:=(h.vi i (by rw[← h.len];exact hi)).ok
 rwa [k_,j_ hi]at this
include hx
theorem Bld(hm:PM b t.m)(hr:PR b t):V (CS (t.ap aC b x g)) λy=>∃vs:List View,y=((vs,()),())∧VA b t.m.E0 g vs:=by
 have hcc:=Aj hw.code;unfold CS;refine H (by show((decide ((0:Int)≤(b.B0.length:Int))&&decide ((b.B0.length:Int)≤(b.B0.length:Int)))&&decide ((b.B0.length:Int)≤2147483648))=C;simp only[e_,t_];omega) (D (Q:=λy=>∃vs:List View,y=((vs,()),())∧VA b t.m.E0 g vs) ?_ λy h=>by obtain⟨c,rfl,h⟩:=h;exact A ⟨c,rfl,h⟩);have h0:(aD (Int.toNat (b.B0.length:Int)) o).length=b.B0.length:=by rw[T_];omega
 show V (CE ((t.ap aC b x g,aD (Int.toNat (b.B0.length:Int)) o,(((aD (Int.toNat (b.B0.length:Int)) o).length:Nat):Int),0,()),())) _;generalize aD (Int.toNat (b.B0.length:Int)) o=L at h0;unfold CE;refine aB (λ(k:Nat) z=>∃(i:Nat) (vs:List View),z=((t.ap aC b x g,vs,(L.length:Int),(i:Int),()),())∧i+k=L.length∧vs.length=b.B0.length∧∀j,j<i→VI b t.m.E0 g j (vs.getD j o)) (λk z hz=>?_) L.length ⟨0,L,rfl,p_ _,h0,λj hj=>absurd hj (e3_ j)⟩ ω;obtain⟨i,vs,rfl,hk,hl,hv⟩:=hz;show V (Fu (t.ap aC b x g) vs (L.length:Int) (i:Int)) _;unfold Fu;refine I (λq=>?_) λq=>A ⟨vs,rfl,hl,λj hj=>hv j (by have q:=D_ q;omega)⟩;have q:(i:Int)<(L.length:Int):=m_ q;have hi:i<b.B0.length:=ω;have w:=Dn (n:=i) ω;have il:Y (i:Int) vs.length=C:=J ω ω;have put:∀{v:View},VI b t.m.E0 g i v→∀j,j<i+1→VI b t.m.E0 g j ((vs.set i v).getD j o):=λ{v} h j hj=>by
  by_cases e:i=j
  ·subst e;rw[Bb _ _ ω];exact h
  ·rw[Cb _ _ e];exact hv j ω
 refine I (λhg=>?_) λhg=>?_
 ·have hg:g=B:=by simpa using(show(!g)=C from hg)
  refine R (WE hm.jst.img hi) ?_;have i4:Y (i:Int) t.m.E0.O0.length=C:=J ω (by rw[hm.jst.img.lf];omega);refine R (b:=((t.ap aC b x g,vs.set i (View.mk B (FR t.m.E0 i) B (W t.m.E0 i||!FR t.m.E0 i) (-1) 0 0 0 0 0 0 0),(L.length:Int),(i:Int),()),())) ?_ ?_
  ·show(bif Y (i:Int) t.m.E0.O0.length then(bif W t.m.E0 i then(bif Y (i:Int) vs.length then _ else none)else(bif Y (i:Int) vs.length then _ else none))else none)=_;rw[i4,il,d_,d_];cases W t.m.E0 i<;>rfl
  have z0:Aic 0:=⟨τ,τ⟩
  exact A ⟨k-1,ω,i+1,_,by first | (rw[← w];rfl) | rw[← w],ω,by rw[y_];exact hl,put ⟨⟨z0,z0,z0⟩,by rw[hg];rfl,rfl,rfl⟩⟩
 ·have hg:g=C:=by simpa using(show(!g)=B from hg)
  have hxl:=(hx hg).len;refine H (J ω (ω:(i:Int)<(x.cars.length:Int))) (D (Bt0 hw hm hi _ _ _ _) λy3 h3=>H il ?_);obtain⟨v,rfl,hvi⟩:=h3;rw[← hg]at hvi;refine H (J ω (show(i:Int)<(t.legacy.length:Int)by rw[hr.leg];omega)) (I (λ_=>?_) λ_=>?_)
  ·refine H (J ω (show(i:Int)<(t.shows.length:Int)by rw[hr.sho];omega)) (H (J ω (by rw[y_];omega)) ?_);refine A ⟨k-1,ω,i+1,(vs.set i v).set i (View.mk v.B3 v.D3 v.G3 v.V3 v.D0 v.I0 v.I3 (t.shows.getD i (Calls.mk 0 0)).Up (t.shows.getD i (Calls.mk 0 0)).X3 v.Q2 v.D2 v.Q1),?_,ω,by rw[y_,y_];exact hl,λj hj=>?_⟩
   ·have e:(vs.set i v).getD i o=v:=Bb _ _ ω
    first
     |(rw[← w];show((_,List.set (vs.set i v) i (View.mk ((vs.set i v).getD i o).B3 ((vs.set i v).getD i o).D3 ((vs.set i v).getD i o).G3 ((vs.set i v).getD i o).V3 ((vs.set i v).getD i o).D0 ((vs.set i v).getD i o).I0 ((vs.set i v).getD i o).I3 _ _ ((vs.set i v).getD i o).Q2 ((vs.set i v).getD i o).D2 ((vs.set i v).getD i o).Q1),_,_,()),())=_;rw[e];rfl)
   ·rw[aE];exact put (v:=View.mk v.B3 v.D3 v.G3 v.V3 v.D0 v.I0 v.I3 (t.shows.getD i (Calls.mk 0 0)).Up (t.shows.getD i (Calls.mk 0 0)).X3 v.Q2 v.D2 v.Q1) ⟨⟨hvi.ok.c,hvi.ok.u,hvi.ok.d⟩,hvi.ready,hvi.serving,hvi.lost⟩ j hj
  ·exact A ⟨k-1,ω,i+1,vs.set i v,by first | (rw[← w];rfl) | rw[← w],ω,by rw[y_];exact hl,put hvi⟩
end
def AB:P:=aA 0 0 B 0 0 B 0 0 B
noncomputable def Qy(b:S)(x:Inp)(g:Bool)(t:N)(vs:List View):Rnd:=EA b t.m.E0 t.m.B2 vs t.m.Y2 x.press g
def Gj:List U→Int×Int→Int×Int
 |[],c=>c
 |r::l,c=>Gj l (bif r.Q0==2 then BV c (FP r.D0 r.I0)else c)
def An5(r:Rnd)(i:Nat)(c d:P):Prop:=d.J2=(r.lan.lit.getD i noP).Up∧d.Z1=(r.lan.lit.getD i noP).X3∧d.B4=r.lan.gong.getD i B∧d.V2=c.V2
def PM.rnd{m:Mch}(h:PM b m){r:Rnd}(hg:Rg b m.E0 r)(hl:r.lan.lit.length=b.B0.length){s:Sto}(hj:Jst b s r.img){n:Int}(hn:0≤n∧n≤1000000):PM b { m with E0:=r.img,B1:=s,B2:=r.xs,Y2:=r.lan.lit,R2:=n }:=⟨hj,h.con,h.conv,h.bel,h.belv,h.car,h.carv,h.lod,h.lodv,hl,hg.ok.len,hg.xs,h.tick,h.flt,hn⟩
structure Dsp(b:Bldg)(x:Inp)(g:Bool)(t t':Pk)(vs:List View):Prop where
 va:VA b t.m.E0 g vs
 ve:CS (t.ap machine_ticker.mk b x g)=some ((vs,()),())
 rg:Rg b t.m.E0 (Qy b x g t vs)
 res:Al b t t' (Qy b x g t vs).recs∨De b t t' (Qy b x g t vs).recs
 out:t'.out={ t.out with X2:=(Gj (Qy b x g t vs).recs (t.out.X2,t.out.L2)).1,L2:=(Gj (Qy b x g t vs).recs (t.out.X2,t.out.L2)).2,L0:=!isZ (Qy b x g t vs).ref,B0:=t'.out.B0 }
 oc:t'.out.B0.length=b.B0.length
 cars:∀i,i<b.B0.length→An5 (Qy b x g t vs) i (t.out.B0.getD i AB) (t'.out.B0.getD i AB)
 rst:t'.reset=t.reset
def Cgy(hi:i<l.length)(f g:P→P):(l.set i (f (l.getD i AB))).set i (g ((l.set i (f (l.getD i AB))).getD i AB))=l.set i (g (f (l.getD i AB))):=by rw[Bb _ _ hi,aE]
def Pk.sServ(t:N)(c:Int×Int):N:={ t with out:={ t.out with X2:=c.1,L2:=c.2 } }
def Pk.sOuts(t:N)(l:List P):N:={ t with out:={ t.out with B0:=l } }
section
variable{b:S}(hw:BW b){x:Inp}{g:Bool}(hx:g=C→InOK b x)
theorem Baz(r:Rnd)(hr:r.recs.length≤1000)(t:N):V (Cc (((),(),r.recs,(r.recs.length:Int),(0:Int),()),(r.tup,t.tup b x g,()))) λy=>y=(((),(),()),(r.tup,(t.sServ (Gj r.recs (t.out.X2,t.out.L2))).tup b x g,())):=by
 unfold Cc;refine aB (λ(k:Nat) z=>∃(i:Nat) (c:Int×Int),z=(((),(),r.recs,(r.recs.length:Int),(i:Int),()),(r.tup,(t.sServ c).tup b x g,()))∧i+k=r.recs.length∧Gj (r.recs.drop i) c=Gj r.recs (t.out.X2,t.out.L2)) (λk z hz=>?_) r.recs.length ⟨0,(t.out.X2,t.out.L2),rfl,p_ _,rfl⟩ ω;obtain⟨i,c,rfl,hk,hs⟩:=hz;show V ((t.sServ c).ap (ED r.recs (r.recs.length:Int) (i:Int) r.recs r.img.G0 r.img.O0 r.img.J0 r.img.A0 r.xs r.lan.lit r.lan.gong r.lan.cl.1 r.lan.cl.2 r.ref.1 r.ref.2) b x g) _;unfold Pk.ap ED;refine I (λq=>?_) λq=>A ?_
 ·have q:(i:Int)<(r.recs.length:Int):=m_ q;have hi:i<r.recs.length:=ω;have w:=Dn (n:=i) ω;rw[BT IE hi]at hs;refine H (J ω q) (I (λh=>R (Kw _ _) (R (Fl c (FP _ _)) ?_)) λh=>?_)
  ·refine A ⟨k-1,ω,i+1,BV c (FP (r.recs.getD i IE).D0 (r.recs.getD i IE).I0),by first | (rw[← w];rfl) | rw[← w],ω,?_⟩;rw[← hs];have h:((r.recs.getD i IE).Q0==2)=C:=h;show _=Gj (r.recs.drop (i+1)) (bif(r.recs.getD i IE).Q0==2 then _ else _);rw[h];rfl
  ·refine A ⟨k-1,ω,i+1,c,by first | (rw[← w];rfl) | rw[← w],ω,?_⟩;rw[← hs];have h:((r.recs.getD i IE).Q0==2)=B:=h;show _=Gj (r.recs.drop (i+1)) (bif(r.recs.getD i IE).Q0==2 then _ else _);rw[h];rfl
 ·have q:=D_ q;rw[List.drop_of_length_le ω]at hs;show _=(((),(),()),(r.tup,(t.sServ (Gj r.recs (t.out.X2,t.out.L2))).tup b x g,()));rw[← hs];rfl
theorem Ba0(r:Rnd)(hn:t.out.B0.length≤1000)(hl:r.lan.lit.length=t.out.B0.length)(hg:r.lan.gong.length=t.out.B0.length):V (Cd (((),(),(t.out.B0.length:Int),(0:Int),()),(r.tup,t.tup b x g,()))) λy=>∃l,y=((),((t.sOuts l).tup b x g,()))∧l.length=t.out.B0.length∧∀j,j<t.out.B0.length→An5 r j (t.out.B0.getD j AB) (l.getD j AB):=by
 unfold Cd;refine aB (λ(k:Nat) z=>∃(i:Nat) (l:List P),z=(((),(),(t.out.B0.length:Int),(i:Int),()),(r.tup,(t.sOuts l).tup b x g,()))∧i+k=t.out.B0.length∧l.length=t.out.B0.length∧(∀j,j<i→An5 r j (t.out.B0.getD j AB) (l.getD j AB))∧∀j,i≤j→l.getD j AB=t.out.B0.getD j AB) (λk z hz=>?_) t.out.B0.length ⟨0,t.out.B0,rfl,p_ _,rfl,λj hj=>absurd hj (e3_ j),λj _=>rfl⟩ ω;obtain⟨i,l,rfl,hk,hll,h1,h2⟩:=hz;show V ((t.sOuts l).ap (EE (t.out.B0.length:Int) (i:Int) r.recs r.img.G0 r.img.O0 r.img.J0 r.img.A0 r.xs r.lan.lit r.lan.gong r.lan.cl.1 r.lan.cl.2 r.ref.1 r.ref.2) b x g) _;unfold Pk.ap EE;refine I (λq=>?_) λq=>A ⟨l,rfl,hll,λj hj=>h1 j (by have:=D_ q;omega)⟩;have q:(i:Int)<(t.out.B0.length:Int):=m_ q;have hi:i<l.length:=ω;have w:=Dn (n:=i) ω;refine H (J ω ω) (H (J ω ω) (H (J ω (ω:(i:Int)<(l.length:Int))) (H (J ω (by rw[y_];show(i:Int)<(l.length:Int);omega)) ?_)));refine A ⟨k-1,ω,i+1,l.set i (aA (l.getD i AB).G1 (l.getD i AB).C1 (l.getD i AB).X1 (r.lan.lit.getD i noP).Up (r.lan.lit.getD i noP).X3 (r.lan.gong.getD i B) (l.getD i AB).V2 (l.getD i AB).G2 (l.getD i AB).C4),?_,ω,?_,λj hj=>?_,λj hj=>?_⟩
 ·have key:=Cgy hi (λc=>aA c.G1 c.C1 c.X1 (r.lan.lit.getD i noP).Up (r.lan.lit.getD i noP).X3 c.B4 c.V2 c.G2 c.C4) (λc=>aA c.G1 c.C1 c.X1 c.J2 c.Z1 (r.lan.gong.getD i B) c.V2 c.G2 c.C4);rw[← w];exact f5_ (λL=>(((),(),(t.out.B0.length:Int),IntKind.i64.wrap ((i:Int)+1),()),(r.tup,(t.sOuts L).tup b x g,()))) key
 ·rw[y_];exact hll
 ·by_cases e:i=j
  ·subst e;rw[Bb _ _ hi];exact⟨rfl,rfl,rfl,by rw[← h2 i (A_ i)]⟩
  ·rw[Cb _ _ e];exact h1 j ω
 ·rw[Cb _ _ ω];exact h2 j ω
end
def Pk.sRnd(t:N)(r:Rnd)(n:Int)(f:Bool):N:={ t with m:={ t.m with B2:=r.xs,Y2:=r.lan.lit,R2:=n },out:={ t.out with L0:=f } }
section
variable{b:S}(hw:BW b){x:Inp}{g:Bool}(hx:g=C→InOK b x)
include hw hx
theorem Aug(hm:PM b t.m)(hr:PR b t)(hb:Bud t):V (t.ap Dk b x g) λy=>∃(t':N) (vs:List View),y=((),(t'.tup b x g,()))∧Dsp b x g t t' vs:=by
 have hcc:=Aj hw.code;unfold Pk.ap Dk;obtain⟨y1,hve,vs,rfl,hva⟩:=Bld hw hx hm hr;refine R hve ?_;have hxv:inX t.m.B2:=hm.exv;have hd:=Ab8 hw.small hw.code hm.jst.img hm.exl t.m.Y2 x.press g hxv.exp (VA.ok hw hva) hva.len hm.lit;obtain⟨hrg,hrl⟩:=Adj hw.small hw.code hm.jst.img hm.exl hxv t.m.Y2 x.press g hva.len;obtain⟨hl1,hl2⟩:=Akb b t.m.E0 t.m.B2 vs t.m.Y2 x.press g;rw[hva.len]at hl1 hl2;refine R hd ?_;have hR:EA b t.m.E0 t.m.B2 vs t.m.Y2 x.press g=Qy b x g t vs:=rfl;rw[hR]at hrg hrl hl1 hl2⊢;have fin:∀(t':N),(Al b t t' (Qy b x g t vs).recs∨De b t t' (Qy b x g t vs).recs)→_→_→_→_→Dsp b x g t t' vs:=λt' h1 h2 h3 h4 h5=>⟨hva,hve,hrg,h1,h2,h3,h4,h5⟩
 generalize hrr:Qy b x g t vs=r at hrg hrl hl1 hl2 fin;refine Sat.bindR ?_;refine D (Q:=λy=>∃t',y=(((),(),()),(r.tup,t'.tup b x g,()))∧Wr b t r.recs t') ?_ λy6 h6=>?_
 ·refine D (Aaq hw.small (x:=x) (g:=g) hm.jst hb.2 hb.1 hrg.good (ω:r.recs.length≤100000)) λy4 h4=>?_;obtain⟨t',e | e,h⟩:=h4
  ·subst e;exact A ⟨t',rfl,h⟩
  ·subst e;exact A ⟨t',rfl,h⟩
 obtain⟨t1,rfl,hw1⟩:=h6;obtain⟨im,s,bu,e,rfl,hw1⟩:=hw1;refine D (Q:=λy=>∃n,y=(((),(),()),(r.tup,((t.wr im s bu e).sRnd r n (!isZ r.ref)).tup b x g,()))∧0≤n∧n≤1000000) (I (λq=>D (Aob hm.ref) λy7 h7=>A ⟨y7.1.1,rfl,h7⟩) λq=>A ⟨t.m.R2,rfl,hm.ref⟩) λy8 h8=>?_;obtain⟨n,rfl,hn⟩:=h8;refine D (Baz r ω ((t.wr im s bu e).sRnd r n (!isZ r.ref))) λy9 h9=>?_;subst h9;refine D (Ba0 r (t:=((t.wr im s bu e).sRnd r n (!isZ r.ref)).sServ (Gj r.recs (t.out.X2,t.out.L2))) (by show t.out.B0.length≤1000;rw[hr.oc];omega) (by show _=t.out.B0.length;rw[hr.oc];exact hl1) (by show _=t.out.B0.length;rw[hr.oc];exact hl2)) λy10 h10=>?_;obtain⟨l,rfl,hl,hc⟩:=h10;replace hl:l.length=t.out.B0.length:=hl;replace hc:∀j,j<t.out.B0.length→An5 r j (t.out.B0.getD j AB) (l.getD j AB):=hc;rw[hr.oc]at hl hc;refine A ⟨_,vs,rfl,fin _ ?_ rfl hl hc rfl⟩;have hroom:=Ao3 hw r.recs.length;rcases hw1 with⟨rfl,rfl,h1,h2,h3,h4,_⟩ | ⟨rfl,h1,h2,h3⟩
 ·rw[hrg.img]at h1;refine .inl ⟨rfl,?_,⟨hr.leg,hr.sho,hr.rst,hl⟩,rfl,h3,h4,(by show t.budget-_≤bu;omega),rfl⟩
  have:=hm.rnd hrg hl1 h1 hn
  rw[← hrg.img]at this;exact this
 ·exact .inr ⟨rfl,ω,h2,h3⟩
end
def Ak9(p a d:Int)(k:Bool):Prop:=(a=0∧d=0∧k=C)∨(DS p=C∧k=B)
def TR(p c:Int):Bool:=c==0||(p==3||p==4)
def As5(p c:Int):Fd p c=some ((TR p c,()),()):=by unfold Fd TR;cases c==0<;>cases p==3<;>rfl
def Vj(p:Int):Kf p=some ((DS p,()),()):=by unfold Kf DS;cases p==0<;>rfl
section
variable{b:S}(hw:BW b){x:Inp}{g:Bool}
include hw
theorem Bj4(hi:i<b.B0.length)(p:Int){s:Belief}(h:BelOK b i s):V (Ni b.C0 b.F0 b.H0 b.M0 b.K0 b.L0 b.N0 b.B0 (i:Int) p s.D0 s.I0 s.F3 s.W0 s.Z2 s.R3) λy=>∃a d k,y=(((),()),((a,d,k,()),()))∧Ak9 p a d k:=by
 have hd:=h.dut.len hw.small;unfold Ni;refine R (Vj p) (I (λ_=>A ⟨0,0,C,rfl,.inl ⟨rfl,rfl,rfl⟩⟩) λq=>?_);have q:DS p=C:=by simpa using(show(!DS p)=B from q)
 refine R (IW hw.small hw.code hi h) (Sat.bifF rfl ?_);refine D (Q:=λy=>∃a d,y=(((),(),()),((0,0,B,()),(a,d,B,()),()))) ?_ λy hy=>by obtain⟨a,d,rfl⟩:=hy;exact A ⟨a,d,B,rfl,.inr ⟨q,rfl⟩⟩
 unfold La;refine aB (λ(k:Nat) z=>∃(j:Nat) (c:Int×Int),z=(((i:Int),(),(),(),s.W0,(s.W0.length:Int),(j:Int),()),((b.C0,b.F0,b.H0,b.M0,b.K0,b.L0,b.N0,b.B0,()),(0,0,B,()),(c.1,c.2,B,()),()))∧j+k=s.W0.length) (λk z hz=>?_) s.W0.length ⟨0,(0,0),rfl,p_ _⟩ ω;obtain⟨j,c,rfl,hk⟩:=hz;show V (OP (i:Int) s.W0 (s.W0.length:Int) (j:Int) b.C0 b.F0 b.H0 b.M0 b.K0 b.L0 b.N0 b.B0 0 0 B c.1 c.2 B) _;unfold OP;refine I (λq=>?_) λ_=>A ⟨_,_,rfl⟩;have q:(j:Int)<(s.W0.length:Int):=m_ q;have w:=Dn (n:=j) ω;refine H (J ω q) (H (J ω ω) (I (λ_=>R (Kw _ _) (R (Fl c (FP _ _)) ?_)) λ_=>?_))
 ·exact A ⟨k-1,ω,j+1,_,by first | (rw[← w];rfl) | rw[← w],ω⟩
 ·exact A ⟨k-1,ω,j+1,c,by first | (rw[← w];rfl) | rw[← w],ω⟩
end
def o1(c:P)(a d:Int)(k:Bool):P:=aA a d k c.J2 c.Z1 c.B4 c.V2 c.G2 c.C4
def o2(c:P)(p:Int):P:=aA c.G1 c.C1 c.X1 c.J2 c.Z1 c.B4 c.V2 p c.C4
def o3(c:P)(f:Bool):P:=aA c.G1 c.C1 c.X1 c.J2 c.Z1 c.B4 c.V2 c.G2 f
def o4(c:P):P:=aA c.G1 c.C1 c.X1 c.J2 c.Z1 c.B4 0 c.G2 c.C4
def Bes(l:List P)(i:Nat)(a d:Int)(k:Bool):List P:=l.set i (o1 (l.getD i AB) a d k)
def Bet(l:List P)(i:Nat)(a d:Int)(k:Bool)(p:Int):List P:=(Bes l i a d k).set i (o2 ((Bes l i a d k).getD i AB) p)
def Ag8(l:List P)(i:Nat)(a d:Int)(k:Bool)(p:Int)(f:Bool):List P:=(Bet l i a d k p).set i (o3 ((Bet l i a d k p).getD i AB) f)
def Ali(l:List P)(i:Nat)(a d:Int)(k:Bool)(p:Int)(f:Bool):List P:=(Ag8 l i a d k p f).set i (o4 ((Ag8 l i a d k p f).getD i AB))
def Arv(hi:i<l.length)(a d:Int)(k:Bool)(p:Int)(f:Bool):Ag8 l i a d k p f=l.set i (o3 (o2 (o1 (l.getD i AB) a d k) p) f):=by unfold Ag8 Bet Bes;simp only[Bb _ _ hi,aE]
def Ber(hi:i<l.length)(a d:Int)(k:Bool)(p:Int)(f:Bool):Ali l i a d k p f=l.set i (o4 (o3 (o2 (o1 (l.getD i AB) a d k) p) f)):=by unfold Ali;rw[Arv hi,Bb _ _ hi,aE]
structure FinO(m:Img)(i:Nat)(c d:CarOutput):Prop where
 lu:d.J2=c.J2
 ld:d.Z1=c.Z1
 gong:d.B4=c.B4
 phase:d.G2=phA m i
 flag:d.C4=flA m i
 coils:Ak9 (phA m i) d.G1 d.C1 d.X1
 cmd:TR (phA m i) d.V2=true
structure Fin(b:Bldg)(g:Bool)(t t':Pk):Prop where
 m:PM b t'.m
 im:t'.m.E0=t.m.E0
 st:t'.m.B1=t.m.B1
 bu:t'.budget=t.budget
 e:t'.e=t.e
 out:t'.out={ t.out with Y3:=(ofC t.m.E0.A0 (0,0)).1,N3:=(ofC t.m.E0.A0 (0,0)).2,X5:=!g,B0:=t'.out.B0 }
 oc:t'.out.B0.length=b.B0.length
 cars:∀i,i<b.B0.length→FinO t.m.E0 i (t.out.B0.getD i AB) (t'.out.B0.getD i AB)
 con:t'.m.J1=t.m.J1
def Pk.sLmp(t:N)(c:Int×Int)(f:Bool):N:={ t with out:={ t.out with Y3:=c.1,N3:=c.2,X5:=f } }
section
variable{b:S}(hw:BW b){x:Inp}{g:Bool}
include hw
set_option maxHeartbeats 4000000 in
theorem Beu(hm:PM b t.m)(hr:PR b t):V (Cu (((),t.m.E0.G0,(t.m.E0.G0.length:Int),(0:Int),()),(t.tup b x g,()))) λy=>∃t',y=((),(t'.tup b x g,()))∧PM b t'.m∧Fix t t'∧t'.out.B0.length=b.B0.length∧∀i,i<b.B0.length→FinO t.m.E0 i (t.out.B0.getD i AB) (t'.out.B0.getD i AB):=by
 have hcc:=Aj hw.code;have hp:=hm.jst.img.lp;unfold Cu;refine aB (λ(k:Nat) z=>∃(i:Nat) (t':N),z=(((),t.m.E0.G0,(t.m.E0.G0.length:Int),(i:Int),()),(t'.tup b x g,()))∧i+k=b.B0.length∧PM b t'.m∧PR b t'∧Fix t t'∧(∀j,j<i→FinO t.m.E0 j (t.out.B0.getD j AB) (t'.out.B0.getD j AB))∧∀j,i≤j→t'.out.B0.getD j AB=t.out.B0.getD j AB) (λk z hz=>?_) b.B0.length ⟨0,t,rfl,p_ _,hm,hr,.rfl' t,λj hj=>absurd hj (e3_ j),λj _=>rfl⟩ ω;obtain⟨i,u,rfl,hk,hmu,hru,hf,h1,h2⟩:=hz;show V (u.ap (Fh t.m.E0.G0 (t.m.E0.G0.length:Int) (i:Int)) b x g) _;unfold Pk.ap Fh;refine I (λq=>?_) λq=>A ⟨u,rfl,hmu,hf,hru.oc,λj hj=>h1 j (by have:=D_ q;omega)⟩;have q:(i:Int)<(t.m.E0.G0.length:Int):=m_ q;have hi:i<b.B0.length:=ω;have w:=Dn (n:=i) ω;have ifl:Y (i:Int) u.m.E0.O0.length=C:=J ω (by rw[hmu.jst.img.lf];omega);refine H (J ω q) ?_;refine D (Q:=λy=>∃v:N,y=(((),(i:Int),Z t.m.E0 i,t.m.E0.G0,(t.m.E0.G0.length:Int),(i:Int),()),(v.tup b x g,()))∧PM b v.m∧PR b v∧Fix t v∧v.out=u.out) ?_ λy5 h5=>?_
 ·refine D (Q:=λy=>∃c:Bool,y=(((),(i:Int),Z t.m.E0 i,t.m.E0.G0,(t.m.E0.G0.length:Int),(i:Int),c,()),(u.tup b x g,()))) (R (XU _) (I (λ_=>H ifl (A ⟨_,rfl⟩)) λ_=>A ⟨_,rfl⟩)) λy2 h2=>?_;obtain⟨c,rfl⟩:=h2;have i2:Y (i:Int) u.m.U0.length=C:=J ω (by rw[hmu.bel];omega);refine I (λ_=>H i2 ?_) λ_=>A ⟨u,rfl,hmu,hru,hf,rfl⟩;refine D (Anl hw hmu.jst.img (i:Int)) λy3 _=>D (Ad1 hw.small hw.code hi (hmu.belv i hi) _ _) λy4 h4=>H i2 ?_;obtain⟨ya,yb,yc⟩:=y4;obtain⟨v,e4,hv⟩:=h4;change yb=_ at e4;subst e4;exact A ⟨u.sBel i v,rfl,hmu.sBel hv,hru.sBel i v,⟨⟨hf.im,hf.st,hf.bu,hf.e,hf.out⟩,hf.con⟩,rfl⟩
 obtain⟨v,rfl,hmv,hrv,hfv,hov⟩:=h5;have j2:Y (i:Int) v.m.U0.length=C:=J ω (by rw[hmv.bel];omega);have jo:Y (i:Int) v.out.B0.length=C:=J ω (by rw[hrv.oc];omega);have jf:Y (i:Int) v.m.E0.O0.length=C:=J ω (by rw[hmv.jst.img.lf];omega);have jr:Y (i:Int) v.reset.length=C:=J ω (by rw[hrv.rst];omega);have hio:i<v.out.B0.length:=by rw[hrv.oc];exact hi
 refine H jo (H j2 (D (Bj4 hw hi _ (hmv.belv i hi)) λy6 h6=>H jf (H jr ?_)));obtain⟨a,d,kc,rfl,hcoil⟩:=h6;have hprev:v.out.B0.getD i AB=t.out.B0.getD i AB:=by rw[hov];exact h2 i (A_ i)
 have hflag:W v.m.E0 i=W t.m.E0 i:=by rw[hfv.im]
 have e9:=Arv hio a d kc (Z t.m.E0 i) (W v.m.E0 i);have e10:=Ber hio a d kc (Z t.m.E0 i) (W v.m.E0 i);have done:∀c:P,FinO t.m.E0 i (t.out.B0.getD i AB) c→PM b (v.sOuts (v.out.B0.set i c)).m∧PR b (v.sOuts (v.out.B0.set i c))∧Fix t (v.sOuts (v.out.B0.set i c))∧(∀j,j<i+1→FinO t.m.E0 j (t.out.B0.getD j AB) ((v.sOuts (v.out.B0.set i c)).out.B0.getD j AB))∧∀j,i+1≤j→(v.sOuts (v.out.B0.set i c)).out.B0.getD j AB=t.out.B0.getD j AB:=λc hc=>by
  refine⟨hmv,⟨hrv.leg,hrv.sho,hrv.rst,by show(v.out.B0.set i c).length=_;rw[y_];exact hrv.oc⟩,⟨⟨hfv.im,hfv.st,hfv.bu,hfv.e,by show({ v.out with B0:=_ }:Outputs)=_;rw[hfv.out];rfl⟩,hfv.con⟩,λj hj=>?_,λj hj=>?_⟩
  ·show FinO t.m.E0 j (t.out.B0.getD j AB) ((v.out.B0.set i c).getD j AB);by_cases e:i=j
   ·subst e;rw[Bb _ _ hio];exact hc
   ·rw[Cb _ _ e,hov];exact h1 j ω
  ·show(v.out.B0.set i c).getD j AB=_;rw[Cb _ _ ω,hov];exact h2 j ω
 refine I (λ_=>?_) λ_=>R (As5 _ _) (I (λq7=>?_) λq7=>?_)
 ·obtain⟨d1,d2,d3,d4,d5⟩:=done (o4 (o3 (o2 (o1 (v.out.B0.getD i AB) a d kc) (Z t.m.E0 i)) (W v.m.E0 i))) ⟨by rw[← hprev];rfl,by rw[← hprev];rfl,by rw[← hprev];rfl,rfl,hflag,hcoil,rfl⟩;refine A ⟨k-1,ω,i+1,v.sOuts (Ali v.out.B0 i a d kc (Z t.m.E0 i) (W v.m.E0 i)),by first | (rw[← w];rfl) | rw[← w],ω,?_⟩;rw[e10];exact⟨d1,d2,d3,d4,d5⟩
 ·obtain⟨d1,d2,d3,d4,d5⟩:=done (o4 (o3 (o2 (o1 (v.out.B0.getD i AB) a d kc) (Z t.m.E0 i)) (W v.m.E0 i))) ⟨by rw[← hprev];rfl,by rw[← hprev];rfl,by rw[← hprev];rfl,rfl,hflag,hcoil,rfl⟩;refine A ⟨k-1,ω,i+1,v.sOuts (Ali v.out.B0 i a d kc (Z t.m.E0 i) (W v.m.E0 i)),by first | (rw[← w];rfl) | rw[← w],ω,?_⟩;rw[e10];exact⟨d1,d2,d3,d4,d5⟩
 ·have q7:(!TR (Z t.m.E0 i) ((Ag8 v.out.B0 i a d kc (Z t.m.E0 i) (W v.m.E0 i)).getD i AB).V2)=B:=q7;rw[e9,Bb _ _ hio]at q7;obtain⟨d1,d2,d3,d4,d5⟩:=done (o3 (o2 (o1 (v.out.B0.getD i AB) a d kc) (Z t.m.E0 i)) (W v.m.E0 i)) ⟨by rw[← hprev];rfl,by rw[← hprev];rfl,by rw[← hprev];rfl,rfl,hflag,hcoil,by simpa using q7⟩;refine A ⟨k-1,ω,i+1,v.sOuts (Ag8 v.out.B0 i a d kc (Z t.m.E0 i) (W v.m.E0 i)),by first | (rw[← w];rfl) | rw[← w],ω,?_⟩;rw[e9];exact⟨d1,d2,d3,d4,d5⟩
theorem Bew(hm:PM b t.m)(hr:PR b t):V (t.ap DI b x g) λy=>∃t',y=((),(t'.tup b x g,()))∧Fin b g t t':=by
 have he:=DQ hw.small hm.jst.img;have hlm:Hl t.m.E0.G0 t.m.E0.O0 t.m.E0.J0 t.m.E0.A0=some (((),()),(((ofC t.m.E0.A0 (0,0)).1,(ofC t.m.E0.A0 (0,0)).2,()),())):=by unfold Hl;exact Ae (Abd ω) rfl
 unfold Pk.ap DI;refine R hlm ?_;refine D (Beu hw (x:=x) (g:=g) (t:=t.sLmp (ofC t.m.E0.A0 (0,0)) (!g)) hm ⟨hr.leg,hr.sho,hr.rst,hr.oc⟩) λy2 h2=>?_;obtain⟨t',rfl,h1,h2,h3,h4⟩:=h2;exact A ⟨t',rfl,h1,h2.im,h2.st,h2.bu,h2.e,by rw[h2.out];rfl,h3,h4,h2.con⟩
end
def RunR(b:S)(x:Inp)(g:Bool)(t t':N):Prop:=∃(t1 t2:N) (l1:List U),PM b t1.m∧PR b t1∧FixR t t1∧(∀r∈l1,Tf b r)∧l1.length≤8∧(t2.out={ t1.out with B0:=t2.out.B0 }∧(g=C→∀j,j<b.B0.length→DS (Z t1.m.E0 j)=C→DC t2 j))∧
 ((De b t1 t2 l1∧t'=t2)∨(Al b t1 t2 l1∧∃(t3:N) (l2:List U),((g=B∧t3=t2∧l2=[])∨(g=C∧Opr b x g t2 t3 l2))∧
  ((De b t2 t3 l2∧t'=t3)∨(Al b t2 t3 l2∧∃(t4:N) (vs:List View),Dsp b x g t3 t4 vs∧
   ((t4.e=8∧t'=t4)∨(t4.e=0∧Fin b g t4 t'))))))
section
variable{b:S}(hw:BW b){x:Inp}{g:Bool}(hx:g=C→InOK b x)
include hw hx
theorem Bwl(hm:PM b t.m)(hr:PR b t)(hb:Bud t):V (t.ap EK b x g) λy=>∃t',(y=.inl ((),(t'.tup b x g,()))∨y=.inr ((),(t'.tup b x g,())))∧RunR b x g t t':=by
 unfold Pk.ap EK;refine D (Q:=λy=>∃t1,y=(((),(),(),(),()),(((),(),(),(),(),()),t1.tup b x g,()))∧PM b t1.m∧PR b t1∧FixR t t1) ?_ λy3 h3=>?_
 ·refine D (Btp hw hx hm hr) λy1 h1=>?_;obtain⟨t1,e | e,h⟩:=h1
  ·subst e;exact A ⟨t1,rfl,h⟩
  ·subst e;exact A ⟨t1,rfl,h⟩
 obtain⟨t1,rfl,m1,r1,f1⟩:=h3;have b1:Bud t1:=⟨f1.e.trans hb.1,by rw[f1.bu];exact hb.2⟩
 refine Sat.bifF (show(t1.e !=0)=B by rw[b1.1];rfl) ?_;refine D (Bol hw hx m1 r1 b1) λy4 h4=>?_;obtain⟨t2,l1,rfl,hl1,hn1,res2,o2⟩:=h4;have e8:∀{u v:N}{l:List U},(Al b u v l∨De b u v l)→(v.e !=0)=C→De b u v l:=λh q=>by
  rcases h with h | h
  ·rw[h.e]at q;cases q
  ·exact h
 have e0:∀{u v:N}{l:List U},(Al b u v l∨De b u v l)→(v.e !=0)=B→Al b u v l:=λh q=>by
  rcases h with h | h
  ·exact h
  ·rw[h.e]at q;cases q
 refine I (λq=>A ⟨t2,.inl rfl,t1,t2,l1,m1,r1,f1,hl1,hn1,o2,.inl ⟨e8 res2 q,rfl⟩⟩) λq=>?_;have a2:=e0 res2 q;have b2:=a2.bud b1;refine D (Q:=λy=>∃(t3:N) (l2:List U),y=((),(t3.tup b x g,()))∧((g=B∧t3=t2∧l2=[])∨(g=C∧Opr b x g t2 t3 l2))∧(Al b t2 t3 l2∨De b t2 t3 l2)) ?_ λy5 h5=>?_
 ·show V (t2.ap CF b x g) _;unfold Pk.ap CF;refine I (λhg=>?_) λhg=>A ⟨t2,[],rfl,.inl ⟨hg,rfl,rfl⟩,.inl ⟨a2.e,a2.m,a2.r,rfl,a2.b0,c7_ _,σ,rfl⟩⟩;refine D (Q:=λy=>∃(t3:N) (l2:List U),y=((),(t3.tup b x g,()))∧Opr b x g t2 t3 l2) ?_ λy3 h3=>by obtain⟨t3,l2,rfl,h⟩:=h3;exact A ⟨t3,l2,rfl,.inr ⟨hg,h⟩,h.res⟩
  refine D (Bb1 hw (hx hg) (g:=g) a2.m a2.r b2) λy1 h1=>?_;obtain⟨t3,l2,e | e,h⟩:=h1
  ·subst e;exact A ⟨t3,l2,rfl,h⟩
  ·subst e;exact A ⟨t3,l2,rfl,h⟩
 obtain⟨t3,l2,rfl,hop,res3⟩:=h5;refine I (λq=>A ⟨t3,.inl rfl,t1,t2,l1,m1,r1,f1,hl1,hn1,o2,.inr ⟨a2,t3,l2,hop,.inl ⟨e8 res3 q,rfl⟩⟩⟩) λq=>?_;have a3:=e0 res3 q;have b3:=a3.bud b2;refine D (Aug hw hx a3.m a3.r b3) λy6 h6=>?_;obtain⟨t4,vs,rfl,hd⟩:=h6;refine I (λq=>A ⟨t4,.inl rfl,t1,t2,l1,m1,r1,f1,hl1,hn1,o2,.inr ⟨a2,t3,l2,hop,.inr ⟨a3,t4,vs,hd,.inl ⟨(e8 hd.res q).e,rfl⟩⟩⟩⟩) λq=>?_;have a4:=e0 hd.res q;refine D (Bew hw (x:=x) (g:=g) a4.m a4.r) λy7 h7=>?_;obtain⟨t5,rfl,hf⟩:=h7;have he:(t5.e !=0)=B:=by rw[hf.e,a4.e];rfl
 exact Sat.bifF he (A ⟨t5,.inr rfl,t1,t2,l1,m1,r1,f1,hl1,hn1,o2,.inr ⟨a2,t3,l2,hop,.inr ⟨a3,t4,vs,hd,.inr ⟨a4.e,hf⟩⟩⟩⟩)
end
def RunR.cases(hw:BW b){x:Inp}{g:Bool}{t':N}(h:RunR b x g t t')(hb:Bud t):(t'.e=0∧PM b t'.m∧t'.out.B0.length=b.B0.length∧0≤t'.budget)∨(t'.e=8∧t.budget<300000):=by
 obtain⟨t1,t2,l1,m1,r1,f1,hl1,hn1,o2,⟨d,rfl⟩ | ⟨a2,t3,l2,hop,h⟩⟩:=h
 ·have:=d.lo
  rw[f1.bu]at this;exact .inr ⟨d.e,ω⟩
 have hn2:l2.length≤100:=by
  rcases hop with⟨_,_,rfl⟩ | ⟨_,h⟩
  ·exact a5_ _
  ·obtain⟨i,cm,fr,_,hi,_,rfl,_⟩:=h.how;have h1:=(Zl (b:=b) t2.m.E0 x.kind hi (cm.getD i B) fr).2;have h2:=US (Ai t2.m.E0 (Md t2.m.E0 x.kind i (cm.getD i B) fr).1) (bif x.kind !=0 then cm.set i B else cm) b.B0.length
   have:=Aj m1.jst.img.code
   unfold Iw;rw[i_];omega
 have k2:=a2.b2;rw[f1.bu]at k2;rcases h with⟨d,rfl⟩ | ⟨a3,t4,vs,hd,h⟩
 ·have:=d.lo
  exact .inr ⟨d.e,ω⟩
 have k3:=a3.b2;have hn3:(Qy b x g t3 vs).recs.length≤300:=(Adj hw.small hw.code a3.m.jst.img a3.m.exl a3.m.exv t3.m.Y2 x.press g hd.va.len).2;rcases h with⟨h8,rfl⟩ | ⟨h0,hf⟩
 ·rcases hd.res with a | d
  ·rw[a.e]at h8;cases h8
  ·have:=d.lo
   exact .inr ⟨h8,ω⟩
 ·rcases hd.res with a | d
  ·exact .inl ⟨hf.e.trans h0,hf.m,hf.oc,by rw[hf.bu];exact a.b0⟩
  ·rw[d.e]at h0;cases h0
end Go.Ovl
