/- Phases of cars (layer 25): orders, and what cars do by themselves. -/
import Derived.Test.YtfkphlpmkolemaaGreatDoorOvF
import Derived.Test.YtfkphlpmkolemaaGreatDoorOvA
import Derived.Test.YtfkphlpmkolemaaGreatDoorOvB
import Derived.Test.YtfkphlpmkolemaaGreatDoorOvD
import Derived.Test.YtfkphlpmkolemaaGreatDoorOvC
set_option linter.all false
open Go.IntKind renaming i64->A,wrap->B,u16->E,u64->I,u8->J,u32->aH
open Option renaming some->C,bind->aF
open Go.Ovl renaming Af->D,Ac->L,Bldg->O,inR->P
open Bool renaming false->H,true->R
open Int renaming tmod->N,toNat->W,tdiv->X,fdiv->aA,lt_of_lt_of_le->aG
open Min renaming min->U
open Go.Ovl.Sat renaming ret->V,bifT->aB,bic->aC,bindS->aD
open BitVec renaming ofInt->Y,toNat->aE
open List renaming range->Z
namespace Go.Ovl
open Go Go.Ab
set_option maxRecDepth 100000
variable{s:ByteArray}{calm:List Bool}{i t r k n:Nat}{α:Type}
def RS(m:Img)(car:Int):Bool:=m.A0.any λe=>e.S0==car
def Je(m:Img)(i:Nat):Bool:=phA m i==4&&lvA m i
def Wl(m:Img)(calm:List Bool)(i:Nat):Bool:=calm.getD i H&&((phA m i==1||Je m i)&&!RS m i)
def Qy(m:Img)(calm:List Bool)(i:Nat):List Record:=
 bif Wl m calm i then [⟨4,0,0,i,2⟩]++(bif Je m i then [⟨6,0,0,i,0⟩]else [])++(bif flA m i then [⟨5,0,0,i,0⟩]else [])else []
def Fq(m:Img)(calm:List Bool):Nat→List Record
 |0=>[]
 |i+1=>Fq m calm i++Qy m calm i
def Axf(m:Img)(calm:List Bool)(i:Nat):(Qy m calm i).length≤3:=by
 unfold Qy;cases Wl m calm i<;>cases Je m i<;>cases flA m i<;>simp
def TR(m:Img)(calm:List Bool):∀i,(Fq m calm i).length≤3*i
 |0=>z_ 0
 |i+1=>by
  have:=TR m calm i
  have:=Axf m calm i
  show(Fq m calm i++Qy m calm i).length≤_;rw[h_];omega
section
variable{b:O}{m:Img}(hm:ImgOK b m)(hb:b.small)(he:m.A0.length≤100000)
include hm he
omit hm in
theorem Ane(car:Int):EG m.D0 m.L0 m.H0 m.A0 car=C ((RS m car,()),()):=by
 have h:Sat (EG m.D0 m.L0 m.H0 m.A0 car) λy=>y=((RS m car,()),()):=by
  unfold EG ID;refine aD (Q:=λy=>match y with | .inl _=>RS m car=H | .inr z=>z=((R,()),())∧RS m car=R) (Sat.loop (λk x=>∃i:Nat,x=((car,m.A0,(m.A0.length:Int),(i:Int),()),())∧i+k=m.A0.length∧∀e∈m.A0.take i,(e.S0==car)=H) ?_ m.A0.length ⟨0,rfl,ω,λe h=>(by simp at h)⟩ ω) λy hy=>?_
  ·rintro k x ⟨i,rfl,hk,hn⟩
   show Sat (LM car m.A0 (m.A0.length:Int) (i:Int)) _;unfold LM;refine aC (λq=>?_) λq=>V ?_
   ·have hi:i<m.A0.length:=by have:=n_ q;omega
    refine aB (Aa ω ω) (aC (λq2=>V ⟨rfl,?_⟩) λq2=>V ⟨k-1,ω,i+1,?_,ω,λe h=>?_⟩)
    ·exact List.any_eq_true.2 ⟨_,CB _ hi,q2⟩
    ·rw[show A.wrap ((i:Int)+1)=((i+1:Nat):Int)by rw[L ω ω];omega]
    ·rw[List.take_succ,i_ hi]at h
     rcases q_.1 h with h | h
     ·exact hn e h
     ·rw[j_,l_,i_ hi]at q2
      have:e=m.A0[i]:=by simpa using h
      rw[this];exact q2
   ·have:=D_ q
    rw[b2_ ω]at hn
    show RS m car=H;exact List.any_eq_false.2 λe h=>by rw[hn e h];decide
  ·cases y with
   |inl _=>rw[show RS m car=H from hy];exact V rfl
   |inr z=>obtain⟨h1,h2⟩:=hy;subst h1;rw[h2];exact V rfl
 obtain⟨y,h,rfl⟩:=h;exact h
include hb in
theorem Afr{kind:Int}(hk:0≤kind∧kind≤8)(hi:i<b.B0.length)(hcalm:calm.length=b.B0.length){fr:Bool}(hf:Gz m.D0 m.L0 m.H0 m.A0=C ((fr,()),())):KE b.C0 b.F0 b.I0 b.N0 b.K0 b.M0 b.O0 b.B0 m.D0 m.L0 m.H0 m.A0 kind (i:Int) calm=C (((bif kind==0 then([],(0:Int))else QU m i (calm.getD i H) fr kind).1,(bif kind==0 then([],(0:Int))else QU m i (calm.getD i H) fr kind).2,()),()):=by
 have hcc:=Ak hm.code;unfold KE;refine D (CL hb m (c0_ (show m.D0.length≤8 by rw[hm.lp];omega) (by decide)) (c0_ he (by decide))) ?_
 show(bif !m.ok b then _ else _)=_;rw[Img.ok_iff.2 hm,hcalm,N_,e_ (ω:¬kind<0),e_ (ω:¬8<kind),e_ (ω:¬(i:Int)<0),e_ (ω:¬(b.B0.length:Int)≤(i:Int))]
 simp only[m_,c_];cases kind==0 with
 |true=>rfl
 |false=>
  rw[c_,Aa ω ω,d_]
  exact D (Ba2 hm hi hf _ kind) rfl
include hb in
theorem Ait(hcalm:calm.length=b.B0.length):LI b.C0 b.F0 b.I0 b.N0 b.K0 b.M0 b.O0 b.B0 m.D0 m.L0 m.H0 m.A0 calm=C ((Fq m calm b.B0.length,()),()):=by
 have hcc:=Ak hm.code;have lp:=hm.lp;have lf:=hm.lf;have ll:=hm.ll
 have hL:Sat (Ju ((calm,(),([]:List Record),m.D0,(m.D0.length:Int),(0:Int),()),(m.tup,()))) λy=>y=((Fq m calm b.B0.length,()),()):=by
  unfold Ju;refine Sat.loop (λk x=>∃(i:Nat),x=((calm,(),Fq m calm i,m.D0,(m.D0.length:Int),(i:Int),()),(m.tup,()))∧i+k=m.D0.length) ?_ m.D0.length ⟨0,rfl,ω⟩ ω
  rintro k x ⟨i,rfl,hk⟩;have hl:=TR m calm i;show Sat (PJ calm (Fq m calm i) m.D0 (m.D0.length:Int) (i:Int) m.D0 m.L0 m.H0 m.A0) _;unfold PJ
  refine aC (λq=>?_) λq=>V (by
   have q:=D_ q;show((Fq m calm i,()),())=((Fq m calm b.B0.length,()),());rw[show b.B0.length=i by omega])
  have hi:i<m.D0.length:=by have:=n_ q;omega
  have w:=CD hi (show m.D0.length≤AA by unfold AA;omega)
  have i1:inB (i:Int) m.D0.length=R:=Aa ω ω
  have i2:inB (i:Int) m.H0.length=R:=Aa ω ω
  have i3:inB (i:Int) m.L0.length=R:=Aa ω ω
  have i4:inB (i:Int) calm.length=R:=Aa ω ω
  refine aB i1 ?_;refine Sat.bindE (b:=((calm,(),Fq m calm i,(i:Int),phA m i,Je m i,m.D0,(m.D0.length:Int),(i:Int),()),(m.tup,()))) ?_ ?_
  ·show(bif phA m i==4 then _ else _)=_
   unfold Je;cases phA m i==4 with
   |true=>rw[d_,i2];rfl
   |false=>rfl
  refine Sat.bindE (b:=((calm,(),Fq m calm i,(i:Int),Je m i,m.D0,(m.D0.length:Int),(i:Int),!Wl m calm i,()),(m.tup,()))) ?_ ?_
  ·have hb2:=Ane (m:=m) he (i:Int)
   show(bif inB (i:Int) calm.length then _ else _)=_;rw[i4,d_];unfold Wl;show(bif !calm.getD i H then _ else bif phA m i !=1 then bif !Je m i then _ else(EG m.D0 m.L0 m.H0 m.A0 (i:Int)).bind _ else(EG m.D0 m.L0 m.H0 m.A0 (i:Int)).bind _)=_;cases calm.getD i H with
   |false=>rfl
   |true=>
    rw[m_,c_,o_];unfold bne;cases phA m i==1 with
    |true=>
     rw[m_,c_];exact D hb2 (by show C ((calm,(),Fq m calm i,(i:Int),Je m i,m.D0,(m.D0.length:Int),(i:Int),RS m (i:Int),()),_)=_;rw[Bool.true_or,o_,Bool.not_not])
    |false=>
     rw[b6_,d_];cases Je m i with
     |false=>rfl
     |true=>exact D hb2 (by show C ((calm,(),Fq m calm i,(i:Int),R,m.D0,(m.D0.length:Int),(i:Int),RS m (i:Int),()),_)=_;rw[Bool.or_true,o_,Bool.not_not])
  refine aC (λq2=>V ⟨k-1,ω,i+1,?_,ω⟩) λq2=>?_
  ·simp only[w]
   have q2:Wl m calm i=H:=by simpa using q2
   show _=((calm,(),Fq m calm i++Qy m calm i,m.D0,(m.D0.length:Int),((i+1:Nat):Int),()),(m.tup,()));rw[show Qy m calm i=[]by unfold Qy;rw[q2];rfl,a8_]
  ·have q2:Wl m calm i=R:=by simpa using q2
   refine aB (f2_ (by simp only[x_,d1_];omega)) ?_
   refine Sat.bindE (b:=((calm,(),Fq m calm i++[⟨4,0,0,i,2⟩]++(bif Je m i then [⟨6,0,0,i,0⟩]else []),(i:Int),m.D0,(m.D0.length:Int),(i:Int),()),(m.tup,()))) ?_ ?_
   ·show(bif Je m i then _ else _)=_
    cases Je m i with
    |true=>
     rw[d_];refine VF (f2_ (by simp only[h_,x_,d1_];omega)) rfl
    |false=>rw[c_,c_,a8_]
   refine aB i3 ?_
   have e:Fq m calm (i+1)=Fq m calm i++[⟨4,0,0,i,2⟩]++(bif Je m i then [⟨6,0,0,i,0⟩]else [])++(bif flA m i then [⟨5,0,0,i,0⟩]else []):=by
    show Fq m calm i++Qy m calm i=_;unfold Qy;rw[q2,d_];simp only[L_]
   refine aC (λq3=>?_) λq3=>V ⟨k-1,ω,i+1,?_,ω⟩
   ·have q3:flA m i=R:=q3
    rw[q3,d_]at e;refine aB (f2_ (by have:(bif Je m i then [(⟨6,0,0,i,0⟩:Record)]else []).length≤1:=(by cases Je m i<;>simp);simp only[h_,x_,d1_];omega)) (V ⟨k-1,ω,i+1,?_,ω⟩)
    simp only[w];rw[e]
   ·have q3:flA m i=H:=q3
    rw[q3,c_,a8_]at e;simp only[w];rw[e]
 obtain⟨y,hy,rfl⟩:=hL;unfold LI;refine D (CL hb m (c0_ (show m.D0.length≤8 by rw[hm.lp];omega) (by decide)) (c0_ he (by decide))) ?_
 show(bif !m.ok b then _ else _)=_;rw[Img.ok_iff.2 hm,hcalm,N_,m_,c_,c_];exact D hy rfl
end
def Vc(x:Int):0≤aH.wrap (stk x 255 (aE (Y (IntKind.bits .u32) x&&&Y (IntKind.bits .u32) 255)))∧aH.wrap (stk x 255 (aE (Y (IntKind.bits .u32) x&&&Y (IntKind.bits .u32) 255)))<256:=by
 rw[YY];unfold vb
 have h:(bv x&&&bv 255).toNat<256:=by
  rw[BitVec.toNat_and];exact Nat.lt_of_le_of_lt Nat.and_le_right (show(bv 255).toNat<256 by decide)
 omega
def Bp4(n:Int):0≤A.wrap (B J n)∧A.wrap (B J n)≤255:=by
 have:=Abh n
 rw[L ω ω]
 omega
def Tq{x:Int}(h:0≤x∧x<4294967296):Sat (CO x) λy=>0≤y.1.1∧y.1.1≤255:=by
 unfold CO;refine aB (Aa ?_ (aG ?_ (Int.ofNat_le.2 (B_ (n:=256) rfl)))) ?_
 ·rw[a2_ _ (by decide)]
  exact Int.ediv_nonneg h.1 (by decide)
 ·rw[a2_ _ (by decide)]
  exact Int.ediv_lt_of_lt_mul (by decide) h.2
 refine aB (Aa (Vc _).1 (aG (Vc _).2 (Int.ofNat_le.2 (B_ (n:=256) rfl)))) ?_;refine aB (Aa (Vc _).1 (aG (Vc _).2 (Int.ofNat_le.2 (B_ (n:=256) rfl)))) ?_;exact aB (Aa (Vc _).1 (aG (Vc _).2 (Int.ofNat_le.2 (B_ (n:=256) rfl)))) (V (Bp4 _))
def XG(fl:Int){set:Int}(h:0≤set∧set<4294967296)(a c d e:Bool):Sat (Iu fl set a c d e) λ_=>True:=by
 unfold Iu MI;have i:SatT (CO set):=⟨(Tq h).any⟩;refine aD (Q:=λ_=>True) (aD (Atw set) λ_ _=>aD (Q:=λ_=>True) ?_ λ_ _=>aC (λ_=>V trivial) λ_=>V trivial) λ_ _=>aD (Ay4 a c) λ_ _=>aD (Ay4 d e) λ_ _=>V trivial
 refine aD (isFloors_ti fl).out λ_ _=>aC (λ_=>aD (Tq h) λ_ _=>aC (λ_=>V trivial) λ_=>V trivial) λ_=>V trivial
def orL(x y:Int):Int:=I.wrap (stk x y (aE ((Y (IntKind.bits I) x)|||(Y (IntKind.bits I) y))))
def leV(s:ByteArray):Nat→Int
 |0=>0
 |i+1=>orL (leV s i) (B I (B I (Bo s i)*((2:Int)^(U (W (8*(i:Int))) (IntKind.bits I)))))
def LV(b:O)(hk:k≤8)(hs:k≤s.size):BF (k:Int) s b.C0 b.F0 b.I0 b.N0 b.K0 b.M0 b.O0 b.B0=C ((leV s k,()),((s.extract k s.size,b.C0,b.F0,b.I0,b.N0,b.K0,b.M0,b.O0,b.B0,()),())):=by
 have h:Sat (CP (((),(k:Int),(0:Int),(k:Int),(0:Int),()),((s,b.C0,b.F0,b.I0,b.N0,b.K0,b.M0,b.O0,b.B0,()),()))) λy=>y=(((),(k:Int),leV s k,()),((s,b.C0,b.F0,b.I0,b.N0,b.K0,b.M0,b.O0,b.B0,()),())):=by
  unfold CP;refine Sat.loop (λm x=>∃i:Nat,x=(((),(k:Int),leV s i,(k:Int),(i:Int),()),((s,b.C0,b.F0,b.I0,b.N0,b.K0,b.M0,b.O0,b.B0,()),()))∧i+m=k) ?_ k ⟨0,rfl,ω⟩ ω
  rintro m x ⟨i,rfl,hm⟩;show Sat (GC (k:Int) (leV s i) (k:Int) (i:Int) s b.C0 b.F0 b.I0 b.N0 b.K0 b.M0 b.O0 b.B0) _;unfold GC;refine aC (λq=>?_) λq=>V ?_
  ·have q:=n_ q
   have hi:i<s.size:=ω
   refine aB (Aa ω ω) ?_
   have w8:A.wrap (8*(i:Int))=8*(i:Int):=L ω ω
   have w1:A.wrap ((i:Int)+1)=((i+1:Nat):Int):=by rw[L ω ω];omega
   simp only[w8,w1];exact aB (b_ ω) (V ⟨m-1,ω,i+1,rfl,ω⟩)
  ·have q:=D_ q
   obtain rfl:i=k:=ω
   rfl
 obtain⟨y,h1,rfl⟩:=h;unfold BF;rw[h1];simp only[a_];rw[b_ (ω:(0:Int)≤(k:Int)),b_ (ω:(k:Int)≤(s.size:Int))]
 rfl
def Ku{α:Type}(d:α)(g:Nat→α→α)(i:Nat)(l:List α):List α:=l.set i (g i (l.getD i d))
def Ag4{α:Type}(d:α)(g:Nat→α→α):∀(m i:Nat) (l:List α),i+m=l.length→BC (Ku d g) m i l=l.take i++(List.range' i m).map (λj=>g j (l.getD j d))
 |0,i,l,h=>by
  rw[show i=l.length by omega,List.take_length];simp[BC]
 |m+1,i,l,h=>by
  have hi:i<l.length:=ω
  unfold BC;rw[Ag4 d g m (i+1) _ (by rw[Ku,v_];omega)]
  have e1:(Ku d g i l).take (i+1)=l.take i++[g i (l.getD i d)]:=by
   unfold Ku;rw[List.take_add_one,List.take_set_of_le ω,List.getElem?_set_self ω];rfl
  rw[e1,e8_,List.map_cons,L_,d0_];congr 2;apply List.map_congr_left;intro j hj;rw[List.mem_range']at hj;obtain⟨k,hk,rfl⟩:=hj;unfold Ku;rw[l_,List.getElem?_set_ne ω,← l_]
def Pr(d:α)(g:Nat→α→α)(f:Nat→α)(n:Nat):BC (Ku d g) n 0 ((Z n).map f)=(Z n).map (λj=>g j (f j)):=by
 rw[Ag4 d g n 0 _ (by simp),List.take_zero,a0_,← List.range_eq_range']
 apply List.map_congr_left;intro j hj;rw[List.mem_range]at hj;simp[l_,hj]
def BU{l:List α}(d x:α)(h:i<l.length):(l.set i x).getD i d=x:=by
 rw[l_,List.getElem?_set_self h];rfl
def g15(fl t i:Nat)(c:Car):Car:=⟨c.G1,c.I3,c.N3,c.I2,((1+t%3:Nat):Int),((1+t/3%3:Nat):Int),((1+t/9%3:Nat):Int),((1+t/9%3+t/27%5:Nat):Int),(((i+t)%fl:Nat):Int)⟩
def g18(t:Nat)(_:Nat)(c:Car):Car:={ c with G1:=((1+t%16:Nat):Int) }
def g27(n1 n2:Nat)(_:Nat)(c:Car):Car:={ c with N3:=((1+n2%4:Nat):Int),I2:=((n1%5:Nat):Int) }
def Ey(fl ca t:Nat):O:={ AI fl ca with N0:=((1+t%7:Nat):Int),B0:=(Z ca).map λi=>g15 fl t i (FD fl i) }
def TV(fl ca t:Nat):O:={ Ey fl ca t with B0:=(Z ca).map λi=>g18 t i (g15 fl t i (FD fl i)) }
def Ez(fl ca n1 n2:Nat):O:={ Ey fl ca n1 with F0:=((1+n2%3:Nat):Int),I0:=((18*ca+24+6*(n2/3):Nat):Int),B0:=(Z ca).map λi=>g27 n1 n2 i (g18 n1 i (g15 fl n1 i (FD fl i))) }
def Bdm{n:Int}(h:0≤n)(h':n<256):J.wrap n=n:=by
 simp only[B,IntKind.signed,IntKind.bits];simp;omega
def Kw(a b:Nat):N (a:Int) (b:Int)=((a%b:Nat):Int):=by
 rw[e2_ ω];norm_cast
def Bdk(a b:Nat):X (a:Int) (b:Int)=((a/b:Nat):Int):=by
 rw[Int.tdiv_eq_ediv_of_nonneg ω];norm_cast
def NZ(k:Nat)(ht:t<100000):A.wrap ((1:Int)+A.wrap (N (t:Int) (k:Int)))=((1+t%k:Nat):Int):=by
 have:t%k≤t:=Nat.mod_le _ _
 rw[Kw];generalize t%k=q at this⊢;rw[L (n:=(q:Int)) ω ω,L ω ω];norm_cast
def Xv(k:Nat)(ht:t<256):J.wrap (X (t:Int) (k:Int))=((t/k:Nat):Int):=by
 have:t/k≤t:=Nat.div_le_self _ _
 generalize hq:t/k=q at this;rw[Bdk,hq,Bdm ω ω]
def Aqz{fl ca:Nat}(h1:1≤fl)(hf:fl≤100)(h2:ca≤8)(ht:t<256):
  Kd (((t:Int),(),(),(0:Int),()),(Bldg.none.tup,(AI fl ca).tup,()))=C (((t:Int),(),(),()),(Bldg.none.tup,({ AI fl ca with B0:=(Ey fl ca t).B0 }:O).tup,())):=by
 have hl:(AI fl ca).B0.length=ca:=by simp[AI]
 have h:=AR (step:=λx=>letI a:=x.2.2.1.2.2;letI b:=x.2.1.2.2;letI c:=b.2.2;letI d:=a.2.2;Gb x.1.1 x.1.2.2.2.1 x.2.1.1 x.2.1.2.1 b.1 b.2.1 c.1 c.2.1 c.2.2.1 c.2.2.2.1 x.2.2.1.1 x.2.2.1.2.1 a.1 a.2.1 d.1 d.2.1 d.2.2.1 d.2.2.2.1) ca
  (λi l=>(((t:Int),(),(),(i:Int),()),(Bldg.none.tup,({ AI fl ca with B0:=l }:O).tup,()))) (Ku ED (g15 fl t)) (λ_ l=>l.length=ca) (λl=>(((t:Int),(),(),()),(Bldg.none.tup,({ AI fl ca with B0:=l }:O).tup,())))
  (λi l hi hll=>by
   refine⟨?_,by rw[Ku,v_,hll]⟩
   show Gb (t:Int) (i:Int) Bldg.none.C0 Bldg.none.F0 Bldg.none.I0 Bldg.none.N0 Bldg.none.K0 Bldg.none.M0 Bldg.none.O0 Bldg.none.B0 (AI fl ca).C0 (AI fl ca).F0 (AI fl ca).I0 (AI fl ca).N0 (AI fl ca).K0 (AI fl ca).M0 (AI fl ca).O0 l=_;unfold Gb;have hil:i<l.length:=ω
   have hz:((AI fl ca).C0 !=0)=R:=by show((fl:Int) !=0)=R;simp;omega
   have w:A.wrap ((i:Int)+1)=((i+1:Nat):Int):=by rw[L ω ω];omega
   have e1:A.wrap ((1:Int)+A.wrap (N (t:Int) 3))=((1+t%3:Nat):Int):=NZ 3 ω
   have e2:A.wrap ((1:Int)+A.wrap (N (B J (X (t:Int) 3)) 3))=((1+t/3%3:Nat):Int):=by
    rw[show J.wrap (X (t:Int) 3)=((t/3:Nat):Int)from Xv 3 ht];exact NZ 3 ω
   have e3:A.wrap ((1:Int)+A.wrap (N (B J (X (t:Int) 9)) 3))=((1+t/9%3:Nat):Int):=by
    rw[show J.wrap (X (t:Int) 9)=((t/9:Nat):Int)from Xv 9 ht];exact NZ 3 ω
   have e4:A.wrap (((1+t/9%3:Nat):Int)+A.wrap (N (B J (X (t:Int) 27)) 5))=((1+t/9%3+t/27%5:Nat):Int):=by
    rw[show J.wrap (X (t:Int) 27)=((t/27:Nat):Int)from Xv 27 ht,show N ((t/27:Nat):Int) 5=((t/27%5:Nat):Int)from Kw _ 5,L (n:=((t/27%5:Nat):Int)) ω ω,L ω ω];norm_cast
   have e5:N (B A ((i:Int)+A.wrap (t:Int))) (AI fl ca).C0=(((i+t)%fl:Nat):Int):=by
    show N _ (fl:Int)=_;rw[L (n:=(t:Int)) ω ω,L ω ω]
    exact Kw (i+t) fl
   rw[show Car.mk 0 0 0 0 0 0 0 0 0=ED from rfl]
   simp only[b_ (ω:(i:Int)<(l.length:Int)),Aa (ω:(0:Int)≤(i:Int)) (ω:(i:Int)<(l.length:Int)),d_,j_,hz,w,BU ED _ hil,List.set_set,e1,e2,e3,e4,e5]
   unfold Ku g15
   rfl)
  (λl hll=>by
   show Gb (t:Int) (ca:Int) Bldg.none.C0 Bldg.none.F0 Bldg.none.I0 Bldg.none.N0 Bldg.none.K0 Bldg.none.M0 Bldg.none.O0 Bldg.none.B0 (AI fl ca).C0 (AI fl ca).F0 (AI fl ca).I0 (AI fl ca).N0 (AI fl ca).K0 (AI fl ca).M0 (AI fl ca).O0 l=_;unfold Gb;rw[hll,e_ (C_ (ca:Int))];rfl)
  ca 0 (AI fl ca).B0 ω hl
 have h2:=Ah h.1 ω
 rw[show(AI fl ca).B0=(Z ca).map (FD fl)from rfl,Pr]at h2
 exact h2
def Aq0{fl ca:Nat}(_hf:fl≤100)(h2:ca≤8)(ht:t<256):
  Ke (((t:Int),(),(),(0:Int),()),(Bldg.none.tup,(Ey fl ca t).tup,()))=C (((),(),()),(Bldg.none.tup,(TV fl ca t).tup,())):=by
 have hl:(Ey fl ca t).B0.length=ca:=by simp[Ey]
 have h:=AR (step:=λx=>letI a:=x.2.2.1.2.2;letI b:=x.2.1.2.2;letI c:=b.2.2;letI d:=a.2.2;Gd x.1.1 x.1.2.2.2.1 x.2.1.1 x.2.1.2.1 b.1 b.2.1 c.1 c.2.1 c.2.2.1 c.2.2.2.1 x.2.2.1.1 x.2.2.1.2.1 a.1 a.2.1 d.1 d.2.1 d.2.2.1 d.2.2.2.1) ca
  (λi l=>(((t:Int),(),(),(i:Int),()),(Bldg.none.tup,({ Ey fl ca t with B0:=l }:O).tup,()))) (Ku ED (g18 t)) (λ_ l=>l.length=ca) (λl=>(((),(),()),(Bldg.none.tup,({ Ey fl ca t with B0:=l }:O).tup,())))
  (λi l hi hll=>by
   refine⟨?_,by rw[Ku,v_,hll]⟩
   show Gd (t:Int) (i:Int) Bldg.none.C0 Bldg.none.F0 Bldg.none.I0 Bldg.none.N0 Bldg.none.K0 Bldg.none.M0 Bldg.none.O0 Bldg.none.B0 (Ey fl ca t).C0 (Ey fl ca t).F0 (Ey fl ca t).I0 (Ey fl ca t).N0 (Ey fl ca t).K0 (Ey fl ca t).M0 (Ey fl ca t).O0 l=_;unfold Gd;have w:A.wrap ((i:Int)+1)=((i+1:Nat):Int):=by rw[L ω ω];omega
   have e1:A.wrap ((1:Int)+A.wrap (N (t:Int) 16))=((1+t%16:Nat):Int):=NZ 16 ω
   rw[show Car.mk 0 0 0 0 0 0 0 0 0=ED from rfl]
   simp only[b_ (ω:(i:Int)<(l.length:Int)),Aa (ω:(0:Int)≤(i:Int)) (ω:(i:Int)<(l.length:Int)),d_,j_,w,e1]
   unfold Ku g18
   rfl)
  (λl hll=>by
   show Gd (t:Int) (ca:Int) Bldg.none.C0 Bldg.none.F0 Bldg.none.I0 Bldg.none.N0 Bldg.none.K0 Bldg.none.M0 Bldg.none.O0 Bldg.none.B0 (Ey fl ca t).C0 (Ey fl ca t).F0 (Ey fl ca t).I0 (Ey fl ca t).N0 (Ey fl ca t).K0 (Ey fl ca t).M0 (Ey fl ca t).O0 l=_;unfold Gd;rw[hll,e_ (C_ (ca:Int))];rfl)
  ca 0 (Ey fl ca t).B0 ω hl
 have h2:=Ah h.1 ω
 rw[show(Ey fl ca t).B0=(Z ca).map (λi=>g15 fl t i (FD fl i))from rfl,Pr]at h2
 exact h2
def Gv(fl ca n1 n2:Nat):O:={ Ez fl ca n1 n2 with B0:=(TV fl ca n1).B0 }
def Aq1{fl ca n0 n1 n2:Nat}(h2:ca≤8)(_h3:n1<256)(h4:n2<256) :
  HB (((),(),(),(0:Int),()),(((n0:Int),(n1:Int),(n2:Int),()),Bldg.none.tup,(Gv fl ca n1 n2).tup,()))=C (((),(),()),(Bldg.none.tup,(Ez fl ca n1 n2).tup,())):=by
 have hl:(Gv fl ca n1 n2).B0.length=ca:=by simp[Gv,TV]
 have h:=AR (step:=λx=>letI a:=x.2.2;letI b:=a.2.1.2.2;letI c:=a.1.2.2;letI d:=c.2.2;letI e:=b.2.2;Ge x.1.2.2.2.1 x.2.1.1 x.2.1.2.1 x.2.1.2.2.1 a.1.1 a.1.2.1 c.1 c.2.1 d.1 d.2.1 d.2.2.1 d.2.2.2.1 a.2.1.1 a.2.1.2.1 b.1 b.2.1 e.1 e.2.1 e.2.2.1 e.2.2.2.1) ca
  (λi l=>(((),(),(),(i:Int),()),(((n0:Int),(n1:Int),(n2:Int),()),Bldg.none.tup,({ Gv fl ca n1 n2 with B0:=l }:O).tup,()))) (Ku ED (g27 n1 n2)) (λ_ l=>l.length=ca) (λl=>(((),(),()),(Bldg.none.tup,({ Gv fl ca n1 n2 with B0:=l }:O).tup,())))
  (λi l hi hll=>by
   refine⟨?_,by rw[Ku,v_,hll]⟩
   show Ge (i:Int) (n0:Int) (n1:Int) (n2:Int) Bldg.none.C0 Bldg.none.F0 Bldg.none.I0 Bldg.none.N0 Bldg.none.K0 Bldg.none.M0 Bldg.none.O0 Bldg.none.B0 (Gv fl ca n1 n2).C0 (Gv fl ca n1 n2).F0 (Gv fl ca n1 n2).I0 (Gv fl ca n1 n2).N0 (Gv fl ca n1 n2).K0 (Gv fl ca n1 n2).M0 (Gv fl ca n1 n2).O0 l=_;unfold Ge;have hil:i<l.length:=ω
   have w:A.wrap ((i:Int)+1)=((i+1:Nat):Int):=by rw[L ω ω];omega
   have e1:A.wrap ((1:Int)+A.wrap (N (n2:Int) 4))=((1+n2%4:Nat):Int):=NZ 4 ω
   have e2:A.wrap (N (n1:Int) 5)=((n1%5:Nat):Int):=by
    rw[show N (n1:Int) 5=((n1%5:Nat):Int)from Kw n1 5,L ω ω]
   rw[show Car.mk 0 0 0 0 0 0 0 0 0=ED from rfl]
   simp only[b_ (ω:(i:Int)<(l.length:Int)),Aa (ω:(0:Int)≤(i:Int)) (ω:(i:Int)<(l.length:Int)),d_,j_,w,e1,e2,BU ED _ hil,List.set_set,v_]
   unfold Ku g27
   rfl)
  (λl hll=>by
   show Ge (ca:Int) (n0:Int) (n1:Int) (n2:Int) Bldg.none.C0 Bldg.none.F0 Bldg.none.I0 Bldg.none.N0 Bldg.none.K0 Bldg.none.M0 Bldg.none.O0 Bldg.none.B0 (Gv fl ca n1 n2).C0 (Gv fl ca n1 n2).F0 (Gv fl ca n1 n2).I0 (Gv fl ca n1 n2).N0 (Gv fl ca n1 n2).K0 (Gv fl ca n1 n2).M0 (Gv fl ca n1 n2).O0 l=_;unfold Ge;rw[hll,e_ (C_ (ca:Int))];rfl)
  ca 0 (Gv fl ca n1 n2).B0 ω hl
 have h2:=Ah h.1 ω
 rw[show(Gv fl ca n1 n2).B0=(Z ca).map (λi=>g18 n1 i (g15 fl n1 i (FD fl i)))from rfl,Pr]at h2
 exact h2
def GE(n0:Nat):Nat:=2+n0%5
def Gk(n0:Nat):Nat:=1+n0/5%3
def Zc{n0:Nat}(hn:n0<256)(ht:t<256):Mg (n0:Int) (t:Int)=C (((),()),((Ey (GE n0) (Gk n0) t).tup,())):=by
 have e1:A.wrap ((2:Int)+A.wrap (N (n0:Int) 5))=((GE n0:Nat):Int):=by
  rw[show N (n0:Int) 5=((n0%5:Nat):Int)from Kw n0 5,L (n:=((n0%5:Nat):Int)) ω ω,L ω ω];unfold GE;norm_cast
 have e2:A.wrap ((1:Int)+A.wrap (N (B J (X (n0:Int) 5)) 3))=((Gk n0:Nat):Int):=by
  rw[show J.wrap (X (n0:Int) 5)=((n0/5:Nat):Int)from Xv 5 hn];exact NZ 3 ω
 have hf:2≤GE n0∧GE n0≤6:=by unfold GE;omega
 have hc:1≤Gk n0∧Gk n0≤3:=by unfold Gk;omega
 have e3:A.wrap ((1:Int)+A.wrap (N (t:Int) 7))=((1+t%7:Nat):Int):=NZ 7 ω
 unfold Mg;rw[e1,e2];refine D (Abk ω ω) ?_
 refine D (Aqz ω ω ω ht) ?_
 show C (((),()),(((GE n0:Nat):Int),(1:Int),(4000:Int),A.wrap ((1:Int)+A.wrap (N (t:Int) 7)),_,_,_,_,()),())=_;rw[e3];rfl
def Zd{n0:Nat}(hn:n0<256)(ht:t<256):Mh (n0:Int) (t:Int)=C (((),()),((TV (GE n0) (Gk n0) t).tup,())):=by
 have hf:2≤GE n0∧GE n0≤6:=by unfold GE;omega
 have hc:1≤Gk n0∧Gk n0≤3:=by unfold Gk;omega
 unfold Mh;refine D (Zc hn ht) ?_;exact D (Aq0 ω ω ht) rfl
def Ze{n0 n1 n2:Nat}(h0:n0<256)(h1:n1<256)(h2:n2<256):FS (n0:Int) (n1:Int) (n2:Int)=C (((),()),((Ez (GE n0) (Gk n0) n1 n2).tup,())):=by
 have hf:2≤GE n0∧GE n0≤6:=by unfold GE;omega
 have hc:1≤Gk n0∧Gk n0≤3:=by unfold Gk;omega
 have e1:A.wrap ((1:Int)+A.wrap (N (n2:Int) 3))=((1+n2%3:Nat):Int):=NZ 3 ω
 have hl:(TV (GE n0) (Gk n0) n1).B0.length=Gk n0:=by simp[TV]
 have e2:A.wrap (B A (B A (18*(((TV (GE n0) (Gk n0) n1).B0.length:Nat):Int))+24)+A.wrap (6*A.wrap (B J (X (n2:Int) 3))))=((18*Gk n0+24+6*(n2/3):Nat):Int):=by
  rw[hl,show J.wrap (X (n2:Int) 3)=((n2/3:Nat):Int)from Xv 3 h2,L (n:=18*((Gk n0:Nat):Int)) ω ω,L (n:=18*((Gk n0:Nat):Int)+24) ω ω,L (n:=((n2/3:Nat):Int)) ω ω,L (n:=6*((n2/3:Nat):Int)) ω ω,L ω ω]
  norm_cast
 unfold FS;refine D (Zd h0 h1) ?_;refine D (a:=(((),(),()),(Bldg.none.tup,(Ez (GE n0) (Gk n0) n1 n2).tup,()))) ?_ rfl;show HB (((),(),(),(0:Int),()),(((n0:Int),(n1:Int),(n2:Int),()),Bldg.none.tup,(((GE n0:Nat):Int),A.wrap ((1:Int)+A.wrap (N (n2:Int) 3)),A.wrap (B A (B A (18*(((TV (GE n0) (Gk n0) n1).B0.length:Nat):Int))+24)+A.wrap (6*A.wrap (B J (X (n2:Int) 3)))),_,_,_,_,_,()),()))=_;rw[e1,e2];exact Aq1 ω h1 h2
def Anc{fl ca n1 n2:Nat}(hf:2≤fl∧fl≤6)(hc:1≤ca∧ca≤3)(_h1:n1<256)(h2:n2<256):(Ez fl ca n1 n2).small∧(Ez fl ca n1 n2).code=0∧(Ez fl ca n1 n2).B0.length=ca∧(Ez fl ca n1 n2).C0=(fl:Int)∧18*(ca:Int)+24≤(Ez fl ca n1 n2).I0∧(Ez fl ca n1 n2).I0≤600:=by
 have hl:(Ez fl ca n1 n2).B0.length=ca:=by simp[Ez]
 have hr:(Ez fl ca n1 n2).I0=((18*ca+24+6*(n2/3):Nat):Int):=rfl;refine⟨⟨by show(2:Int)≤(fl:Int);omega,by show(fl:Int)≤8;omega⟩,?_,hl,rfl,by rw[hr];omega,by rw[hr];omega⟩
 unfold Bldg.code;have e1:P 2 32 (Ez fl ca n1 n2).C0=R:=Am.2 (by show(2:Int)≤(fl:Int)∧(fl:Int)≤32;omega)
 have e2:P 1 8 ((Ez fl ca n1 n2).B0.length:Int)=R:=Am.2 ω
 have e3:P 1 16 (Ez fl ca n1 n2).F0=R:=Am.2 (by show(1:Int)≤((1+n2%3:Nat):Int)∧((1+n2%3:Nat):Int)≤16;omega)
 have e4:P 1 10000 (Ez fl ca n1 n2).N0=R:=Am.2 (by show(1:Int)≤((1+n1%7:Nat):Int)∧((1+n1%7:Nat):Int)≤10000;omega)
 have e5:(Ez fl ca n1 n2).B0.all (Ce (Ez fl ca n1 n2).C0)=R:=by
  rw[F_];intro c hc';obtain⟨i,_,rfl⟩:=c1_.1 hc';have hm:(i+n1)%fl<fl:=f0_ _ ω
  show Ce (fl:Int) (g27 n1 n2 i (g18 n1 i (g15 fl n1 i (FD fl i))))=R;unfold Ce g27 g18 g15 FD;simp only[X_,List.all_nil,c5_,f_,Am,A_];rw[L (n:=(fl:Int)-1) ω ω]
  refine⟨⟨?_,?_,?_,?_,?_,?_,?_⟩,?_,?_,?_⟩<;>omega
 have e6:(Ez fl ca n1 n2).loadsOK=R:=by
  show(AI 2 1).loadsOK=R
  kernel_rfl
 have e7:P (18*((Ez fl ca n1 n2).B0.length:Int)+24) 65536 (Ez fl ca n1 n2).I0=R:=Am.2 (by rw[hl,hr];omega)
 rw[e1,e2,e3,e4,e5,e6,e7];rfl
def CN(h:n<1000000000):A.wrap ((n:Int)+1)=((n+1:Nat):Int):=by
 rw[L ω ω];omega
def Cce(h:n<1000000000):I.wrap (n:Int)=(n:Int):=Eg ω ω
def Ad7(l:List Int):(GU l).size=l.length:=by
 simp[GU,ByteArray.size]
def Am6(x y:Int):Int:=A.wrap (stk x y (aE ((Y (IntKind.bits A) x)^^^(Y (IntKind.bits A) y))))
def WJ(_:Nat)(r:Int):Int:=bif decide (32768≤r)then Am6 (N (B A (r*2)) 65536) 4129 else N (B A (r*2)) 65536
def ZV(s:ByteArray)(i:Nat)(r:Int):Int:=BC WJ 8 0 (Am6 r (B A (B A (Bo s i)*256)))
def Yu(s:ByteArray):Int:=BC (ZV s) s.size 0 65535
def Aoc(s:ByteArray)(r i:Int):Nq ((s,r,i,(0:Int),()),())=C ((s,BC WJ 8 0 r,i,()),()):=by
 have h:=AR (step:=λx=>Ie x.1.1 x.1.2.1 x.1.2.2.1 x.1.2.2.2.1) 8 (λk r=>((s,r,i,(k:Int),()),())) WJ (λ_ _=>True) (λr=>((s,r,i,()),()))
  (λk r hk _=>by
   refine⟨?_,trivial⟩;show Ie s r i (k:Int)=_;unfold Ie;simp only[b_ (ω:(k:Int)<8),d_,CN (ω:k<1000000000)]
   unfold WJ Am6;cases decide ((32768:Int)≤r)<;>rfl)
  (λr _=>by
   show Ie s r i 8=_;unfold Ie;rw[e_ (C_ (8:Int))];rfl) 8 0 r ω trivial
 exact Ah h.1 ω
def Ama(hs:s.size≤1000000):Qp s=C ((B E (Yu s),()),()):=by
 have h:=AR (step:=λx=>Ic x.1.1 x.1.2.1 x.1.2.2.1) s.size (λi r=>((s,r,(i:Int),()),())) (ZV s) (λ_ _=>True) (λr=>((r,()),()))
  (λi r hi _=>by
   refine⟨?_,trivial⟩;show Ic s r (i:Int)=_;unfold Ic;simp only[b_ (ω:(i:Int)<(s.size:Int)),Aa (ω:(0:Int)≤(i:Int)) (ω:(i:Int)<(s.size:Int)),d_,j_]
   refine D (Aoc s _ _) ?_;show C (Sum.inl ((s,_,A.wrap ((i:Int)+1),()),()))=_;rw[CN (ω:i<1000000000)];rfl)
  (λr _=>by
   show Ic s r (s.size:Int)=_;unfold Ic;rw[e_ (C_ (s.size:Int))];rfl) s.size 0 65535 ω trivial
 have h2:Np ((s,(65535:Int),(0:Int),()),())=_:=Ah h.1 ω
 unfold Qp;exact D h2 rfl
def YU(s:ByteArray):ByteArray:=GU [J.wrap (B E (X (B E (Yu s)) 256)),J.wrap (N (B E (Yu s)) 256)]
def Jh(s:ByteArray):ByteArray:=s++YU s
def PA(s:ByteArray):(Jh s).size=s.size+2:=by
 unfold Jh YU;rw[P_,Ad7];rfl
def Aoa(hs:s.size≤1000000):RJ s=C ((Jh s,()),()):=by
 unfold RJ;refine D (Ama hs) ?_
 have:=PA s
 unfold Jh at this;rw[P_]at this;show(bif Nat.ble (s.size+(YU s).size) 4611686018427387904 then C ((s++YU s,()),())else none)=_;rw[At ω];rfl
def Ks(s:ByteArray):ByteArray×Int:=bif decide ((s.size:Int)<2)then(noB,4)else bif eqB (Jh (s.extract 0 (s.size-2))) s then(s.extract 0 (s.size-2),0)else(noB,5)
def Afq(n:Int)(k:Nat):List Int:=(Z k).map λi=>J.wrap (aA n ((2:Int)^(U (8*i) (IntKind.bits .u64))))
def nmB(n:Int)(k:Nat):ByteArray:=GU (Afq n k)
def Bs(n:Int)(k:Nat):(nmB n k).size=k:=by
 unfold nmB;rw[Ad7];simp[Afq]
def EE(n:Int)(hk:k≤100):DL n (k:Int)=C ((nmB n k,()),()):=by
 have h:=AR (step:=λx=>KW x.1.1 x.1.2.1 x.1.2.2.1 x.1.2.2.2.1) k (λi l=>((n,(k:Int),l,(i:Int),()),())) (Ku 0 (λi _=>J.wrap (aA n ((2:Int)^(U (8*i) (IntKind.bits .u64)))))) (λ_ l=>l.length=k) (λl=>((l,()),()))
  (λi l hi hl=>by
   refine⟨?_,by rw[Ku,v_,hl]⟩
   show KW n (k:Int) l (i:Int)=_;unfold KW
   have e:I.wrap (B A (8*(i:Int)))=((8*i:Nat):Int):=by
    rw[L (n:=8*(i:Int)) ω ω,Eg ω ω];norm_cast
   simp only[b_ (ω:(i:Int)<(k:Int)),Aa (ω:(0:Int)≤(i:Int)) (ω:(i:Int)<(l.length:Int)),d_,j_,e,b_ (ω:(0:Int)≤((8*i:Nat):Int)),CN (ω:i<1000000000)]
   rfl)
  (λl hl=>by
   show KW n (k:Int) l (k:Int)=_;unfold KW;rw[e_ (C_ (k:Int))];rfl) k 0 (List.replicate k 0) ω (by simp)
 have h2:=Ah h.1 ω
 rw[show List.replicate k (0:Int)=(Z k).map (λ_=>0)by simp[List.map_const'],Pr]at h2
 have h3:Qv ((n,(k:Int),(Z k).map (λ_=>(0:Int)),(0:Int),()),())=_:=h2
 unfold DL;rw[b_ (ω:(0:Int)≤(k:Int)),b_ (d7_ (k:Int)),b_ (ω:(k:Int)≤2147483648),S_,S_,d_,j_,show List.replicate k (0:Int)=(Z k).map (λ_=>0)by simp[List.map_const']]
 exact D h3 rfl
def Ta(c:Int×Int):ByteArray:=nmB (B I c.1) 4++nmB (B I c.2) 4
def Zu(c:Int×Int):(Ta c).size=8:=by
 unfold Ta;rw[P_,Bs,Bs]
def Amb(c:Int×Int):Qq c.1 c.2=C ((Ta c,()),()):=by
 unfold Qq;refine D (EE (B I c.1) (k:=4) ω) ?_
 refine D (EE (B I c.2) (k:=4) ω) ?_
 show(bif Nat.ble ((nmB (B I c.1) 4).size+(nmB (B I c.2) 4).size) 4611686018427387904 then _ else _)=_;rw[Bs,Bs];rfl
def Bpr(x y:Int):Int:=I.wrap (stk x y (aE ((Y (IntKind.bits I) x)|||(Y (IntKind.bits I) y))))
def Bas(l:List Bool)(i:Nat)(n:Int):Int:=bif l.getD i H then Bpr n (B I (1*2^min i (IntKind.bits .u64)))else n
def VG(l:List Bool):ByteArray:=nmB (BC (Bas l) l.length 0 0) 1
def RP(l:List Bool):(VG l).size=1:=Bs _ _
def Aof{l:List Bool}(hl:l.length≤100):RL l=C ((VG l,()),()):=by
 have h:=AR (step:=λx=>JC x.1.1 x.1.2.1 x.1.2.2.1) l.length (λi n=>((l,n,(i:Int),()),())) (Bas l) (λ_ _=>True) (λn=>((n,()),()))
  (λi n hi _=>by
   refine⟨?_,trivial⟩;show JC l n (i:Int)=_;unfold JC;simp only[b_ (ω:(i:Int)<(l.length:Int)),Aa (ω:(0:Int)≤(i:Int)) (ω:(i:Int)<(l.length:Int)),d_,j_,Cce (ω:i<1000000000),b_ (ω:(0:Int)≤(i:Int)),CN (ω:i<1000000000)]
   unfold Bas Bpr;cases l.getD i H<;>rfl)
  (λn _=>by
   show JC l n (l.length:Int)=_;unfold JC;rw[e_ (C_ (l.length:Int))];rfl) l.length 0 0 ω trivial
 have h2:OI ((l,(0:Int),(0:Int),()),())=_:=Ah h.1 ω
 unfold RL;refine D h2 ?_;exact D (EE _ (k:=1) ω) rfl
structure Inp where
 press:Int×Int
 kind:Int
 car:Int
 cars:List CarInput
def Inp.tup(x:Inp):Int×Int×Int×Int×List CarInput×Unit:=(x.press.1,x.press.2,x.kind,x.car,x.cars,())
def Inp.none:Inp:=⟨(0,0),0,0,[]⟩
def To:CarInput:=CarInput.mk 0 H H H H 0 H 0 H 0 0
def flV(b:O)(n:Int):Bool:=aA (B I n) ((2:Int)^b.C0.toNat)==0
def KO(b:O)(c:CarInput):Bool:=flV b c.V0&&(flV b c.V1&&(P 0 (b.C0-1) c.N1&&P 0 2 c.T1))
def Im(b:O)(c:Int×Int):Bool:=isZ (Cm c (Bv b))
def Nv(b:O)(x:Inp):Bool:=Im b x.press&&(P 0 8 x.kind&&(P 0 ((b.B0.length:Int)-1) x.car&&(!(x.kind==0&&x.car !=0)&&((x.cars.length:Int)==(b.B0.length:Int)&&x.cars.all (KO b)))))
def NO(s:ByteArray)(c:CarInput):ByteArray:=s++nmB (B I c.V0) 4++VG [c.X1,c.L1,c.M1,c.E1,c.B2,c.D2]++nmB (B I c.N1) 1++nmB (B I c.T1) 1++nmB (B I c.V1) 4++nmB ((c.D3:Nat):Int) 8
def Agl(s:ByteArray)(c:CarInput):(NO s c).size=s.size+19:=by
 unfold NO;simp only[P_,Bs,RP]
def Ue(b:O)(x:Inp):ByteArray:=nmB 165 1++nmB (B I (b.B0.length:Int)) 1++Ta x.press++nmB (B I x.kind) 1++nmB (B I x.car) 1
def Ac1(b:O)(x:Inp):(Ue b x).size=12:=by
 unfold Ue;simp only[P_,Bs,Zu]
def inV(b:O)(x:Inp):ByteArray:=Jh (x.cars.foldl NO (Ue b x))
def Acr(l:List CarInput)(s:ByteArray):(l.foldl NO s).size=s.size+19*l.length:=by
 induction l generalizing s with
 |nil=>simp
 |cons c t ih=>rw[List.foldl_cons,ih,Agl,x_];omega
def Aal(b:O)(x:Inp):(inV b x).size=14+19*x.cars.length:=by
 unfold inV;rw[PA,Acr,Ac1];omega
def LW(n lo hi:Int):NC n lo hi=C ((P lo hi n,()),()):=by
 unfold NC P;cases decide (lo≤n)<;>rfl
section
variable{b:O}(hb:b.small)(hcode:b.code=0)
include hb
theorem WX(n:Int):Oo b.C0 b.F0 b.I0 b.N0 b.K0 b.M0 b.O0 b.B0 n=C ((flV b n,()),()):=by
 have h1:=hb.1;have h2:=hb.2;have e:I.wrap b.C0=b.C0:=Eg ω ω
 have e2:U b.C0.toNat (IntKind.bits .u64)=b.C0.toNat:=by show min b.C0.toNat 64=_;omega
 unfold Oo flV;simp only[e,b_ (ω:(0:Int)≤b.C0),d_,e2]
theorem Aiu(x:Inp)(hx:x.cars.length≤1000):LJ (((),(),(0:Int),()),(b.tup,x.tup,()))=C (bif x.cars.all (KO b)then .inl ((),())else .inr ((H,()),())):=by
 have h1:=hb.1;have h2:=hb.2
 have h:=Ah (Ahc (step:=λx=>letI a:=x.2.1.2.2;letI d:=x.2.2.1;letI e:=a.2.2;JB x.1.2.2.1 x.2.1.1 x.2.1.2.1 a.1 a.2.1 e.1 e.2.1 e.2.2.1 e.2.2.2.1 d.1 d.2.1 d.2.2.1 d.2.2.2.1 d.2.2.2.2.1) x.cars To (KO b) (λi=>(((),(),(i:Int),()),(b.tup,x.tup,()))) (.inl ((),())) (λ_=>.inr ((H,()),())) (λi hi=>by
  show JB (i:Int) b.C0 b.F0 b.I0 b.N0 b.K0 b.M0 b.O0 b.B0 x.press.1 x.press.2 x.kind x.car x.cars=_;unfold JB;rw[show CarInput.mk 0 H H H H 0 H 0 H 0 0=To from rfl]
  have w:A.wrap (b.C0-1)=b.C0-1:=L ω ω
  simp only[b_ (ω:(i:Int)<(x.cars.length:Int)),d_,Aa (ω:(0:Int)≤(i:Int)) (ω:(i:Int)<(x.cars.length:Int)),j_,CN (ω:i<1000000000),w]
  generalize x.cars.getD i To=c;unfold KO;refine D (WX hb c.V0) ?_;show(bif !flV b c.V0 then _ else _)=_;cases flV b c.V0 with
  |false=>rfl
  |true=>
  rw[m_,c_,o_];refine D (WX hb c.V1) ?_;show(bif !flV b c.V1 then _ else _)=_;cases flV b c.V1 with
  |false=>rfl
  |true=>
  rw[m_,c_,o_];refine D (LW _ _ _) ?_;show(bif !P 0 (b.C0-1) c.N1 then _ else _)=_;cases P 0 (b.C0-1) c.N1 with
  |false=>rfl
  |true=>
  rw[m_,c_,o_];refine D (LW _ _ _) ?_;show(bif !P 0 2 c.T1 then _ else _)=_;cases P 0 2 c.T1<;>rfl) (by
  show JB (x.cars.length:Int) b.C0 b.F0 b.I0 b.N0 b.K0 b.M0 b.O0 b.B0 x.press.1 x.press.2 x.kind x.car x.cars=_;unfold JB;rw[e_ (C_ _),c_]) x.cars.length 0 ω) ω
 rw[R_,Bbq]at h;exact h
include hcode
theorem Nx(c:Int×Int):Oq b.C0 b.F0 b.I0 b.N0 b.K0 b.M0 b.O0 b.B0 c.1 c.2=C ((Im b c,()),()):=by
 unfold Oq;refine D (An9 hb hcode) ?_;have e1:=NR c.1 (Bv b).1;have e2:=NR c.2 (Bv b).2;show aF (bif aH.wrap _==0 then C ((B aH _==0,()),())else _) _=_;rw[e1,e2];unfold Im isZ;show aF (bif(Cm c (Bv b)).1==0 then C (((Cm c (Bv b)).2==0,()),())else _) _=_;cases(Cm c (Bv b)).1==0 with
 |false=>rfl
 |true=>rw[o_,c5_];rfl
theorem Aoe(x:Inp)(hx:x.cars.length≤1000):RK b.C0 b.F0 b.I0 b.N0 b.K0 b.M0 b.O0 b.B0 x.press.1 x.press.2 x.kind x.car x.cars=C ((Nv b x,()),()):=by
 have hc:=Ak hcode;have w:A.wrap ((b.B0.length:Int)-1)=(b.B0.length:Int)-1:=L ω ω
 unfold RK Nv;rw[w]
 have fin:∀g:Bool,aF (C (((),(),!g,()),(b.tup,x.tup,()))) (λy5:(Unit×Unit×Bool×Unit)×_=>bif y5.1.2.2.1 then C ((H,()),())else(LJ (((),(),(0:Int),()),(y5.2.1,y5.2.2.1,()))).bind λy6=>(match y6 with | .inl y7=>C ((R,()),()) | .inr y7=>C ((y7.1.1,()),())))=C (((g&&x.cars.all (KO b)),()),()):=by
  intro g;cases g with
  |false=>rfl
  |true=>
   refine D rfl ?_;show(bif !R then _ else _)=_;rw[m_,c_,o_];refine D (Aiu hb x hx) ?_;cases x.cars.all (KO b)<;>rfl
 rw[Hq];show aF (aF (C ((b.code,()),())) _) _=_;rw[hcode];cases h1:Im b x.press with
 |false=>
  refine D (D rfl (show(bif((0:Int) !=0)then _ else _)=C (((),(),!H,()),(b.tup,x.tup,()))from D (Nx hb hcode x.press) (by show(bif !Im b x.press then _ else _)=_;rw[h1];rfl))) ?_
  exact fin H
 |true=>
 cases h2:P 0 8 x.kind with
 |false=>
  refine D (D rfl (show(bif((0:Int) !=0)then _ else _)=C (((),(),!H,()),(b.tup,x.tup,()))from D (Nx hb hcode x.press) (by
   show(bif !Im b x.press then _ else _)=_;rw[h1,m_,c_];refine D (LW _ _ _) ?_;show(bif !P 0 8 x.kind then _ else _)=_;rw[h2];rfl))) ?_
  exact fin H
 |true=>
 cases h3:P 0 ((b.B0.length:Int)-1) x.car with
 |false=>
  refine D (D rfl (show(bif((0:Int) !=0)then _ else _)=C (((),(),!H,()),(b.tup,x.tup,()))from D (Nx hb hcode x.press) (by
   show(bif !Im b x.press then _ else _)=_;rw[h1,m_,c_];refine D (LW _ _ _) ?_;show(bif !P 0 8 x.kind then _ else _)=_;rw[h2,m_,c_];refine D (LW _ _ _) ?_;show(bif !P 0 ((b.B0.length:Int)-1) x.car then _ else _)=_;rw[h3];rfl))) ?_
  exact fin H
 |true=>
  refine D (D rfl (show(bif((0:Int) !=0)then _ else _)=C (((),(),!(!(x.kind==0&&x.car !=0)&&((x.cars.length:Int)==(b.B0.length:Int))),()),(b.tup,x.tup,()))from D (Nx hb hcode x.press) (by
   show(bif !Im b x.press then _ else _)=_;rw[h1,m_,c_];refine D (LW _ _ _) ?_;show(bif !P 0 8 x.kind then _ else _)=_;rw[h2,m_,c_];refine D (LW _ _ _) ?_;show(bif !P 0 ((b.B0.length:Int)-1) x.car then _ else _)=_;rw[h3,m_,c_];have hne:((x.cars.length:Int) !=(b.B0.length:Int))=!((x.cars.length:Int)==(b.B0.length:Int)):=rfl;rw[hne];cases(x.cars.length:Int)==(b.B0.length:Int)<;>cases x.kind==0<;>cases x.car !=0<;>rfl))) ?_
  refine Eq.trans (fin (!(x.kind==0&&x.car !=0)&&((x.cars.length:Int)==(b.B0.length:Int)))) ?_;simp only[o_,Bool.and_assoc]
end
def Bgf{a c:Nat}(ha:a<65536)(hc:c<65536):E.wrap (stk (a:Int) (c:Int) (aE ((Y (IntKind.bits .u16) (a:Int))^^^(Y (IntKind.bits .u16) (c:Int)))))=((a^^^c:Nat):Int):=by
 have h:=d3_ (n:=16) ha hc;rw[JP,BitVec.toNat_xor,W_,W_];rw[show(((a:Int))%((2^IntKind.bits .u16:Nat):Int)).toNat=a by simp only[IntKind.bits];omega,show(((c:Int))%((2^IntKind.bits .u16:Nat):Int)).toNat=c by simp only[IntKind.bits];omega]
 generalize a^^^c=n at*;simp only[B,IntKind.signed,IntKind.bits];simp;omega
def Am7{a c:Nat}(ha:a<65536)(hc:c<65536):Am6 (a:Int) (c:Int)=((a^^^c:Nat):Int):=by
 have h:=d3_ (n:=16) ha hc;unfold Am6;rw[JP,BitVec.toNat_xor,W_,W_];rw[show(((a:Int))%((2^IntKind.bits .i64:Nat):Int)).toNat=a by simp only[IntKind.bits];omega,show(((c:Int))%((2^IntKind.bits .i64:Nat):Int)).toNat=c by simp only[IntKind.bits];omega]
 exact L ω ω
def Qg(n:Nat):E.wrap (n:Int)=((n%65536:Nat):Int):=by
 simp only[B,IntKind.signed,IntKind.bits];simp
def n16(_:Nat)(r:Nat):Nat:=if 32768≤r then(2*r%65536)^^^4129 else 2*r%65536
def Ayu:n16 i r<65536:=by
 unfold n16;split
 ·exact d3_ (n:=16) (f0_ _ (by decide)) (by decide)
 ·exact f0_ _ (by decide)
def Bde(h:r<65536):WJ i (r:Int)=((n16 i r:Nat):Int):=by
 have w:N (B A ((r:Int)*2)) 65536=((2*r%65536:Nat):Int):=by
  rw[L ω ω,e2_ ω]
  omega
 unfold WJ n16;rw[w];by_cases g:32768≤r
 ·rw[b_ (ω:(32768:Int)≤(r:Int)),d_,if_pos g]
  exact Am7 (f0_ _ (by decide)) (by decide)
 ·rw[e_ (ω:¬(32768:Int)≤(r:Int)),c_,if_neg g]
def Bsi(h:r<65536):(B E (stk (B E ((r:Int)*((2:Int)^(U (W (1:Int)) (IntKind.bits E))))) (B E ((aA (r:Int) ((2:Int)^(U (W (15:Int)) (IntKind.bits E))))*(4129:Int))) (aE ((Y (IntKind.bits E) (B E ((r:Int)*((2:Int)^(U (W (1:Int)) (IntKind.bits E))))))^^^(Y (IntKind.bits E) (B E ((aA (r:Int) ((2:Int)^(U (W (15:Int)) (IntKind.bits E))))*(4129:Int))))))))=((n16 i r:Nat):Int):=by
 have w1:E.wrap ((r:Int)*((2:Int)^(U (W (1:Int)) (IntKind.bits E))))=((2*r%65536:Nat):Int):=by
  rw[show((2:Int)^(U (W (1:Int)) (IntKind.bits E)))=2 from rfl,show(r:Int)*2=((2*r:Nat):Int)by omega]
  exact Qg _
 have d:aA (r:Int) ((2:Int)^(U (W (15:Int)) (IntKind.bits E)))=((r/32768:Nat):Int):=by
  rw[show((2:Int)^(U (W (15:Int)) (IntKind.bits E)))=32768 from rfl,a2_ _ ω]
  omega
 have w2:E.wrap ((aA (r:Int) ((2:Int)^(U (W (15:Int)) (IntKind.bits E))))*(4129:Int))=((r/32768*4129:Nat):Int):=by
  rw[d,show((r/32768:Nat):Int)*4129=((r/32768*4129:Nat):Int)by omega,Qg]
  have:r/32768*4129<65536:=ω
  rw[g5_ this]
 rw[w1,w2,Bgf (f0_ _ (by decide)) ω]
 unfold n16;by_cases g:32768≤r
 ·rw[if_pos g,show r/32768*4129=4129 by omega]
 ·rw[if_neg g,show r/32768*4129=0 by omega,Nat.xor_zero]
def Acq:∀(k i r:Nat),r<65536→BC WJ k i (r:Int)=((BC n16 k i r:Nat):Int)∧BC n16 k i r<65536
 |0,_,_,h=>⟨rfl,h⟩
 |k+1,i,r,h=>by
  show BC WJ k (i+1) (WJ i (r:Int))=_∧_;rw[Bde (i:=i) h];exact Acq k (i+1) (n16 i r) Ayu
def Ay2(s:ByteArray)(hr:r<65536)(a c:Int):Nl ((s,(r:Int),a,c,(0:Int),()),())=C ((s,((BC n16 8 0 r:Nat):Int),a,c,()),()):=by
 have h:=AR (S:=Nat) (step:=λx=>Ia x.1.1 x.1.2.1 x.1.2.2.1 x.1.2.2.2.1 x.1.2.2.2.2.1) 8 (λk r=>((s,(r:Int),a,c,(k:Int),()),())) n16 (λ_ r=>r<65536) (λ(r:Nat)=>((s,(r:Int),a,c,()),()))
  (λk r hk hr=>by
   refine⟨?_,Ayu⟩;show Ia s (r:Int) a c (k:Int)=_;unfold Ia;simp only[b_ (ω:(k:Int)<8),d_,CN (ω:k<1000000000)]
   rw[Bsi (i:=k) hr])
  (λr _=>by
   show Ia s (r:Int) a c 8=_;unfold Ia;rw[e_ (C_ (8:Int))];rfl) 8 0 r ω hr
 exact Ah h.1 ω
def byN(s:ByteArray)(i:Nat):Nat:=((bl s).getD i 0).toNat
def QT(s:ByteArray)(i:Nat):byN s i<256:=UInt8.toNat_lt _
def b16(s:ByteArray)(i:Nat)(r:Nat):Nat:=BC n16 8 0 (r^^^(byN s i*256))
def s16(s:ByteArray):Nat:=BC (b16 s) s.size 0 65535
def Ajq(hr:r<65536):r^^^(byN s i*256)<65536:=d3_ (n:=16) hr (by have:=QT s i;omega)
def Ako(hs:s.size≤1000000):Qj s=C ((((s16 s:Nat):Int),()),())∧s16 s<65536:=by
 have h:=AR (S:=Nat) (step:=λx=>HZ x.1.1 x.1.2.1 x.1.2.2.1 x.1.2.2.2.1) s.size (λi r=>((s,(r:Int),(s.size:Int),(i:Int),()),())) (b16 s) (λ_ r=>r<65536) (λ(r:Nat)=>(((r:Int),()),()))
  (λi r hi hr=>by
   refine⟨?_,(Acq 8 0 _ (Ajq hr)).2⟩;show HZ s (r:Int) (s.size:Int) (i:Int)=_;unfold HZ;have hb:=QT s i
   have z:E.wrap ((B E (Bo s i))*((2:Int)^(U (W (8:Int)) (IntKind.bits E))))=((byN s i*256:Nat):Int):=by
    rw[LR];show E.wrap (B E ((byN s i:Nat):Int)*256)=_;rw[Qg,g5_ ω,show((byN s i:Nat):Int)*256=((byN s i*256:Nat):Int)by omega,Qg,g5_ ω]
   simp only[b_ (ω:(i:Int)<(s.size:Int)),Aa (ω:(0:Int)≤(i:Int)) (ω:(i:Int)<(s.size:Int)),d_,j_]
   rw[z,Bgf hr ω]
   refine D (Ay2 s (Ajq hr) _ _) ?_;show C (Sum.inl ((s,_,_,A.wrap ((i:Int)+1),()),()))=_;rw[CN (ω:i<1000000000)];rfl)
  (λr _=>by
   show HZ s (r:Int) (s.size:Int) (s.size:Int)=_;unfold HZ;rw[e_ (C_ (s.size:Int))];rfl) s.size 0 65535 ω (by decide)
 have h2:Nk ((s,(65535:Int),(s.size:Int),(0:Int),()),())=_:=Ah h.1 ω
 unfold Qj;exact⟨D h2 rfl,h.2⟩
def Bf0:∀(s:ByteArray) (k i r:Nat),r<65536→BC (ZV s) k i (r:Int)=((BC (b16 s) k i r:Nat):Int)
 |_,0,_,_,_=>rfl
 |s,k+1,i,r,h=>by
  have hb:=QT s i
  have e:ZV s i (r:Int)=((b16 s i r:Nat):Int):=by
   unfold ZV b16
   have z:A.wrap (B A (Bo s i)*256)=((byN s i*256:Nat):Int):=by
    rw[LR];show A.wrap (B A ((byN s i:Nat):Int)*256)=_;rw[L (n:=((byN s i:Nat):Int)) ω ω,L ω ω]
    omega
   rw[z,Am7 h ω]
   exact(Acq 8 0 _ (Ajq h)).1
  show BC (ZV s) k (i+1) (ZV s i (r:Int))=((BC (b16 s) k (i+1) (b16 s i r):Nat):Int);rw[e];exact Bf0 s k (i+1) _ (Acq 8 0 _ (Ajq h)).2
def Azn(s:ByteArray):Yu s=((s16 s:Nat):Int):=Bf0 s s.size 0 65535 (by decide)
def WO(n:Nat):J.wrap (n:Int)=((n%256:Nat):Int):=by
 simp only[B,IntKind.signed,IntKind.bits];simp
def Azk(s:ByteArray)(h:s16 s<65536):YU s=GU [J.wrap (aA ((s16 s:Nat):Int) ((2:Int)^(U (W (8:Int)) (IntKind.bits E)))),J.wrap ((s16 s:Nat):Int)]:=by
 have w:E.wrap (Yu s)=((s16 s:Nat):Int):=by rw[Azn,Qg,g5_ h]
 have d1:X ((s16 s:Nat):Int) 256=((s16 s/256:Nat):Int):=by rw[Int.tdiv_eq_ediv_of_nonneg ω];omega
 have d2:aA ((s16 s:Nat):Int) ((2:Int)^(U (W (8:Int)) (IntKind.bits E)))=((s16 s/256:Nat):Int):=by
  rw[show((2:Int)^(U (W (8:Int)) (IntKind.bits E)))=256 from rfl,a2_ _ ω]
  omega
 have d3:N ((s16 s:Nat):Int) 256=((s16 s%256:Nat):Int):=by rw[e2_ ω];omega
 unfold YU;rw[w,d1,d2,d3,Qg,WO,WO,WO,WO];congr 3
 ·omega
 ·congr 1;omega
def Anu(hs:s.size≤1000000):RF s=C ((Jh s,()),()):=by
 obtain⟨h1,h2⟩:=Ako hs;unfold RF;refine D h1 ?_
 have:=PA s
 unfold Jh at this;rw[P_]at this;show(bif Nat.ble (s.size+(GU [J.wrap (aA ((s16 s:Nat):Int) ((2:Int)^(U (W (8:Int)) (IntKind.bits E)))),J.wrap ((s16 s:Nat):Int)]).size) 4611686018427387904 then C ((s++GU [J.wrap (aA ((s16 s:Nat):Int) ((2:Int)^(U (W (8:Int)) (IntKind.bits E)))),J.wrap ((s16 s:Nat):Int)],()),())else none)=_;rw[← Azk s h2,At ω];rfl
def Ant(hs:s.size≤1000000):RE s=C (((Ks s).1,(Ks s).2,()),()):=by
 unfold RE Ks;by_cases h:(s.size:Int)<2
 ·have w:A.wrap ((s.size:Int)-2)=(s.size:Int)-2:=L ω ω
  simp only[w];rw[b_ h,b_ (ω:(s.size:Int)-2<0)];rfl
 ·rw[e_ h,c_]
  have w:A.wrap ((s.size:Int)-2)=((s.size-2:Nat):Int):=by rw[L ω ω];omega
  simp only[w,j_];rw[e_ (ω:¬((s.size-2:Nat):Int)<0),b_ (ω:(0:Int)≤((s.size-2:Nat):Int)),b_ (ω:((s.size-2:Nat):Int)≤(s.size:Int)),S_,d_,c_]
  refine D (Anu (s:=s.extract 0 (s.size-2)) (by rw[Aae s ω];omega)) ?_
  show(bif !eqB (Jh (s.extract 0 (s.size-2))) s then _ else _)=_;cases eqB (Jh (s.extract 0 (s.size-2))) s<;>rfl
end Go.Ovl
