import Derived.Test.YtefkmkbfjmahhaaGreatDoorOvF
import Derived.Test.YtefkmkbfjmahhaaGreatDoorOvA
import Derived.Test.YtefkmkbfjmahhaaGreatDoorOvD
import Derived.Test.YtefkmkbfjmahhaaGreatDoorOvC
set_option linter.all false
open Go.IntKind renaming i64->A,wrap->B,u16->E,u64->I,u8->J,u32->aH
open Option renaming some->C,bind->aF
open Go.Ovl renaming Ae->D,Aa->L,Bldg->O,inR->P
open Bool renaming false->H,true->R
open Int renaming tmod->N,toNat->W,tdiv->X,fdiv->aA,lt_of_lt_of_le->aG
open Min renaming min->U
open Go.Ovl.Sat renaming ret->V,bifT->aB,bic->aC,bindS->aD
open BitVec renaming ofInt->Y,toNat->aE
open List renaming range->Z
namespace Go.Ovl
open Go Go.Ab
set_option maxRecDepth 100000
variable{s:ByteArray}{calm:List Bool}{i t r k n:Nat}{α:Type}
def NV(m:Img)(car:Int):Bool:=m.A0.any λe=>e.R0==car
def HW(m:Img)(i:Nat):Bool:=phA m i==4&&lvA m i
def Qf(m:Img)(calm:List Bool)(i:Nat):Bool:=calm.getD i H&&((phA m i==1||HW m i)&&!NV m i)
def NT(m:Img)(calm:List Bool)(i:Nat):List Record:=bif Qf m calm i then [⟨4,0,0,i,2⟩]++(bif HW m i then [⟨6,0,0,i,0⟩]else [])++(bif flA m i then [⟨5,0,0,i,0⟩]else [])else []
def Cs(m:Img)(calm:List Bool):Nat→List Record
 |0=>[]
 |i+1=>Cs m calm i++NT m calm i
def Ay3(m:Img)(calm:List Bool)(i:Nat):(NT m calm i).length≤3:=by unfold NT;cases Qf m calm i<;>cases HW m i<;>cases flA m i<;>simp
def RI(m:Img)(calm:List Bool):∀i,(Cs m calm i).length≤3*i
 |0=>A_ 0
 |i+1=>by
  have:=RI m calm i
  have:=Ay3 m calm i
  show(Cs m calm i++NT m calm i).length≤_;rw[h_];omega
section
variable{b:O}{m:Img}(hm:ImgOK b m)(hb:b.small)(he:m.A0.length≤100000)
include hm he
omit hm in
theorem Ao4(car:Int):EQ m.F0 m.K0 m.H0 m.A0 car=C ((NV m car,()),()):=by
 have h:Sat (EQ m.F0 m.K0 m.H0 m.A0 car) λy=>y=((NV m car,()),()):=by
  unfold EQ IM;refine aD (Q:=λy=>match y with | .inl _=>NV m car=H | .inr z=>z=((R,()),())∧NV m car=R) (Sat.loop (λk x=>∃i:Nat,x=((car,m.A0,(m.A0.length:Int),(i:Int),()),())∧i+k=m.A0.length∧∀e∈m.A0.take i,(e.R0==car)=H) ?_ m.A0.length ⟨0,rfl,ω,λe h=>(by simp at h)⟩ ω) λy hy=>?_
  ·rintro k x ⟨i,rfl,hk,hn⟩;show Sat (Mi car m.A0 (m.A0.length:Int) (i:Int)) _;unfold Mi;refine aC (λq=>?_) λq=>V ?_
   ·have hi:i<m.A0.length:=by have:=n_ q;omega
    refine aB (Ac ω ω) (aC (λq2=>V ⟨rfl,?_⟩) λq2=>V ⟨k-1,ω,i+1,?_,ω,λe h=>?_⟩)
    ·exact List.any_eq_true.2 ⟨_,CD _ hi,q2⟩
    ·rw[show A.wrap ((i:Int)+1)=((i+1:Nat):Int)by rw[L ω ω];omega]
    ·rw[List.take_succ,j_ hi]at h;rcases o_.1 h with h | h
     ·exact hn e h
     ·rw[i_,k_,j_ hi]at q2
      have:e=m.A0[i]:=by simpa using h
      rw[this];exact q2
   ·have:=H_ q
    rw[a5_ ω]at hn;show NV m car=H;exact List.any_eq_false.2 λe h=>by rw[hn e h];decide
  ·cases y with
   |inl _=>rw[show NV m car=H from hy];exact V rfl
   |inr z=>obtain⟨h1,h2⟩:=hy;subst h1;rw[h2];exact V rfl
 obtain⟨y,h,rfl⟩:=h;exact h
include hb in
theorem Wh{kind:Int}(hk:0≤kind∧kind≤8)(hi:i<b.B0.length)(hcalm:calm.length=b.B0.length){fr:Bool}(hf:Dx m.F0 m.K0 m.H0 m.A0=C ((fr,()),())):KZ b.D0 b.G0 b.I0 b.M0 b.L0 b.N0 b.O0 b.B0 m.F0 m.K0 m.H0 m.A0 kind (i:Int) calm=C (((bif kind==0 then([],(0:Int))else Nt m i (calm.getD i H) fr kind).1,(bif kind==0 then([],(0:Int))else Nt m i (calm.getD i H) fr kind).2,()),()):=by
 have hcc:=An hm.code;unfold KZ;refine D (Do hb m (c6_ (show m.F0.length≤8 by rw[hm.lp];omega) τ) (c6_ he τ)) ?_;show(bif !m.ok b then _ else _)=_;rw[Img.ok_iff.2 hm,hcalm,Q_,f_ (ω:¬kind<0),f_ (ω:¬8<kind),f_ (ω:¬(i:Int)<0),f_ (ω:¬(b.B0.length:Int)≤(i:Int))];simp only[m_,b_];cases kind==0 with
 |true=>rfl
 |false=>rw[b_,Ac ω ω,d_];exact D (Bcu hm hi hf _ kind) rfl
include hb in
theorem XQ(hcalm:calm.length=b.B0.length):Me b.D0 b.G0 b.I0 b.M0 b.L0 b.N0 b.O0 b.B0 m.F0 m.K0 m.H0 m.A0 calm=C ((Cs m calm b.B0.length,()),()):=by
 have hcc:=An hm.code;have lp:=hm.lp;have lf:=hm.lf;have ll:=hm.ll;have hL:Sat (JL ((calm,(),([]:List Record),m.F0,(m.F0.length:Int),(0:Int),()),(m.tup,()))) λy=>y=((Cs m calm b.B0.length,()),()):=by
  unfold JL;refine Sat.loop (λk x=>∃(i:Nat),x=((calm,(),Cs m calm i,m.F0,(m.F0.length:Int),(i:Int),()),(m.tup,()))∧i+k=m.F0.length) ?_ m.F0.length ⟨0,rfl,ω⟩ ω;rintro k x ⟨i,rfl,hk⟩;have hl:=RI m calm i;show Sat (Qw calm (Cs m calm i) m.F0 (m.F0.length:Int) (i:Int) m.F0 m.K0 m.H0 m.A0) _;unfold Qw;refine aC (λq=>?_) λq=>V (by have q:=H_ q;show((Cs m calm i,()),())=((Cs m calm b.B0.length,()),());rw[show b.B0.length=i by omega]);have hi:i<m.F0.length:=by have:=n_ q;omega
  have w:=Ef hi (show m.F0.length≤AN by unfold AN;omega);have i1:inB (i:Int) m.F0.length=R:=Ac ω ω;have i2:inB (i:Int) m.H0.length=R:=Ac ω ω;have i3:inB (i:Int) m.K0.length=R:=Ac ω ω;have i4:inB (i:Int) calm.length=R:=Ac ω ω;refine aB i1 ?_;refine Sat.bindE (b:=((calm,(),Cs m calm i,(i:Int),phA m i,HW m i,m.F0,(m.F0.length:Int),(i:Int),()),(m.tup,()))) ?_ ?_
  ·show(bif phA m i==4 then _ else _)=_;unfold HW;cases phA m i==4 with
   |true=>rw[d_,i2];rfl
   |false=>rfl
  refine Sat.bindE (b:=((calm,(),Cs m calm i,(i:Int),HW m i,m.F0,(m.F0.length:Int),(i:Int),!Qf m calm i,()),(m.tup,()))) ?_ ?_
  ·have hb2:=Ao4 (m:=m) he (i:Int);show(bif inB (i:Int) calm.length then _ else _)=_;rw[i4,d_];unfold Qf;show(bif !calm.getD i H then _ else bif phA m i !=1 then bif !HW m i then _ else(EQ m.F0 m.K0 m.H0 m.A0 (i:Int)).bind _ else(EQ m.F0 m.K0 m.H0 m.A0 (i:Int)).bind _)=_;cases calm.getD i H with
   |false=>rfl
   |true=>
    rw[m_,b_,q_];unfold bne;cases phA m i==1 with
    |true=>rw[m_,b_];exact D hb2 (by show C ((calm,(),Cs m calm i,(i:Int),HW m i,m.F0,(m.F0.length:Int),(i:Int),NV m (i:Int),()),_)=_;rw[Bool.true_or,q_,Bool.not_not])
    |false=>
     rw[c1_,d_];cases HW m i with
     |false=>rfl
     |true=>exact D hb2 (by show C ((calm,(),Cs m calm i,(i:Int),R,m.F0,(m.F0.length:Int),(i:Int),NV m (i:Int),()),_)=_;rw[Bool.or_true,q_,Bool.not_not])
  refine aC (λq2=>V ⟨k-1,ω,i+1,?_,ω⟩) λq2=>?_
  ·simp only[w];have q2:Qf m calm i=H:=by simpa using q2
   show _=((calm,(),Cs m calm i++NT m calm i,m.F0,(m.F0.length:Int),((i+1:Nat):Int),()),(m.tup,()));rw[show NT m calm i=[]by unfold NT;rw[q2];rfl,a0_]
  ·have q2:Qf m calm i=R:=by simpa using q2
   refine aB (f5_ (by simp only[E_,d6_];omega)) ?_;refine Sat.bindE (b:=((calm,(),Cs m calm i++[⟨4,0,0,i,2⟩]++(bif HW m i then [⟨6,0,0,i,0⟩]else []),(i:Int),m.F0,(m.F0.length:Int),(i:Int),()),(m.tup,()))) ?_ ?_
   ·show(bif HW m i then _ else _)=_;cases HW m i with
    |true=>rw[d_];refine Yg (f5_ (by simp only[h_,E_,d6_];omega)) rfl
    |false=>rw[b_,b_,a0_]
   refine aB i3 ?_;have e:Cs m calm (i+1)=Cs m calm i++[⟨4,0,0,i,2⟩]++(bif HW m i then [⟨6,0,0,i,0⟩]else [])++(bif flA m i then [⟨5,0,0,i,0⟩]else []):=by show Cs m calm i++NT m calm i=_;unfold NT;rw[q2,d_];simp only[F_]
   refine aC (λq3=>?_) λq3=>V ⟨k-1,ω,i+1,?_,ω⟩
   ·have q3:flA m i=R:=q3;rw[q3,d_]at e;refine aB (f5_ (by have:(bif HW m i then [(⟨6,0,0,i,0⟩:Record)]else []).length≤1:=(by cases HW m i<;>simp);simp only[h_,E_,d6_];omega)) (V ⟨k-1,ω,i+1,?_,ω⟩);simp only[w];rw[e]
   ·have q3:flA m i=H:=q3;rw[q3,b_,a0_]at e;simp only[w];rw[e]
 obtain⟨y,hy,rfl⟩:=hL;unfold Me;refine D (Do hb m (c6_ (show m.F0.length≤8 by rw[hm.lp];omega) τ) (c6_ he τ)) ?_;show(bif !m.ok b then _ else _)=_;rw[Img.ok_iff.2 hm,hcalm,Q_,m_,b_,b_];exact D hy rfl
end
def VR(x:Int):0≤aH.wrap (stk x 255 (aE (Y (IntKind.bits .u32) x&&&Y (IntKind.bits .u32) 255)))∧aH.wrap (stk x 255 (aE (Y (IntKind.bits .u32) x&&&Y (IntKind.bits .u32) 255)))<256:=by
 rw[Vo];unfold vb;have h:(bv x&&&bv 255).toNat<256:=by rw[BitVec.toNat_and];exact Nat.lt_of_le_of_lt Nat.and_le_right (show(bv 255).toNat<256 by decide)
 omega
def Br3(n:Int):0≤A.wrap (B J n)∧A.wrap (B J n)≤255:=by
 have:=Acv n
 rw[L ω ω];omega
def Uf{x:Int}(h:0≤x∧x<4294967296):Sat (Ds x) λy=>0≤y.1.1∧y.1.1≤255:=by
 unfold Ds;refine aB (Ac ?_ (aG ?_ (Int.ofNat_le.2 (G_ (n:=256) rfl)))) ?_
 ·rw[a9_ _ τ];exact Int.ediv_nonneg h.1 τ
 ·rw[a9_ _ τ];exact Int.ediv_lt_of_lt_mul τ h.2
 refine aB (Ac (VR _).1 (aG (VR _).2 (Int.ofNat_le.2 (G_ (n:=256) rfl)))) ?_;refine aB (Ac (VR _).1 (aG (VR _).2 (Int.ofNat_le.2 (G_ (n:=256) rfl)))) ?_;exact aB (Ac (VR _).1 (aG (VR _).2 (Int.ofNat_le.2 (G_ (n:=256) rfl)))) (V (Br3 _))
def YD(fl:Int){set:Int}(h:0≤set∧set<4294967296)(a c d e:Bool):Sat (ID fl set a c d e) λ_=>True:=by unfold ID Ni;have i:SatT (Ds set):=⟨(Uf h).any⟩;refine aD (Q:=λ_=>True) (aD (Avp set) λ_ _=>aD (Q:=λ_=>True) ?_ λ_ _=>aC (λ_=>V trivial) λ_=>V trivial) λ_ _=>aD (Baw a c) λ_ _=>aD (Baw d e) λ_ _=>V trivial;refine aD (isFloors_ti fl).out λ_ _=>aC (λ_=>aD (Uf h) λ_ _=>aC (λ_=>V trivial) λ_=>V trivial) λ_=>V trivial
def orL(x y:Int):Int:=I.wrap (stk x y (aE ((Y (IntKind.bits I) x)|||(Y (IntKind.bits I) y))))
def leV(s:ByteArray):Nat→Int
 |0=>0
 |i+1=>orL (leV s i) (B I (B I (By s i)*((2:Int)^(U (W (8*(i:Int))) (IntKind.bits I)))))
def Mq(b:O)(hk:k≤8)(hs:k≤s.size):BU (k:Int) s b.D0 b.G0 b.I0 b.M0 b.L0 b.N0 b.O0 b.B0=C ((leV s k,()),((s.extract k s.size,b.D0,b.G0,b.I0,b.M0,b.L0,b.N0,b.O0,b.B0,()),())):=by
 have h:Sat (Dt (((),(k:Int),(0:Int),(k:Int),(0:Int),()),((s,b.D0,b.G0,b.I0,b.M0,b.L0,b.N0,b.O0,b.B0,()),()))) λy=>y=(((),(k:Int),leV s k,()),((s,b.D0,b.G0,b.I0,b.M0,b.L0,b.N0,b.O0,b.B0,()),())):=by
  unfold Dt;refine Sat.loop (λm x=>∃i:Nat,x=(((),(k:Int),leV s i,(k:Int),(i:Int),()),((s,b.D0,b.G0,b.I0,b.M0,b.L0,b.N0,b.O0,b.B0,()),()))∧i+m=k) ?_ k ⟨0,rfl,ω⟩ ω;rintro m x ⟨i,rfl,hm⟩;show Sat (GG (k:Int) (leV s i) (k:Int) (i:Int) s b.D0 b.G0 b.I0 b.M0 b.L0 b.N0 b.O0 b.B0) _;unfold GG;refine aC (λq=>?_) λq=>V ?_
  ·have q:=n_ q;have hi:i<s.size:=ω;refine aB (Ac ω ω) ?_;have w8:A.wrap (8*(i:Int))=8*(i:Int):=L ω ω;have w1:A.wrap ((i:Int)+1)=((i+1:Nat):Int):=by rw[L ω ω];omega
   simp only[w8,w1];exact aB (c_ ω) (V ⟨m-1,ω,i+1,rfl,ω⟩)
  ·have q:=H_ q;obtain rfl:i=k:=ω;rfl
 obtain⟨y,h1,rfl⟩:=h;unfold BU;rw[h1];simp only[a_];rw[c_ (ω:(0:Int)≤(k:Int)),c_ (ω:(k:Int)≤(s.size:Int))];rfl
def KQ{α:Type}(d:α)(g:Nat→α→α)(i:Nat)(l:List α):List α:=l.set i (g i (l.getD i d))
def Aio{α:Type}(d:α)(g:Nat→α→α):∀(m i:Nat) (l:List α),i+m=l.length→BL (KQ d g) m i l=l.take i++(List.range' i m).map (λj=>g j (l.getD j d))
 |0,i,l,h=>by rw[show i=l.length by omega,List.take_length];simp[BL]
 |m+1,i,l,h=>by
  have hi:i<l.length:=ω;unfold BL;rw[Aio d g m (i+1) _ (by rw[KQ,r_];omega)];have e1:(KQ d g i l).take (i+1)=l.take i++[g i (l.getD i d)]:=by unfold KQ;rw[List.take_add_one,List.take_set_of_le ω,List.getElem?_set_self ω];rfl
  rw[e1,f1_,f9_,F_,c5_];congr 2;apply List.map_congr_left;intro j hj;rw[List.mem_range']at hj;obtain⟨k,hk,rfl⟩:=hj;unfold KQ;rw[k_,List.getElem?_set_ne ω,← k_]
def Qc(d:α)(g:Nat→α→α)(f:Nat→α)(n:Nat):BL (KQ d g) n 0 ((Z n).map f)=(Z n).map (λj=>g j (f j)):=by rw[Aio d g n 0 _ σ,List.take_zero,W_,← List.range_eq_range'];apply List.map_congr_left;intro j hj;rw[List.mem_range]at hj;simp[k_,hj]
def Bx{l:List α}(d x:α)(h:i<l.length):(l.set i x).getD i d=x:=by rw[k_,List.getElem?_set_self h];rfl
def g15(fl t i:Nat)(c:Car):Car:=⟨c.G1,c.L3,c.O3,c.H2,((1+t%3:Nat):Int),((1+t/3%3:Nat):Int),((1+t/9%3:Nat):Int),((1+t/9%3+t/27%5:Nat):Int),(((i+t)%fl:Nat):Int)⟩
def g18(t:Nat)(_:Nat)(c:Car):Car:={ c with G1:=((1+t%16:Nat):Int) }
def g27(n1 n2:Nat)(_:Nat)(c:Car):Car:={ c with O3:=((1+n2%4:Nat):Int),H2:=((n1%5:Nat):Int) }
def EM(fl ca t:Nat):O:={ AG fl ca with M0:=((1+t%7:Nat):Int),B0:=(Z ca).map λi=>g15 fl t i (FF fl i) }
def UJ(fl ca t:Nat):O:={ EM fl ca t with B0:=(Z ca).map λi=>g18 t i (g15 fl t i (FF fl i)) }
def Ft(fl ca n1 n2:Nat):O:={ EM fl ca n1 with G0:=((1+n2%3:Nat):Int),I0:=((18*ca+24+6*(n2/3):Nat):Int),B0:=(Z ca).map λi=>g27 n1 n2 i (g18 n1 i (g15 fl n1 i (FF fl i))) }
def Bfi{n:Int}(h:0≤n)(h':n<256):J.wrap n=n:=by simp only[B,IntKind.signed,IntKind.bits];simp;omega
def Mu(a b:Nat):N (a:Int) (b:Int)=((a%b:Nat):Int):=by rw[c9_ ω];norm_cast
def Bfe(a b:Nat):X (a:Int) (b:Int)=((a/b:Nat):Int):=by rw[Int.tdiv_eq_ediv_of_nonneg ω];norm_cast
def OJ(k:Nat)(ht:t<100000):A.wrap ((1:Int)+A.wrap (N (t:Int) (k:Int)))=((1+t%k:Nat):Int):=by
 have:t%k≤t:=Nat.mod_le _ _
 rw[Mu];generalize t%k=q at this⊢;rw[L (n:=(q:Int)) ω ω,L ω ω];norm_cast
def Yp(k:Nat)(ht:t<256):J.wrap (X (t:Int) (k:Int))=((t/k:Nat):Int):=by
 have:t/k≤t:=Nat.div_le_self _ _
 generalize hq:t/k=q at this;rw[Bfe,hq,Bfi ω ω]
def Asq{fl ca:Nat}(h1:1≤fl)(hf:fl≤100)(h2:ca≤8)(ht:t<256):
  Ky (((t:Int),(),(),(0:Int),()),(Bldg.none.tup,(AG fl ca).tup,()))=C (((t:Int),(),(),()),(Bldg.none.tup,({ AG fl ca with B0:=(EM fl ca t).B0 }:O).tup,())):=by
 have hl:(AG fl ca).B0.length=ca:=by simp[AG]
 have h:=AP (step:=λx=>letI a:=x.2.2.1.2.2;letI b:=x.2.1.2.2;letI c:=b.2.2;letI d:=a.2.2;Gf x.1.1 x.1.2.2.2.1 x.2.1.1 x.2.1.2.1 b.1 b.2.1 c.1 c.2.1 c.2.2.1 c.2.2.2.1 x.2.2.1.1 x.2.2.1.2.1 a.1 a.2.1 d.1 d.2.1 d.2.2.1 d.2.2.2.1) ca
  (λi l=>(((t:Int),(),(),(i:Int),()),(Bldg.none.tup,({ AG fl ca with B0:=l }:O).tup,()))) (KQ EN (g15 fl t)) (λ_ l=>l.length=ca) (λl=>(((t:Int),(),(),()),(Bldg.none.tup,({ AG fl ca with B0:=l }:O).tup,())))
  (λi l hi hll=>by
   refine⟨?_,by rw[KQ,r_,hll]⟩;show Gf (t:Int) (i:Int) Bldg.none.D0 Bldg.none.G0 Bldg.none.I0 Bldg.none.M0 Bldg.none.L0 Bldg.none.N0 Bldg.none.O0 Bldg.none.B0 (AG fl ca).D0 (AG fl ca).G0 (AG fl ca).I0 (AG fl ca).M0 (AG fl ca).L0 (AG fl ca).N0 (AG fl ca).O0 l=_;unfold Gf;have hil:i<l.length:=ω;have hz:((AG fl ca).D0 !=0)=R:=by show((fl:Int) !=0)=R;simp;omega
   have w:A.wrap ((i:Int)+1)=((i+1:Nat):Int):=by rw[L ω ω];omega
   have e1:A.wrap ((1:Int)+A.wrap (N (t:Int) 3))=((1+t%3:Nat):Int):=OJ 3 ω;have e2:A.wrap ((1:Int)+A.wrap (N (B J (X (t:Int) 3)) 3))=((1+t/3%3:Nat):Int):=by rw[show J.wrap (X (t:Int) 3)=((t/3:Nat):Int)from Yp 3 ht];exact OJ 3 ω
   have e3:A.wrap ((1:Int)+A.wrap (N (B J (X (t:Int) 9)) 3))=((1+t/9%3:Nat):Int):=by rw[show J.wrap (X (t:Int) 9)=((t/9:Nat):Int)from Yp 9 ht];exact OJ 3 ω
   have e4:A.wrap (((1+t/9%3:Nat):Int)+A.wrap (N (B J (X (t:Int) 27)) 5))=((1+t/9%3+t/27%5:Nat):Int):=by rw[show J.wrap (X (t:Int) 27)=((t/27:Nat):Int)from Yp 27 ht,show N ((t/27:Nat):Int) 5=((t/27%5:Nat):Int)from Mu _ 5,L (n:=((t/27%5:Nat):Int)) ω ω,L ω ω];norm_cast
   have e5:N (B A ((i:Int)+A.wrap (t:Int))) (AG fl ca).D0=(((i+t)%fl:Nat):Int):=by show N _ (fl:Int)=_;rw[L (n:=(t:Int)) ω ω,L ω ω];exact Mu (i+t) fl
   rw[show Car.mk 0 0 0 0 0 0 0 0 0=EN from rfl];simp only[c_ (ω:(i:Int)<(l.length:Int)),Ac (ω:(0:Int)≤(i:Int)) (ω:(i:Int)<(l.length:Int)),d_,i_,hz,w,Bx EN _ hil,h1_,e1,e2,e3,e4,e5];unfold KQ g15;rfl)
  (λl hll=>by show Gf (t:Int) (ca:Int) Bldg.none.D0 Bldg.none.G0 Bldg.none.I0 Bldg.none.M0 Bldg.none.L0 Bldg.none.N0 Bldg.none.O0 Bldg.none.B0 (AG fl ca).D0 (AG fl ca).G0 (AG fl ca).I0 (AG fl ca).M0 (AG fl ca).L0 (AG fl ca).N0 (AG fl ca).O0 l=_;unfold Gf;rw[hll,f_ (J_ (ca:Int))];rfl)
  ca 0 (AG fl ca).B0 ω hl
 have h2:=Aj h.1 ω;rw[show(AG fl ca).B0=(Z ca).map (FF fl)from rfl,Qc]at h2;exact h2
def Asr{fl ca:Nat}(_hf:fl≤100)(h2:ca≤8)(ht:t<256):
  Kz (((t:Int),(),(),(0:Int),()),(Bldg.none.tup,(EM fl ca t).tup,()))=C (((),(),()),(Bldg.none.tup,(UJ fl ca t).tup,())):=by
 have hl:(EM fl ca t).B0.length=ca:=by simp[EM]
 have h:=AP (step:=λx=>letI a:=x.2.2.1.2.2;letI b:=x.2.1.2.2;letI c:=b.2.2;letI d:=a.2.2;Gg x.1.1 x.1.2.2.2.1 x.2.1.1 x.2.1.2.1 b.1 b.2.1 c.1 c.2.1 c.2.2.1 c.2.2.2.1 x.2.2.1.1 x.2.2.1.2.1 a.1 a.2.1 d.1 d.2.1 d.2.2.1 d.2.2.2.1) ca
  (λi l=>(((t:Int),(),(),(i:Int),()),(Bldg.none.tup,({ EM fl ca t with B0:=l }:O).tup,()))) (KQ EN (g18 t)) (λ_ l=>l.length=ca) (λl=>(((),(),()),(Bldg.none.tup,({ EM fl ca t with B0:=l }:O).tup,())))
  (λi l hi hll=>by
   refine⟨?_,by rw[KQ,r_,hll]⟩;show Gg (t:Int) (i:Int) Bldg.none.D0 Bldg.none.G0 Bldg.none.I0 Bldg.none.M0 Bldg.none.L0 Bldg.none.N0 Bldg.none.O0 Bldg.none.B0 (EM fl ca t).D0 (EM fl ca t).G0 (EM fl ca t).I0 (EM fl ca t).M0 (EM fl ca t).L0 (EM fl ca t).N0 (EM fl ca t).O0 l=_;unfold Gg;have w:A.wrap ((i:Int)+1)=((i+1:Nat):Int):=by rw[L ω ω];omega
   have e1:A.wrap ((1:Int)+A.wrap (N (t:Int) 16))=((1+t%16:Nat):Int):=OJ 16 ω;rw[show Car.mk 0 0 0 0 0 0 0 0 0=EN from rfl];simp only[c_ (ω:(i:Int)<(l.length:Int)),Ac (ω:(0:Int)≤(i:Int)) (ω:(i:Int)<(l.length:Int)),d_,i_,w,e1];unfold KQ g18;rfl)
  (λl hll=>by show Gg (t:Int) (ca:Int) Bldg.none.D0 Bldg.none.G0 Bldg.none.I0 Bldg.none.M0 Bldg.none.L0 Bldg.none.N0 Bldg.none.O0 Bldg.none.B0 (EM fl ca t).D0 (EM fl ca t).G0 (EM fl ca t).I0 (EM fl ca t).M0 (EM fl ca t).L0 (EM fl ca t).N0 (EM fl ca t).O0 l=_;unfold Gg;rw[hll,f_ (J_ (ca:Int))];rfl)
  ca 0 (EM fl ca t).B0 ω hl
 have h2:=Aj h.1 ω;rw[show(EM fl ca t).B0=(Z ca).map (λi=>g15 fl t i (FF fl i))from rfl,Qc]at h2;exact h2
def Gz(fl ca n1 n2:Nat):O:={ Ft fl ca n1 n2 with B0:=(UJ fl ca n1).B0 }
def Ass{fl ca n0 n1 n2:Nat}(h2:ca≤8)(_h3:n1<256)(h4:n2<256) :
  HK (((),(),(),(0:Int),()),(((n0:Int),(n1:Int),(n2:Int),()),Bldg.none.tup,(Gz fl ca n1 n2).tup,()))=C (((),(),()),(Bldg.none.tup,(Ft fl ca n1 n2).tup,())):=by
 have hl:(Gz fl ca n1 n2).B0.length=ca:=by simp[Gz,UJ]
 have h:=AP (step:=λx=>letI a:=x.2.2;letI b:=a.2.1.2.2;letI c:=a.1.2.2;letI d:=c.2.2;letI e:=b.2.2;Gh x.1.2.2.2.1 x.2.1.1 x.2.1.2.1 x.2.1.2.2.1 a.1.1 a.1.2.1 c.1 c.2.1 d.1 d.2.1 d.2.2.1 d.2.2.2.1 a.2.1.1 a.2.1.2.1 b.1 b.2.1 e.1 e.2.1 e.2.2.1 e.2.2.2.1) ca
  (λi l=>(((),(),(),(i:Int),()),(((n0:Int),(n1:Int),(n2:Int),()),Bldg.none.tup,({ Gz fl ca n1 n2 with B0:=l }:O).tup,()))) (KQ EN (g27 n1 n2)) (λ_ l=>l.length=ca) (λl=>(((),(),()),(Bldg.none.tup,({ Gz fl ca n1 n2 with B0:=l }:O).tup,())))
  (λi l hi hll=>by
   refine⟨?_,by rw[KQ,r_,hll]⟩;show Gh (i:Int) (n0:Int) (n1:Int) (n2:Int) Bldg.none.D0 Bldg.none.G0 Bldg.none.I0 Bldg.none.M0 Bldg.none.L0 Bldg.none.N0 Bldg.none.O0 Bldg.none.B0 (Gz fl ca n1 n2).D0 (Gz fl ca n1 n2).G0 (Gz fl ca n1 n2).I0 (Gz fl ca n1 n2).M0 (Gz fl ca n1 n2).L0 (Gz fl ca n1 n2).N0 (Gz fl ca n1 n2).O0 l=_;unfold Gh;have hil:i<l.length:=ω;have w:A.wrap ((i:Int)+1)=((i+1:Nat):Int):=by rw[L ω ω];omega
   have e1:A.wrap ((1:Int)+A.wrap (N (n2:Int) 4))=((1+n2%4:Nat):Int):=OJ 4 ω;have e2:A.wrap (N (n1:Int) 5)=((n1%5:Nat):Int):=by rw[show N (n1:Int) 5=((n1%5:Nat):Int)from Mu n1 5,L ω ω]
   rw[show Car.mk 0 0 0 0 0 0 0 0 0=EN from rfl];simp only[c_ (ω:(i:Int)<(l.length:Int)),Ac (ω:(0:Int)≤(i:Int)) (ω:(i:Int)<(l.length:Int)),d_,i_,w,e1,e2,Bx EN _ hil,h1_,r_];unfold KQ g27;rfl)
  (λl hll=>by show Gh (ca:Int) (n0:Int) (n1:Int) (n2:Int) Bldg.none.D0 Bldg.none.G0 Bldg.none.I0 Bldg.none.M0 Bldg.none.L0 Bldg.none.N0 Bldg.none.O0 Bldg.none.B0 (Gz fl ca n1 n2).D0 (Gz fl ca n1 n2).G0 (Gz fl ca n1 n2).I0 (Gz fl ca n1 n2).M0 (Gz fl ca n1 n2).L0 (Gz fl ca n1 n2).N0 (Gz fl ca n1 n2).O0 l=_;unfold Gh;rw[hll,f_ (J_ (ca:Int))];rfl)
  ca 0 (Gz fl ca n1 n2).B0 ω hl
 have h2:=Aj h.1 ω;rw[show(Gz fl ca n1 n2).B0=(Z ca).map (λi=>g18 n1 i (g15 fl n1 i (FF fl i)))from rfl,Qc]at h2;exact h2
def Hl(n0:Nat):Nat:=2+n0%5
def Hc(n0:Nat):Nat:=1+n0/5%3
def Aac{n0:Nat}(hn:n0<256)(ht:t<256):MD (n0:Int) (t:Int)=C (((),()),((EM (Hl n0) (Hc n0) t).tup,())):=by
 have e1:A.wrap ((2:Int)+A.wrap (N (n0:Int) 5))=((Hl n0:Nat):Int):=by rw[show N (n0:Int) 5=((n0%5:Nat):Int)from Mu n0 5,L (n:=((n0%5:Nat):Int)) ω ω,L ω ω];unfold Hl;norm_cast
 have e2:A.wrap ((1:Int)+A.wrap (N (B J (X (n0:Int) 5)) 3))=((Hc n0:Nat):Int):=by rw[show J.wrap (X (n0:Int) 5)=((n0/5:Nat):Int)from Yp 5 hn];exact OJ 3 ω
 have hf:2≤Hl n0∧Hl n0≤6:=by unfold Hl;omega
 have hc:1≤Hc n0∧Hc n0≤3:=by unfold Hc;omega
 have e3:A.wrap ((1:Int)+A.wrap (N (t:Int) 7))=((1+t%7:Nat):Int):=OJ 7 ω;unfold MD;rw[e1,e2];refine D (Ac0 ω ω) ?_;refine D (Asq ω ω ω ht) ?_;show C (((),()),(((Hl n0:Nat):Int),(1:Int),(4000:Int),A.wrap ((1:Int)+A.wrap (N (t:Int) 7)),_,_,_,_,()),())=_;rw[e3];rfl
def Aad{n0:Nat}(hn:n0<256)(ht:t<256):ME (n0:Int) (t:Int)=C (((),()),((UJ (Hl n0) (Hc n0) t).tup,())):=by
 have hf:2≤Hl n0∧Hl n0≤6:=by unfold Hl;omega
 have hc:1≤Hc n0∧Hc n0≤3:=by unfold Hc;omega
 unfold ME;refine D (Aac hn ht) ?_;exact D (Asr ω ω ht) rfl
def Aae{n0 n1 n2:Nat}(h0:n0<256)(h1:n1<256)(h2:n2<256):ET (n0:Int) (n1:Int) (n2:Int)=C (((),()),((Ft (Hl n0) (Hc n0) n1 n2).tup,())):=by
 have hf:2≤Hl n0∧Hl n0≤6:=by unfold Hl;omega
 have hc:1≤Hc n0∧Hc n0≤3:=by unfold Hc;omega
 have e1:A.wrap ((1:Int)+A.wrap (N (n2:Int) 3))=((1+n2%3:Nat):Int):=OJ 3 ω;have hl:(UJ (Hl n0) (Hc n0) n1).B0.length=Hc n0:=by simp[UJ]
 have e2:A.wrap (B A (B A (18*(((UJ (Hl n0) (Hc n0) n1).B0.length:Nat):Int))+24)+A.wrap (6*A.wrap (B J (X (n2:Int) 3))))=((18*Hc n0+24+6*(n2/3):Nat):Int):=by
  rw[hl,show J.wrap (X (n2:Int) 3)=((n2/3:Nat):Int)from Yp 3 h2,L (n:=18*((Hc n0:Nat):Int)) ω ω,L (n:=18*((Hc n0:Nat):Int)+24) ω ω,L (n:=((n2/3:Nat):Int)) ω ω,L (n:=6*((n2/3:Nat):Int)) ω ω,L ω ω]
  norm_cast
 unfold ET;refine D (Aad h0 h1) ?_;refine D (a:=(((),(),()),(Bldg.none.tup,(Ft (Hl n0) (Hc n0) n1 n2).tup,()))) ?_ rfl;show HK (((),(),(),(0:Int),()),(((n0:Int),(n1:Int),(n2:Int),()),Bldg.none.tup,(((Hl n0:Nat):Int),A.wrap ((1:Int)+A.wrap (N (n2:Int) 3)),A.wrap (B A (B A (18*(((UJ (Hl n0) (Hc n0) n1).B0.length:Nat):Int))+24)+A.wrap (6*A.wrap (B J (X (n2:Int) 3)))),_,_,_,_,_,()),()))=_;rw[e1,e2];exact Ass ω h1 h2
def Ao3{fl ca n1 n2:Nat}(hf:2≤fl∧fl≤6)(hc:1≤ca∧ca≤3)(_h1:n1<256)(h2:n2<256):(Ft fl ca n1 n2).small∧(Ft fl ca n1 n2).code=0∧(Ft fl ca n1 n2).B0.length=ca∧(Ft fl ca n1 n2).D0=(fl:Int)∧18*(ca:Int)+24≤(Ft fl ca n1 n2).I0∧(Ft fl ca n1 n2).I0≤600:=by
 have hl:(Ft fl ca n1 n2).B0.length=ca:=by simp[Ft]
 have hr:(Ft fl ca n1 n2).I0=((18*ca+24+6*(n2/3):Nat):Int):=rfl;refine⟨⟨by show(2:Int)≤(fl:Int);omega,by show(fl:Int)≤8;omega⟩,?_,hl,rfl,by rw[hr];omega,by rw[hr];omega⟩;unfold Bldg.code;have e1:P 2 32 (Ft fl ca n1 n2).D0=R:=Ar.2 (by show(2:Int)≤(fl:Int)∧(fl:Int)≤32;omega);have e2:P 1 8 ((Ft fl ca n1 n2).B0.length:Int)=R:=Ar.2 ω;have e3:P 1 16 (Ft fl ca n1 n2).G0=R:=Ar.2 (by show(1:Int)≤((1+n2%3:Nat):Int)∧((1+n2%3:Nat):Int)≤16;omega);have e4:P 1 10000 (Ft fl ca n1 n2).M0=R:=Ar.2 (by show(1:Int)≤((1+n1%7:Nat):Int)∧((1+n1%7:Nat):Int)≤10000;omega);have e5:(Ft fl ca n1 n2).B0.all (CG (Ft fl ca n1 n2).D0)=R:=by rw[M_];intro c hc';obtain⟨i,_,rfl⟩:=b8_.1 hc';have hm:(i+n1)%fl<fl:=f8_ _ ω;show CG (fl:Int) (g27 n1 n2 i (g18 n1 i (g15 fl n1 i (FF fl i))))=R;unfold CG g27 g18 g15 FF;simp only[a4_,List.all_nil,d5_,e_,Ar,v_];rw[L (n:=(fl:Int)-1) ω ω];refine⟨⟨?_,?_,?_,?_,?_,?_,?_⟩,?_,?_,?_⟩<;>omega
 have e6:(Ft fl ca n1 n2).loadsOK=R:=by
  show(AG 2 1).loadsOK=R
  kernel_rfl
 have e7:P (18*((Ft fl ca n1 n2).B0.length:Int)+24) 65536 (Ft fl ca n1 n2).I0=R:=Ar.2 (by rw[hl,hr];omega);rw[e1,e2,e3,e4,e5,e6,e7];rfl
def DF(h:n<1000000000):A.wrap ((n:Int)+1)=((n+1:Nat):Int):=by rw[L ω ω];omega
def Ceg(h:n<1000000000):I.wrap (n:Int)=(n:Int):=En ω ω
def Afl(l:List Int):(GW l).size=l.length:=by simp[GW,ByteArray.size]
def Aox(x y:Int):Int:=A.wrap (stk x y (aE ((Y (IntKind.bits A) x)^^^(Y (IntKind.bits A) y))))
def XC(_:Nat)(r:Int):Int:=bif decide (32768≤r)then Aox (N (B A (r*2)) 65536) 4129 else N (B A (r*2)) 65536
def Abj(s:ByteArray)(i:Nat)(r:Int):Int:=BL XC 8 0 (Aox r (B A (B A (By s i)*256)))
def Zu(s:ByteArray):Int:=BL (Abj s) s.size 0 65535
def Ap0(s:ByteArray)(r i:Int):NR ((s,r,i,(0:Int),()),())=C ((s,BL XC 8 0 r,i,()),()):=by
 have h:=AP (step:=λx=>Ip x.1.1 x.1.2.1 x.1.2.2.1 x.1.2.2.2.1) 8 (λk r=>((s,r,i,(k:Int),()),())) XC (λ_ _=>True) (λr=>((s,r,i,()),()))
  (λk r hk _=>by refine⟨?_,trivial⟩;show Ip s r i (k:Int)=_;unfold Ip;simp only[c_ (ω:(k:Int)<8),d_,DF (ω:k<1000000000)];unfold XC Aox;cases decide ((32768:Int)≤r)<;>rfl)
  (λr _=>by show Ip s r i 8=_;unfold Ip;rw[f_ (J_ (8:Int))];rfl) 8 0 r ω trivial
 exact Aj h.1 ω
def An3(hs:s.size≤1000000):Ra s=C ((B E (Zu s),()),()):=by
 have h:=AP (step:=λx=>Io x.1.1 x.1.2.1 x.1.2.2.1) s.size (λi r=>((s,r,(i:Int),()),())) (Abj s) (λ_ _=>True) (λr=>((r,()),()))
  (λi r hi _=>by refine⟨?_,trivial⟩;show Io s r (i:Int)=_;unfold Io;simp only[c_ (ω:(i:Int)<(s.size:Int)),Ac (ω:(0:Int)≤(i:Int)) (ω:(i:Int)<(s.size:Int)),d_,i_];refine D (Ap0 s _ _) ?_;show C (Sum.inl ((s,_,A.wrap ((i:Int)+1),()),()))=_;rw[DF (ω:i<1000000000)];rfl)
  (λr _=>by show Io s r (s.size:Int)=_;unfold Io;rw[f_ (J_ (s.size:Int))];rfl) s.size 0 65535 ω trivial
 have h2:NQ ((s,(65535:Int),(0:Int),()),())=_:=Aj h.1 ω;unfold Ra;exact D h2 rfl
def ZV(s:ByteArray):ByteArray:=GW [J.wrap (B E (X (B E (Zu s)) 256)),J.wrap (N (B E (Zu s)) 256)]
def Jz(s:ByteArray):ByteArray:=s++ZV s
def Qm(s:ByteArray):(Jz s).size=s.size+2:=by unfold Jz ZV;rw[R_,Afl];rfl
def Apz(hs:s.size≤1000000):SA s=C ((Jz s,()),()):=by
 unfold SA;refine D (An3 hs) ?_
 have:=Qm s
 unfold Jz at this;rw[R_]at this;show(bif Nat.ble (s.size+(ZV s).size) 4611686018427387904 then C ((s++ZV s,()),())else none)=_;rw[Ap ω];rfl
def KO(s:ByteArray):ByteArray×Int:=bif decide ((s.size:Int)<2)then(noB,4)else bif eqB (Jz (s.extract 0 (s.size-2))) s then(s.extract 0 (s.size-2),0)else(noB,5)
def Aha(n:Int)(k:Nat):List Int:=(Z k).map λi=>J.wrap (aA n ((2:Int)^(U (8*i) (IntKind.bits .u64))))
def nmB(n:Int)(k:Nat):ByteArray:=GW (Aha n k)
def BF(n:Int)(k:Nat):(nmB n k).size=k:=by unfold nmB;rw[Afl];simp[Aha]
def EO(n:Int)(hk:k≤100):Ej n (k:Int)=C ((nmB n k,()),()):=by
 have h:=AP (step:=λx=>Lr x.1.1 x.1.2.1 x.1.2.2.1 x.1.2.2.2.1) k (λi l=>((n,(k:Int),l,(i:Int),()),())) (KQ 0 (λi _=>J.wrap (aA n ((2:Int)^(U (8*i) (IntKind.bits .u64)))))) (λ_ l=>l.length=k) (λl=>((l,()),()))
  (λi l hi hl=>by
   refine⟨?_,by rw[KQ,r_,hl]⟩;show Lr n (k:Int) l (i:Int)=_;unfold Lr;have e:I.wrap (B A (8*(i:Int)))=((8*i:Nat):Int):=by rw[L (n:=8*(i:Int)) ω ω,En ω ω];norm_cast
   simp only[c_ (ω:(i:Int)<(k:Int)),Ac (ω:(0:Int)≤(i:Int)) (ω:(i:Int)<(l.length:Int)),d_,i_,e,c_ (ω:(0:Int)≤((8*i:Nat):Int)),DF (ω:i<1000000000)];rfl)
  (λl hl=>by show Lr n (k:Int) l (k:Int)=_;unfold Lr;rw[f_ (J_ (k:Int))];rfl) k 0 (List.replicate k 0) ω σ
 have h2:=Aj h.1 ω;rw[show List.replicate k (0:Int)=(Z k).map (λ_=>0)by simp[List.map_const'],Qc]at h2;have h3:Rl ((n,(k:Int),(Z k).map (λ_=>(0:Int)),(0:Int),()),())=_:=h2;unfold Ej;rw[c_ (ω:(0:Int)≤(k:Int)),c_ (e0_ (k:Int)),c_ (ω:(k:Int)≤2147483648),S_,S_,d_,i_,show List.replicate k (0:Int)=(Z k).map (λ_=>0)by simp[List.map_const']];exact D h3 rfl
def TN(c:Int×Int):ByteArray:=nmB (B I c.1) 4++nmB (B I c.2) 4
def Aar(c:Int×Int):(TN c).size=8:=by unfold TN;rw[R_,BF,BF]
def An4(c:Int×Int):Re c.1 c.2=C ((TN c,()),()):=by unfold Re;refine D (EO (B I c.1) (k:=4) ω) ?_;refine D (EO (B I c.2) (k:=4) ω) ?_;show(bif Nat.ble ((nmB (B I c.1) 4).size+(nmB (B I c.2) 4).size) 4611686018427387904 then _ else _)=_;rw[BF,BF];rfl
def Brq(x y:Int):Int:=I.wrap (stk x y (aE ((Y (IntKind.bits I) x)|||(Y (IntKind.bits I) y))))
def Bcl(l:List Bool)(i:Nat)(n:Int):Int:=bif l.getD i H then Brq n (B I (1*2^min i (IntKind.bits .u64)))else n
def Wy(l:List Bool):ByteArray:=nmB (BL (Bcl l) l.length 0 0) 1
def SH(l:List Bool):(Wy l).size=1:=BF _ _
def Ap3{l:List Bool}(hl:l.length≤100):SC l=C ((Wy l,()),()):=by
 have h:=AP (step:=λx=>JT x.1.1 x.1.2.1 x.1.2.2.1) l.length (λi n=>((l,n,(i:Int),()),())) (Bcl l) (λ_ _=>True) (λn=>((n,()),()))
  (λi n hi _=>by refine⟨?_,trivial⟩;show JT l n (i:Int)=_;unfold JT;simp only[c_ (ω:(i:Int)<(l.length:Int)),Ac (ω:(0:Int)≤(i:Int)) (ω:(i:Int)<(l.length:Int)),d_,i_,Ceg (ω:i<1000000000),c_ (ω:(0:Int)≤(i:Int)),DF (ω:i<1000000000)];unfold Bcl Brq;cases l.getD i H<;>rfl)
  (λn _=>by show JT l n (l.length:Int)=_;unfold JT;rw[f_ (J_ (l.length:Int))];rfl) l.length 0 0 ω trivial
 have h2:Ps ((l,(0:Int),(0:Int),()),())=_:=Aj h.1 ω;unfold SC;refine D h2 ?_;exact D (EO _ (k:=1) ω) rfl
structure Inp where
 press:Int×Int
 kind:Int
 car:Int
 cars:List CarInput
def Inp.tup(x:Inp):Int×Int×Int×Int×List CarInput×Unit:=(x.press.1,x.press.2,x.kind,x.car,x.cars,())
def Inp.none:Inp:=⟨(0,0),0,0,[]⟩
def Ud:CarInput:=CarInput.mk 0 H H H H 0 H 0 H 0 0
def flV(b:O)(n:Int):Bool:=aA (B I n) ((2:Int)^b.D0.toNat)==0
def Lj(b:O)(c:CarInput):Bool:=flV b c.V0&&(flV b c.V1&&(P 0 (b.D0-1) c.M1&&P 0 2 c.T1))
def Ix(b:O)(c:Int×Int):Bool:=isZ (AU c (BM b))
def NZ(b:O)(x:Inp):Bool:=Ix b x.press&&(P 0 8 x.kind&&(P 0 ((b.B0.length:Int)-1) x.car&&(!(x.kind==0&&x.car !=0)&&((x.cars.length:Int)==(b.B0.length:Int)&&x.cars.all (Lj b)))))
def Ov(s:ByteArray)(c:CarInput):ByteArray:=s++nmB (B I c.V0) 4++Wy [c.Y1,c.K1,c.L1,c.E1,c.D2,c.E2]++nmB (B I c.M1) 1++nmB (B I c.T1) 1++nmB (B I c.V1) 4++nmB ((c.E3:Nat):Int) 8
def Ah4(s:ByteArray)(c:CarInput):(Ov s c).size=s.size+19:=by unfold Ov;simp only[R_,BF,SH]
def UT(b:O)(x:Inp):ByteArray:=nmB 165 1++nmB (B I (b.B0.length:Int)) 1++TN x.press++nmB (B I x.kind) 1++nmB (B I x.car) 1
def Aea(b:O)(x:Inp):(UT b x).size=12:=by unfold UT;simp only[R_,BF,Aar]
def inV(b:O)(x:Inp):ByteArray:=Jz (x.cars.foldl Ov (UT b x))
def Ad2(l:List CarInput)(s:ByteArray):(l.foldl Ov s).size=s.size+19*l.length:=by
 induction l generalizing s with
 |nil=>simp
 |cons c t ih=>rw[e9_,ih,Ah4,E_];omega
def Abz(b:O)(x:Inp):(inV b x).size=14+19*x.cars.length:=by unfold inV;rw[Qm,Ad2,Aea];omega
def Ms(n lo hi:Int):Oh n lo hi=C ((P lo hi n,()),()):=by unfold Oh P;cases decide (lo≤n)<;>rfl
section
variable{b:O}(hb:b.small)(hcode:b.code=0)
include hb
theorem XR(n:Int):OY b.D0 b.G0 b.I0 b.M0 b.L0 b.N0 b.O0 b.B0 n=C ((flV b n,()),()):=by
 have h1:=hb.1;have h2:=hb.2;have e:I.wrap b.D0=b.D0:=En ω ω;have e2:U b.D0.toNat (IntKind.bits .u64)=b.D0.toNat:=by show min b.D0.toNat 64=_;omega
 unfold OY flV;simp only[e,c_ (ω:(0:Int)≤b.D0),d_,e2]
theorem Akf(x:Inp)(hx:x.cars.length≤1000):Mf (((),(),(0:Int),()),(b.tup,x.tup,()))=C (bif x.cars.all (Lj b)then .inl ((),())else .inr ((H,()),())):=by
 have h1:=hb.1;have h2:=hb.2;have h:=Aj (Aix (step:=λx=>letI a:=x.2.1.2.2;letI d:=x.2.2.1;letI e:=a.2.2;JS x.1.2.2.1 x.2.1.1 x.2.1.2.1 a.1 a.2.1 e.1 e.2.1 e.2.2.1 e.2.2.2.1 d.1 d.2.1 d.2.2.1 d.2.2.2.1 d.2.2.2.2.1) x.cars Ud (Lj b) (λi=>(((),(),(i:Int),()),(b.tup,x.tup,()))) (.inl ((),())) (λ_=>.inr ((H,()),())) (λi hi=>by
  show JS (i:Int) b.D0 b.G0 b.I0 b.M0 b.L0 b.N0 b.O0 b.B0 x.press.1 x.press.2 x.kind x.car x.cars=_;unfold JS;rw[show CarInput.mk 0 H H H H 0 H 0 H 0 0=Ud from rfl];have w:A.wrap (b.D0-1)=b.D0-1:=L ω ω;simp only[c_ (ω:(i:Int)<(x.cars.length:Int)),d_,Ac (ω:(0:Int)≤(i:Int)) (ω:(i:Int)<(x.cars.length:Int)),i_,DF (ω:i<1000000000),w];generalize x.cars.getD i Ud=c;unfold Lj;refine D (XR hb c.V0) ?_;show(bif !flV b c.V0 then _ else _)=_;cases flV b c.V0 with
  |false=>rfl
  |true=>
  rw[m_,b_,q_];refine D (XR hb c.V1) ?_;show(bif !flV b c.V1 then _ else _)=_;cases flV b c.V1 with
  |false=>rfl
  |true=>
  rw[m_,b_,q_];refine D (Ms _ _ _) ?_;show(bif !P 0 (b.D0-1) c.M1 then _ else _)=_;cases P 0 (b.D0-1) c.M1 with
  |false=>rfl
  |true=>
  rw[m_,b_,q_];refine D (Ms _ _ _) ?_;show(bif !P 0 2 c.T1 then _ else _)=_;cases P 0 2 c.T1<;>rfl) (by
  show JS (x.cars.length:Int) b.D0 b.G0 b.I0 b.M0 b.L0 b.N0 b.O0 b.B0 x.press.1 x.press.2 x.kind x.car x.cars=_;unfold JS;rw[f_ (J_ _),b_]) x.cars.length 0 ω) ω
 rw[P_,Bdj]at h;exact h
include hcode
theorem Ob(c:Int×Int):OZ b.D0 b.G0 b.I0 b.M0 b.L0 b.N0 b.O0 b.B0 c.1 c.2=C ((Ix b c,()),()):=by
 unfold OZ;refine D (Apy hb hcode) ?_;have e1:=KU c.1 (BM b).1;have e2:=KU c.2 (BM b).2;show aF (bif aH.wrap _==0 then C ((B aH _==0,()),())else _) _=_;rw[e1,e2];unfold Ix isZ;show aF (bif(AU c (BM b)).1==0 then C (((AU c (BM b)).2==0,()),())else _) _=_;cases(AU c (BM b)).1==0 with
 |false=>rfl
 |true=>rw[q_,d5_];rfl
theorem Ap2(x:Inp)(hx:x.cars.length≤1000):SB b.D0 b.G0 b.I0 b.M0 b.L0 b.N0 b.O0 b.B0 x.press.1 x.press.2 x.kind x.car x.cars=C ((NZ b x,()),()):=by
 have hc:=An hcode;have w:A.wrap ((b.B0.length:Int)-1)=(b.B0.length:Int)-1:=L ω ω;unfold SB NZ;rw[w];have fin:∀g:Bool,aF (C (((),(),!g,()),(b.tup,x.tup,()))) (λy5:(Unit×Unit×Bool×Unit)×_=>bif y5.1.2.2.1 then C ((H,()),())else(Mf (((),(),(0:Int),()),(y5.2.1,y5.2.2.1,()))).bind λy6=>(match y6 with | .inl y7=>C ((R,()),()) | .inr y7=>C ((y7.1.1,()),())))=C (((g&&x.cars.all (Lj b)),()),()):=by
  intro g;cases g with
  |false=>rfl
  |true=>refine D rfl ?_;show(bif !R then _ else _)=_;rw[m_,b_,q_];refine D (Akf hb x hx) ?_;cases x.cars.all (Lj b)<;>rfl
 rw[FY];show aF (aF (C ((b.code,()),())) _) _=_;rw[hcode];cases h1:Ix b x.press with
 |false=>refine D (D rfl (show(bif((0:Int) !=0)then _ else _)=C (((),(),!H,()),(b.tup,x.tup,()))from D (Ob hb hcode x.press) (by show(bif !Ix b x.press then _ else _)=_;rw[h1];rfl))) ?_;exact fin H
 |true=>
 cases h2:P 0 8 x.kind with
 |false=>refine D (D rfl (show(bif((0:Int) !=0)then _ else _)=C (((),(),!H,()),(b.tup,x.tup,()))from D (Ob hb hcode x.press) (by show(bif !Ix b x.press then _ else _)=_;rw[h1,m_,b_];refine D (Ms _ _ _) ?_;show(bif !P 0 8 x.kind then _ else _)=_;rw[h2];rfl))) ?_;exact fin H
 |true=>
 cases h3:P 0 ((b.B0.length:Int)-1) x.car with
 |false=>refine D (D rfl (show(bif((0:Int) !=0)then _ else _)=C (((),(),!H,()),(b.tup,x.tup,()))from D (Ob hb hcode x.press) (by show(bif !Ix b x.press then _ else _)=_;rw[h1,m_,b_];refine D (Ms _ _ _) ?_;show(bif !P 0 8 x.kind then _ else _)=_;rw[h2,m_,b_];refine D (Ms _ _ _) ?_;show(bif !P 0 ((b.B0.length:Int)-1) x.car then _ else _)=_;rw[h3];rfl))) ?_;exact fin H
 |true=>refine D (D rfl (show(bif((0:Int) !=0)then _ else _)=C (((),(),!(!(x.kind==0&&x.car !=0)&&((x.cars.length:Int)==(b.B0.length:Int))),()),(b.tup,x.tup,()))from D (Ob hb hcode x.press) (by show(bif !Ix b x.press then _ else _)=_;rw[h1,m_,b_];refine D (Ms _ _ _) ?_;show(bif !P 0 8 x.kind then _ else _)=_;rw[h2,m_,b_];refine D (Ms _ _ _) ?_;show(bif !P 0 ((b.B0.length:Int)-1) x.car then _ else _)=_;rw[h3,m_,b_];have hne:((x.cars.length:Int) !=(b.B0.length:Int))=!((x.cars.length:Int)==(b.B0.length:Int)):=rfl;rw[hne];cases(x.cars.length:Int)==(b.B0.length:Int)<;>cases x.kind==0<;>cases x.car !=0<;>rfl))) ?_;refine Eq.trans (fin (!(x.kind==0&&x.car !=0)&&((x.cars.length:Int)==(b.B0.length:Int)))) ?_;simp only[q_,Bool.and_assoc]
end
def Bic{a c:Nat}(ha:a<65536)(hc:c<65536):E.wrap (stk (a:Int) (c:Int) (aE ((Y (IntKind.bits .u16) (a:Int))^^^(Y (IntKind.bits .u16) (c:Int)))))=((a^^^c:Nat):Int):=by have h:=d7_ (n:=16) ha hc;rw[Kh,BitVec.toNat_xor,Z_,Z_];rw[show(((a:Int))%((2^IntKind.bits .u16:Nat):Int)).toNat=a by simp only[IntKind.bits];omega,show(((c:Int))%((2^IntKind.bits .u16:Nat):Int)).toNat=c by simp only[IntKind.bits];omega];generalize a^^^c=n at*;simp only[B,IntKind.signed,IntKind.bits];simp;omega
def Aoy{a c:Nat}(ha:a<65536)(hc:c<65536):Aox (a:Int) (c:Int)=((a^^^c:Nat):Int):=by have h:=d7_ (n:=16) ha hc;unfold Aox;rw[Kh,BitVec.toNat_xor,Z_,Z_];rw[show(((a:Int))%((2^IntKind.bits .i64:Nat):Int)).toNat=a by simp only[IntKind.bits];omega,show(((c:Int))%((2^IntKind.bits .i64:Nat):Int)).toNat=c by simp only[IntKind.bits];omega];exact L ω ω
def QR(n:Nat):E.wrap (n:Int)=((n%65536:Nat):Int):=by simp only[B,IntKind.signed,IntKind.bits];simp
def n16(_:Nat)(r:Nat):Nat:=if 32768≤r then(2*r%65536)^^^4129 else 2*r%65536
def Bal:n16 i r<65536:=by
 unfold n16;split
 ·exact d7_ (n:=16) (f8_ _ τ) τ
 ·exact f8_ _ τ
def Be8(h:r<65536):XC i (r:Int)=((n16 i r:Nat):Int):=by
 have w:N (B A ((r:Int)*2)) 65536=((2*r%65536:Nat):Int):=by rw[L ω ω,c9_ ω];omega
 unfold XC n16;rw[w];by_cases g:32768≤r
 ·rw[c_ (ω:(32768:Int)≤(r:Int)),d_,if_pos g];exact Aoy (f8_ _ τ) τ
 ·rw[f_ (ω:¬(32768:Int)≤(r:Int)),b_,if_neg g]
def Buj(h:r<65536):(B E (stk (B E ((r:Int)*((2:Int)^(U (W (1:Int)) (IntKind.bits E))))) (B E ((aA (r:Int) ((2:Int)^(U (W (15:Int)) (IntKind.bits E))))*(4129:Int))) (aE ((Y (IntKind.bits E) (B E ((r:Int)*((2:Int)^(U (W (1:Int)) (IntKind.bits E))))))^^^(Y (IntKind.bits E) (B E ((aA (r:Int) ((2:Int)^(U (W (15:Int)) (IntKind.bits E))))*(4129:Int))))))))=((n16 i r:Nat):Int):=by
 have w1:E.wrap ((r:Int)*((2:Int)^(U (W (1:Int)) (IntKind.bits E))))=((2*r%65536:Nat):Int):=by rw[show((2:Int)^(U (W (1:Int)) (IntKind.bits E)))=2 from rfl,show(r:Int)*2=((2*r:Nat):Int)by omega];exact QR _
 have d:aA (r:Int) ((2:Int)^(U (W (15:Int)) (IntKind.bits E)))=((r/32768:Nat):Int):=by rw[show((2:Int)^(U (W (15:Int)) (IntKind.bits E)))=32768 from rfl,a9_ _ ω];omega
 have w2:E.wrap ((aA (r:Int) ((2:Int)^(U (W (15:Int)) (IntKind.bits E))))*(4129:Int))=((r/32768*4129:Nat):Int):=by
  rw[d,show((r/32768:Nat):Int)*4129=((r/32768*4129:Nat):Int)by omega,QR]
  have:r/32768*4129<65536:=ω
  rw[h0_ this]
 rw[w1,w2,Bic (f8_ _ τ) ω];unfold n16;by_cases g:32768≤r
 ·rw[if_pos g,show r/32768*4129=4129 by omega]
 ·rw[if_neg g,show r/32768*4129=0 by omega,Nat.xor_zero]
def Ad1:∀(k i r:Nat),r<65536→BL XC k i (r:Int)=((BL n16 k i r:Nat):Int)∧BL n16 k i r<65536
 |0,_,_,h=>⟨rfl,h⟩
 |k+1,i,r,h=>by show BL XC k (i+1) (XC i (r:Int))=_∧_;rw[Be8 (i:=i) h];exact Ad1 k (i+1) (n16 i r) Bal
def Bau(s:ByteArray)(hr:r<65536)(a c:Int):NN ((s,(r:Int),a,c,(0:Int),()),())=C ((s,((BL n16 8 0 r:Nat):Int),a,c,()),()):=by
 have h:=AP (S:=Nat) (step:=λx=>Il x.1.1 x.1.2.1 x.1.2.2.1 x.1.2.2.2.1 x.1.2.2.2.2.1) 8 (λk r=>((s,(r:Int),a,c,(k:Int),()),())) n16 (λ_ r=>r<65536) (λ(r:Nat)=>((s,(r:Int),a,c,()),()))
  (λk r hk hr=>by refine⟨?_,Bal⟩;show Il s (r:Int) a c (k:Int)=_;unfold Il;simp only[c_ (ω:(k:Int)<8),d_,DF (ω:k<1000000000)];rw[Buj (i:=k) hr])
  (λr _=>by show Il s (r:Int) a c 8=_;unfold Il;rw[f_ (J_ (8:Int))];rfl) 8 0 r ω hr
 exact Aj h.1 ω
def byN(s:ByteArray)(i:Nat):Nat:=((bl s).getD i 0).toNat
def RL(s:ByteArray)(i:Nat):byN s i<256:=UInt8.toNat_lt _
def b16(s:ByteArray)(i:Nat)(r:Nat):Nat:=BL n16 8 0 (r^^^(byN s i*256))
def s16(s:ByteArray):Nat:=BL (b16 s) s.size 0 65535
def Alb(hr:r<65536):r^^^(byN s i*256)<65536:=d7_ (n:=16) hr (by have:=RL s i;omega)
def Al9(hs:s.size≤1000000):QU s=C ((((s16 s:Nat):Int),()),())∧s16 s<65536:=by
 have h:=AP (S:=Nat) (step:=λx=>Ik x.1.1 x.1.2.1 x.1.2.2.1 x.1.2.2.2.1) s.size (λi r=>((s,(r:Int),(s.size:Int),(i:Int),()),())) (b16 s) (λ_ r=>r<65536) (λ(r:Nat)=>(((r:Int),()),()))
  (λi r hi hr=>by
   refine⟨?_,(Ad1 8 0 _ (Alb hr)).2⟩;show Ik s (r:Int) (s.size:Int) (i:Int)=_;unfold Ik;have hb:=RL s i;have z:E.wrap ((B E (By s i))*((2:Int)^(U (W (8:Int)) (IntKind.bits E))))=((byN s i*256:Nat):Int):=by rw[Km];show E.wrap (B E ((byN s i:Nat):Int)*256)=_;rw[QR,h0_ ω,show((byN s i:Nat):Int)*256=((byN s i*256:Nat):Int)by omega,QR,h0_ ω]
   simp only[c_ (ω:(i:Int)<(s.size:Int)),Ac (ω:(0:Int)≤(i:Int)) (ω:(i:Int)<(s.size:Int)),d_,i_];rw[z,Bic hr ω];refine D (Bau s (Alb hr) _ _) ?_;show C (Sum.inl ((s,_,_,A.wrap ((i:Int)+1),()),()))=_;rw[DF (ω:i<1000000000)];rfl)
  (λr _=>by show Ik s (r:Int) (s.size:Int) (s.size:Int)=_;unfold Ik;rw[f_ (J_ (s.size:Int))];rfl) s.size 0 65535 ω τ
 have h2:NM ((s,(65535:Int),(s.size:Int),(0:Int),()),())=_:=Aj h.1 ω;unfold QU;exact⟨D h2 rfl,h.2⟩
def Bhw:∀(s:ByteArray) (k i r:Nat),r<65536→BL (Abj s) k i (r:Int)=((BL (b16 s) k i r:Nat):Int)
 |_,0,_,_,_=>rfl
 |s,k+1,i,r,h=>by
  have hb:=RL s i;have e:Abj s i (r:Int)=((b16 s i r:Nat):Int):=by
   unfold Abj b16;have z:A.wrap (B A (By s i)*256)=((byN s i*256:Nat):Int):=by rw[Km];show A.wrap (B A ((byN s i:Nat):Int)*256)=_;rw[L (n:=((byN s i:Nat):Int)) ω ω,L ω ω];omega
   rw[z,Aoy h ω];exact(Ad1 8 0 _ (Alb h)).1
  show BL (Abj s) k (i+1) (Abj s i (r:Int))=((BL (b16 s) k (i+1) (b16 s i r):Nat):Int);rw[e];exact Bhw s k (i+1) _ (Ad1 8 0 _ (Alb h)).2
def Bbg(s:ByteArray):Zu s=((s16 s:Nat):Int):=Bhw s s.size 0 65535 τ
def XI(n:Nat):J.wrap (n:Int)=((n%256:Nat):Int):=by simp only[B,IntKind.signed,IntKind.bits];simp
def Bbd(s:ByteArray)(h:s16 s<65536):ZV s=GW [J.wrap (aA ((s16 s:Nat):Int) ((2:Int)^(U (W (8:Int)) (IntKind.bits E)))),J.wrap ((s16 s:Nat):Int)]:=by
 have w:E.wrap (Zu s)=((s16 s:Nat):Int):=by rw[Bbg,QR,h0_ h]
 have d1:X ((s16 s:Nat):Int) 256=((s16 s/256:Nat):Int):=by rw[Int.tdiv_eq_ediv_of_nonneg ω];omega
 have d2:aA ((s16 s:Nat):Int) ((2:Int)^(U (W (8:Int)) (IntKind.bits E)))=((s16 s/256:Nat):Int):=by rw[show((2:Int)^(U (W (8:Int)) (IntKind.bits E)))=256 from rfl,a9_ _ ω];omega
 have d3:N ((s16 s:Nat):Int) 256=((s16 s%256:Nat):Int):=by rw[c9_ ω];omega
 unfold ZV;rw[w,d1,d2,d3,QR,XI,XI,XI,XI];congr 3
 ·omega
 ·congr 1;omega
def Apj(hs:s.size≤1000000):Ss s=C ((Jz s,()),()):=by
 obtain⟨h1,h2⟩:=Al9 hs;unfold Ss;refine D h1 ?_
 have:=Qm s
 unfold Jz at this;rw[R_]at this;show(bif Nat.ble (s.size+(GW [J.wrap (aA ((s16 s:Nat):Int) ((2:Int)^(U (W (8:Int)) (IntKind.bits E)))),J.wrap ((s16 s:Nat):Int)]).size) 4611686018427387904 then C ((s++GW [J.wrap (aA ((s16 s:Nat):Int) ((2:Int)^(U (W (8:Int)) (IntKind.bits E)))),J.wrap ((s16 s:Nat):Int)],()),())else none)=_;rw[← Bbd s h2,Ap ω];rfl
def Api(hs:s.size≤1000000):Sr s=C (((KO s).1,(KO s).2,()),()):=by
 unfold Sr KO;by_cases h:(s.size:Int)<2
 ·have w:A.wrap ((s.size:Int)-2)=(s.size:Int)-2:=L ω ω;simp only[w];rw[c_ h,c_ (ω:(s.size:Int)-2<0)];rfl
 ·rw[f_ h,b_];have w:A.wrap ((s.size:Int)-2)=((s.size-2:Nat):Int):=by rw[L ω ω];omega
  simp only[w,i_];rw[f_ (ω:¬((s.size-2:Nat):Int)<0),c_ (ω:(0:Int)≤((s.size-2:Nat):Int)),c_ (ω:((s.size-2:Nat):Int)≤(s.size:Int)),S_,d_,b_];refine D (Apj (s:=s.extract 0 (s.size-2)) (by rw[Abs s ω];omega)) ?_;show(bif !eqB (Jz (s.extract 0 (s.size-2))) s then _ else _)=_;cases eqB (Jz (s.extract 0 (s.size-2))) s<;>rfl
end Go.Ovl
