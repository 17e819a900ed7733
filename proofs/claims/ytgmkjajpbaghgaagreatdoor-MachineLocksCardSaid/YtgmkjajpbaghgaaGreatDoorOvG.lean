/- Phases of cars (layer 25): orders, and what cars do by themselves. -/
import Derived.Test.YtgmkjajpbaghgaaGreatDoorOvF
import Derived.Test.YtgmkjajpbaghgaaGreatDoorOvA
import Derived.Test.YtgmkjajpbaghgaaGreatDoorOvD
import Derived.Test.YtgmkjajpbaghgaaGreatDoorOvC
set_option linter.all false
open Go.IntKind renaming i64->A,wrap->B,u16->E,u64->I,u8->J,u32->aH
open Option renaming some->C,bind->aF
open Go.Ovl renaming Ae->D,Ac->L,Bldg->O,inR->P
open Bool renaming false->H,true->R
open Int renaming tmod->N,toNat->W,tdiv->X,fdiv->aA,lt_of_lt_of_le->aG
open Min renaming min->U
open Go.Ovl.Sat renaming ret->V,bifT->aB,bic->aC,bindS->aD
open BitVec renaming ofInt->Y,toNat->aE
open List renaming range->Z
namespace Go.Ovl
open Go Go.Ab
set_option maxRecDepth 100000
variable{s:ByteArray}{calm:List Bool}{i t r k n:Nat}{α:Type}
def Ns(m:Img)(car:Int):Bool:=m.A0.any λe=>e.Q0==car
def HN(m:Img)(i:Nat):Bool:=phA m i==4&&lvA m i
def Ph(m:Img)(calm:List Bool)(i:Nat):Bool:=calm.getD i H&&((phA m i==1||HN m i)&&!Ns m i)
def Nq(m:Img)(calm:List Bool)(i:Nat):List Record:=
 bif Ph m calm i then [⟨4,0,0,i,2⟩]++(bif HN m i then [⟨6,0,0,i,0⟩]else [])++(bif flA m i then [⟨5,0,0,i,0⟩]else [])else []
def Er(m:Img)(calm:List Bool):Nat→List Record
 |0=>[]
 |i+1=>Er m calm i++Nq m calm i
def Av1(m:Img)(calm:List Bool)(i:Nat):(Nq m calm i).length≤3:=by
 unfold Nq;cases Ph m calm i<;>cases HN m i<;>cases flA m i<;>simp
def Tr(m:Img)(calm:List Bool):∀i,(Er m calm i).length≤3*i
 |0=>w_ 0
 |i+1=>by
  have:=Tr m calm i
  have:=Av1 m calm i
  show(Er m calm i++Nq m calm i).length≤_;rw[h_];omega
section
variable{b:O}{m:Img}(hm:ImgOK b m)(hb:b.small)(he:m.A0.length≤100000)
include hm he
omit hm in
theorem Amp(car:Int):EH m.F0 m.O0 m.K0 m.A0 car=C ((Ns m car,()),()):=by
 have h:Sat (EH m.F0 m.O0 m.K0 m.A0 car) λy=>y=((Ns m car,()),()):=by
  unfold EH IB;refine aD (Q:=λy=>match y with | .inl _=>Ns m car=H | .inr z=>z=((R,()),())∧Ns m car=R) (Sat.loop (λk x=>∃i:Nat,x=((car,m.A0,(m.A0.length:Int),(i:Int),()),())∧i+k=m.A0.length∧∀e∈m.A0.take i,(e.Q0==car)=H) ?_ m.A0.length ⟨0,rfl,ω,λe h=>(by simp at h)⟩ ω) λy hy=>?_
  ·rintro k x ⟨i,rfl,hk,hn⟩
   show Sat (LD car m.A0 (m.A0.length:Int) (i:Int)) _;unfold LD;refine aC (λq=>?_) λq=>V ?_
   ·have hi:i<m.A0.length:=by have:=m_ q;omega
    refine aB (Aa ω ω) (aC (λq2=>V ⟨rfl,?_⟩) λq2=>V ⟨k-1,ω,i+1,?_,ω,λe h=>?_⟩)
    ·exact List.any_eq_true.2 ⟨_,CA _ hi,q2⟩
    ·rw[show A.wrap ((i:Int)+1)=((i+1:Nat):Int)by rw[L ω ω];omega]
    ·rw[List.take_succ,i_ hi]at h
     rcases p_.1 h with h | h
     ·exact hn e h
     ·rw[j_,k_,i_ hi]at q2
      have:e=m.A0[i]:=by simpa using h
      rw[this];exact q2
   ·have:=C_ q
    rw[b2_ ω]at hn
    show Ns m car=H;exact List.any_eq_false.2 λe h=>by rw[hn e h];decide
  ·cases y with
   |inl _=>rw[show Ns m car=H from hy];exact V rfl
   |inr z=>obtain⟨h1,h2⟩:=hy;subst h1;rw[h2];exact V rfl
 obtain⟨y,h,rfl⟩:=h;exact h
include hb in
theorem Ae1{kind:Int}(hk:0≤kind∧kind≤8)(hi:i<b.B0.length)(hcalm:calm.length=b.B0.length){fr:Bool}(hf:Gv m.F0 m.O0 m.K0 m.A0=C ((fr,()),())):Kx b.C0 b.E0 b.H0 b.M0 b.J0 b.L0 b.N0 b.B0 m.F0 m.O0 m.K0 m.A0 kind (i:Int) calm=C (((bif kind==0 then([],(0:Int))else OV m i (calm.getD i H) fr kind).1,(bif kind==0 then([],(0:Int))else OV m i (calm.getD i H) fr kind).2,()),()):=by
 have hcc:=Aj hm.code;unfold Kx;refine D (CL hb m (c2_ (show m.F0.length≤8 by rw[hm.lp];omega) (by decide)) (c2_ he (by decide))) ?_
 show(bif !m.ok b then _ else _)=_;rw[Img.ok_iff.2 hm,hcalm,Q_,f_ (ω:¬kind<0),f_ (ω:¬8<kind),f_ (ω:¬(i:Int)<0),f_ (ω:¬(b.B0.length:Int)≤(i:Int))]
 simp only[n_,c_];cases kind==0 with
 |true=>rfl
 |false=>
  rw[c_,Aa ω ω,d_]
  exact D (Azo hm hi hf _ kind) rfl
include hb in
theorem Ah2(hcalm:calm.length=b.B0.length):LA b.C0 b.E0 b.H0 b.M0 b.J0 b.L0 b.N0 b.B0 m.F0 m.O0 m.K0 m.A0 calm=C ((Er m calm b.B0.length,()),()):=by
 have hcc:=Aj hm.code;have lp:=hm.lp;have lf:=hm.lf;have ll:=hm.ll
 have hL:Sat (Jq ((calm,(),([]:List Record),m.F0,(m.F0.length:Int),(0:Int),()),(m.tup,()))) λy=>y=((Er m calm b.B0.length,()),()):=by
  unfold Jq;refine Sat.loop (λk x=>∃(i:Nat),x=((calm,(),Er m calm i,m.F0,(m.F0.length:Int),(i:Int),()),(m.tup,()))∧i+k=m.F0.length) ?_ m.F0.length ⟨0,rfl,ω⟩ ω
  rintro k x ⟨i,rfl,hk⟩;have hl:=Tr m calm i;show Sat (Pz calm (Er m calm i) m.F0 (m.F0.length:Int) (i:Int) m.F0 m.O0 m.K0 m.A0) _;unfold Pz
  refine aC (λq=>?_) λq=>V (by
   have q:=C_ q;show((Er m calm i,()),())=((Er m calm b.B0.length,()),());rw[show b.B0.length=i by omega])
  have hi:i<m.F0.length:=by have:=m_ q;omega
  have w:=Dz hi (show m.F0.length≤AI by unfold AI;omega)
  have i1:inB (i:Int) m.F0.length=R:=Aa ω ω
  have i2:inB (i:Int) m.K0.length=R:=Aa ω ω
  have i3:inB (i:Int) m.O0.length=R:=Aa ω ω
  have i4:inB (i:Int) calm.length=R:=Aa ω ω
  refine aB i1 ?_;refine Sat.bindE (b:=((calm,(),Er m calm i,(i:Int),phA m i,HN m i,m.F0,(m.F0.length:Int),(i:Int),()),(m.tup,()))) ?_ ?_
  ·show(bif phA m i==4 then _ else _)=_
   unfold HN;cases phA m i==4 with
   |true=>rw[d_,i2];rfl
   |false=>rfl
  refine Sat.bindE (b:=((calm,(),Er m calm i,(i:Int),HN m i,m.F0,(m.F0.length:Int),(i:Int),!Ph m calm i,()),(m.tup,()))) ?_ ?_
  ·have hb2:=Amp (m:=m) he (i:Int)
   show(bif inB (i:Int) calm.length then _ else _)=_;rw[i4,d_];unfold Ph;show(bif !calm.getD i H then _ else bif phA m i !=1 then bif !HN m i then _ else(EH m.F0 m.O0 m.K0 m.A0 (i:Int)).bind _ else(EH m.F0 m.O0 m.K0 m.A0 (i:Int)).bind _)=_;cases calm.getD i H with
   |false=>rfl
   |true=>
    rw[n_,c_,o_];unfold bne;cases phA m i==1 with
    |true=>
     rw[n_,c_];exact D hb2 (by show C ((calm,(),Er m calm i,(i:Int),HN m i,m.F0,(m.F0.length:Int),(i:Int),Ns m (i:Int),()),_)=_;rw[Bool.true_or,o_,Bool.not_not])
    |false=>
     rw[b6_,d_];cases HN m i with
     |false=>rfl
     |true=>exact D hb2 (by show C ((calm,(),Er m calm i,(i:Int),R,m.F0,(m.F0.length:Int),(i:Int),Ns m (i:Int),()),_)=_;rw[Bool.or_true,o_,Bool.not_not])
  refine aC (λq2=>V ⟨k-1,ω,i+1,?_,ω⟩) λq2=>?_
  ·simp only[w]
   have q2:Ph m calm i=H:=by simpa using q2
   show _=((calm,(),Er m calm i++Nq m calm i,m.F0,(m.F0.length:Int),((i+1:Nat):Int),()),(m.tup,()));rw[show Nq m calm i=[]by unfold Nq;rw[q2];rfl,a9_]
  ·have q2:Ph m calm i=R:=by simpa using q2
   refine aB (f2_ (by simp only[z_,d1_];omega)) ?_
   refine Sat.bindE (b:=((calm,(),Er m calm i++[⟨4,0,0,i,2⟩]++(bif HN m i then [⟨6,0,0,i,0⟩]else []),(i:Int),m.F0,(m.F0.length:Int),(i:Int),()),(m.tup,()))) ?_ ?_
   ·show(bif HN m i then _ else _)=_
    cases HN m i with
    |true=>
     rw[d_];refine WO (f2_ (by simp only[h_,z_,d1_];omega)) rfl
    |false=>rw[c_,c_,a9_]
   refine aB i3 ?_
   have e:Er m calm (i+1)=Er m calm i++[⟨4,0,0,i,2⟩]++(bif HN m i then [⟨6,0,0,i,0⟩]else [])++(bif flA m i then [⟨5,0,0,i,0⟩]else []):=by
    show Er m calm i++Nq m calm i=_;unfold Nq;rw[q2,d_];simp only[O_]
   refine aC (λq3=>?_) λq3=>V ⟨k-1,ω,i+1,?_,ω⟩
   ·have q3:flA m i=R:=q3
    rw[q3,d_]at e;refine aB (f2_ (by have:(bif HN m i then [(⟨6,0,0,i,0⟩:Record)]else []).length≤1:=(by cases HN m i<;>simp);simp only[h_,z_,d1_];omega)) (V ⟨k-1,ω,i+1,?_,ω⟩)
    simp only[w];rw[e]
   ·have q3:flA m i=H:=q3
    rw[q3,c_,a9_]at e;simp only[w];rw[e]
 obtain⟨y,hy,rfl⟩:=hL;unfold LA;refine D (CL hb m (c2_ (show m.F0.length≤8 by rw[hm.lp];omega) (by decide)) (c2_ he (by decide))) ?_
 show(bif !m.ok b then _ else _)=_;rw[Img.ok_iff.2 hm,hcalm,Q_,n_,c_,c_];exact D hy rfl
end
def UG(x:Int):0≤aH.wrap (stk x 255 (aE (Y (IntKind.bits .u32) x&&&Y (IntKind.bits .u32) 255)))∧aH.wrap (stk x 255 (aE (Y (IntKind.bits .u32) x&&&Y (IntKind.bits .u32) 255)))<256:=by
 rw[Ua];unfold vb
 have h:(bv x&&&bv 255).toNat<256:=by
  rw[BitVec.toNat_and];exact Nat.lt_of_le_of_lt Nat.and_le_right (show(bv 255).toNat<256 by decide)
 omega
def Bob(n:Int):0≤A.wrap (B J n)∧A.wrap (B J n)≤255:=by
 have:=Aaq n
 rw[L ω ω]
 omega
def ST{x:Int}(h:0≤x∧x<4294967296):Sat (CN x) λy=>0≤y.1.1∧y.1.1≤255:=by
 unfold CN;refine aB (Aa ?_ (aG ?_ (Int.ofNat_le.2 (B_ (n:=256) rfl)))) ?_
 ·rw[a1_ _ (by decide)]
  exact Int.ediv_nonneg h.1 (by decide)
 ·rw[a1_ _ (by decide)]
  exact Int.ediv_lt_of_lt_mul (by decide) h.2
 refine aB (Aa (UG _).1 (aG (UG _).2 (Int.ofNat_le.2 (B_ (n:=256) rfl)))) ?_;refine aB (Aa (UG _).1 (aG (UG _).2 (Int.ofNat_le.2 (B_ (n:=256) rfl)))) ?_;exact aB (Aa (UG _).1 (aG (UG _).2 (Int.ofNat_le.2 (B_ (n:=256) rfl)))) (V (Bob _))
def Xj(fl:Int){set:Int}(h:0≤set∧set<4294967296)(a c d e:Bool):Sat (Ir fl set a c d e) λ_=>True:=by
 unfold Ir ME;have i:SatT (CN set):=⟨(ST h).any⟩;refine aD (Q:=λ_=>True) (aD (As9 set) λ_ _=>aD (Q:=λ_=>True) ?_ λ_ _=>aC (λ_=>V trivial) λ_=>V trivial) λ_ _=>aD (Axt a c) λ_ _=>aD (Axt d e) λ_ _=>V trivial
 refine aD (isFloors_ti fl).out λ_ _=>aC (λ_=>aD (ST h) λ_ _=>aC (λ_=>V trivial) λ_=>V trivial) λ_=>V trivial
def orL(x y:Int):Int:=I.wrap (stk x y (aE ((Y (IntKind.bits I) x)|||(Y (IntKind.bits I) y))))
def leV(s:ByteArray):Nat→Int
 |0=>0
 |i+1=>orL (leV s i) (B I (B I (Bo s i)*((2:Int)^(U (W (8*(i:Int))) (IntKind.bits I)))))
def LN(b:O)(hk:k≤8)(hs:k≤s.size):BE (k:Int) s b.C0 b.E0 b.H0 b.M0 b.J0 b.L0 b.N0 b.B0=C ((leV s k,()),((s.extract k s.size,b.C0,b.E0,b.H0,b.M0,b.J0,b.L0,b.N0,b.B0,()),())):=by
 have h:Sat (CO (((),(k:Int),(0:Int),(k:Int),(0:Int),()),((s,b.C0,b.E0,b.H0,b.M0,b.J0,b.L0,b.N0,b.B0,()),()))) λy=>y=(((),(k:Int),leV s k,()),((s,b.C0,b.E0,b.H0,b.M0,b.J0,b.L0,b.N0,b.B0,()),())):=by
  unfold CO;refine Sat.loop (λm x=>∃i:Nat,x=(((),(k:Int),leV s i,(k:Int),(i:Int),()),((s,b.C0,b.E0,b.H0,b.M0,b.J0,b.L0,b.N0,b.B0,()),()))∧i+m=k) ?_ k ⟨0,rfl,ω⟩ ω
  rintro m x ⟨i,rfl,hm⟩;show Sat (Gy (k:Int) (leV s i) (k:Int) (i:Int) s b.C0 b.E0 b.H0 b.M0 b.J0 b.L0 b.N0 b.B0) _;unfold Gy;refine aC (λq=>?_) λq=>V ?_
  ·have q:=m_ q
   have hi:i<s.size:=ω
   refine aB (Aa ω ω) ?_
   have w8:A.wrap (8*(i:Int))=8*(i:Int):=L ω ω
   have w1:A.wrap ((i:Int)+1)=((i+1:Nat):Int):=by rw[L ω ω];omega
   simp only[w8,w1];exact aB (b_ ω) (V ⟨m-1,ω,i+1,rfl,ω⟩)
  ·have q:=C_ q
   obtain rfl:i=k:=ω
   rfl
 obtain⟨y,h1,rfl⟩:=h;unfold BE;rw[h1];simp only[a_];rw[b_ (ω:(0:Int)≤(k:Int)),b_ (ω:(k:Int)≤(s.size:Int))]
 rfl
def Kp{α:Type}(d:α)(g:Nat→α→α)(i:Nat)(l:List α):List α:=l.set i (g i (l.getD i d))
def Af9{α:Type}(d:α)(g:Nat→α→α):∀(m i:Nat) (l:List α),i+m=l.length→Bw (Kp d g) m i l=l.take i++(List.range' i m).map (λj=>g j (l.getD j d))
 |0,i,l,h=>by
  rw[show i=l.length by omega,List.take_length];simp[Bw]
 |m+1,i,l,h=>by
  have hi:i<l.length:=ω
  unfold Bw;rw[Af9 d g m (i+1) _ (by rw[Kp,r_];omega)]
  have e1:(Kp d g i l).take (i+1)=l.take i++[g i (l.getD i d)]:=by
   unfold Kp;rw[List.take_add_one,List.take_set_of_le ω,List.getElem?_set_self ω];rfl
  rw[e1,e9_,List.map_cons,O_,d9_];congr 2;apply List.map_congr_left;intro j hj;rw[List.mem_range']at hj;obtain⟨k,hk,rfl⟩:=hj;unfold Kp;rw[k_,List.getElem?_set_ne ω,← k_]
def Pe(d:α)(g:Nat→α→α)(f:Nat→α)(n:Nat):Bw (Kp d g) n 0 ((Z n).map f)=(Z n).map (λj=>g j (f j)):=by
 rw[Af9 d g n 0 _ (by simp),List.take_zero,Z_,← List.range_eq_range']
 apply List.map_congr_left;intro j hj;rw[List.mem_range]at hj;simp[k_,hj]
def Bi{l:List α}(d x:α)(h:i<l.length):(l.set i x).getD i d=x:=by
 rw[k_,List.getElem?_set_self h];rfl
def g15(fl t i:Nat)(c:Car):Car:=⟨c.F1,c.G3,c.J3,c.K2,((1+t%3:Nat):Int),((1+t/3%3:Nat):Int),((1+t/9%3:Nat):Int),((1+t/9%3+t/27%5:Nat):Int),(((i+t)%fl:Nat):Int)⟩
def g18(t:Nat)(_:Nat)(c:Car):Car:={ c with F1:=((1+t%16:Nat):Int) }
def g27(n1 n2:Nat)(_:Nat)(c:Car):Car:={ c with J3:=((1+n2%4:Nat):Int),K2:=((n1%5:Nat):Int) }
def EB(fl ca t:Nat):O:={ AH fl ca with M0:=((1+t%7:Nat):Int),B0:=(Z ca).map λi=>g15 fl t i (FD fl i) }
def Tv(fl ca t:Nat):O:={ EB fl ca t with B0:=(Z ca).map λi=>g18 t i (g15 fl t i (FD fl i)) }
def Fs(fl ca n1 n2:Nat):O:={ EB fl ca n1 with E0:=((1+n2%3:Nat):Int),H0:=((18*ca+24+6*(n2/3):Nat):Int),B0:=(Z ca).map λi=>g27 n1 n2 i (g18 n1 i (g15 fl n1 i (FD fl i))) }
def Bcb{n:Int}(h:0≤n)(h':n<256):J.wrap n=n:=by
 simp only[B,IntKind.signed,IntKind.bits];simp;omega
def LU(a b:Nat):N (a:Int) (b:Int)=((a%b:Nat):Int):=by
 rw[d8_ ω];norm_cast
def Bb7(a b:Nat):X (a:Int) (b:Int)=((a/b:Nat):Int):=by
 rw[Int.tdiv_eq_ediv_of_nonneg ω];norm_cast
def NW(k:Nat)(ht:t<100000):A.wrap ((1:Int)+A.wrap (N (t:Int) (k:Int)))=((1+t%k:Nat):Int):=by
 have:t%k≤t:=Nat.mod_le _ _
 rw[LU];generalize t%k=q at this⊢;rw[L (n:=(q:Int)) ω ω,L ω ω];norm_cast
def WY(k:Nat)(ht:t<256):J.wrap (X (t:Int) (k:Int))=((t/k:Nat):Int):=by
 have:t/k≤t:=Nat.div_le_self _ _
 generalize hq:t/k=q at this;rw[Bb7,hq,Bcb ω ω]
def Aqc{fl ca:Nat}(h1:1≤fl)(hf:fl≤100)(h2:ca≤8)(ht:t<256):
  JX (((t:Int),(),(),(0:Int),()),(Bldg.none.tup,(AH fl ca).tup,()))=C (((t:Int),(),(),()),(Bldg.none.tup,({ AH fl ca with B0:=(EB fl ca t).B0 }:O).tup,())):=by
 have hl:(AH fl ca).B0.length=ca:=by simp[AH]
 have h:=AQ (step:=λx=>letI a:=x.2.2.1.2.2;letI b:=x.2.1.2.2;letI c:=b.2.2;letI d:=a.2.2;FX x.1.1 x.1.2.2.2.1 x.2.1.1 x.2.1.2.1 b.1 b.2.1 c.1 c.2.1 c.2.2.1 c.2.2.2.1 x.2.2.1.1 x.2.2.1.2.1 a.1 a.2.1 d.1 d.2.1 d.2.2.1 d.2.2.2.1) ca
  (λi l=>(((t:Int),(),(),(i:Int),()),(Bldg.none.tup,({ AH fl ca with B0:=l }:O).tup,()))) (Kp EE (g15 fl t)) (λ_ l=>l.length=ca) (λl=>(((t:Int),(),(),()),(Bldg.none.tup,({ AH fl ca with B0:=l }:O).tup,())))
  (λi l hi hll=>by
   refine⟨?_,by rw[Kp,r_,hll]⟩
   show FX (t:Int) (i:Int) Bldg.none.C0 Bldg.none.E0 Bldg.none.H0 Bldg.none.M0 Bldg.none.J0 Bldg.none.L0 Bldg.none.N0 Bldg.none.B0 (AH fl ca).C0 (AH fl ca).E0 (AH fl ca).H0 (AH fl ca).M0 (AH fl ca).J0 (AH fl ca).L0 (AH fl ca).N0 l=_;unfold FX;have hil:i<l.length:=ω
   have hz:((AH fl ca).C0 !=0)=R:=by show((fl:Int) !=0)=R;simp;omega
   have w:A.wrap ((i:Int)+1)=((i+1:Nat):Int):=by rw[L ω ω];omega
   have e1:A.wrap ((1:Int)+A.wrap (N (t:Int) 3))=((1+t%3:Nat):Int):=NW 3 ω
   have e2:A.wrap ((1:Int)+A.wrap (N (B J (X (t:Int) 3)) 3))=((1+t/3%3:Nat):Int):=by
    rw[show J.wrap (X (t:Int) 3)=((t/3:Nat):Int)from WY 3 ht];exact NW 3 ω
   have e3:A.wrap ((1:Int)+A.wrap (N (B J (X (t:Int) 9)) 3))=((1+t/9%3:Nat):Int):=by
    rw[show J.wrap (X (t:Int) 9)=((t/9:Nat):Int)from WY 9 ht];exact NW 3 ω
   have e4:A.wrap (((1+t/9%3:Nat):Int)+A.wrap (N (B J (X (t:Int) 27)) 5))=((1+t/9%3+t/27%5:Nat):Int):=by
    rw[show J.wrap (X (t:Int) 27)=((t/27:Nat):Int)from WY 27 ht,show N ((t/27:Nat):Int) 5=((t/27%5:Nat):Int)from LU _ 5,L (n:=((t/27%5:Nat):Int)) ω ω,L ω ω];norm_cast
   have e5:N (B A ((i:Int)+A.wrap (t:Int))) (AH fl ca).C0=(((i+t)%fl:Nat):Int):=by
    show N _ (fl:Int)=_;rw[L (n:=(t:Int)) ω ω,L ω ω]
    exact LU (i+t) fl
   rw[show Car.mk 0 0 0 0 0 0 0 0 0=EE from rfl]
   simp only[b_ (ω:(i:Int)<(l.length:Int)),Aa (ω:(0:Int)≤(i:Int)) (ω:(i:Int)<(l.length:Int)),d_,j_,hz,w,Bi EE _ hil,List.set_set,e1,e2,e3,e4,e5]
   unfold Kp g15
   rfl)
  (λl hll=>by
   show FX (t:Int) (ca:Int) Bldg.none.C0 Bldg.none.E0 Bldg.none.H0 Bldg.none.M0 Bldg.none.J0 Bldg.none.L0 Bldg.none.N0 Bldg.none.B0 (AH fl ca).C0 (AH fl ca).E0 (AH fl ca).H0 (AH fl ca).M0 (AH fl ca).J0 (AH fl ca).L0 (AH fl ca).N0 l=_;unfold FX;rw[hll,f_ (N_ (ca:Int))];rfl)
  ca 0 (AH fl ca).B0 ω hl
 have h2:=Ai h.1 ω
 rw[show(AH fl ca).B0=(Z ca).map (FD fl)from rfl,Pe]at h2
 exact h2
def Aqd{fl ca:Nat}(_hf:fl≤100)(h2:ca≤8)(ht:t<256):
  JY (((t:Int),(),(),(0:Int),()),(Bldg.none.tup,(EB fl ca t).tup,()))=C (((),(),()),(Bldg.none.tup,(Tv fl ca t).tup,())):=by
 have hl:(EB fl ca t).B0.length=ca:=by simp[EB]
 have h:=AQ (step:=λx=>letI a:=x.2.2.1.2.2;letI b:=x.2.1.2.2;letI c:=b.2.2;letI d:=a.2.2;FY x.1.1 x.1.2.2.2.1 x.2.1.1 x.2.1.2.1 b.1 b.2.1 c.1 c.2.1 c.2.2.1 c.2.2.2.1 x.2.2.1.1 x.2.2.1.2.1 a.1 a.2.1 d.1 d.2.1 d.2.2.1 d.2.2.2.1) ca
  (λi l=>(((t:Int),(),(),(i:Int),()),(Bldg.none.tup,({ EB fl ca t with B0:=l }:O).tup,()))) (Kp EE (g18 t)) (λ_ l=>l.length=ca) (λl=>(((),(),()),(Bldg.none.tup,({ EB fl ca t with B0:=l }:O).tup,())))
  (λi l hi hll=>by
   refine⟨?_,by rw[Kp,r_,hll]⟩
   show FY (t:Int) (i:Int) Bldg.none.C0 Bldg.none.E0 Bldg.none.H0 Bldg.none.M0 Bldg.none.J0 Bldg.none.L0 Bldg.none.N0 Bldg.none.B0 (EB fl ca t).C0 (EB fl ca t).E0 (EB fl ca t).H0 (EB fl ca t).M0 (EB fl ca t).J0 (EB fl ca t).L0 (EB fl ca t).N0 l=_;unfold FY;have w:A.wrap ((i:Int)+1)=((i+1:Nat):Int):=by rw[L ω ω];omega
   have e1:A.wrap ((1:Int)+A.wrap (N (t:Int) 16))=((1+t%16:Nat):Int):=NW 16 ω
   rw[show Car.mk 0 0 0 0 0 0 0 0 0=EE from rfl]
   simp only[b_ (ω:(i:Int)<(l.length:Int)),Aa (ω:(0:Int)≤(i:Int)) (ω:(i:Int)<(l.length:Int)),d_,j_,w,e1]
   unfold Kp g18
   rfl)
  (λl hll=>by
   show FY (t:Int) (ca:Int) Bldg.none.C0 Bldg.none.E0 Bldg.none.H0 Bldg.none.M0 Bldg.none.J0 Bldg.none.L0 Bldg.none.N0 Bldg.none.B0 (EB fl ca t).C0 (EB fl ca t).E0 (EB fl ca t).H0 (EB fl ca t).M0 (EB fl ca t).J0 (EB fl ca t).L0 (EB fl ca t).N0 l=_;unfold FY;rw[hll,f_ (N_ (ca:Int))];rfl)
  ca 0 (EB fl ca t).B0 ω hl
 have h2:=Ai h.1 ω
 rw[show(EB fl ca t).B0=(Z ca).map (λi=>g15 fl t i (FD fl i))from rfl,Pe]at h2
 exact h2
def Gr(fl ca n1 n2:Nat):O:={ Fs fl ca n1 n2 with B0:=(Tv fl ca n1).B0 }
def Aqe{fl ca n0 n1 n2:Nat}(h2:ca≤8)(_h3:n1<256)(h4:n2<256) :
  Hz (((),(),(),(0:Int),()),(((n0:Int),(n1:Int),(n2:Int),()),Bldg.none.tup,(Gr fl ca n1 n2).tup,()))=C (((),(),()),(Bldg.none.tup,(Fs fl ca n1 n2).tup,())):=by
 have hl:(Gr fl ca n1 n2).B0.length=ca:=by simp[Gr,Tv]
 have h:=AQ (step:=λx=>letI a:=x.2.2;letI b:=a.2.1.2.2;letI c:=a.1.2.2;letI d:=c.2.2;letI e:=b.2.2;FZ x.1.2.2.2.1 x.2.1.1 x.2.1.2.1 x.2.1.2.2.1 a.1.1 a.1.2.1 c.1 c.2.1 d.1 d.2.1 d.2.2.1 d.2.2.2.1 a.2.1.1 a.2.1.2.1 b.1 b.2.1 e.1 e.2.1 e.2.2.1 e.2.2.2.1) ca
  (λi l=>(((),(),(),(i:Int),()),(((n0:Int),(n1:Int),(n2:Int),()),Bldg.none.tup,({ Gr fl ca n1 n2 with B0:=l }:O).tup,()))) (Kp EE (g27 n1 n2)) (λ_ l=>l.length=ca) (λl=>(((),(),()),(Bldg.none.tup,({ Gr fl ca n1 n2 with B0:=l }:O).tup,())))
  (λi l hi hll=>by
   refine⟨?_,by rw[Kp,r_,hll]⟩
   show FZ (i:Int) (n0:Int) (n1:Int) (n2:Int) Bldg.none.C0 Bldg.none.E0 Bldg.none.H0 Bldg.none.M0 Bldg.none.J0 Bldg.none.L0 Bldg.none.N0 Bldg.none.B0 (Gr fl ca n1 n2).C0 (Gr fl ca n1 n2).E0 (Gr fl ca n1 n2).H0 (Gr fl ca n1 n2).M0 (Gr fl ca n1 n2).J0 (Gr fl ca n1 n2).L0 (Gr fl ca n1 n2).N0 l=_;unfold FZ;have hil:i<l.length:=ω
   have w:A.wrap ((i:Int)+1)=((i+1:Nat):Int):=by rw[L ω ω];omega
   have e1:A.wrap ((1:Int)+A.wrap (N (n2:Int) 4))=((1+n2%4:Nat):Int):=NW 4 ω
   have e2:A.wrap (N (n1:Int) 5)=((n1%5:Nat):Int):=by
    rw[show N (n1:Int) 5=((n1%5:Nat):Int)from LU n1 5,L ω ω]
   rw[show Car.mk 0 0 0 0 0 0 0 0 0=EE from rfl]
   simp only[b_ (ω:(i:Int)<(l.length:Int)),Aa (ω:(0:Int)≤(i:Int)) (ω:(i:Int)<(l.length:Int)),d_,j_,w,e1,e2,Bi EE _ hil,List.set_set,r_]
   unfold Kp g27
   rfl)
  (λl hll=>by
   show FZ (ca:Int) (n0:Int) (n1:Int) (n2:Int) Bldg.none.C0 Bldg.none.E0 Bldg.none.H0 Bldg.none.M0 Bldg.none.J0 Bldg.none.L0 Bldg.none.N0 Bldg.none.B0 (Gr fl ca n1 n2).C0 (Gr fl ca n1 n2).E0 (Gr fl ca n1 n2).H0 (Gr fl ca n1 n2).M0 (Gr fl ca n1 n2).J0 (Gr fl ca n1 n2).L0 (Gr fl ca n1 n2).N0 l=_;unfold FZ;rw[hll,f_ (N_ (ca:Int))];rfl)
  ca 0 (Gr fl ca n1 n2).B0 ω hl
 have h2:=Ai h.1 ω
 rw[show(Gr fl ca n1 n2).B0=(Z ca).map (λi=>g18 n1 i (g15 fl n1 i (FD fl i)))from rfl,Pe]at h2
 exact h2
def Hb(n0:Nat):Nat:=2+n0%5
def GU(n0:Nat):Nat:=1+n0/5%3
def YD{n0:Nat}(hn:n0<256)(ht:t<256):Mb (n0:Int) (t:Int)=C (((),()),((EB (Hb n0) (GU n0) t).tup,())):=by
 have e1:A.wrap ((2:Int)+A.wrap (N (n0:Int) 5))=((Hb n0:Nat):Int):=by
  rw[show N (n0:Int) 5=((n0%5:Nat):Int)from LU n0 5,L (n:=((n0%5:Nat):Int)) ω ω,L ω ω];unfold Hb;norm_cast
 have e2:A.wrap ((1:Int)+A.wrap (N (B J (X (n0:Int) 5)) 3))=((GU n0:Nat):Int):=by
  rw[show J.wrap (X (n0:Int) 5)=((n0/5:Nat):Int)from WY 5 hn];exact NW 3 ω
 have hf:2≤Hb n0∧Hb n0≤6:=by unfold Hb;omega
 have hc:1≤GU n0∧GU n0≤3:=by unfold GU;omega
 have e3:A.wrap ((1:Int)+A.wrap (N (t:Int) 7))=((1+t%7:Nat):Int):=NW 7 ω
 unfold Mb;rw[e1,e2];refine D (Aat ω ω) ?_
 refine D (Aqc ω ω ω ht) ?_
 show C (((),()),(((Hb n0:Nat):Int),(1:Int),(4000:Int),A.wrap ((1:Int)+A.wrap (N (t:Int) 7)),_,_,_,_,()),())=_;rw[e3];rfl
def YE{n0:Nat}(hn:n0<256)(ht:t<256):Mc (n0:Int) (t:Int)=C (((),()),((Tv (Hb n0) (GU n0) t).tup,())):=by
 have hf:2≤Hb n0∧Hb n0≤6:=by unfold Hb;omega
 have hc:1≤GU n0∧GU n0≤3:=by unfold GU;omega
 unfold Mc;refine D (YD hn ht) ?_;exact D (Aqd ω ω ht) rfl
def YF{n0 n1 n2:Nat}(h0:n0<256)(h1:n1<256)(h2:n2<256):EK (n0:Int) (n1:Int) (n2:Int)=C (((),()),((Fs (Hb n0) (GU n0) n1 n2).tup,())):=by
 have hf:2≤Hb n0∧Hb n0≤6:=by unfold Hb;omega
 have hc:1≤GU n0∧GU n0≤3:=by unfold GU;omega
 have e1:A.wrap ((1:Int)+A.wrap (N (n2:Int) 3))=((1+n2%3:Nat):Int):=NW 3 ω
 have hl:(Tv (Hb n0) (GU n0) n1).B0.length=GU n0:=by simp[Tv]
 have e2:A.wrap (B A (B A (18*(((Tv (Hb n0) (GU n0) n1).B0.length:Nat):Int))+24)+A.wrap (6*A.wrap (B J (X (n2:Int) 3))))=((18*GU n0+24+6*(n2/3):Nat):Int):=by
  rw[hl,show J.wrap (X (n2:Int) 3)=((n2/3:Nat):Int)from WY 3 h2,L (n:=18*((GU n0:Nat):Int)) ω ω,L (n:=18*((GU n0:Nat):Int)+24) ω ω,L (n:=((n2/3:Nat):Int)) ω ω,L (n:=6*((n2/3:Nat):Int)) ω ω,L ω ω]
  norm_cast
 unfold EK;refine D (YE h0 h1) ?_;refine D (a:=(((),(),()),(Bldg.none.tup,(Fs (Hb n0) (GU n0) n1 n2).tup,()))) ?_ rfl;show Hz (((),(),(),(0:Int),()),(((n0:Int),(n1:Int),(n2:Int),()),Bldg.none.tup,(((Hb n0:Nat):Int),A.wrap ((1:Int)+A.wrap (N (n2:Int) 3)),A.wrap (B A (B A (18*(((Tv (Hb n0) (GU n0) n1).B0.length:Nat):Int))+24)+A.wrap (6*A.wrap (B J (X (n2:Int) 3)))),_,_,_,_,_,()),()))=_;rw[e1,e2];exact Aqe ω h1 h2
def Amo{fl ca n1 n2:Nat}(hf:2≤fl∧fl≤6)(hc:1≤ca∧ca≤3)(_h1:n1<256)(h2:n2<256):(Fs fl ca n1 n2).small∧(Fs fl ca n1 n2).code=0∧(Fs fl ca n1 n2).B0.length=ca∧(Fs fl ca n1 n2).C0=(fl:Int)∧18*(ca:Int)+24≤(Fs fl ca n1 n2).H0∧(Fs fl ca n1 n2).H0≤600:=by
 have hl:(Fs fl ca n1 n2).B0.length=ca:=by simp[Fs]
 have hr:(Fs fl ca n1 n2).H0=((18*ca+24+6*(n2/3):Nat):Int):=rfl;refine⟨⟨by show(2:Int)≤(fl:Int);omega,by show(fl:Int)≤8;omega⟩,?_,hl,rfl,by rw[hr];omega,by rw[hr];omega⟩
 unfold Bldg.code;have e1:P 2 32 (Fs fl ca n1 n2).C0=R:=Am.2 (by show(2:Int)≤(fl:Int)∧(fl:Int)≤32;omega)
 have e2:P 1 8 ((Fs fl ca n1 n2).B0.length:Int)=R:=Am.2 ω
 have e3:P 1 16 (Fs fl ca n1 n2).E0=R:=Am.2 (by show(1:Int)≤((1+n2%3:Nat):Int)∧((1+n2%3:Nat):Int)≤16;omega)
 have e4:P 1 10000 (Fs fl ca n1 n2).M0=R:=Am.2 (by show(1:Int)≤((1+n1%7:Nat):Int)∧((1+n1%7:Nat):Int)≤10000;omega)
 have e5:(Fs fl ca n1 n2).B0.all (Cf (Fs fl ca n1 n2).C0)=R:=by
  rw[G_];intro c hc';obtain⟨i,_,rfl⟩:=c3_.1 hc';have hm:(i+n1)%fl<fl:=f4_ _ ω
  show Cf (fl:Int) (g27 n1 n2 i (g18 n1 i (g15 fl n1 i (FD fl i))))=R;unfold Cf g27 g18 g15 FD;simp only[V_,List.all_nil,c7_,e_,Am,A_];rw[L (n:=(fl:Int)-1) ω ω]
  refine⟨⟨?_,?_,?_,?_,?_,?_,?_⟩,?_,?_,?_⟩<;>omega
 have e6:(Fs fl ca n1 n2).loadsOK=R:=by
  show(AH 2 1).loadsOK=R
  kernel_rfl
 have e7:P (18*((Fs fl ca n1 n2).B0.length:Int)+24) 65536 (Fs fl ca n1 n2).H0=R:=Am.2 (by rw[hl,hr];omega)
 rw[e1,e2,e3,e4,e5,e6,e7];rfl
def Dg(h:n<1000000000):A.wrap ((n:Int)+1)=((n+1:Nat):Int):=by
 rw[L ω ω];omega
def Cag(h:n<1000000000):I.wrap (n:Int)=(n:Int):=Ek ω ω
def Adc(l:List Int):(GO l).size=l.length:=by
 simp[GO,ByteArray.size]
def Ami(x y:Int):Int:=A.wrap (stk x y (aE ((Y (IntKind.bits A) x)^^^(Y (IntKind.bits A) y))))
def Wk(_:Nat)(r:Int):Int:=bif decide (32768≤r)then Ami (N (B A (r*2)) 65536) 4129 else N (B A (r*2)) 65536
def Zu(s:ByteArray)(i:Nat)(r:Int):Int:=Bw Wk 8 0 (Ami r (B A (B A (Bo s i)*256)))
def XX(s:ByteArray):Int:=Bw (Zu s) s.size 0 65535
def Ano(s:ByteArray)(r i:Int):Nn ((s,r,i,(0:Int),()),())=C ((s,Bw Wk 8 0 r,i,()),()):=by
 have h:=AQ (step:=λx=>Ib x.1.1 x.1.2.1 x.1.2.2.1 x.1.2.2.2.1) 8 (λk r=>((s,r,i,(k:Int),()),())) Wk (λ_ _=>True) (λr=>((s,r,i,()),()))
  (λk r hk _=>by
   refine⟨?_,trivial⟩;show Ib s r i (k:Int)=_;unfold Ib;simp only[b_ (ω:(k:Int)<8),d_,Dg (ω:k<1000000000)]
   unfold Wk Ami;cases decide ((32768:Int)≤r)<;>rfl)
  (λr _=>by
   show Ib s r i 8=_;unfold Ib;rw[f_ (N_ (8:Int))];rfl) 8 0 r ω trivial
 exact Ai h.1 ω
def Aln(hs:s.size≤1000000):Qh s=C ((B E (XX s),()),()):=by
 have h:=AQ (step:=λx=>Ia x.1.1 x.1.2.1 x.1.2.2.1) s.size (λi r=>((s,r,(i:Int),()),())) (Zu s) (λ_ _=>True) (λr=>((r,()),()))
  (λi r hi _=>by
   refine⟨?_,trivial⟩;show Ia s r (i:Int)=_;unfold Ia;simp only[b_ (ω:(i:Int)<(s.size:Int)),Aa (ω:(0:Int)≤(i:Int)) (ω:(i:Int)<(s.size:Int)),d_,j_]
   refine D (Ano s _ _) ?_;show C (Sum.inl ((s,_,A.wrap ((i:Int)+1),()),()))=_;rw[Dg (ω:i<1000000000)];rfl)
  (λr _=>by
   show Ia s r (s.size:Int)=_;unfold Ia;rw[f_ (N_ (s.size:Int))];rfl) s.size 0 65535 ω trivial
 have h2:Nm ((s,(65535:Int),(0:Int),()),())=_:=Ai h.1 ω
 unfold Qh;exact D h2 rfl
def Yw(s:ByteArray):ByteArray:=GO [J.wrap (B E (X (B E (XX s)) 256)),J.wrap (N (B E (XX s)) 256)]
def Jc(s:ByteArray):ByteArray:=s++Yw s
def Po(s:ByteArray):(Jc s).size=s.size+2:=by
 unfold Jc Yw;rw[P_,Adc];rfl
def Anm(hs:s.size≤1000000):Rv s=C ((Jc s,()),()):=by
 unfold Rv;refine D (Aln hs) ?_
 have:=Po s
 unfold Jc at this;rw[P_]at this;show(bif Nat.ble (s.size+(Yw s).size) 4611686018427387904 then C ((s++Yw s,()),())else none)=_;rw[Ax ω];rfl
def Kn(s:ByteArray):ByteArray×Int:=bif decide ((s.size:Int)<2)then(noB,4)else bif eqB (Jc (s.extract 0 (s.size-2))) s then(s.extract 0 (s.size-2),0)else(noB,5)
def Aez(n:Int)(k:Nat):List Int:=(Z k).map λi=>J.wrap (aA n ((2:Int)^(U (8*i) (IntKind.bits .u64))))
def nmB(n:Int)(k:Nat):ByteArray:=GO (Aez n k)
def Bt(n:Int)(k:Nat):(nmB n k).size=k:=by
 unfold nmB;rw[Adc];simp[Aez]
def EF(n:Int)(hk:k≤100):DO n (k:Int)=C ((nmB n k,()),()):=by
 have h:=AQ (step:=λx=>KP x.1.1 x.1.2.1 x.1.2.2.1 x.1.2.2.2.1) k (λi l=>((n,(k:Int),l,(i:Int),()),())) (Kp 0 (λi _=>J.wrap (aA n ((2:Int)^(U (8*i) (IntKind.bits .u64)))))) (λ_ l=>l.length=k) (λl=>((l,()),()))
  (λi l hi hl=>by
   refine⟨?_,by rw[Kp,r_,hl]⟩
   show KP n (k:Int) l (i:Int)=_;unfold KP
   have e:I.wrap (B A (8*(i:Int)))=((8*i:Nat):Int):=by
    rw[L (n:=8*(i:Int)) ω ω,Ek ω ω];norm_cast
   simp only[b_ (ω:(i:Int)<(k:Int)),Aa (ω:(0:Int)≤(i:Int)) (ω:(i:Int)<(l.length:Int)),d_,j_,e,b_ (ω:(0:Int)≤((8*i:Nat):Int)),Dg (ω:i<1000000000)]
   rfl)
  (λl hl=>by
   show KP n (k:Int) l (k:Int)=_;unfold KP;rw[f_ (N_ (k:Int))];rfl) k 0 (List.replicate k 0) ω (by simp)
 have h2:=Ai h.1 ω
 rw[show List.replicate k (0:Int)=(Z k).map (λ_=>0)by simp[List.map_const'],Pe]at h2
 have h3:Qn ((n,(k:Int),(Z k).map (λ_=>(0:Int)),(0:Int),()),())=_:=h2
 unfold DO;rw[b_ (ω:(0:Int)≤(k:Int)),b_ (d5_ (k:Int)),b_ (ω:(k:Int)≤2147483648),a6_,a6_,d_,j_,show List.replicate k (0:Int)=(Z k).map (λ_=>0)by simp[List.map_const']]
 exact D h3 rfl
def SD(c:Int×Int):ByteArray:=nmB (B I c.1) 4++nmB (B I c.2) 4
def YT(c:Int×Int):(SD c).size=8:=by
 unfold SD;rw[P_,Bt,Bt]
def Alo(c:Int×Int):Qi c.1 c.2=C ((SD c,()),()):=by
 unfold Qi;refine D (EF (B I c.1) (k:=4) ω) ?_
 refine D (EF (B I c.2) (k:=4) ω) ?_
 show(bif Nat.ble ((nmB (B I c.1) 4).size+(nmB (B I c.2) 4).size) 4611686018427387904 then _ else _)=_;rw[Bt,Bt];rfl
def Bny(x y:Int):Int:=I.wrap (stk x y (aE ((Y (IntKind.bits I) x)|||(Y (IntKind.bits I) y))))
def Aze(l:List Bool)(i:Nat)(n:Int):Int:=bif l.getD i H then Bny n (B I (1*2^min i (IntKind.bits .u64)))else n
def Vi(l:List Bool):ByteArray:=nmB (Bw (Aze l) l.length 0 0) 1
def RA(l:List Bool):(Vi l).size=1:=Bt _ _
def Anr{l:List Bool}(hl:l.length≤100):Rx l=C ((Vi l,()),()):=by
 have h:=AQ (step:=λx=>Jy x.1.1 x.1.2.1 x.1.2.2.1) l.length (λi n=>((l,n,(i:Int),()),())) (Aze l) (λ_ _=>True) (λn=>((n,()),()))
  (λi n hi _=>by
   refine⟨?_,trivial⟩;show Jy l n (i:Int)=_;unfold Jy;simp only[b_ (ω:(i:Int)<(l.length:Int)),Aa (ω:(0:Int)≤(i:Int)) (ω:(i:Int)<(l.length:Int)),d_,j_,Cag (ω:i<1000000000),b_ (ω:(0:Int)≤(i:Int)),Dg (ω:i<1000000000)]
   unfold Aze Bny;cases l.getD i H<;>rfl)
  (λn _=>by
   show Jy l n (l.length:Int)=_;unfold Jy;rw[f_ (N_ (l.length:Int))];rfl) l.length 0 0 ω trivial
 have h2:OE ((l,(0:Int),(0:Int),()),())=_:=Ai h.1 ω
 unfold Rx;refine D h2 ?_;exact D (EF _ (k:=1) ω) rfl
structure Inp where
 press:Int×Int
 kind:Int
 car:Int
 cars:List CarInput
def Inp.tup(x:Inp):Int×Int×Int×Int×List CarInput×Unit:=(x.press.1,x.press.2,x.kind,x.car,x.cars,())
def Inp.none:Inp:=⟨(0,0),0,0,[]⟩
def SR:CarInput:=CarInput.mk 0 H H H H 0 H 0 H 0 0
def flV(b:O)(n:Int):Bool:=aA (B I n) ((2:Int)^b.C0.toNat)==0
def KH(b:O)(c:CarInput):Bool:=flV b c.V0&&(flV b c.Z1&&(P 0 (b.C0-1) c.J1&&P 0 2 c.T1))
def Ik(b:O)(c:Int×Int):Bool:=isZ (Cc c (Bx b))
def Nv(b:O)(x:Inp):Bool:=Ik b x.press&&(P 0 8 x.kind&&(P 0 ((b.B0.length:Int)-1) x.car&&(!(x.kind==0&&x.car !=0)&&((x.cars.length:Int)==(b.B0.length:Int)&&x.cars.all (KH b)))))
def NK(s:ByteArray)(c:CarInput):ByteArray:=s++nmB (B I c.V0) 4++Vi [c.H2,c.R1,c.S1,c.G1,c.E2,c.G2]++nmB (B I c.J1) 1++nmB (B I c.T1) 1++nmB (B I c.Z1) 4++nmB ((c.B3:Nat):Int) 8
def Afq(s:ByteArray)(c:CarInput):(NK s c).size=s.size+19:=by
 unfold NK;simp only[P_,Bt,RA]
def TF(b:O)(x:Inp):ByteArray:=nmB 165 1++nmB (B I (b.B0.length:Int)) 1++SD x.press++nmB (B I x.kind) 1++nmB (B I x.car) 1
def Ab5(b:O)(x:Inp):(TF b x).size=12:=by
 unfold TF;simp only[P_,Bt,YT]
def inV(b:O)(x:Inp):ByteArray:=Jc (x.cars.foldl NK (TF b x))
def Abw(l:List CarInput)(s:ByteArray):(l.foldl NK s).size=s.size+19*l.length:=by
 induction l generalizing s with
 |nil=>simp
 |cons c t ih=>rw[List.foldl_cons,ih,Afq,z_];omega
def ZK(b:O)(x:Inp):(inV b x).size=14+19*x.cars.length:=by
 unfold inV;rw[Po,Abw,Ab5];omega
def LR(n lo hi:Int):NC n lo hi=C ((P lo hi n,()),()):=by
 unfold NC P;cases decide (lo≤n)<;>rfl
section
variable{b:O}(hb:b.small)(hcode:b.code=0)
include hb
theorem Wz(n:Int):Ol b.C0 b.E0 b.H0 b.M0 b.J0 b.L0 b.N0 b.B0 n=C ((flV b n,()),()):=by
 have h1:=hb.1;have h2:=hb.2;have e:I.wrap b.C0=b.C0:=Ek ω ω
 have e2:U b.C0.toNat (IntKind.bits .u64)=b.C0.toNat:=by show min b.C0.toNat 64=_;omega
 unfold Ol flV;simp only[e,b_ (ω:(0:Int)≤b.C0),d_,e2]
theorem Ah3(x:Inp)(hx:x.cars.length≤1000):LB (((),(),(0:Int),()),(b.tup,x.tup,()))=C (bif x.cars.all (KH b)then .inl ((),())else .inr ((H,()),())):=by
 have h1:=hb.1;have h2:=hb.2
 have h:=Ai (Agj (step:=λx=>letI a:=x.2.1.2.2;letI d:=x.2.2.1;letI e:=a.2.2;Jw x.1.2.2.1 x.2.1.1 x.2.1.2.1 a.1 a.2.1 e.1 e.2.1 e.2.2.1 e.2.2.2.1 d.1 d.2.1 d.2.2.1 d.2.2.2.1 d.2.2.2.2.1) x.cars SR (KH b) (λi=>(((),(),(i:Int),()),(b.tup,x.tup,()))) (.inl ((),())) (λ_=>.inr ((H,()),())) (λi hi=>by
  show Jw (i:Int) b.C0 b.E0 b.H0 b.M0 b.J0 b.L0 b.N0 b.B0 x.press.1 x.press.2 x.kind x.car x.cars=_;unfold Jw;rw[show CarInput.mk 0 H H H H 0 H 0 H 0 0=SR from rfl]
  have w:A.wrap (b.C0-1)=b.C0-1:=L ω ω
  simp only[b_ (ω:(i:Int)<(x.cars.length:Int)),d_,Aa (ω:(0:Int)≤(i:Int)) (ω:(i:Int)<(x.cars.length:Int)),j_,Dg (ω:i<1000000000),w]
  generalize x.cars.getD i SR=c;unfold KH;refine D (Wz hb c.V0) ?_;show(bif !flV b c.V0 then _ else _)=_;cases flV b c.V0 with
  |false=>rfl
  |true=>
  rw[n_,c_,o_];refine D (Wz hb c.Z1) ?_;show(bif !flV b c.Z1 then _ else _)=_;cases flV b c.Z1 with
  |false=>rfl
  |true=>
  rw[n_,c_,o_];refine D (LR _ _ _) ?_;show(bif !P 0 (b.C0-1) c.J1 then _ else _)=_;cases P 0 (b.C0-1) c.J1 with
  |false=>rfl
  |true=>
  rw[n_,c_,o_];refine D (LR _ _ _) ?_;show(bif !P 0 2 c.T1 then _ else _)=_;cases P 0 2 c.T1<;>rfl) (by
  show Jw (x.cars.length:Int) b.C0 b.E0 b.H0 b.M0 b.J0 b.L0 b.N0 b.B0 x.press.1 x.press.2 x.kind x.car x.cars=_;unfold Jw;rw[f_ (N_ _),c_]) x.cars.length 0 ω) ω
 rw[R_,Baa]at h;exact h
include hcode
theorem Nx(c:Int×Int):Om b.C0 b.E0 b.H0 b.M0 b.J0 b.L0 b.N0 b.B0 c.1 c.2=C ((Ik b c,()),()):=by
 unfold Om;refine D (Anl hb hcode) ?_;have e1:=NO c.1 (Bx b).1;have e2:=NO c.2 (Bx b).2;show aF (bif aH.wrap _==0 then C ((B aH _==0,()),())else _) _=_;rw[e1,e2];unfold Ik isZ;show aF (bif(Cc c (Bx b)).1==0 then C (((Cc c (Bx b)).2==0,()),())else _) _=_;cases(Cc c (Bx b)).1==0 with
 |false=>rfl
 |true=>rw[o_,c7_];rfl
theorem Anq(x:Inp)(hx:x.cars.length≤1000):Rw b.C0 b.E0 b.H0 b.M0 b.J0 b.L0 b.N0 b.B0 x.press.1 x.press.2 x.kind x.car x.cars=C ((Nv b x,()),()):=by
 have hc:=Aj hcode;have w:A.wrap ((b.B0.length:Int)-1)=(b.B0.length:Int)-1:=L ω ω
 unfold Rw Nv;rw[w]
 have fin:∀g:Bool,aF (C (((),(),!g,()),(b.tup,x.tup,()))) (λy5:(Unit×Unit×Bool×Unit)×_=>bif y5.1.2.2.1 then C ((H,()),())else(LB (((),(),(0:Int),()),(y5.2.1,y5.2.2.1,()))).bind λy6=>(match y6 with | .inl y7=>C ((R,()),()) | .inr y7=>C ((y7.1.1,()),())))=C (((g&&x.cars.all (KH b)),()),()):=by
  intro g;cases g with
  |false=>rfl
  |true=>
   refine D rfl ?_;show(bif !R then _ else _)=_;rw[n_,c_,o_];refine D (Ah3 hb x hx) ?_;cases x.cars.all (KH b)<;>rfl
 rw[Ho];show aF (aF (C ((b.code,()),())) _) _=_;rw[hcode];cases h1:Ik b x.press with
 |false=>
  refine D (D rfl (show(bif((0:Int) !=0)then _ else _)=C (((),(),!H,()),(b.tup,x.tup,()))from D (Nx hb hcode x.press) (by show(bif !Ik b x.press then _ else _)=_;rw[h1];rfl))) ?_
  exact fin H
 |true=>
 cases h2:P 0 8 x.kind with
 |false=>
  refine D (D rfl (show(bif((0:Int) !=0)then _ else _)=C (((),(),!H,()),(b.tup,x.tup,()))from D (Nx hb hcode x.press) (by
   show(bif !Ik b x.press then _ else _)=_;rw[h1,n_,c_];refine D (LR _ _ _) ?_;show(bif !P 0 8 x.kind then _ else _)=_;rw[h2];rfl))) ?_
  exact fin H
 |true=>
 cases h3:P 0 ((b.B0.length:Int)-1) x.car with
 |false=>
  refine D (D rfl (show(bif((0:Int) !=0)then _ else _)=C (((),(),!H,()),(b.tup,x.tup,()))from D (Nx hb hcode x.press) (by
   show(bif !Ik b x.press then _ else _)=_;rw[h1,n_,c_];refine D (LR _ _ _) ?_;show(bif !P 0 8 x.kind then _ else _)=_;rw[h2,n_,c_];refine D (LR _ _ _) ?_;show(bif !P 0 ((b.B0.length:Int)-1) x.car then _ else _)=_;rw[h3];rfl))) ?_
  exact fin H
 |true=>
  refine D (D rfl (show(bif((0:Int) !=0)then _ else _)=C (((),(),!(!(x.kind==0&&x.car !=0)&&((x.cars.length:Int)==(b.B0.length:Int))),()),(b.tup,x.tup,()))from D (Nx hb hcode x.press) (by
   show(bif !Ik b x.press then _ else _)=_;rw[h1,n_,c_];refine D (LR _ _ _) ?_;show(bif !P 0 8 x.kind then _ else _)=_;rw[h2,n_,c_];refine D (LR _ _ _) ?_;show(bif !P 0 ((b.B0.length:Int)-1) x.car then _ else _)=_;rw[h3,n_,c_];have hne:((x.cars.length:Int) !=(b.B0.length:Int))=!((x.cars.length:Int)==(b.B0.length:Int)):=rfl;rw[hne];cases(x.cars.length:Int)==(b.B0.length:Int)<;>cases x.kind==0<;>cases x.car !=0<;>rfl))) ?_
  refine Eq.trans (fin (!(x.kind==0&&x.car !=0)&&((x.cars.length:Int)==(b.B0.length:Int)))) ?_;simp only[o_,Bool.and_assoc]
end
def Be7{a c:Nat}(ha:a<65536)(hc:c<65536):E.wrap (stk (a:Int) (c:Int) (aE ((Y (IntKind.bits .u16) (a:Int))^^^(Y (IntKind.bits .u16) (c:Int)))))=((a^^^c:Nat):Int):=by
 have h:=d3_ (n:=16) ha hc;rw[JJ,BitVec.toNat_xor,U_,U_];rw[show(((a:Int))%((2^IntKind.bits .u16:Nat):Int)).toNat=a by simp only[IntKind.bits];omega,show(((c:Int))%((2^IntKind.bits .u16:Nat):Int)).toNat=c by simp only[IntKind.bits];omega]
 generalize a^^^c=n at*;simp only[B,IntKind.signed,IntKind.bits];simp;omega
def Amj{a c:Nat}(ha:a<65536)(hc:c<65536):Ami (a:Int) (c:Int)=((a^^^c:Nat):Int):=by
 have h:=d3_ (n:=16) ha hc;unfold Ami;rw[JJ,BitVec.toNat_xor,U_,U_];rw[show(((a:Int))%((2^IntKind.bits .i64:Nat):Int)).toNat=a by simp only[IntKind.bits];omega,show(((c:Int))%((2^IntKind.bits .i64:Nat):Int)).toNat=c by simp only[IntKind.bits];omega]
 exact L ω ω
def PY(n:Nat):E.wrap (n:Int)=((n%65536:Nat):Int):=by
 simp only[B,IntKind.signed,IntKind.bits];simp
def n16(_:Nat)(r:Nat):Nat:=if 32768≤r then(2*r%65536)^^^4129 else 2*r%65536
def Axj:n16 i r<65536:=by
 unfold n16;split
 ·exact d3_ (n:=16) (f4_ _ (by decide)) (by decide)
 ·exact f4_ _ (by decide)
def Bb1(h:r<65536):Wk i (r:Int)=((n16 i r:Nat):Int):=by
 have w:N (B A ((r:Int)*2)) 65536=((2*r%65536:Nat):Int):=by
  rw[L ω ω,d8_ ω]
  omega
 unfold Wk n16;rw[w];by_cases g:32768≤r
 ·rw[b_ (ω:(32768:Int)≤(r:Int)),d_,if_pos g]
  exact Amj (f4_ _ (by decide)) (by decide)
 ·rw[f_ (ω:¬(32768:Int)≤(r:Int)),c_,if_neg g]
def Bqm(h:r<65536):(B E (stk (B E ((r:Int)*((2:Int)^(U (W (1:Int)) (IntKind.bits E))))) (B E ((aA (r:Int) ((2:Int)^(U (W (15:Int)) (IntKind.bits E))))*(4129:Int))) (aE ((Y (IntKind.bits E) (B E ((r:Int)*((2:Int)^(U (W (1:Int)) (IntKind.bits E))))))^^^(Y (IntKind.bits E) (B E ((aA (r:Int) ((2:Int)^(U (W (15:Int)) (IntKind.bits E))))*(4129:Int))))))))=((n16 i r:Nat):Int):=by
 have w1:E.wrap ((r:Int)*((2:Int)^(U (W (1:Int)) (IntKind.bits E))))=((2*r%65536:Nat):Int):=by
  rw[show((2:Int)^(U (W (1:Int)) (IntKind.bits E)))=2 from rfl,show(r:Int)*2=((2*r:Nat):Int)by omega]
  exact PY _
 have d:aA (r:Int) ((2:Int)^(U (W (15:Int)) (IntKind.bits E)))=((r/32768:Nat):Int):=by
  rw[show((2:Int)^(U (W (15:Int)) (IntKind.bits E)))=32768 from rfl,a1_ _ ω]
  omega
 have w2:E.wrap ((aA (r:Int) ((2:Int)^(U (W (15:Int)) (IntKind.bits E))))*(4129:Int))=((r/32768*4129:Nat):Int):=by
  rw[d,show((r/32768:Nat):Int)*4129=((r/32768*4129:Nat):Int)by omega,PY]
  have:r/32768*4129<65536:=ω
  rw[g6_ this]
 rw[w1,w2,Be7 (f4_ _ (by decide)) ω]
 unfold n16;by_cases g:32768≤r
 ·rw[if_pos g,show r/32768*4129=4129 by omega]
 ·rw[if_neg g,show r/32768*4129=0 by omega,Nat.xor_zero]
def Abv:∀(k i r:Nat),r<65536→Bw Wk k i (r:Int)=((Bw n16 k i r:Nat):Int)∧Bw n16 k i r<65536
 |0,_,_,h=>⟨rfl,h⟩
 |k+1,i,r,h=>by
  show Bw Wk k (i+1) (Wk i (r:Int))=_∧_;rw[Bb1 (i:=i) h];exact Abv k (i+1) (n16 i r) Axj
def Axr(s:ByteArray)(hr:r<65536)(a c:Int):Nj ((s,(r:Int),a,c,(0:Int),()),())=C ((s,((Bw n16 8 0 r:Nat):Int),a,c,()),()):=by
 have h:=AQ (S:=Nat) (step:=λx=>HY x.1.1 x.1.2.1 x.1.2.2.1 x.1.2.2.2.1 x.1.2.2.2.2.1) 8 (λk r=>((s,(r:Int),a,c,(k:Int),()),())) n16 (λ_ r=>r<65536) (λ(r:Nat)=>((s,(r:Int),a,c,()),()))
  (λk r hk hr=>by
   refine⟨?_,Axj⟩;show HY s (r:Int) a c (k:Int)=_;unfold HY;simp only[b_ (ω:(k:Int)<8),d_,Dg (ω:k<1000000000)]
   rw[Bqm (i:=k) hr])
  (λr _=>by
   show HY s (r:Int) a c 8=_;unfold HY;rw[f_ (N_ (8:Int))];rfl) 8 0 r ω hr
 exact Ai h.1 ω
def byN(s:ByteArray)(i:Nat):Nat:=((bl s).getD i 0).toNat
def QJ(s:ByteArray)(i:Nat):byN s i<256:=UInt8.toNat_lt _
def b16(s:ByteArray)(i:Nat)(r:Nat):Nat:=Bw n16 8 0 (r^^^(byN s i*256))
def s16(s:ByteArray):Nat:=Bw (b16 s) s.size 0 65535
def Aix(hr:r<65536):r^^^(byN s i*256)<65536:=d3_ (n:=16) hr (by have:=QJ s i;omega)
def Ajw(hs:s.size≤1000000):Qb s=C ((((s16 s:Nat):Int),()),())∧s16 s<65536:=by
 have h:=AQ (S:=Nat) (step:=λx=>HX x.1.1 x.1.2.1 x.1.2.2.1 x.1.2.2.2.1) s.size (λi r=>((s,(r:Int),(s.size:Int),(i:Int),()),())) (b16 s) (λ_ r=>r<65536) (λ(r:Nat)=>(((r:Int),()),()))
  (λi r hi hr=>by
   refine⟨?_,(Abv 8 0 _ (Aix hr)).2⟩;show HX s (r:Int) (s.size:Int) (i:Int)=_;unfold HX;have hb:=QJ s i
   have z:E.wrap ((B E (Bo s i))*((2:Int)^(U (W (8:Int)) (IntKind.bits E))))=((byN s i*256:Nat):Int):=by
    rw[LI];show E.wrap (B E ((byN s i:Nat):Int)*256)=_;rw[PY,g6_ ω,show((byN s i:Nat):Int)*256=((byN s i*256:Nat):Int)by omega,PY,g6_ ω]
   simp only[b_ (ω:(i:Int)<(s.size:Int)),Aa (ω:(0:Int)≤(i:Int)) (ω:(i:Int)<(s.size:Int)),d_,j_]
   rw[z,Be7 hr ω]
   refine D (Axr s (Aix hr) _ _) ?_;show C (Sum.inl ((s,_,_,A.wrap ((i:Int)+1),()),()))=_;rw[Dg (ω:i<1000000000)];rfl)
  (λr _=>by
   show HX s (r:Int) (s.size:Int) (s.size:Int)=_;unfold HX;rw[f_ (N_ (s.size:Int))];rfl) s.size 0 65535 ω (by decide)
 have h2:Ni ((s,(65535:Int),(s.size:Int),(0:Int),()),())=_:=Ai h.1 ω
 unfold Qb;exact⟨D h2 rfl,h.2⟩
def Bes:∀(s:ByteArray) (k i r:Nat),r<65536→Bw (Zu s) k i (r:Int)=((Bw (b16 s) k i r:Nat):Int)
 |_,0,_,_,_=>rfl
 |s,k+1,i,r,h=>by
  have hb:=QJ s i
  have e:Zu s i (r:Int)=((b16 s i r:Nat):Int):=by
   unfold Zu b16
   have z:A.wrap (B A (Bo s i)*256)=((byN s i*256:Nat):Int):=by
    rw[LI];show A.wrap (B A ((byN s i:Nat):Int)*256)=_;rw[L (n:=((byN s i:Nat):Int)) ω ω,L ω ω]
    omega
   rw[z,Amj h ω]
   exact(Abv 8 0 _ (Aix h)).1
  show Bw (Zu s) k (i+1) (Zu s i (r:Int))=((Bw (b16 s) k (i+1) (b16 s i r):Nat):Int);rw[e];exact Bes s k (i+1) _ (Abv 8 0 _ (Aix h)).2
def Ayc(s:ByteArray):XX s=((s16 s:Nat):Int):=Bes s s.size 0 65535 (by decide)
def Wp(n:Nat):J.wrap (n:Int)=((n%256:Nat):Int):=by
 simp only[B,IntKind.signed,IntKind.bits];simp
def Ax9(s:ByteArray)(h:s16 s<65536):Yw s=GO [J.wrap (aA ((s16 s:Nat):Int) ((2:Int)^(U (W (8:Int)) (IntKind.bits E)))),J.wrap ((s16 s:Nat):Int)]:=by
 have w:E.wrap (XX s)=((s16 s:Nat):Int):=by rw[Ayc,PY,g6_ h]
 have d1:X ((s16 s:Nat):Int) 256=((s16 s/256:Nat):Int):=by rw[Int.tdiv_eq_ediv_of_nonneg ω];omega
 have d2:aA ((s16 s:Nat):Int) ((2:Int)^(U (W (8:Int)) (IntKind.bits E)))=((s16 s/256:Nat):Int):=by
  rw[show((2:Int)^(U (W (8:Int)) (IntKind.bits E)))=256 from rfl,a1_ _ ω]
  omega
 have d3:N ((s16 s:Nat):Int) 256=((s16 s%256:Nat):Int):=by rw[d8_ ω];omega
 unfold Yw;rw[w,d1,d2,d3,PY,Wp,Wp,Wp,Wp];congr 3
 ·omega
 ·congr 1;omega
def Am5(hs:s.size≤1000000):Rr s=C ((Jc s,()),()):=by
 obtain⟨h1,h2⟩:=Ajw hs;unfold Rr;refine D h1 ?_
 have:=Po s
 unfold Jc at this;rw[P_]at this;show(bif Nat.ble (s.size+(GO [J.wrap (aA ((s16 s:Nat):Int) ((2:Int)^(U (W (8:Int)) (IntKind.bits E)))),J.wrap ((s16 s:Nat):Int)]).size) 4611686018427387904 then C ((s++GO [J.wrap (aA ((s16 s:Nat):Int) ((2:Int)^(U (W (8:Int)) (IntKind.bits E)))),J.wrap ((s16 s:Nat):Int)],()),())else none)=_;rw[← Ax9 s h2,Ax ω];rfl
def Am4(hs:s.size≤1000000):Rq s=C (((Kn s).1,(Kn s).2,()),()):=by
 unfold Rq Kn;by_cases h:(s.size:Int)<2
 ·have w:A.wrap ((s.size:Int)-2)=(s.size:Int)-2:=L ω ω
  simp only[w];rw[b_ h,b_ (ω:(s.size:Int)-2<0)];rfl
 ·rw[f_ h,c_]
  have w:A.wrap ((s.size:Int)-2)=((s.size-2:Nat):Int):=by rw[L ω ω];omega
  simp only[w,j_];rw[f_ (ω:¬((s.size-2:Nat):Int)<0),b_ (ω:(0:Int)≤((s.size-2:Nat):Int)),b_ (ω:((s.size-2:Nat):Int)≤(s.size:Int)),a6_,d_,c_]
  refine D (Am5 (s:=s.extract 0 (s.size-2)) (by rw[ZD s ω];omega)) ?_
  show(bif !eqB (Jc (s.extract 0 (s.size-2))) s then _ else _)=_;cases eqB (Jc (s.extract 0 (s.size-2))) s<;>rfl
end Go.Ovl
