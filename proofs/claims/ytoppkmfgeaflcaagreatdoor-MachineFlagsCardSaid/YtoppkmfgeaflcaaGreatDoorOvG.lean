/- Phases of cars (layer 25): orders, and what cars do by themselves. -/
import Derived.Test.YtoppkmfgeaflcaaGreatDoorOvF
import Derived.Test.YtoppkmfgeaflcaaGreatDoorOvA
import Derived.Test.YtoppkmfgeaflcaaGreatDoorOvD
import Derived.Test.YtoppkmfgeaflcaaGreatDoorOvC
set_option linter.all false
open Go.IntKind renaming i64->A,wrap->B,u16->E,u64->I,u8->L,u32->aH
open Option renaming some->C,bind->aF
open Go.Ovl renaming Ae->D,Ac->J,Bldg->O,inR->P
open Bool renaming false->H,true->R
open Int renaming tmod->N,toNat->W,tdiv->X,fdiv->aA,lt_of_lt_of_le->aG
open Min renaming min->U
open Go.Ovl.Sat renaming ret->V,bifT->aB,bic->aC,bindS->aD
open BitVec renaming ofInt->Y,toNat->aE
open List renaming range->Z
namespace Go.Ovl
open Go Go.Ab
set_option maxRecDepth 100000
variable{s:ByteArray}{calm:List Bool}{i t r k n:Nat}{α:Type}
def NC(m:Img)(car:Int):Bool:=m.A0.any λe=>e.Q0==car
def HX(m:Img)(i:Nat):Bool:=phA m i==4&&lvA m i
def Pu(m:Img)(calm:List Bool)(i:Nat):Bool:=calm.getD i H&&((phA m i==1||HX m i)&&!NC m i)
def NA(m:Img)(calm:List Bool)(i:Nat):List Record:=
 bif Pu m calm i then [⟨4,0,0,i,2⟩]++(bif HX m i then [⟨6,0,0,i,0⟩]else [])++(bif flA m i then [⟨5,0,0,i,0⟩]else [])else []
def Ez(m:Img)(calm:List Bool):Nat→List Record
 |0=>[]
 |i+1=>Ez m calm i++NA m calm i
def Aw8(m:Img)(calm:List Bool)(i:Nat):(NA m calm i).length≤3:=by
 unfold NA;cases Pu m calm i<;>cases HX m i<;>cases flA m i<;>simp
def TN(m:Img)(calm:List Bool):∀i,(Ez m calm i).length≤3*i
 |0=>w_ 0
 |i+1=>by
  have:=TN m calm i
  have:=Aw8 m calm i
  show(Ez m calm i++NA m calm i).length≤_;rw[h_];omega
section
variable{b:O}{m:Img}(hm:ImgOK b m)(hb:b.small)(he:m.A0.length≤100000)
include hm he
omit hm in
theorem Anp(car:Int):EP m.F0 m.O0 m.K0 m.A0 car=C ((NC m car,()),()):=by
 have h:Sat (EP m.F0 m.O0 m.K0 m.A0 car) λy=>y=((NC m car,()),()):=by
  unfold EP IM;refine aD (Q:=λy=>match y with | .inl _=>NC m car=H | .inr z=>z=((R,()),())∧NC m car=R) (Sat.loop (λk x=>∃i:Nat,x=((car,m.A0,(m.A0.length:Int),(i:Int),()),())∧i+k=m.A0.length∧∀e∈m.A0.take i,(e.Q0==car)=H) ?_ m.A0.length ⟨0,rfl,ω,λe h=>(by simp at h)⟩ ω) λy hy=>?_
  ·rintro k x ⟨i,rfl,hk,hn⟩
   show Sat (LQ car m.A0 (m.A0.length:Int) (i:Int)) _;unfold LQ;refine aC (λq=>?_) λq=>V ?_
   ·have hi:i<m.A0.length:=by have:=m_ q;omega
    refine aB (Aa ω ω) (aC (λq2=>V ⟨rfl,?_⟩) λq2=>V ⟨k-1,ω,i+1,?_,ω,λe h=>?_⟩)
    ·exact List.any_eq_true.2 ⟨_,Cn _ hi,q2⟩
    ·rw[show A.wrap ((i:Int)+1)=((i+1:Nat):Int)by rw[J ω ω];omega]
    ·rw[List.take_succ,i_ hi]at h
     rcases q_.1 h with h | h
     ·exact hn e h
     ·rw[j_,k_,i_ hi]at q2
      have:e=m.A0[i]:=by simpa using h
      rw[this];exact q2
   ·have:=G_ q
    rw[a8_ ω]at hn
    show NC m car=H;exact List.any_eq_false.2 λe h=>by rw[hn e h];decide
  ·cases y with
   |inl _=>rw[show NC m car=H from hy];exact V rfl
   |inr z=>obtain⟨h1,h2⟩:=hy;subst h1;rw[h2];exact V rfl
 obtain⟨y,h,rfl⟩:=h;exact h
include hb in
theorem Afv{kind:Int}(hk:0≤kind∧kind≤8)(hi:i<b.B0.length)(hcalm:calm.length=b.B0.length){fr:Bool}(hf:GC m.F0 m.O0 m.K0 m.A0=C ((fr,()),())):KL b.C0 b.E0 b.H0 b.M0 b.J0 b.L0 b.N0 b.B0 m.F0 m.O0 m.K0 m.A0 kind (i:Int) calm=C (((bif kind==0 then([],(0:Int))else Ph m i (calm.getD i H) fr kind).1,(bif kind==0 then([],(0:Int))else Ph m i (calm.getD i H) fr kind).2,()),()):=by
 have hcc:=Aj hm.code;unfold KL;refine D (CM hb m (c6_ (show m.F0.length≤8 by rw[hm.lp];omega) (by decide)) (c6_ he (by decide))) ?_
 show(bif !m.ok b then _ else _)=_;rw[Img.ok_iff.2 hm,hcalm,Q_,f_ (ω:¬kind<0),f_ (ω:¬8<kind),f_ (ω:¬(i:Int)<0),f_ (ω:¬(b.B0.length:Int)≤(i:Int))]
 simp only[o_,c_];cases kind==0 with
 |true=>rfl
 |false=>
  rw[c_,Aa ω ω,d_]
  exact D (Bav hm hi hf _ kind) rfl
include hb in
theorem Aix(hcalm:calm.length=b.B0.length):LM b.C0 b.E0 b.H0 b.M0 b.J0 b.L0 b.N0 b.B0 m.F0 m.O0 m.K0 m.A0 calm=C ((Ez m calm b.B0.length,()),()):=by
 have hcc:=Aj hm.code;have lp:=hm.lp;have lf:=hm.lf;have ll:=hm.ll
 have hL:Sat (JB ((calm,(),([]:List Record),m.F0,(m.F0.length:Int),(0:Int),()),(m.tup,()))) λy=>y=((Ez m calm b.B0.length,()),()):=by
  unfold JB;refine Sat.loop (λk x=>∃(i:Nat),x=((calm,(),Ez m calm i,m.F0,(m.F0.length:Int),(i:Int),()),(m.tup,()))∧i+k=m.F0.length) ?_ m.F0.length ⟨0,rfl,ω⟩ ω
  rintro k x ⟨i,rfl,hk⟩;have hl:=TN m calm i;show Sat (PN calm (Ez m calm i) m.F0 (m.F0.length:Int) (i:Int) m.F0 m.O0 m.K0 m.A0) _;unfold PN
  refine aC (λq=>?_) λq=>V (by
   have q:=G_ q;show((Ez m calm i,()),())=((Ez m calm b.B0.length,()),());rw[show b.B0.length=i by omega])
  have hi:i<m.F0.length:=by have:=m_ q;omega
  have w:=DA hi (show m.F0.length≤AJ by unfold AJ;omega)
  have i1:inB (i:Int) m.F0.length=R:=Aa ω ω
  have i2:inB (i:Int) m.K0.length=R:=Aa ω ω
  have i3:inB (i:Int) m.O0.length=R:=Aa ω ω
  have i4:inB (i:Int) calm.length=R:=Aa ω ω
  refine aB i1 ?_;refine Sat.bindE (b:=((calm,(),Ez m calm i,(i:Int),phA m i,HX m i,m.F0,(m.F0.length:Int),(i:Int),()),(m.tup,()))) ?_ ?_
  ·show(bif phA m i==4 then _ else _)=_
   unfold HX;cases phA m i==4 with
   |true=>rw[d_,i2];rfl
   |false=>rfl
  refine Sat.bindE (b:=((calm,(),Ez m calm i,(i:Int),HX m i,m.F0,(m.F0.length:Int),(i:Int),!Pu m calm i,()),(m.tup,()))) ?_ ?_
  ·have hb2:=Anp (m:=m) he (i:Int)
   show(bif inB (i:Int) calm.length then _ else _)=_;rw[i4,d_];unfold Pu;show(bif !calm.getD i H then _ else bif phA m i !=1 then bif !HX m i then _ else(EP m.F0 m.O0 m.K0 m.A0 (i:Int)).bind _ else(EP m.F0 m.O0 m.K0 m.A0 (i:Int)).bind _)=_;cases calm.getD i H with
   |false=>rfl
   |true=>
    rw[o_,c_,n_];unfold bne;cases phA m i==1 with
    |true=>
     rw[o_,c_];exact D hb2 (by show C ((calm,(),Ez m calm i,(i:Int),HX m i,m.F0,(m.F0.length:Int),(i:Int),NC m (i:Int),()),_)=_;rw[Bool.true_or,n_,Bool.not_not])
    |false=>
     rw[b7_,d_];cases HX m i with
     |false=>rfl
     |true=>exact D hb2 (by show C ((calm,(),Ez m calm i,(i:Int),R,m.F0,(m.F0.length:Int),(i:Int),NC m (i:Int),()),_)=_;rw[Bool.or_true,n_,Bool.not_not])
  refine aC (λq2=>V ⟨k-1,ω,i+1,?_,ω⟩) λq2=>?_
  ·simp only[w]
   have q2:Pu m calm i=H:=by simpa using q2
   show _=((calm,(),Ez m calm i++NA m calm i,m.F0,(m.F0.length:Int),((i+1:Nat):Int),()),(m.tup,()));rw[show NA m calm i=[]by unfold NA;rw[q2];rfl,b1_]
  ·have q2:Pu m calm i=R:=by simpa using q2
   refine aB (f3_ (by simp only[y_,d4_];omega)) ?_
   refine Sat.bindE (b:=((calm,(),Ez m calm i++[⟨4,0,0,i,2⟩]++(bif HX m i then [⟨6,0,0,i,0⟩]else []),(i:Int),m.F0,(m.F0.length:Int),(i:Int),()),(m.tup,()))) ?_ ?_
   ·show(bif HX m i then _ else _)=_
    cases HX m i with
    |true=>
     rw[d_];refine Xu (f3_ (by simp only[h_,y_,d4_];omega)) rfl
    |false=>rw[c_,c_,b1_]
   refine aB i3 ?_
   have e:Ez m calm (i+1)=Ez m calm i++[⟨4,0,0,i,2⟩]++(bif HX m i then [⟨6,0,0,i,0⟩]else [])++(bif flA m i then [⟨5,0,0,i,0⟩]else []):=by
    show Ez m calm i++NA m calm i=_;unfold NA;rw[q2,d_];simp only[O_]
   refine aC (λq3=>?_) λq3=>V ⟨k-1,ω,i+1,?_,ω⟩
   ·have q3:flA m i=R:=q3
    rw[q3,d_]at e;refine aB (f3_ (by have:(bif HX m i then [(⟨6,0,0,i,0⟩:Record)]else []).length≤1:=(by cases HX m i<;>simp);simp only[h_,y_,d4_];omega)) (V ⟨k-1,ω,i+1,?_,ω⟩)
    simp only[w];rw[e]
   ·have q3:flA m i=H:=q3
    rw[q3,c_,b1_]at e;simp only[w];rw[e]
 obtain⟨y,hy,rfl⟩:=hL;unfold LM;refine D (CM hb m (c6_ (show m.F0.length≤8 by rw[hm.lp];omega) (by decide)) (c6_ he (by decide))) ?_
 show(bif !m.ok b then _ else _)=_;rw[Img.ok_iff.2 hm,hcalm,Q_,o_,c_,c_];exact D hy rfl
end
def Va(x:Int):0≤aH.wrap (stk x 255 (aE (Y (IntKind.bits .u32) x&&&Y (IntKind.bits .u32) 255)))∧aH.wrap (stk x 255 (aE (Y (IntKind.bits .u32) x&&&Y (IntKind.bits .u32) 255)))<256:=by
 rw[Zk];unfold vb
 have h:(bv x&&&bv 255).toNat<256:=by
  rw[BitVec.toNat_and];exact Nat.lt_of_le_of_lt Nat.and_le_right (show(bv 255).toNat<256 by decide)
 omega
def Bpn(n:Int):0≤A.wrap (B L n)∧A.wrap (B L n)≤255:=by
 have:=Abo n
 rw[J ω ω]
 omega
def To{x:Int}(h:0≤x∧x<4294967296):Sat (CQ x) λy=>0≤y.1.1∧y.1.1≤255:=by
 unfold CQ;refine aB (Aa ?_ (aG ?_ (Int.ofNat_le.2 (C_ (n:=256) rfl)))) ?_
 ·rw[V_ _ (by decide)]
  exact Int.ediv_nonneg h.1 (by decide)
 ·rw[V_ _ (by decide)]
  exact Int.ediv_lt_of_lt_mul (by decide) h.2
 refine aB (Aa (Va _).1 (aG (Va _).2 (Int.ofNat_le.2 (C_ (n:=256) rfl)))) ?_;refine aB (Aa (Va _).1 (aG (Va _).2 (Int.ofNat_le.2 (C_ (n:=256) rfl)))) ?_;exact aB (Aa (Va _).1 (aG (Va _).2 (Int.ofNat_le.2 (C_ (n:=256) rfl)))) (V (Bpn _))
def XR(fl:Int){set:Int}(h:0≤set∧set<4294967296)(a c d e:Bool):Sat (ID fl set a c d e) λ_=>True:=by
 unfold ID MN;have i:SatT (CQ set):=⟨(To h).any⟩;refine aD (Q:=λ_=>True) (aD (Auc set) λ_ _=>aD (Q:=λ_=>True) ?_ λ_ _=>aC (λ_=>V trivial) λ_=>V trivial) λ_ _=>aD (Ayz a c) λ_ _=>aD (Ayz d e) λ_ _=>V trivial
 refine aD (isFloors_ti fl).out λ_ _=>aC (λ_=>aD (To h) λ_ _=>aC (λ_=>V trivial) λ_=>V trivial) λ_=>V trivial
def orL(x y:Int):Int:=I.wrap (stk x y (aE ((Y (IntKind.bits I) x)|||(Y (IntKind.bits I) y))))
def leV(s:ByteArray):Nat→Int
 |0=>0
 |i+1=>orL (leV s i) (B I (B I (AD s i)*((2:Int)^(U (W (8*(i:Int))) (IntKind.bits I)))))
def LY(b:O)(hk:k≤8)(hs:k≤s.size):BD (k:Int) s b.C0 b.E0 b.H0 b.M0 b.J0 b.L0 b.N0 b.B0=C ((leV s k,()),((s.extract k s.size,b.C0,b.E0,b.H0,b.M0,b.J0,b.L0,b.N0,b.B0,()),())):=by
 have h:Sat (CR (((),(k:Int),(0:Int),(k:Int),(0:Int),()),((s,b.C0,b.E0,b.H0,b.M0,b.J0,b.L0,b.N0,b.B0,()),()))) λy=>y=(((),(k:Int),leV s k,()),((s,b.C0,b.E0,b.H0,b.M0,b.J0,b.L0,b.N0,b.B0,()),())):=by
  unfold CR;refine Sat.loop (λm x=>∃i:Nat,x=(((),(k:Int),leV s i,(k:Int),(i:Int),()),((s,b.C0,b.E0,b.H0,b.M0,b.J0,b.L0,b.N0,b.B0,()),()))∧i+m=k) ?_ k ⟨0,rfl,ω⟩ ω
  rintro m x ⟨i,rfl,hm⟩;show Sat (GF (k:Int) (leV s i) (k:Int) (i:Int) s b.C0 b.E0 b.H0 b.M0 b.J0 b.L0 b.N0 b.B0) _;unfold GF;refine aC (λq=>?_) λq=>V ?_
  ·have q:=m_ q
   have hi:i<s.size:=ω
   refine aB (Aa ω ω) ?_
   have w8:A.wrap (8*(i:Int))=8*(i:Int):=J ω ω
   have w1:A.wrap ((i:Int)+1)=((i+1:Nat):Int):=by rw[J ω ω];omega
   simp only[w8,w1];exact aB (b_ ω) (V ⟨m-1,ω,i+1,rfl,ω⟩)
  ·have q:=G_ q
   obtain rfl:i=k:=ω
   rfl
 obtain⟨y,h1,rfl⟩:=h;unfold BD;rw[h1];simp only[a_];rw[b_ (ω:(0:Int)≤(k:Int)),b_ (ω:(k:Int)≤(s.size:Int))]
 rfl
def KD{α:Type}(d:α)(g:Nat→α→α)(i:Nat)(l:List α):List α:=l.set i (g i (l.getD i d))
def Ag6{α:Type}(d:α)(g:Nat→α→α):∀(m i:Nat) (l:List α),i+m=l.length→AO (KD d g) m i l=l.take i++(List.range' i m).map (λj=>g j (l.getD j d))
 |0,i,l,h=>by
  rw[show i=l.length by omega,List.take_length];simp[AO]
 |m+1,i,l,h=>by
  have hi:i<l.length:=ω
  unfold AO;rw[Ag6 d g m (i+1) _ (by rw[KD,r_];omega)]
  have e1:(KD d g i l).take (i+1)=l.take i++[g i (l.getD i d)]:=by
   unfold KD;rw[List.take_add_one,List.take_set_of_le ω,List.getElem?_set_self ω];rfl
  rw[e1,e3_,f7_,O_,d3_];congr 2;apply List.map_congr_left;intro j hj;rw[List.mem_range']at hj;obtain⟨k,hk,rfl⟩:=hj;unfold KD;rw[k_,List.getElem?_set_ne ω,← k_]
def Pr(d:α)(g:Nat→α→α)(f:Nat→α)(n:Nat):AO (KD d g) n 0 ((Z n).map f)=(Z n).map (λj=>g j (f j)):=by
 rw[Ag6 d g n 0 _ (by simp),List.take_zero,a0_,← List.range_eq_range']
 apply List.map_congr_left;intro j hj;rw[List.mem_range]at hj;simp[k_,hj]
def Bp{l:List α}(d x:α)(h:i<l.length):(l.set i x).getD i d=x:=by
 rw[k_,List.getElem?_set_self h];rfl
def g15(fl t i:Nat)(c:Car):Car:=⟨c.I1,c.G3,c.I3,c.H2,((1+t%3:Nat):Int),((1+t/3%3:Nat):Int),((1+t/9%3:Nat):Int),((1+t/9%3+t/27%5:Nat):Int),(((i+t)%fl:Nat):Int)⟩
def g18(t:Nat)(_:Nat)(c:Car):Car:={ c with I1:=((1+t%16:Nat):Int) }
def g27(n1 n2:Nat)(_:Nat)(c:Car):Car:={ c with I3:=((1+n2%4:Nat):Int),H2:=((n1%5:Nat):Int) }
def EJ(fl ca t:Nat):O:={ AI fl ca with M0:=((1+t%7:Nat):Int),B0:=(Z ca).map λi=>g15 fl t i (FK fl i) }
def TS(fl ca t:Nat):O:={ EJ fl ca t with B0:=(Z ca).map λi=>g18 t i (g15 fl t i (FK fl i)) }
def Fy(fl ca n1 n2:Nat):O:={ EJ fl ca n1 with E0:=((1+n2%3:Nat):Int),H0:=((18*ca+24+6*(n2/3):Nat):Int),B0:=(Z ca).map λi=>g27 n1 n2 i (g18 n1 i (g15 fl n1 i (FK fl i))) }
def Bde{n:Int}(h:0≤n)(h':n<256):L.wrap n=n:=by
 simp only[B,IntKind.signed,IntKind.bits];simp;omega
def Mc(a b:Nat):N (a:Int) (b:Int)=((a%b:Nat):Int):=by
 rw[e1_ ω];norm_cast
def Bda(a b:Nat):X (a:Int) (b:Int)=((a/b:Nat):Int):=by
 rw[Int.tdiv_eq_ediv_of_nonneg ω];norm_cast
def Og(k:Nat)(ht:t<100000):A.wrap ((1:Int)+A.wrap (N (t:Int) (k:Int)))=((1+t%k:Nat):Int):=by
 have:t%k≤t:=Nat.mod_le _ _
 rw[Mc];generalize t%k=q at this⊢;rw[J (n:=(q:Int)) ω ω,J ω ω];norm_cast
def XG(k:Nat)(ht:t<256):L.wrap (X (t:Int) (k:Int))=((t/k:Nat):Int):=by
 have:t/k≤t:=Nat.div_le_self _ _
 generalize hq:t/k=q at this;rw[Bda,hq,Bde ω ω]
def Ara{fl ca:Nat}(h1:1≤fl)(hf:fl≤100)(h2:ca≤8)(ht:t<256):
  Kk (((t:Int),(),(),(0:Int),()),(Bldg.none.tup,(AI fl ca).tup,()))=C (((t:Int),(),(),()),(Bldg.none.tup,({ AI fl ca with B0:=(EJ fl ca t).B0 }:O).tup,())):=by
 have hl:(AI fl ca).B0.length=ca:=by simp[AI]
 have h:=AQ (step:=λx=>letI a:=x.2.2.1.2.2;letI b:=x.2.1.2.2;letI c:=b.2.2;letI d:=a.2.2;Gg x.1.1 x.1.2.2.2.1 x.2.1.1 x.2.1.2.1 b.1 b.2.1 c.1 c.2.1 c.2.2.1 c.2.2.2.1 x.2.2.1.1 x.2.2.1.2.1 a.1 a.2.1 d.1 d.2.1 d.2.2.1 d.2.2.2.1) ca
  (λi l=>(((t:Int),(),(),(i:Int),()),(Bldg.none.tup,({ AI fl ca with B0:=l }:O).tup,()))) (KD EM (g15 fl t)) (λ_ l=>l.length=ca) (λl=>(((t:Int),(),(),()),(Bldg.none.tup,({ AI fl ca with B0:=l }:O).tup,())))
  (λi l hi hll=>by
   refine⟨?_,by rw[KD,r_,hll]⟩
   show Gg (t:Int) (i:Int) Bldg.none.C0 Bldg.none.E0 Bldg.none.H0 Bldg.none.M0 Bldg.none.J0 Bldg.none.L0 Bldg.none.N0 Bldg.none.B0 (AI fl ca).C0 (AI fl ca).E0 (AI fl ca).H0 (AI fl ca).M0 (AI fl ca).J0 (AI fl ca).L0 (AI fl ca).N0 l=_;unfold Gg;have hil:i<l.length:=ω
   have hz:((AI fl ca).C0 !=0)=R:=by show((fl:Int) !=0)=R;simp;omega
   have w:A.wrap ((i:Int)+1)=((i+1:Nat):Int):=by rw[J ω ω];omega
   have e1:A.wrap ((1:Int)+A.wrap (N (t:Int) 3))=((1+t%3:Nat):Int):=Og 3 ω
   have e2:A.wrap ((1:Int)+A.wrap (N (B L (X (t:Int) 3)) 3))=((1+t/3%3:Nat):Int):=by
    rw[show L.wrap (X (t:Int) 3)=((t/3:Nat):Int)from XG 3 ht];exact Og 3 ω
   have e3:A.wrap ((1:Int)+A.wrap (N (B L (X (t:Int) 9)) 3))=((1+t/9%3:Nat):Int):=by
    rw[show L.wrap (X (t:Int) 9)=((t/9:Nat):Int)from XG 9 ht];exact Og 3 ω
   have e4:A.wrap (((1+t/9%3:Nat):Int)+A.wrap (N (B L (X (t:Int) 27)) 5))=((1+t/9%3+t/27%5:Nat):Int):=by
    rw[show L.wrap (X (t:Int) 27)=((t/27:Nat):Int)from XG 27 ht,show N ((t/27:Nat):Int) 5=((t/27%5:Nat):Int)from Mc _ 5,J (n:=((t/27%5:Nat):Int)) ω ω,J ω ω];norm_cast
   have e5:N (B A ((i:Int)+A.wrap (t:Int))) (AI fl ca).C0=(((i+t)%fl:Nat):Int):=by
    show N _ (fl:Int)=_;rw[J (n:=(t:Int)) ω ω,J ω ω]
    exact Mc (i+t) fl
   rw[show Car.mk 0 0 0 0 0 0 0 0 0=EM from rfl]
   simp only[b_ (ω:(i:Int)<(l.length:Int)),Aa (ω:(0:Int)≤(i:Int)) (ω:(i:Int)<(l.length:Int)),d_,j_,hz,w,Bp EM _ hil,List.set_set,e1,e2,e3,e4,e5]
   unfold KD g15
   rfl)
  (λl hll=>by
   show Gg (t:Int) (ca:Int) Bldg.none.C0 Bldg.none.E0 Bldg.none.H0 Bldg.none.M0 Bldg.none.J0 Bldg.none.L0 Bldg.none.N0 Bldg.none.B0 (AI fl ca).C0 (AI fl ca).E0 (AI fl ca).H0 (AI fl ca).M0 (AI fl ca).J0 (AI fl ca).L0 (AI fl ca).N0 l=_;unfold Gg;rw[hll,f_ (L_ (ca:Int))];rfl)
  ca 0 (AI fl ca).B0 ω hl
 have h2:=Ai h.1 ω
 rw[show(AI fl ca).B0=(Z ca).map (FK fl)from rfl,Pr]at h2
 exact h2
def Arb{fl ca:Nat}(_hf:fl≤100)(h2:ca≤8)(ht:t<256):
  Kl (((t:Int),(),(),(0:Int),()),(Bldg.none.tup,(EJ fl ca t).tup,()))=C (((),(),()),(Bldg.none.tup,(TS fl ca t).tup,())):=by
 have hl:(EJ fl ca t).B0.length=ca:=by simp[EJ]
 have h:=AQ (step:=λx=>letI a:=x.2.2.1.2.2;letI b:=x.2.1.2.2;letI c:=b.2.2;letI d:=a.2.2;Gh x.1.1 x.1.2.2.2.1 x.2.1.1 x.2.1.2.1 b.1 b.2.1 c.1 c.2.1 c.2.2.1 c.2.2.2.1 x.2.2.1.1 x.2.2.1.2.1 a.1 a.2.1 d.1 d.2.1 d.2.2.1 d.2.2.2.1) ca
  (λi l=>(((t:Int),(),(),(i:Int),()),(Bldg.none.tup,({ EJ fl ca t with B0:=l }:O).tup,()))) (KD EM (g18 t)) (λ_ l=>l.length=ca) (λl=>(((),(),()),(Bldg.none.tup,({ EJ fl ca t with B0:=l }:O).tup,())))
  (λi l hi hll=>by
   refine⟨?_,by rw[KD,r_,hll]⟩
   show Gh (t:Int) (i:Int) Bldg.none.C0 Bldg.none.E0 Bldg.none.H0 Bldg.none.M0 Bldg.none.J0 Bldg.none.L0 Bldg.none.N0 Bldg.none.B0 (EJ fl ca t).C0 (EJ fl ca t).E0 (EJ fl ca t).H0 (EJ fl ca t).M0 (EJ fl ca t).J0 (EJ fl ca t).L0 (EJ fl ca t).N0 l=_;unfold Gh;have w:A.wrap ((i:Int)+1)=((i+1:Nat):Int):=by rw[J ω ω];omega
   have e1:A.wrap ((1:Int)+A.wrap (N (t:Int) 16))=((1+t%16:Nat):Int):=Og 16 ω
   rw[show Car.mk 0 0 0 0 0 0 0 0 0=EM from rfl]
   simp only[b_ (ω:(i:Int)<(l.length:Int)),Aa (ω:(0:Int)≤(i:Int)) (ω:(i:Int)<(l.length:Int)),d_,j_,w,e1]
   unfold KD g18
   rfl)
  (λl hll=>by
   show Gh (t:Int) (ca:Int) Bldg.none.C0 Bldg.none.E0 Bldg.none.H0 Bldg.none.M0 Bldg.none.J0 Bldg.none.L0 Bldg.none.N0 Bldg.none.B0 (EJ fl ca t).C0 (EJ fl ca t).E0 (EJ fl ca t).H0 (EJ fl ca t).M0 (EJ fl ca t).J0 (EJ fl ca t).L0 (EJ fl ca t).N0 l=_;unfold Gh;rw[hll,f_ (L_ (ca:Int))];rfl)
  ca 0 (EJ fl ca t).B0 ω hl
 have h2:=Ai h.1 ω
 rw[show(EJ fl ca t).B0=(Z ca).map (λi=>g15 fl t i (FK fl i))from rfl,Pr]at h2
 exact h2
def Gy(fl ca n1 n2:Nat):O:={ Fy fl ca n1 n2 with B0:=(TS fl ca n1).B0 }
def Arc{fl ca n0 n1 n2:Nat}(h2:ca≤8)(_h3:n1<256)(h4:n2<256) :
  HJ (((),(),(),(0:Int),()),(((n0:Int),(n1:Int),(n2:Int),()),Bldg.none.tup,(Gy fl ca n1 n2).tup,()))=C (((),(),()),(Bldg.none.tup,(Fy fl ca n1 n2).tup,())):=by
 have hl:(Gy fl ca n1 n2).B0.length=ca:=by simp[Gy,TS]
 have h:=AQ (step:=λx=>letI a:=x.2.2;letI b:=a.2.1.2.2;letI c:=a.1.2.2;letI d:=c.2.2;letI e:=b.2.2;Gi x.1.2.2.2.1 x.2.1.1 x.2.1.2.1 x.2.1.2.2.1 a.1.1 a.1.2.1 c.1 c.2.1 d.1 d.2.1 d.2.2.1 d.2.2.2.1 a.2.1.1 a.2.1.2.1 b.1 b.2.1 e.1 e.2.1 e.2.2.1 e.2.2.2.1) ca
  (λi l=>(((),(),(),(i:Int),()),(((n0:Int),(n1:Int),(n2:Int),()),Bldg.none.tup,({ Gy fl ca n1 n2 with B0:=l }:O).tup,()))) (KD EM (g27 n1 n2)) (λ_ l=>l.length=ca) (λl=>(((),(),()),(Bldg.none.tup,({ Gy fl ca n1 n2 with B0:=l }:O).tup,())))
  (λi l hi hll=>by
   refine⟨?_,by rw[KD,r_,hll]⟩
   show Gi (i:Int) (n0:Int) (n1:Int) (n2:Int) Bldg.none.C0 Bldg.none.E0 Bldg.none.H0 Bldg.none.M0 Bldg.none.J0 Bldg.none.L0 Bldg.none.N0 Bldg.none.B0 (Gy fl ca n1 n2).C0 (Gy fl ca n1 n2).E0 (Gy fl ca n1 n2).H0 (Gy fl ca n1 n2).M0 (Gy fl ca n1 n2).J0 (Gy fl ca n1 n2).L0 (Gy fl ca n1 n2).N0 l=_;unfold Gi;have hil:i<l.length:=ω
   have w:A.wrap ((i:Int)+1)=((i+1:Nat):Int):=by rw[J ω ω];omega
   have e1:A.wrap ((1:Int)+A.wrap (N (n2:Int) 4))=((1+n2%4:Nat):Int):=Og 4 ω
   have e2:A.wrap (N (n1:Int) 5)=((n1%5:Nat):Int):=by
    rw[show N (n1:Int) 5=((n1%5:Nat):Int)from Mc n1 5,J ω ω]
   rw[show Car.mk 0 0 0 0 0 0 0 0 0=EM from rfl]
   simp only[b_ (ω:(i:Int)<(l.length:Int)),Aa (ω:(0:Int)≤(i:Int)) (ω:(i:Int)<(l.length:Int)),d_,j_,w,e1,e2,Bp EM _ hil,List.set_set,r_]
   unfold KD g27
   rfl)
  (λl hll=>by
   show Gi (ca:Int) (n0:Int) (n1:Int) (n2:Int) Bldg.none.C0 Bldg.none.E0 Bldg.none.H0 Bldg.none.M0 Bldg.none.J0 Bldg.none.L0 Bldg.none.N0 Bldg.none.B0 (Gy fl ca n1 n2).C0 (Gy fl ca n1 n2).E0 (Gy fl ca n1 n2).H0 (Gy fl ca n1 n2).M0 (Gy fl ca n1 n2).J0 (Gy fl ca n1 n2).L0 (Gy fl ca n1 n2).N0 l=_;unfold Gi;rw[hll,f_ (L_ (ca:Int))];rfl)
  ca 0 (Gy fl ca n1 n2).B0 ω hl
 have h2:=Ai h.1 ω
 rw[show(Gy fl ca n1 n2).B0=(Z ca).map (λi=>g18 n1 i (g15 fl n1 i (FK fl i)))from rfl,Pr]at h2
 exact h2
def Hj(n0:Nat):Nat:=2+n0%5
def Hb(n0:Nat):Nat:=1+n0/5%3
def Zo{n0:Nat}(hn:n0<256)(ht:t<256):Mk (n0:Int) (t:Int)=C (((),()),((EJ (Hj n0) (Hb n0) t).tup,())):=by
 have e1:A.wrap ((2:Int)+A.wrap (N (n0:Int) 5))=((Hj n0:Nat):Int):=by
  rw[show N (n0:Int) 5=((n0%5:Nat):Int)from Mc n0 5,J (n:=((n0%5:Nat):Int)) ω ω,J ω ω];unfold Hj;norm_cast
 have e2:A.wrap ((1:Int)+A.wrap (N (B L (X (n0:Int) 5)) 3))=((Hb n0:Nat):Int):=by
  rw[show L.wrap (X (n0:Int) 5)=((n0/5:Nat):Int)from XG 5 hn];exact Og 3 ω
 have hf:2≤Hj n0∧Hj n0≤6:=by unfold Hj;omega
 have hc:1≤Hb n0∧Hb n0≤3:=by unfold Hb;omega
 have e3:A.wrap ((1:Int)+A.wrap (N (t:Int) 7))=((1+t%7:Nat):Int):=Og 7 ω
 unfold Mk;rw[e1,e2];refine D (Abs ω ω) ?_
 refine D (Ara ω ω ω ht) ?_
 show C (((),()),(((Hj n0:Nat):Int),(1:Int),(4000:Int),A.wrap ((1:Int)+A.wrap (N (t:Int) 7)),_,_,_,_,()),())=_;rw[e3];rfl
def Zp{n0:Nat}(hn:n0<256)(ht:t<256):Ml (n0:Int) (t:Int)=C (((),()),((TS (Hj n0) (Hb n0) t).tup,())):=by
 have hf:2≤Hj n0∧Hj n0≤6:=by unfold Hj;omega
 have hc:1≤Hb n0∧Hb n0≤3:=by unfold Hb;omega
 unfold Ml;refine D (Zo hn ht) ?_;exact D (Arb ω ω ht) rfl
def Zq{n0 n1 n2:Nat}(h0:n0<256)(h1:n1<256)(h2:n2<256):ES (n0:Int) (n1:Int) (n2:Int)=C (((),()),((Fy (Hj n0) (Hb n0) n1 n2).tup,())):=by
 have hf:2≤Hj n0∧Hj n0≤6:=by unfold Hj;omega
 have hc:1≤Hb n0∧Hb n0≤3:=by unfold Hb;omega
 have e1:A.wrap ((1:Int)+A.wrap (N (n2:Int) 3))=((1+n2%3:Nat):Int):=Og 3 ω
 have hl:(TS (Hj n0) (Hb n0) n1).B0.length=Hb n0:=by simp[TS]
 have e2:A.wrap (B A (B A (18*(((TS (Hj n0) (Hb n0) n1).B0.length:Nat):Int))+24)+A.wrap (6*A.wrap (B L (X (n2:Int) 3))))=((18*Hb n0+24+6*(n2/3):Nat):Int):=by
  rw[hl,show L.wrap (X (n2:Int) 3)=((n2/3:Nat):Int)from XG 3 h2,J (n:=18*((Hb n0:Nat):Int)) ω ω,J (n:=18*((Hb n0:Nat):Int)+24) ω ω,J (n:=((n2/3:Nat):Int)) ω ω,J (n:=6*((n2/3:Nat):Int)) ω ω,J ω ω]
  norm_cast
 unfold ES;refine D (Zp h0 h1) ?_;refine D (a:=(((),(),()),(Bldg.none.tup,(Fy (Hj n0) (Hb n0) n1 n2).tup,()))) ?_ rfl;show HJ (((),(),(),(0:Int),()),(((n0:Int),(n1:Int),(n2:Int),()),Bldg.none.tup,(((Hj n0:Nat):Int),A.wrap ((1:Int)+A.wrap (N (n2:Int) 3)),A.wrap (B A (B A (18*(((TS (Hj n0) (Hb n0) n1).B0.length:Nat):Int))+24)+A.wrap (6*A.wrap (B L (X (n2:Int) 3)))),_,_,_,_,_,()),()))=_;rw[e1,e2];exact Arc ω h1 h2
def Ano{fl ca n1 n2:Nat}(hf:2≤fl∧fl≤6)(hc:1≤ca∧ca≤3)(_h1:n1<256)(h2:n2<256):(Fy fl ca n1 n2).small∧(Fy fl ca n1 n2).code=0∧(Fy fl ca n1 n2).B0.length=ca∧(Fy fl ca n1 n2).C0=(fl:Int)∧18*(ca:Int)+24≤(Fy fl ca n1 n2).H0∧(Fy fl ca n1 n2).H0≤600:=by
 have hl:(Fy fl ca n1 n2).B0.length=ca:=by simp[Fy]
 have hr:(Fy fl ca n1 n2).H0=((18*ca+24+6*(n2/3):Nat):Int):=rfl;refine⟨⟨by show(2:Int)≤(fl:Int);omega,by show(fl:Int)≤8;omega⟩,?_,hl,rfl,by rw[hr];omega,by rw[hr];omega⟩
 unfold Bldg.code;have e1:P 2 32 (Fy fl ca n1 n2).C0=R:=Am.2 (by show(2:Int)≤(fl:Int)∧(fl:Int)≤32;omega)
 have e2:P 1 8 ((Fy fl ca n1 n2).B0.length:Int)=R:=Am.2 ω
 have e3:P 1 16 (Fy fl ca n1 n2).E0=R:=Am.2 (by show(1:Int)≤((1+n2%3:Nat):Int)∧((1+n2%3:Nat):Int)≤16;omega)
 have e4:P 1 10000 (Fy fl ca n1 n2).M0=R:=Am.2 (by show(1:Int)≤((1+n1%7:Nat):Int)∧((1+n1%7:Nat):Int)≤10000;omega)
 have e5:(Fy fl ca n1 n2).B0.all (Cg (Fy fl ca n1 n2).C0)=R:=by
  rw[D_];intro c hc';obtain⟨i,_,rfl⟩:=c3_.1 hc';have hm:(i+n1)%fl<fl:=f6_ _ ω
  show Cg (fl:Int) (g27 n1 n2 i (g18 n1 i (g15 fl n1 i (FK fl i))))=R;unfold Cg g27 g18 g15 FK;simp only[X_,List.all_nil,c9_,e_,Am,A_];rw[J (n:=(fl:Int)-1) ω ω]
  refine⟨⟨?_,?_,?_,?_,?_,?_,?_⟩,?_,?_,?_⟩<;>omega
 have e6:(Fy fl ca n1 n2).loadsOK=R:=by
  show(AI 2 1).loadsOK=R
  kernel_rfl
 have e7:P (18*((Fy fl ca n1 n2).B0.length:Int)+24) 65536 (Fy fl ca n1 n2).H0=R:=Am.2 (by rw[hl,hr];omega)
 rw[e1,e2,e3,e4,e5,e6,e7];rfl
def CH(h:n<1000000000):A.wrap ((n:Int)+1)=((n+1:Nat):Int):=by
 rw[J ω ω];omega
def Bpl(h:n<1000000000):I.wrap (n:Int)=(n:Int):=CN ω ω
def Aeb(l:List Int):(GV l).size=l.length:=by
 simp[GV,ByteArray.size]
def Ani(x y:Int):Int:=A.wrap (stk x y (aE ((Y (IntKind.bits A) x)^^^(Y (IntKind.bits A) y))))
def WM(_:Nat)(r:Int):Int:=bif decide (32768≤r)then Ani (N (B A (r*2)) 65536) 4129 else N (B A (r*2)) 65536
def Aaf(s:ByteArray)(i:Nat)(r:Int):Int:=AO WM 8 0 (Ani r (B A (B A (AD s i)*256)))
def YE(s:ByteArray):Int:=AO (Aaf s) s.size 0 65535
def Aon(s:ByteArray)(r i:Int):Nx ((s,r,i,(0:Int),()),())=C ((s,AO WM 8 0 r,i,()),()):=by
 have h:=AQ (step:=λx=>Ip x.1.1 x.1.2.1 x.1.2.2.1 x.1.2.2.2.1) 8 (λk r=>((s,r,i,(k:Int),()),())) WM (λ_ _=>True) (λr=>((s,r,i,()),()))
  (λk r hk _=>by
   refine⟨?_,trivial⟩;show Ip s r i (k:Int)=_;unfold Ip;simp only[b_ (ω:(k:Int)<8),d_,CH (ω:k<1000000000)]
   unfold WM Ani;cases decide ((32768:Int)≤r)<;>rfl)
  (λr _=>by
   show Ip s r i 8=_;unfold Ip;rw[f_ (L_ (8:Int))];rfl) 8 0 r ω trivial
 exact Ai h.1 ω
def Amm(hs:s.size≤1000000):Qt s=C ((B E (YE s),()),()):=by
 have h:=AQ (step:=λx=>Io x.1.1 x.1.2.1 x.1.2.2.1) s.size (λi r=>((s,r,(i:Int),()),())) (Aaf s) (λ_ _=>True) (λr=>((r,()),()))
  (λi r hi _=>by
   refine⟨?_,trivial⟩;show Io s r (i:Int)=_;unfold Io;simp only[b_ (ω:(i:Int)<(s.size:Int)),Aa (ω:(0:Int)≤(i:Int)) (ω:(i:Int)<(s.size:Int)),d_,j_]
   refine D (Aon s _ _) ?_;show C (Sum.inl ((s,_,A.wrap ((i:Int)+1),()),()))=_;rw[CH (ω:i<1000000000)];rfl)
  (λr _=>by
   show Io s r (s.size:Int)=_;unfold Io;rw[f_ (L_ (s.size:Int))];rfl) s.size 0 65535 ω trivial
 have h2:Nw ((s,(65535:Int),(0:Int),()),())=_:=Ai h.1 ω
 unfold Qt;exact D h2 rfl
def WJ(s:ByteArray):ByteArray:=GV [L.wrap (B E (X (B E (YE s)) 256)),L.wrap (N (B E (YE s)) 256)]
def GU(s:ByteArray):ByteArray:=s++WJ s
def PC(s:ByteArray):(GU s).size=s.size+2:=by
 unfold GU WJ;rw[P_,Aeb];rfl
def ZP(hs:s.size≤1000000):Oy s=C ((GU s,()),()):=by
 unfold Oy;refine D (Amm hs) ?_
 have:=PC s
 unfold GU at this;rw[P_]at this;show(bif Nat.ble (s.size+(WJ s).size) 4611686018427387904 then C ((s++WJ s,()),())else none)=_;rw[Ax ω];rfl
def HZ(s:ByteArray):ByteArray×Int:=bif decide ((s.size:Int)<2)then(noB,4)else bif eqB (GU (s.extract 0 (s.size-2))) s then(s.extract 0 (s.size-2),0)else(noB,5)
def Aol(hs:s.size≤1000000):RQ s=C (((HZ s).1,(HZ s).2,()),()):=by
 unfold RQ HZ;by_cases h:(s.size:Int)<2
 ·rw[b_ h];rfl
 ·rw[f_ h,c_,c_]
  have w:A.wrap ((s.size:Int)-2)=((s.size-2:Nat):Int):=by rw[J ω ω];omega
  simp only[w,j_];rw[b_ (ω:(0:Int)≤((s.size-2:Nat):Int)),b_ (ω:((s.size-2:Nat):Int)≤(s.size:Int)),a4_,d_]
  refine D (ZP (s:=s.extract 0 (s.size-2)) (by rw[Wb s ω];omega)) ?_
  show(bif eqB (GU (s.extract 0 (s.size-2))) s then _ else _)=_;cases eqB (GU (s.extract 0 (s.size-2))) s<;>rfl
def Abb(n:Int)(k:Nat):List Int:=(Z k).map λi=>L.wrap (aA n ((2:Int)^(U (8*i) (IntKind.bits .u64))))
def nmB(n:Int)(k:Nat):ByteArray:=GV (Abb n k)
def AN(n:Int)(k:Nat):(nmB n k).size=k:=by
 unfold nmB;rw[Aeb];simp[Abb]
def EN(n:Int)(hk:k≤100):DQ n (k:Int)=C ((nmB n k,()),()):=by
 have h:=AQ (step:=λx=>Lb x.1.1 x.1.2.1 x.1.2.2.1 x.1.2.2.2.1) k (λi l=>((n,(k:Int),l,(i:Int),()),())) (KD 0 (λi _=>L.wrap (aA n ((2:Int)^(U (8*i) (IntKind.bits .u64)))))) (λ_ l=>l.length=k) (λl=>((l,()),()))
  (λi l hi hl=>by
   refine⟨?_,by rw[KD,r_,hl]⟩
   show Lb n (k:Int) l (i:Int)=_;unfold Lb
   have e:I.wrap (B A (8*(i:Int)))=((8*i:Nat):Int):=by
    rw[J (n:=8*(i:Int)) ω ω,CN ω ω];norm_cast
   simp only[b_ (ω:(i:Int)<(k:Int)),Aa (ω:(0:Int)≤(i:Int)) (ω:(i:Int)<(l.length:Int)),d_,j_,e,b_ (ω:(0:Int)≤((8*i:Nat):Int)),CH (ω:i<1000000000)]
   rfl)
  (λl hl=>by
   show Lb n (k:Int) l (k:Int)=_;unfold Lb;rw[f_ (L_ (k:Int))];rfl) k 0 (List.replicate k 0) ω (by simp)
 have h2:=Ai h.1 ω
 rw[show List.replicate k (0:Int)=(Z k).map (λ_=>0)by simp[List.map_const'],Pr]at h2
 have h3:Qz ((n,(k:Int),(Z k).map (λ_=>(0:Int)),(0:Int),()),())=_:=h2
 unfold DQ;rw[b_ (ω:(0:Int)≤(k:Int)),b_ (d7_ (k:Int)),b_ (ω:(k:Int)≤2147483648),a4_,a4_,d_,j_,show List.replicate k (0:Int)=(Z k).map (λ_=>0)by simp[List.map_const']]
 exact D h3 rfl
def QZ(c:Int×Int):ByteArray:=nmB (B I c.1) 4++nmB (B I c.2) 4
def ZE(c:Int×Int):(QZ c).size=8:=by
 unfold QZ;rw[P_,AN,AN]
def Amn(c:Int×Int):Qu c.1 c.2=C ((QZ c,()),()):=by
 unfold Qu;refine D (EN (B I c.1) (k:=4) ω) ?_
 refine D (EN (B I c.2) (k:=4) ω) ?_
 show(bif Nat.ble ((nmB (B I c.1) 4).size+(nmB (B I c.2) 4).size) 4611686018427387904 then _ else _)=_;rw[AN,AN];rfl
def Atd(x y:Int):Int:=I.wrap (stk x y (aE ((Y (IntKind.bits I) x)|||(Y (IntKind.bits I) y))))
def Pc(l:List Bool)(i:Nat)(n:Int):Int:=bif l.getD i H then Atd n (B I (1*2^min i (IntKind.bits .u64)))else n
def VD(l:List Bool):ByteArray:=nmB (AO (Pc l) l.length 0 0) 1
def Pd(l:List Bool):(VD l).size=1:=AN _ _
def Aoq{l:List Bool}(hl:l.length≤100):RT l=C ((VD l,()),()):=by
 have h:=AQ (step:=λx=>JI x.1.1 x.1.2.1 x.1.2.2.1) l.length (λi n=>((l,n,(i:Int),()),())) (Pc l) (λ_ _=>True) (λn=>((n,()),()))
  (λi n hi _=>by
   refine⟨?_,trivial⟩;show JI l n (i:Int)=_;unfold JI;simp only[b_ (ω:(i:Int)<(l.length:Int)),Aa (ω:(0:Int)≤(i:Int)) (ω:(i:Int)<(l.length:Int)),d_,j_,Bpl (ω:i<1000000000),b_ (ω:(0:Int)≤(i:Int)),CH (ω:i<1000000000)]
   unfold Pc Atd;cases l.getD i H<;>rfl)
  (λn _=>by
   show JI l n (l.length:Int)=_;unfold JI;rw[f_ (L_ (l.length:Int))];rfl) l.length 0 0 ω trivial
 have h2:OP ((l,(0:Int),(0:Int),()),())=_:=Ai h.1 ω
 unfold RT;refine D h2 ?_;exact D (EN _ (k:=1) ω) rfl
structure Inp where
 press:Int×Int
 kind:Int
 car:Int
 cars:List CarInput
def Inp.tup(x:Inp):Int×Int×Int×Int×List CarInput×Unit:=(x.press.1,x.press.2,x.kind,x.car,x.cars,())
def Inp.none:Inp:=⟨(0,0),0,0,[]⟩
def RB:CarInput:=CarInput.mk 0 H H H H 0 H 0 H 0 0
def flV(b:O)(n:Int):Bool:=aA (B I n) ((2:Int)^b.C0.toNat)==0
def EW(b:O)(c:CarInput):Bool:=flV b c.V0&&(flV b c.Z1&&(P 0 (b.C0-1) c.J1&&P 0 2 c.S1))
def Ix(b:O)(c:Int×Int):Bool:=isZ (Cd c (Bw b))
def Hl(b:O)(x:Inp):Bool:=Ix b x.press&&(P 0 8 x.kind&&(P 0 ((b.B0.length:Int)-1) x.car&&(!(x.kind==0&&x.car !=0)&&((x.cars.length:Int)==(b.B0.length:Int)&&x.cars.all (EW b)))))
def IU(s:ByteArray)(c:CarInput):ByteArray:=s++nmB (B I c.V0) 4++VD [c.T1,c.F1,c.G1,c.C1,c.L1,c.M1]++nmB (B I c.J1) 1++nmB (B I c.S1) 1++nmB (B I c.Z1) 4++nmB ((c.B3:Nat):Int) 8
def Agk(s:ByteArray)(c:CarInput):(IU s c).size=s.size+19:=by
 unfold IU;simp only[P_,AN,Pd]
def QF(b:O)(x:Inp):ByteArray:=nmB 165 1++nmB (B I (b.B0.length:Int)) 1++QZ x.press++nmB (B I x.kind) 1++nmB (B I x.car) 1
def Ac5(b:O)(x:Inp):(QF b x).size=12:=by
 unfold QF;simp only[P_,AN,ZE]
def inV(b:O)(x:Inp):ByteArray:=GU (x.cars.foldl IU (QF b x))
def Acx(l:List CarInput)(s:ByteArray):(l.foldl IU s).size=s.size+19*l.length:=by
 induction l generalizing s with
 |nil=>simp
 |cons c t ih=>rw[f4_,ih,Agk,y_];omega
def Wq(b:O)(x:Inp):(inV b x).size=14+19*x.cars.length:=by
 unfold inV;rw[PC,Acx,Ac5];omega
def Ma(n lo hi:Int):NL n lo hi=C ((P lo hi n,()),()):=by
 unfold NL P;cases decide (lo≤n)<;>rfl
section
variable{b:O}(hb:b.small)(hcode:b.code=0)
include hb
theorem Xc(n:Int):OA b.C0 b.E0 b.H0 b.M0 b.J0 b.L0 b.N0 b.B0 n=C ((flV b n,()),()):=by
 have h1:=hb.1;have h2:=hb.2;have e:I.wrap b.C0=b.C0:=CN ω ω
 have e2:U b.C0.toNat (IntKind.bits .u64)=b.C0.toNat:=by show min b.C0.toNat 64=_;omega
 unfold OA flV;simp only[e,b_ (ω:(0:Int)≤b.C0),d_,e2]
theorem Aiy(x:Inp)(hx:x.cars.length≤1000):LN (((),(),(0:Int),()),(b.tup,x.tup,()))=C (bif x.cars.all (EW b)then .inl ((),())else .inr ((H,()),())):=by
 have h1:=hb.1;have h2:=hb.2
 have h:=Ai (Ahf (step:=λx=>letI a:=x.2.1.2.2;letI d:=x.2.2.1;letI e:=a.2.2;JH x.1.2.2.1 x.2.1.1 x.2.1.2.1 a.1 a.2.1 e.1 e.2.1 e.2.2.1 e.2.2.2.1 d.1 d.2.1 d.2.2.1 d.2.2.2.1 d.2.2.2.2.1) x.cars RB (EW b) (λi=>(((),(),(i:Int),()),(b.tup,x.tup,()))) (.inl ((),())) (λ_=>.inr ((H,()),())) (λi hi=>by
  show JH (i:Int) b.C0 b.E0 b.H0 b.M0 b.J0 b.L0 b.N0 b.B0 x.press.1 x.press.2 x.kind x.car x.cars=_;unfold JH;rw[show CarInput.mk 0 H H H H 0 H 0 H 0 0=RB from rfl]
  have w:A.wrap (b.C0-1)=b.C0-1:=J ω ω
  simp only[b_ (ω:(i:Int)<(x.cars.length:Int)),d_,Aa (ω:(0:Int)≤(i:Int)) (ω:(i:Int)<(x.cars.length:Int)),j_,CH (ω:i<1000000000),w]
  generalize x.cars.getD i RB=c;unfold EW;refine D (Xc hb c.V0) ?_;show(bif !flV b c.V0 then _ else _)=_;cases flV b c.V0 with
  |false=>rfl
  |true=>
  rw[o_,c_,n_];refine D (Xc hb c.Z1) ?_;show(bif !flV b c.Z1 then _ else _)=_;cases flV b c.Z1 with
  |false=>rfl
  |true=>
  rw[o_,c_,n_];refine D (Ma _ _ _) ?_;show(bif !P 0 (b.C0-1) c.J1 then _ else _)=_;cases P 0 (b.C0-1) c.J1 with
  |false=>rfl
  |true=>
  rw[o_,c_,n_];refine D (Ma _ _ _) ?_;show(bif !P 0 2 c.S1 then _ else _)=_;cases P 0 2 c.S1<;>rfl) (by
  show JH (x.cars.length:Int) b.C0 b.E0 b.H0 b.M0 b.J0 b.L0 b.N0 b.B0 x.press.1 x.press.2 x.kind x.car x.cars=_;unfold JH;rw[f_ (L_ _),c_]) x.cars.length 0 ω) ω
 rw[R_,Bbi]at h;exact h
include hcode
theorem NG(c:Int×Int):OB b.C0 b.E0 b.H0 b.M0 b.J0 b.L0 b.N0 b.B0 c.1 c.2=C ((Ix b c,()),()):=by
 unfold OB;refine D (Aok hb hcode) ?_;have e1:=NX c.1 (Bw b).1;have e2:=NX c.2 (Bw b).2;show aF (bif aH.wrap _==0 then C ((B aH _==0,()),())else _) _=_;rw[e1,e2];unfold Ix isZ;show aF (bif(Cd c (Bw b)).1==0 then C (((Cd c (Bw b)).2==0,()),())else _) _=_;cases(Cd c (Bw b)).1==0 with
 |false=>rfl
 |true=>rw[n_,c9_];rfl
theorem Aop(x:Inp)(hx:x.cars.length≤1000):RR b.C0 b.E0 b.H0 b.M0 b.J0 b.L0 b.N0 b.B0 x.press.1 x.press.2 x.kind x.car x.cars=C ((Hl b x,()),()):=by
 have hc:=Aj hcode;have w:A.wrap ((b.B0.length:Int)-1)=(b.B0.length:Int)-1:=J ω ω
 unfold RR Hl;rw[w]
 have fin:∀g:Bool,aF (C (((),(),!g,()),(b.tup,x.tup,()))) (λy5:(Unit×Unit×Bool×Unit)×_=>bif y5.1.2.2.1 then C ((H,()),())else(LN (((),(),(0:Int),()),(y5.2.1,y5.2.2.1,()))).bind λy6=>(match y6 with | .inl y7=>C ((R,()),()) | .inr y7=>C ((y7.1.1,()),())))=C (((g&&x.cars.all (EW b)),()),()):=by
  intro g;cases g with
  |false=>rfl
  |true=>
   refine D rfl ?_;show(bif !R then _ else _)=_;rw[o_,c_,n_];refine D (Aiy hb x hx) ?_;cases x.cars.all (EW b)<;>rfl
 rw[Ea];show aF (aF (C ((b.code,()),())) _) _=_;rw[hcode];cases h1:Ix b x.press with
 |false=>
  refine D (D rfl (show(bif((0:Int) !=0)then _ else _)=C (((),(),!H,()),(b.tup,x.tup,()))from D (NG hb hcode x.press) (by show(bif !Ix b x.press then _ else _)=_;rw[h1];rfl))) ?_
  exact fin H
 |true=>
 cases h2:P 0 8 x.kind with
 |false=>
  refine D (D rfl (show(bif((0:Int) !=0)then _ else _)=C (((),(),!H,()),(b.tup,x.tup,()))from D (NG hb hcode x.press) (by
   show(bif !Ix b x.press then _ else _)=_;rw[h1,o_,c_];refine D (Ma _ _ _) ?_;show(bif !P 0 8 x.kind then _ else _)=_;rw[h2];rfl))) ?_
  exact fin H
 |true=>
 cases h3:P 0 ((b.B0.length:Int)-1) x.car with
 |false=>
  refine D (D rfl (show(bif((0:Int) !=0)then _ else _)=C (((),(),!H,()),(b.tup,x.tup,()))from D (NG hb hcode x.press) (by
   show(bif !Ix b x.press then _ else _)=_;rw[h1,o_,c_];refine D (Ma _ _ _) ?_;show(bif !P 0 8 x.kind then _ else _)=_;rw[h2,o_,c_];refine D (Ma _ _ _) ?_;show(bif !P 0 ((b.B0.length:Int)-1) x.car then _ else _)=_;rw[h3];rfl))) ?_
  exact fin H
 |true=>
  refine D (D rfl (show(bif((0:Int) !=0)then _ else _)=C (((),(),!(!(x.kind==0&&x.car !=0)&&((x.cars.length:Int)==(b.B0.length:Int))),()),(b.tup,x.tup,()))from D (NG hb hcode x.press) (by
   show(bif !Ix b x.press then _ else _)=_;rw[h1,o_,c_];refine D (Ma _ _ _) ?_;show(bif !P 0 8 x.kind then _ else _)=_;rw[h2,o_,c_];refine D (Ma _ _ _) ?_;show(bif !P 0 ((b.B0.length:Int)-1) x.car then _ else _)=_;rw[h3,o_,c_];have hne:((x.cars.length:Int) !=(b.B0.length:Int))=!((x.cars.length:Int)==(b.B0.length:Int)):=rfl;rw[hne];cases(x.cars.length:Int)==(b.B0.length:Int)<;>cases x.kind==0<;>cases x.car !=0<;>rfl))) ?_
  refine Eq.trans (fin (!(x.kind==0&&x.car !=0)&&((x.cars.length:Int)==(b.B0.length:Int)))) ?_;simp only[n_,Bool.and_assoc]
end
def Bgc{a c:Nat}(ha:a<65536)(hc:c<65536):E.wrap (stk (a:Int) (c:Int) (aE ((Y (IntKind.bits .u16) (a:Int))^^^(Y (IntKind.bits .u16) (c:Int)))))=((a^^^c:Nat):Int):=by
 have h:=d5_ (n:=16) ha hc;rw[JU,BitVec.toNat_xor,W_,W_];rw[show(((a:Int))%((2^IntKind.bits .u16:Nat):Int)).toNat=a by simp only[IntKind.bits];omega,show(((c:Int))%((2^IntKind.bits .u16:Nat):Int)).toNat=c by simp only[IntKind.bits];omega]
 generalize a^^^c=n at*;simp only[B,IntKind.signed,IntKind.bits];simp;omega
def Anj{a c:Nat}(ha:a<65536)(hc:c<65536):Ani (a:Int) (c:Int)=((a^^^c:Nat):Int):=by
 have h:=d5_ (n:=16) ha hc;unfold Ani;rw[JU,BitVec.toNat_xor,W_,W_];rw[show(((a:Int))%((2^IntKind.bits .i64:Nat):Int)).toNat=a by simp only[IntKind.bits];omega,show(((c:Int))%((2^IntKind.bits .i64:Nat):Int)).toNat=c by simp only[IntKind.bits];omega]
 exact J ω ω
def Qk(n:Nat):E.wrap (n:Int)=((n%65536:Nat):Int):=by
 simp only[B,IntKind.signed,IntKind.bits];simp
def n16(_:Nat)(r:Nat):Nat:=if 32768≤r then(2*r%65536)^^^4129 else 2*r%65536
def Ayq:n16 i r<65536:=by
 unfold n16;split
 ·exact d5_ (n:=16) (f6_ _ (by decide)) (by decide)
 ·exact f6_ _ (by decide)
def Bc4(h:r<65536):WM i (r:Int)=((n16 i r:Nat):Int):=by
 have w:N (B A ((r:Int)*2)) 65536=((2*r%65536:Nat):Int):=by
  rw[J ω ω,e1_ ω]
  omega
 unfold WM n16;rw[w];by_cases g:32768≤r
 ·rw[b_ (ω:(32768:Int)≤(r:Int)),d_,if_pos g]
  exact Anj (f6_ _ (by decide)) (by decide)
 ·rw[f_ (ω:¬(32768:Int)≤(r:Int)),c_,if_neg g]
def Br0(h:r<65536):(B E (stk (B E ((r:Int)*((2:Int)^(U (W (1:Int)) (IntKind.bits E))))) (B E ((aA (r:Int) ((2:Int)^(U (W (15:Int)) (IntKind.bits E))))*(4129:Int))) (aE ((Y (IntKind.bits E) (B E ((r:Int)*((2:Int)^(U (W (1:Int)) (IntKind.bits E))))))^^^(Y (IntKind.bits E) (B E ((aA (r:Int) ((2:Int)^(U (W (15:Int)) (IntKind.bits E))))*(4129:Int))))))))=((n16 i r:Nat):Int):=by
 have w1:E.wrap ((r:Int)*((2:Int)^(U (W (1:Int)) (IntKind.bits E))))=((2*r%65536:Nat):Int):=by
  rw[show((2:Int)^(U (W (1:Int)) (IntKind.bits E)))=2 from rfl,show(r:Int)*2=((2*r:Nat):Int)by omega]
  exact Qk _
 have d:aA (r:Int) ((2:Int)^(U (W (15:Int)) (IntKind.bits E)))=((r/32768:Nat):Int):=by
  rw[show((2:Int)^(U (W (15:Int)) (IntKind.bits E)))=32768 from rfl,V_ _ ω]
  omega
 have w2:E.wrap ((aA (r:Int) ((2:Int)^(U (W (15:Int)) (IntKind.bits E))))*(4129:Int))=((r/32768*4129:Nat):Int):=by
  rw[d,show((r/32768:Nat):Int)*4129=((r/32768*4129:Nat):Int)by omega,Qk]
  have:r/32768*4129<65536:=ω
  rw[h1_ this]
 rw[w1,w2,Bgc (f6_ _ (by decide)) ω]
 unfold n16;by_cases g:32768≤r
 ·rw[if_pos g,show r/32768*4129=4129 by omega]
 ·rw[if_neg g,show r/32768*4129=0 by omega,Nat.xor_zero]
def Acw:∀(k i r:Nat),r<65536→AO WM k i (r:Int)=((AO n16 k i r:Nat):Int)∧AO n16 k i r<65536
 |0,_,_,h=>⟨rfl,h⟩
 |k+1,i,r,h=>by
  show AO WM k (i+1) (WM i (r:Int))=_∧_;rw[Bc4 (i:=i) h];exact Acw k (i+1) (n16 i r) Ayq
def Ayx(s:ByteArray)(hr:r<65536)(a c:Int):Nt ((s,(r:Int),a,c,(0:Int),()),())=C ((s,((AO n16 8 0 r:Nat):Int),a,c,()),()):=by
 have h:=AQ (S:=Nat) (step:=λx=>Il x.1.1 x.1.2.1 x.1.2.2.1 x.1.2.2.2.1 x.1.2.2.2.2.1) 8 (λk r=>((s,(r:Int),a,c,(k:Int),()),())) n16 (λ_ r=>r<65536) (λ(r:Nat)=>((s,(r:Int),a,c,()),()))
  (λk r hk hr=>by
   refine⟨?_,Ayq⟩;show Il s (r:Int) a c (k:Int)=_;unfold Il;simp only[b_ (ω:(k:Int)<8),d_,CH (ω:k<1000000000)]
   rw[Br0 (i:=k) hr])
  (λr _=>by
   show Il s (r:Int) a c 8=_;unfold Il;rw[f_ (L_ (8:Int))];rfl) 8 0 r ω hr
 exact Ai h.1 ω
def byN(s:ByteArray)(i:Nat):Nat:=((bl s).getD i 0).toNat
def QY(s:ByteArray)(i:Nat):byN s i<256:=UInt8.toNat_lt _
def b16(s:ByteArray)(i:Nat)(r:Nat):Nat:=AO n16 8 0 (r^^^(byN s i*256))
def s16(s:ByteArray):Nat:=AO (b16 s) s.size 0 65535
def Ajv(hr:r<65536):r^^^(byN s i*256)<65536:=d5_ (n:=16) hr (by have:=QY s i;omega)
def Akw(hs:s.size≤1000000):Qn s=C ((((s16 s:Nat):Int),()),())∧s16 s<65536:=by
 have h:=AQ (S:=Nat) (step:=λx=>Ik x.1.1 x.1.2.1 x.1.2.2.1 x.1.2.2.2.1) s.size (λi r=>((s,(r:Int),(s.size:Int),(i:Int),()),())) (b16 s) (λ_ r=>r<65536) (λ(r:Nat)=>(((r:Int),()),()))
  (λi r hi hr=>by
   refine⟨?_,(Acw 8 0 _ (Ajv hr)).2⟩;show Ik s (r:Int) (s.size:Int) (i:Int)=_;unfold Ik;have hb:=QY s i
   have z:E.wrap ((B E (AD s i))*((2:Int)^(U (W (8:Int)) (IntKind.bits E))))=((byN s i*256:Nat):Int):=by
    rw[FJ];show E.wrap (B E ((byN s i:Nat):Int)*256)=_;rw[Qk,h1_ ω,show((byN s i:Nat):Int)*256=((byN s i*256:Nat):Int)by omega,Qk,h1_ ω]
   simp only[b_ (ω:(i:Int)<(s.size:Int)),Aa (ω:(0:Int)≤(i:Int)) (ω:(i:Int)<(s.size:Int)),d_,j_]
   rw[z,Bgc hr ω]
   refine D (Ayx s (Ajv hr) _ _) ?_;show C (Sum.inl ((s,_,_,A.wrap ((i:Int)+1),()),()))=_;rw[CH (ω:i<1000000000)];rfl)
  (λr _=>by
   show Ik s (r:Int) (s.size:Int) (s.size:Int)=_;unfold Ik;rw[f_ (L_ (s.size:Int))];rfl) s.size 0 65535 ω (by decide)
 have h2:Ns ((s,(65535:Int),(s.size:Int),(0:Int),()),())=_:=Ai h.1 ω
 unfold Qn;exact⟨D h2 rfl,h.2⟩
def Bfx:∀(s:ByteArray) (k i r:Nat),r<65536→AO (Aaf s) k i (r:Int)=((AO (b16 s) k i r:Nat):Int)
 |_,0,_,_,_=>rfl
 |s,k+1,i,r,h=>by
  have hb:=QY s i
  have e:Aaf s i (r:Int)=((b16 s i r:Nat):Int):=by
   unfold Aaf b16
   have z:A.wrap (B A (AD s i)*256)=((byN s i*256:Nat):Int):=by
    rw[FJ];show A.wrap (B A ((byN s i:Nat):Int)*256)=_;rw[J (n:=((byN s i:Nat):Int)) ω ω,J ω ω]
    omega
   rw[z,Anj h ω]
   exact(Acw 8 0 _ (Ajv h)).1
  show AO (Aaf s) k (i+1) (Aaf s i (r:Int))=((AO (b16 s) k (i+1) (b16 s i r):Nat):Int);rw[e];exact Bfx s k (i+1) _ (Acw 8 0 _ (Ajv h)).2
def Azi(s:ByteArray):YE s=((s16 s:Nat):Int):=Bfx s s.size 0 65535 (by decide)
def WT(n:Nat):L.wrap (n:Int)=((n%256:Nat):Int):=by
 simp only[B,IntKind.signed,IntKind.bits];simp
def Azf(s:ByteArray)(h:s16 s<65536):WJ s=GV [L.wrap (aA ((s16 s:Nat):Int) ((2:Int)^(U (W (8:Int)) (IntKind.bits E)))),L.wrap ((s16 s:Nat):Int)]:=by
 have w:E.wrap (YE s)=((s16 s:Nat):Int):=by rw[Azi,Qk,h1_ h]
 have d1:X ((s16 s:Nat):Int) 256=((s16 s/256:Nat):Int):=by rw[Int.tdiv_eq_ediv_of_nonneg ω];omega
 have d2:aA ((s16 s:Nat):Int) ((2:Int)^(U (W (8:Int)) (IntKind.bits E)))=((s16 s/256:Nat):Int):=by
  rw[show((2:Int)^(U (W (8:Int)) (IntKind.bits E)))=256 from rfl,V_ _ ω]
  omega
 have d3:N ((s16 s:Nat):Int) 256=((s16 s%256:Nat):Int):=by rw[e1_ ω];omega
 unfold WJ;rw[w,d1,d2,d3,Qk,WT,WT,WT,WT];congr 3
 ·omega
 ·congr 1;omega
def An5(hs:s.size≤1000000):RN s=C ((GU s,()),()):=by
 obtain⟨h1,h2⟩:=Akw hs;unfold RN;refine D h1 ?_
 have:=PC s
 unfold GU at this;rw[P_]at this;show(bif Nat.ble (s.size+(GV [L.wrap (aA ((s16 s:Nat):Int) ((2:Int)^(U (W (8:Int)) (IntKind.bits E)))),L.wrap ((s16 s:Nat):Int)]).size) 4611686018427387904 then C ((s++GV [L.wrap (aA ((s16 s:Nat):Int) ((2:Int)^(U (W (8:Int)) (IntKind.bits E)))),L.wrap ((s16 s:Nat):Int)],()),())else none)=_;rw[← Azf s h2,Ax ω];rfl
def An4(hs:s.size≤1000000):RM s=C (((HZ s).1,(HZ s).2,()),()):=by
 unfold RM HZ;by_cases h:(s.size:Int)<2
 ·have w:A.wrap ((s.size:Int)-2)=(s.size:Int)-2:=J ω ω
  simp only[w];rw[b_ h,b_ (ω:(s.size:Int)-2<0)];rfl
 ·rw[f_ h,c_]
  have w:A.wrap ((s.size:Int)-2)=((s.size-2:Nat):Int):=by rw[J ω ω];omega
  simp only[w,j_];rw[f_ (ω:¬((s.size-2:Nat):Int)<0),b_ (ω:(0:Int)≤((s.size-2:Nat):Int)),b_ (ω:((s.size-2:Nat):Int)≤(s.size:Int)),a4_,d_,c_]
  refine D (An5 (s:=s.extract 0 (s.size-2)) (by rw[Wb s ω];omega)) ?_
  show(bif !eqB (GU (s.extract 0 (s.size-2))) s then _ else _)=_;cases eqB (GU (s.extract 0 (s.size-2))) s<;>rfl
end Go.Ovl
