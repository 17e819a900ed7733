/- Phases of cars (layer 25): orders, and what cars do by themselves. -/
import Derived.Test.YtdapkmfmgpmnoaaGreatDoorOvF
import Derived.Test.YtdapkmfmgpmnoaaGreatDoorOvA
import Derived.Test.YtdapkmfmgpmnoaaGreatDoorOvD
import Derived.Test.YtdapkmfmgpmnoaaGreatDoorOvC
set_option linter.all false
open Go.IntKind renaming i64->A,wrap->B,u16->E,u64->I,u8->L,u32->aH
open Option renaming some->C,bind->aF
open Go.Ovl renaming Ae->D,Aa->J,Bldg->O,inR->P
open Bool renaming false->H,true->R
open Int renaming tmod->N,toNat->W,tdiv->X,fdiv->aA,lt_of_lt_of_le->aG
open Min renaming min->U
open Go.Ovl.Sat renaming ret->V,bifT->aB,bic->aC,bindS->aD
open BitVec renaming ofInt->Y,toNat->aE
open List renaming range->Z
namespace Go.Ovl
open Go Go.Ab
set_option maxRecDepth 100000
variable{s:ByteArray}{calm:List Bool}{i t r k n:Nat}{α:Type}
def Ss(m:Img)(car:Int):Bool:=m.A0.any λe=>e.S0==car
def Jw(m:Img)(i:Nat):Bool:=phA m i==4&&lvA m i
def WH(m:Img)(calm:List Bool)(i:Nat):Bool:=calm.getD i H&&((phA m i==1||Jw m i)&&!Ss m i)
def QQ(m:Img)(calm:List Bool)(i:Nat):List Record:=
 bif WH m calm i then [⟨4,0,0,i,2⟩]++(bif Jw m i then [⟨6,0,0,i,0⟩]else [])++(bif flA m i then [⟨5,0,0,i,0⟩]else [])else []
def FE(m:Img)(calm:List Bool):Nat→List Record
 |0=>[]
 |i+1=>FE m calm i++QQ m calm i
def Ax3(m:Img)(calm:List Bool)(i:Nat):(QQ m calm i).length≤3:=by
 unfold QQ;cases WH m calm i<;>cases Jw m i<;>cases flA m i<;>simp
def Uk(m:Img)(calm:List Bool):∀i,(FE m calm i).length≤3*i
 |0=>z_ 0
 |i+1=>by
  have:=Uk m calm i
  have:=Ax3 m calm i
  show(FE m calm i++QQ m calm i).length≤_;rw[h_];omega
section
variable{b:O}{m:Img}(hm:ImgOK b m)(hb:b.small)(he:m.A0.length≤100000)
include hm he
omit hm in
theorem Aoh(car:Int):ER m.F0 m.O0 m.K0 m.A0 car=C ((Ss m car,()),()):=by
 have h:Sat (ER m.F0 m.O0 m.K0 m.A0 car) λy=>y=((Ss m car,()),()):=by
  unfold ER IX;refine aD (Q:=λy=>match y with | .inl _=>Ss m car=H | .inr z=>z=((R,()),())∧Ss m car=R) (Sat.loop (λk x=>∃i:Nat,x=((car,m.A0,(m.A0.length:Int),(i:Int),()),())∧i+k=m.A0.length∧∀e∈m.A0.take i,(e.S0==car)=H) ?_ m.A0.length ⟨0,rfl,ω,λe h=>(by simp at h)⟩ ω) λy hy=>?_
  ·rintro k x ⟨i,rfl,hk,hn⟩
   show Sat (Mb car m.A0 (m.A0.length:Int) (i:Int)) _;unfold Mb;refine aC (λq=>?_) λq=>V ?_
   ·have hi:i<m.A0.length:=by have:=m_ q;omega
    refine aB (Ac ω ω) (aC (λq2=>V ⟨rfl,?_⟩) λq2=>V ⟨k-1,ω,i+1,?_,ω,λe h=>?_⟩)
    ·exact List.any_eq_true.2 ⟨_,CA _ hi,q2⟩
    ·rw[show A.wrap ((i:Int)+1)=((i+1:Nat):Int)by rw[J ω ω];omega]
    ·rw[List.take_succ,j_ hi]at h
     rcases q_.1 h with h | h
     ·exact hn e h
     ·rw[i_,k_,j_ hi]at q2
      have:e=m.A0[i]:=by simpa using h
      rw[this];exact q2
   ·have:=F_ q
    rw[b1_ ω]at hn
    show Ss m car=H;exact List.any_eq_false.2 λe h=>by rw[hn e h];decide
  ·cases y with
   |inl _=>rw[show Ss m car=H from hy];exact V rfl
   |inr z=>obtain⟨h1,h2⟩:=hy;subst h1;rw[h2];exact V rfl
 obtain⟨y,h,rfl⟩:=h;exact h
include hb in
theorem Agn{kind:Int}(hk:0≤kind∧kind≤8)(hi:i<b.B0.length)(hcalm:calm.length=b.B0.length){fr:Bool}(hf:GM m.F0 m.O0 m.K0 m.A0=C ((fr,()),())):KW b.C0 b.E0 b.H0 b.M0 b.J0 b.L0 b.N0 b.B0 m.F0 m.O0 m.K0 m.A0 kind (i:Int) calm=C (((bif kind==0 then([],(0:Int))else Rv m i (calm.getD i H) fr kind).1,(bif kind==0 then([],(0:Int))else Rv m i (calm.getD i H) fr kind).2,()),()):=by
 have hcc:=Aj hm.code;unfold KW;refine D (CS hb m (c8_ (show m.F0.length≤8 by rw[hm.lp];omega) (by decide)) (c8_ he (by decide))) ?_
 show(bif !m.ok b then _ else _)=_;rw[Img.ok_iff.2 hm,hcalm,T_,f_ (ω:¬kind<0),f_ (ω:¬8<kind),f_ (ω:¬(i:Int)<0),f_ (ω:¬(b.B0.length:Int)≤(i:Int))]
 simp only[o_,c_];cases kind==0 with
 |true=>rfl
 |false=>
  rw[c_,Ac ω ω,d_]
  exact D (Bbm hm hi hf _ kind) rfl
include hb in
theorem Ajr(hcalm:calm.length=b.B0.length):LY b.C0 b.E0 b.H0 b.M0 b.J0 b.L0 b.N0 b.B0 m.F0 m.O0 m.K0 m.A0 calm=C ((FE m calm b.B0.length,()),()):=by
 have hcc:=Aj hm.code;have lp:=hm.lp;have lf:=hm.lf;have ll:=hm.ll
 have hL:Sat (JO ((calm,(),([]:List Record),m.F0,(m.F0.length:Int),(0:Int),()),(m.tup,()))) λy=>y=((FE m calm b.B0.length,()),()):=by
  unfold JO;refine Sat.loop (λk x=>∃(i:Nat),x=((calm,(),FE m calm i,m.F0,(m.F0.length:Int),(i:Int),()),(m.tup,()))∧i+k=m.F0.length) ?_ m.F0.length ⟨0,rfl,ω⟩ ω
  rintro k x ⟨i,rfl,hk⟩;have hl:=Uk m calm i;show Sat (Qb calm (FE m calm i) m.F0 (m.F0.length:Int) (i:Int) m.F0 m.O0 m.K0 m.A0) _;unfold Qb
  refine aC (λq=>?_) λq=>V (by
   have q:=F_ q;show((FE m calm i,()),())=((FE m calm b.B0.length,()),());rw[show b.B0.length=i by omega])
  have hi:i<m.F0.length:=by have:=m_ q;omega
  have w:=Dp hi (show m.F0.length≤AG by unfold AG;omega)
  have i1:inB (i:Int) m.F0.length=R:=Ac ω ω
  have i2:inB (i:Int) m.K0.length=R:=Ac ω ω
  have i3:inB (i:Int) m.O0.length=R:=Ac ω ω
  have i4:inB (i:Int) calm.length=R:=Ac ω ω
  refine aB i1 ?_;refine Sat.bindE (b:=((calm,(),FE m calm i,(i:Int),phA m i,Jw m i,m.F0,(m.F0.length:Int),(i:Int),()),(m.tup,()))) ?_ ?_
  ·show(bif phA m i==4 then _ else _)=_
   unfold Jw;cases phA m i==4 with
   |true=>rw[d_,i2];rfl
   |false=>rfl
  refine Sat.bindE (b:=((calm,(),FE m calm i,(i:Int),Jw m i,m.F0,(m.F0.length:Int),(i:Int),!WH m calm i,()),(m.tup,()))) ?_ ?_
  ·have hb2:=Aoh (m:=m) he (i:Int)
   show(bif inB (i:Int) calm.length then _ else _)=_;rw[i4,d_];unfold WH;show(bif !calm.getD i H then _ else bif phA m i !=1 then bif !Jw m i then _ else(ER m.F0 m.O0 m.K0 m.A0 (i:Int)).bind _ else(ER m.F0 m.O0 m.K0 m.A0 (i:Int)).bind _)=_;cases calm.getD i H with
   |false=>rfl
   |true=>
    rw[o_,c_,n_];unfold bne;cases phA m i==1 with
    |true=>
     rw[o_,c_];exact D hb2 (by show C ((calm,(),FE m calm i,(i:Int),Jw m i,m.F0,(m.F0.length:Int),(i:Int),Ss m (i:Int),()),_)=_;rw[Bool.true_or,n_,Bool.not_not])
    |false=>
     rw[c0_,d_];cases Jw m i with
     |false=>rfl
     |true=>exact D hb2 (by show C ((calm,(),FE m calm i,(i:Int),R,m.F0,(m.F0.length:Int),(i:Int),Ss m (i:Int),()),_)=_;rw[Bool.or_true,n_,Bool.not_not])
  refine aC (λq2=>V ⟨k-1,ω,i+1,?_,ω⟩) λq2=>?_
  ·simp only[w]
   have q2:WH m calm i=H:=by simpa using q2
   show _=((calm,(),FE m calm i++QQ m calm i,m.F0,(m.F0.length:Int),((i+1:Nat):Int),()),(m.tup,()));rw[show QQ m calm i=[]by unfold QQ;rw[q2];rfl,a9_]
  ·have q2:WH m calm i=R:=by simpa using q2
   refine aB (f7_ (by simp only[C_,d5_];omega)) ?_
   refine Sat.bindE (b:=((calm,(),FE m calm i++[⟨4,0,0,i,2⟩]++(bif Jw m i then [⟨6,0,0,i,0⟩]else []),(i:Int),m.F0,(m.F0.length:Int),(i:Int),()),(m.tup,()))) ?_ ?_
   ·show(bif Jw m i then _ else _)=_
    cases Jw m i with
    |true=>
     rw[d_];refine XM (f7_ (by simp only[h_,C_,d5_];omega)) rfl
    |false=>rw[c_,c_,a9_]
   refine aB i3 ?_
   have e:FE m calm (i+1)=FE m calm i++[⟨4,0,0,i,2⟩]++(bif Jw m i then [⟨6,0,0,i,0⟩]else [])++(bif flA m i then [⟨5,0,0,i,0⟩]else []):=by
    show FE m calm i++QQ m calm i=_;unfold QQ;rw[q2,d_];simp only[M_]
   refine aC (λq3=>?_) λq3=>V ⟨k-1,ω,i+1,?_,ω⟩
   ·have q3:flA m i=R:=q3
    rw[q3,d_]at e;refine aB (f7_ (by have:(bif Jw m i then [(⟨6,0,0,i,0⟩:Record)]else []).length≤1:=(by cases Jw m i<;>simp);simp only[h_,C_,d5_];omega)) (V ⟨k-1,ω,i+1,?_,ω⟩)
    simp only[w];rw[e]
   ·have q3:flA m i=H:=q3
    rw[q3,c_,a9_]at e;simp only[w];rw[e]
 obtain⟨y,hy,rfl⟩:=hL;unfold LY;refine D (CS hb m (c8_ (show m.F0.length≤8 by rw[hm.lp];omega) (by decide)) (c8_ he (by decide))) ?_
 show(bif !m.ok b then _ else _)=_;rw[Img.ok_iff.2 hm,hcalm,T_,o_,c_,c_];exact D hy rfl
end
def Vw(x:Int):0≤aH.wrap (stk x 255 (aE (Y (IntKind.bits .u32) x&&&Y (IntKind.bits .u32) 255)))∧aH.wrap (stk x 255 (aE (Y (IntKind.bits .u32) x&&&Y (IntKind.bits .u32) 255)))<256:=by
 rw[US];unfold vb
 have h:(bv x&&&bv 255).toNat<256:=by
  rw[BitVec.toNat_and];exact Nat.lt_of_le_of_lt Nat.and_le_right (show(bv 255).toNat<256 by decide)
 omega
def Bqa(n:Int):0≤A.wrap (B L n)∧A.wrap (B L n)≤255:=by
 have:=Aca n
 rw[J ω ω]
 omega
def TM{x:Int}(h:0≤x∧x<4294967296):Sat (CX x) λy=>0≤y.1.1∧y.1.1≤255:=by
 unfold CX;refine aB (Ac ?_ (aG ?_ (Int.ofNat_le.2 (D_ (n:=256) rfl)))) ?_
 ·rw[V_ _ (by decide)]
  exact Int.ediv_nonneg h.1 (by decide)
 ·rw[V_ _ (by decide)]
  exact Int.ediv_lt_of_lt_mul (by decide) h.2
 refine aB (Ac (Vw _).1 (aG (Vw _).2 (Int.ofNat_le.2 (D_ (n:=256) rfl)))) ?_;refine aB (Ac (Vw _).1 (aG (Vw _).2 (Int.ofNat_le.2 (D_ (n:=256) rfl)))) ?_;exact aB (Ac (Vw _).1 (aG (Vw _).2 (Int.ofNat_le.2 (D_ (n:=256) rfl)))) (V (Bqa _))
def Yj(fl:Int){set:Int}(h:0≤set∧set<4294967296)(a c d e:Bool):Sat (IN fl set a c d e) λ_=>True:=by
 unfold IN Nf;have i:SatT (CX set):=⟨(TM h).any⟩;refine aD (Q:=λ_=>True) (aD (Au6 set) λ_ _=>aD (Q:=λ_=>True) ?_ λ_ _=>aC (λ_=>V trivial) λ_=>V trivial) λ_ _=>aD (Azr a c) λ_ _=>aD (Azr d e) λ_ _=>V trivial
 refine aD (isFloors_ti fl).out λ_ _=>aC (λ_=>aD (TM h) λ_ _=>aC (λ_=>V trivial) λ_=>V trivial) λ_=>V trivial
def orL(x y:Int):Int:=I.wrap (stk x y (aE ((Y (IntKind.bits I) x)|||(Y (IntKind.bits I) y))))
def leV(s:ByteArray):Nat→Int
 |0=>0
 |i+1=>orL (leV s i) (B I (B I (AF s i)*((2:Int)^(U (W (8*(i:Int))) (IntKind.bits I)))))
def Mk(b:O)(hk:k≤8)(hs:k≤s.size):BG (k:Int) s b.C0 b.E0 b.H0 b.M0 b.J0 b.L0 b.N0 b.B0=C ((leV s k,()),((s.extract k s.size,b.C0,b.E0,b.H0,b.M0,b.J0,b.L0,b.N0,b.B0,()),())):=by
 have h:Sat (CY (((),(k:Int),(0:Int),(k:Int),(0:Int),()),((s,b.C0,b.E0,b.H0,b.M0,b.J0,b.L0,b.N0,b.B0,()),()))) λy=>y=(((),(k:Int),leV s k,()),((s,b.C0,b.E0,b.H0,b.M0,b.J0,b.L0,b.N0,b.B0,()),())):=by
  unfold CY;refine Sat.loop (λm x=>∃i:Nat,x=(((),(k:Int),leV s i,(k:Int),(i:Int),()),((s,b.C0,b.E0,b.H0,b.M0,b.J0,b.L0,b.N0,b.B0,()),()))∧i+m=k) ?_ k ⟨0,rfl,ω⟩ ω
  rintro m x ⟨i,rfl,hm⟩;show Sat (GP (k:Int) (leV s i) (k:Int) (i:Int) s b.C0 b.E0 b.H0 b.M0 b.J0 b.L0 b.N0 b.B0) _;unfold GP;refine aC (λq=>?_) λq=>V ?_
  ·have q:=m_ q
   have hi:i<s.size:=ω
   refine aB (Ac ω ω) ?_
   have w8:A.wrap (8*(i:Int))=8*(i:Int):=J ω ω
   have w1:A.wrap ((i:Int)+1)=((i+1:Nat):Int):=by rw[J ω ω];omega
   simp only[w8,w1];exact aB (b_ ω) (V ⟨m-1,ω,i+1,rfl,ω⟩)
  ·have q:=F_ q
   obtain rfl:i=k:=ω
   rfl
 obtain⟨y,h1,rfl⟩:=h;unfold BG;rw[h1];simp only[a_];rw[b_ (ω:(0:Int)≤(k:Int)),b_ (ω:(k:Int)≤(s.size:Int))]
 rfl
def KL{α:Type}(d:α)(g:Nat→α→α)(i:Nat)(l:List α):List α:=l.set i (g i (l.getD i d))
def Ahu{α:Type}(d:α)(g:Nat→α→α):∀(m i:Nat) (l:List α),i+m=l.length→AK (KL d g) m i l=l.take i++(List.range' i m).map (λj=>g j (l.getD j d))
 |0,i,l,h=>by
  rw[show i=l.length by omega,List.take_length];simp[AK]
 |m+1,i,l,h=>by
  have hi:i<l.length:=ω
  unfold AK;rw[Ahu d g m (i+1) _ (by rw[KL,A_];omega)]
  have e1:(KL d g i l).take (i+1)=l.take i++[g i (l.getD i d)]:=by
   unfold KL;rw[List.take_add_one,List.take_set_of_le ω,List.getElem?_set_self ω];rfl
  rw[e1,d8_,c1_,M_,d4_];congr 2;apply List.map_congr_left;intro j hj;rw[List.mem_range']at hj;obtain⟨k,hk,rfl⟩:=hj;unfold KL;rw[k_,List.getElem?_set_ne ω,← k_]
def PJ(d:α)(g:Nat→α→α)(f:Nat→α)(n:Nat):AK (KL d g) n 0 ((Z n).map f)=(Z n).map (λj=>g j (f j)):=by
 rw[Ahu d g n 0 _ (by simp),List.take_zero,a2_,← List.range_eq_range']
 apply List.map_congr_left;intro j hj;rw[List.mem_range]at hj;simp[k_,hj]
def Cb{l:List α}(d x:α)(h:i<l.length):(l.set i x).getD i d=x:=by
 rw[k_,List.getElem?_set_self h];rfl
def g15(fl t i:Nat)(c:Car):Car:=⟨c.I1,c.G3,c.J3,c.I2,((1+t%3:Nat):Int),((1+t/3%3:Nat):Int),((1+t/9%3:Nat):Int),((1+t/9%3+t/27%5:Nat):Int),(((i+t)%fl:Nat):Int)⟩
def g18(t:Nat)(_:Nat)(c:Car):Car:={ c with I1:=((1+t%16:Nat):Int) }
def g27(n1 n2:Nat)(_:Nat)(c:Car):Car:={ c with J3:=((1+n2%4:Nat):Int),I2:=((n1%5:Nat):Int) }
def EM(fl ca t:Nat):O:={ AM fl ca with M0:=((1+t%7:Nat):Int),B0:=(Z ca).map λi=>g15 fl t i (FS fl i) }
def Um(fl ca t:Nat):O:={ EM fl ca t with B0:=(Z ca).map λi=>g18 t i (g15 fl t i (FS fl i)) }
def FF(fl ca n1 n2:Nat):O:={ EM fl ca n1 with E0:=((1+n2%3:Nat):Int),H0:=((18*ca+24+6*(n2/3):Nat):Int),B0:=(Z ca).map λi=>g27 n1 n2 i (g18 n1 i (g15 fl n1 i (FS fl i))) }
def Bd1{n:Int}(h:0≤n)(h':n<256):L.wrap n=n:=by
 simp only[B,IntKind.signed,IntKind.bits];simp;omega
def Mq(a b:Nat):N (a:Int) (b:Int)=((a%b:Nat):Int):=by
 rw[e4_ ω];norm_cast
def Bdz(a b:Nat):X (a:Int) (b:Int)=((a/b:Nat):Int):=by
 rw[Int.tdiv_eq_ediv_of_nonneg ω];norm_cast
def Oz(k:Nat)(ht:t<100000):A.wrap ((1:Int)+A.wrap (N (t:Int) (k:Int)))=((1+t%k:Nat):Int):=by
 have:t%k≤t:=Nat.mod_le _ _
 rw[Mq];generalize t%k=q at this⊢;rw[J (n:=(q:Int)) ω ω,J ω ω];norm_cast
def XY(k:Nat)(ht:t<256):L.wrap (X (t:Int) (k:Int))=((t/k:Nat):Int):=by
 have:t/k≤t:=Nat.div_le_self _ _
 generalize hq:t/k=q at this;rw[Bdz,hq,Bd1 ω ω]
def Ar4{fl ca:Nat}(h1:1≤fl)(hf:fl≤100)(h2:ca≤8)(ht:t<256):
  Ku (((t:Int),(),(),(0:Int),()),(Bldg.none.tup,(AM fl ca).tup,()))=C (((t:Int),(),(),()),(Bldg.none.tup,({ AM fl ca with B0:=(EM fl ca t).B0 }:O).tup,())):=by
 have hl:(AM fl ca).B0.length=ca:=by simp[AM]
 have h:=AP (step:=λx=>letI a:=x.2.2.1.2.2;letI b:=x.2.1.2.2;letI c:=b.2.2;letI d:=a.2.2;Gq x.1.1 x.1.2.2.2.1 x.2.1.1 x.2.1.2.1 b.1 b.2.1 c.1 c.2.1 c.2.2.1 c.2.2.2.1 x.2.2.1.1 x.2.2.1.2.1 a.1 a.2.1 d.1 d.2.1 d.2.2.1 d.2.2.2.1) ca
  (λi l=>(((t:Int),(),(),(i:Int),()),(Bldg.none.tup,({ AM fl ca with B0:=l }:O).tup,()))) (KL EO (g15 fl t)) (λ_ l=>l.length=ca) (λl=>(((t:Int),(),(),()),(Bldg.none.tup,({ AM fl ca with B0:=l }:O).tup,())))
  (λi l hi hll=>by
   refine⟨?_,by rw[KL,A_,hll]⟩
   show Gq (t:Int) (i:Int) Bldg.none.C0 Bldg.none.E0 Bldg.none.H0 Bldg.none.M0 Bldg.none.J0 Bldg.none.L0 Bldg.none.N0 Bldg.none.B0 (AM fl ca).C0 (AM fl ca).E0 (AM fl ca).H0 (AM fl ca).M0 (AM fl ca).J0 (AM fl ca).L0 (AM fl ca).N0 l=_;unfold Gq;have hil:i<l.length:=ω
   have hz:((AM fl ca).C0 !=0)=R:=by show((fl:Int) !=0)=R;simp;omega
   have w:A.wrap ((i:Int)+1)=((i+1:Nat):Int):=by rw[J ω ω];omega
   have e1:A.wrap ((1:Int)+A.wrap (N (t:Int) 3))=((1+t%3:Nat):Int):=Oz 3 ω
   have e2:A.wrap ((1:Int)+A.wrap (N (B L (X (t:Int) 3)) 3))=((1+t/3%3:Nat):Int):=by
    rw[show L.wrap (X (t:Int) 3)=((t/3:Nat):Int)from XY 3 ht];exact Oz 3 ω
   have e3:A.wrap ((1:Int)+A.wrap (N (B L (X (t:Int) 9)) 3))=((1+t/9%3:Nat):Int):=by
    rw[show L.wrap (X (t:Int) 9)=((t/9:Nat):Int)from XY 9 ht];exact Oz 3 ω
   have e4:A.wrap (((1+t/9%3:Nat):Int)+A.wrap (N (B L (X (t:Int) 27)) 5))=((1+t/9%3+t/27%5:Nat):Int):=by
    rw[show L.wrap (X (t:Int) 27)=((t/27:Nat):Int)from XY 27 ht,show N ((t/27:Nat):Int) 5=((t/27%5:Nat):Int)from Mq _ 5,J (n:=((t/27%5:Nat):Int)) ω ω,J ω ω];norm_cast
   have e5:N (B A ((i:Int)+A.wrap (t:Int))) (AM fl ca).C0=(((i+t)%fl:Nat):Int):=by
    show N _ (fl:Int)=_;rw[J (n:=(t:Int)) ω ω,J ω ω]
    exact Mq (i+t) fl
   rw[show Car.mk 0 0 0 0 0 0 0 0 0=EO from rfl]
   simp only[b_ (ω:(i:Int)<(l.length:Int)),Ac (ω:(0:Int)≤(i:Int)) (ω:(i:Int)<(l.length:Int)),d_,i_,hz,w,Cb EO _ hil,List.set_set,e1,e2,e3,e4,e5]
   unfold KL g15
   rfl)
  (λl hll=>by
   show Gq (t:Int) (ca:Int) Bldg.none.C0 Bldg.none.E0 Bldg.none.H0 Bldg.none.M0 Bldg.none.J0 Bldg.none.L0 Bldg.none.N0 Bldg.none.B0 (AM fl ca).C0 (AM fl ca).E0 (AM fl ca).H0 (AM fl ca).M0 (AM fl ca).J0 (AM fl ca).L0 (AM fl ca).N0 l=_;unfold Gq;rw[hll,f_ (H_ (ca:Int))];rfl)
  ca 0 (AM fl ca).B0 ω hl
 have h2:=Ai h.1 ω
 rw[show(AM fl ca).B0=(Z ca).map (FS fl)from rfl,PJ]at h2
 exact h2
def Ar5{fl ca:Nat}(_hf:fl≤100)(h2:ca≤8)(ht:t<256):
  Kv (((t:Int),(),(),(0:Int),()),(Bldg.none.tup,(EM fl ca t).tup,()))=C (((),(),()),(Bldg.none.tup,(Um fl ca t).tup,())):=by
 have hl:(EM fl ca t).B0.length=ca:=by simp[EM]
 have h:=AP (step:=λx=>letI a:=x.2.2.1.2.2;letI b:=x.2.1.2.2;letI c:=b.2.2;letI d:=a.2.2;Gr x.1.1 x.1.2.2.2.1 x.2.1.1 x.2.1.2.1 b.1 b.2.1 c.1 c.2.1 c.2.2.1 c.2.2.2.1 x.2.2.1.1 x.2.2.1.2.1 a.1 a.2.1 d.1 d.2.1 d.2.2.1 d.2.2.2.1) ca
  (λi l=>(((t:Int),(),(),(i:Int),()),(Bldg.none.tup,({ EM fl ca t with B0:=l }:O).tup,()))) (KL EO (g18 t)) (λ_ l=>l.length=ca) (λl=>(((),(),()),(Bldg.none.tup,({ EM fl ca t with B0:=l }:O).tup,())))
  (λi l hi hll=>by
   refine⟨?_,by rw[KL,A_,hll]⟩
   show Gr (t:Int) (i:Int) Bldg.none.C0 Bldg.none.E0 Bldg.none.H0 Bldg.none.M0 Bldg.none.J0 Bldg.none.L0 Bldg.none.N0 Bldg.none.B0 (EM fl ca t).C0 (EM fl ca t).E0 (EM fl ca t).H0 (EM fl ca t).M0 (EM fl ca t).J0 (EM fl ca t).L0 (EM fl ca t).N0 l=_;unfold Gr;have w:A.wrap ((i:Int)+1)=((i+1:Nat):Int):=by rw[J ω ω];omega
   have e1:A.wrap ((1:Int)+A.wrap (N (t:Int) 16))=((1+t%16:Nat):Int):=Oz 16 ω
   rw[show Car.mk 0 0 0 0 0 0 0 0 0=EO from rfl]
   simp only[b_ (ω:(i:Int)<(l.length:Int)),Ac (ω:(0:Int)≤(i:Int)) (ω:(i:Int)<(l.length:Int)),d_,i_,w,e1]
   unfold KL g18
   rfl)
  (λl hll=>by
   show Gr (t:Int) (ca:Int) Bldg.none.C0 Bldg.none.E0 Bldg.none.H0 Bldg.none.M0 Bldg.none.J0 Bldg.none.L0 Bldg.none.N0 Bldg.none.B0 (EM fl ca t).C0 (EM fl ca t).E0 (EM fl ca t).H0 (EM fl ca t).M0 (EM fl ca t).J0 (EM fl ca t).L0 (EM fl ca t).N0 l=_;unfold Gr;rw[hll,f_ (H_ (ca:Int))];rfl)
  ca 0 (EM fl ca t).B0 ω hl
 have h2:=Ai h.1 ω
 rw[show(EM fl ca t).B0=(Z ca).map (λi=>g15 fl t i (FS fl i))from rfl,PJ]at h2
 exact h2
def GI(fl ca n1 n2:Nat):O:={ FF fl ca n1 n2 with B0:=(Um fl ca n1).B0 }
def Ar6{fl ca n0 n1 n2:Nat}(h2:ca≤8)(_h3:n1<256)(h4:n2<256) :
  HW (((),(),(),(0:Int),()),(((n0:Int),(n1:Int),(n2:Int),()),Bldg.none.tup,(GI fl ca n1 n2).tup,()))=C (((),(),()),(Bldg.none.tup,(FF fl ca n1 n2).tup,())):=by
 have hl:(GI fl ca n1 n2).B0.length=ca:=by simp[GI,Um]
 have h:=AP (step:=λx=>letI a:=x.2.2;letI b:=a.2.1.2.2;letI c:=a.1.2.2;letI d:=c.2.2;letI e:=b.2.2;Gs x.1.2.2.2.1 x.2.1.1 x.2.1.2.1 x.2.1.2.2.1 a.1.1 a.1.2.1 c.1 c.2.1 d.1 d.2.1 d.2.2.1 d.2.2.2.1 a.2.1.1 a.2.1.2.1 b.1 b.2.1 e.1 e.2.1 e.2.2.1 e.2.2.2.1) ca
  (λi l=>(((),(),(),(i:Int),()),(((n0:Int),(n1:Int),(n2:Int),()),Bldg.none.tup,({ GI fl ca n1 n2 with B0:=l }:O).tup,()))) (KL EO (g27 n1 n2)) (λ_ l=>l.length=ca) (λl=>(((),(),()),(Bldg.none.tup,({ GI fl ca n1 n2 with B0:=l }:O).tup,())))
  (λi l hi hll=>by
   refine⟨?_,by rw[KL,A_,hll]⟩
   show Gs (i:Int) (n0:Int) (n1:Int) (n2:Int) Bldg.none.C0 Bldg.none.E0 Bldg.none.H0 Bldg.none.M0 Bldg.none.J0 Bldg.none.L0 Bldg.none.N0 Bldg.none.B0 (GI fl ca n1 n2).C0 (GI fl ca n1 n2).E0 (GI fl ca n1 n2).H0 (GI fl ca n1 n2).M0 (GI fl ca n1 n2).J0 (GI fl ca n1 n2).L0 (GI fl ca n1 n2).N0 l=_;unfold Gs;have hil:i<l.length:=ω
   have w:A.wrap ((i:Int)+1)=((i+1:Nat):Int):=by rw[J ω ω];omega
   have e1:A.wrap ((1:Int)+A.wrap (N (n2:Int) 4))=((1+n2%4:Nat):Int):=Oz 4 ω
   have e2:A.wrap (N (n1:Int) 5)=((n1%5:Nat):Int):=by
    rw[show N (n1:Int) 5=((n1%5:Nat):Int)from Mq n1 5,J ω ω]
   rw[show Car.mk 0 0 0 0 0 0 0 0 0=EO from rfl]
   simp only[b_ (ω:(i:Int)<(l.length:Int)),Ac (ω:(0:Int)≤(i:Int)) (ω:(i:Int)<(l.length:Int)),d_,i_,w,e1,e2,Cb EO _ hil,List.set_set,A_]
   unfold KL g27
   rfl)
  (λl hll=>by
   show Gs (ca:Int) (n0:Int) (n1:Int) (n2:Int) Bldg.none.C0 Bldg.none.E0 Bldg.none.H0 Bldg.none.M0 Bldg.none.J0 Bldg.none.L0 Bldg.none.N0 Bldg.none.B0 (GI fl ca n1 n2).C0 (GI fl ca n1 n2).E0 (GI fl ca n1 n2).H0 (GI fl ca n1 n2).M0 (GI fl ca n1 n2).J0 (GI fl ca n1 n2).L0 (GI fl ca n1 n2).N0 l=_;unfold Gs;rw[hll,f_ (H_ (ca:Int))];rfl)
  ca 0 (GI fl ca n1 n2).B0 ω hl
 have h2:=Ai h.1 ω
 rw[show(GI fl ca n1 n2).B0=(Z ca).map (λi=>g18 n1 i (g15 fl n1 i (FS fl i)))from rfl,PJ]at h2
 exact h2
def Hz(n0:Nat):Nat:=2+n0%5
def Hq(n0:Nat):Nat:=1+n0/5%3
def ZI{n0:Nat}(hn:n0<256)(ht:t<256):My (n0:Int) (t:Int)=C (((),()),((EM (Hz n0) (Hq n0) t).tup,())):=by
 have e1:A.wrap ((2:Int)+A.wrap (N (n0:Int) 5))=((Hz n0:Nat):Int):=by
  rw[show N (n0:Int) 5=((n0%5:Nat):Int)from Mq n0 5,J (n:=((n0%5:Nat):Int)) ω ω,J ω ω];unfold Hz;norm_cast
 have e2:A.wrap ((1:Int)+A.wrap (N (B L (X (n0:Int) 5)) 3))=((Hq n0:Nat):Int):=by
  rw[show L.wrap (X (n0:Int) 5)=((n0/5:Nat):Int)from XY 5 hn];exact Oz 3 ω
 have hf:2≤Hz n0∧Hz n0≤6:=by unfold Hz;omega
 have hc:1≤Hq n0∧Hq n0≤3:=by unfold Hq;omega
 have e3:A.wrap ((1:Int)+A.wrap (N (t:Int) 7))=((1+t%7:Nat):Int):=Oz 7 ω
 unfold My;rw[e1,e2];refine D (Acf ω ω) ?_
 refine D (Ar4 ω ω ω ht) ?_
 show C (((),()),(((Hz n0:Nat):Int),(1:Int),(4000:Int),A.wrap ((1:Int)+A.wrap (N (t:Int) 7)),_,_,_,_,()),())=_;rw[e3];rfl
def ZJ{n0:Nat}(hn:n0<256)(ht:t<256):MA (n0:Int) (t:Int)=C (((),()),((Um (Hz n0) (Hq n0) t).tup,())):=by
 have hf:2≤Hz n0∧Hz n0≤6:=by unfold Hz;omega
 have hc:1≤Hq n0∧Hq n0≤3:=by unfold Hq;omega
 unfold MA;refine D (ZI hn ht) ?_;exact D (Ar5 ω ω ht) rfl
def ZK{n0 n1 n2:Nat}(h0:n0<256)(h1:n1<256)(h2:n2<256):EU (n0:Int) (n1:Int) (n2:Int)=C (((),()),((FF (Hz n0) (Hq n0) n1 n2).tup,())):=by
 have hf:2≤Hz n0∧Hz n0≤6:=by unfold Hz;omega
 have hc:1≤Hq n0∧Hq n0≤3:=by unfold Hq;omega
 have e1:A.wrap ((1:Int)+A.wrap (N (n2:Int) 3))=((1+n2%3:Nat):Int):=Oz 3 ω
 have hl:(Um (Hz n0) (Hq n0) n1).B0.length=Hq n0:=by simp[Um]
 have e2:A.wrap (B A (B A (18*(((Um (Hz n0) (Hq n0) n1).B0.length:Nat):Int))+24)+A.wrap (6*A.wrap (B L (X (n2:Int) 3))))=((18*Hq n0+24+6*(n2/3):Nat):Int):=by
  rw[hl,show L.wrap (X (n2:Int) 3)=((n2/3:Nat):Int)from XY 3 h2,J (n:=18*((Hq n0:Nat):Int)) ω ω,J (n:=18*((Hq n0:Nat):Int)+24) ω ω,J (n:=((n2/3:Nat):Int)) ω ω,J (n:=6*((n2/3:Nat):Int)) ω ω,J ω ω]
  norm_cast
 unfold EU;refine D (ZJ h0 h1) ?_;refine D (a:=(((),(),()),(Bldg.none.tup,(FF (Hz n0) (Hq n0) n1 n2).tup,()))) ?_ rfl;show HW (((),(),(),(0:Int),()),(((n0:Int),(n1:Int),(n2:Int),()),Bldg.none.tup,(((Hz n0:Nat):Int),A.wrap ((1:Int)+A.wrap (N (n2:Int) 3)),A.wrap (B A (B A (18*(((Um (Hz n0) (Hq n0) n1).B0.length:Nat):Int))+24)+A.wrap (6*A.wrap (B L (X (n2:Int) 3)))),_,_,_,_,_,()),()))=_;rw[e1,e2];exact Ar6 ω h1 h2
def Aog{fl ca n1 n2:Nat}(hf:2≤fl∧fl≤6)(hc:1≤ca∧ca≤3)(_h1:n1<256)(h2:n2<256):(FF fl ca n1 n2).small∧(FF fl ca n1 n2).code=0∧(FF fl ca n1 n2).B0.length=ca∧(FF fl ca n1 n2).C0=(fl:Int)∧18*(ca:Int)+24≤(FF fl ca n1 n2).H0∧(FF fl ca n1 n2).H0≤600:=by
 have hl:(FF fl ca n1 n2).B0.length=ca:=by simp[FF]
 have hr:(FF fl ca n1 n2).H0=((18*ca+24+6*(n2/3):Nat):Int):=rfl;refine⟨⟨by show(2:Int)≤(fl:Int);omega,by show(fl:Int)≤8;omega⟩,?_,hl,rfl,by rw[hr];omega,by rw[hr];omega⟩
 unfold Bldg.code;have e1:P 2 32 (FF fl ca n1 n2).C0=R:=Ao.2 (by show(2:Int)≤(fl:Int)∧(fl:Int)≤32;omega)
 have e2:P 1 8 ((FF fl ca n1 n2).B0.length:Int)=R:=Ao.2 ω
 have e3:P 1 16 (FF fl ca n1 n2).E0=R:=Ao.2 (by show(1:Int)≤((1+n2%3:Nat):Int)∧((1+n2%3:Nat):Int)≤16;omega)
 have e4:P 1 10000 (FF fl ca n1 n2).M0=R:=Ao.2 (by show(1:Int)≤((1+n1%7:Nat):Int)∧((1+n1%7:Nat):Int)≤10000;omega)
 have e5:(FF fl ca n1 n2).B0.all (Cm (FF fl ca n1 n2).C0)=R:=by
  rw[E_];intro c hc';obtain⟨i,_,rfl⟩:=b6_.1 hc';have hm:(i+n1)%fl<fl:=g1_ _ ω
  show Cm (fl:Int) (g27 n1 n2 i (g18 n1 i (g15 fl n1 i (FS fl i))))=R;unfold Cm g27 g18 g15 FS;simp only[X_,List.all_nil,c6_,e_,Ao,t_];rw[J (n:=(fl:Int)-1) ω ω]
  refine⟨⟨?_,?_,?_,?_,?_,?_,?_⟩,?_,?_,?_⟩<;>omega
 have e6:(FF fl ca n1 n2).loadsOK=R:=by
  show(AM 2 1).loadsOK=R
  kernel_rfl
 have e7:P (18*((FF fl ca n1 n2).B0.length:Int)+24) 65536 (FF fl ca n1 n2).H0=R:=Ao.2 (by rw[hl,hr];omega)
 rw[e1,e2,e3,e4,e5,e6,e7];rfl
def CW(h:n<1000000000):A.wrap ((n:Int)+1)=((n+1:Nat):Int):=by
 rw[J ω ω];omega
def Bp8(h:n<1000000000):I.wrap (n:Int)=(n:Int):=CI ω ω
def Aey(l:List Int):(Hg l).size=l.length:=by
 simp[Hg,ByteArray.size]
def Aoa(x y:Int):Int:=A.wrap (stk x y (aE ((Y (IntKind.bits A) x)^^^(Y (IntKind.bits A) y))))
def Xg(_:Nat)(r:Int):Int:=bif decide (32768≤r)then Aoa (N (B A (r*2)) 65536) 4129 else N (B A (r*2)) 65536
def Aay(s:ByteArray)(i:Nat)(r:Int):Int:=AK Xg 8 0 (Aoa r (B A (B A (AF s i)*256)))
def Za(s:ByteArray):Int:=AK (Aay s) s.size 0 65535
def Apf(s:ByteArray)(r i:Int):NM ((s,r,i,(0:Int),()),())=C ((s,AK Xg 8 0 r,i,()),()):=by
 have h:=AP (step:=λx=>IA x.1.1 x.1.2.1 x.1.2.2.1 x.1.2.2.2.1) 8 (λk r=>((s,r,i,(k:Int),()),())) Xg (λ_ _=>True) (λr=>((s,r,i,()),()))
  (λk r hk _=>by
   refine⟨?_,trivial⟩;show IA s r i (k:Int)=_;unfold IA;simp only[b_ (ω:(k:Int)<8),d_,CW (ω:k<1000000000)]
   unfold Xg Aoa;cases decide ((32768:Int)≤r)<;>rfl)
  (λr _=>by
   show IA s r i 8=_;unfold IA;rw[f_ (H_ (8:Int))];rfl) 8 0 r ω trivial
 exact Ai h.1 ω
def Ang(hs:s.size≤1000000):QG s=C ((B E (Za s),()),()):=by
 have h:=AP (step:=λx=>Iz x.1.1 x.1.2.1 x.1.2.2.1) s.size (λi r=>((s,r,(i:Int),()),())) (Aay s) (λ_ _=>True) (λr=>((r,()),()))
  (λi r hi _=>by
   refine⟨?_,trivial⟩;show Iz s r (i:Int)=_;unfold Iz;simp only[b_ (ω:(i:Int)<(s.size:Int)),Ac (ω:(0:Int)≤(i:Int)) (ω:(i:Int)<(s.size:Int)),d_,i_]
   refine D (Apf s _ _) ?_;show C (Sum.inl ((s,_,A.wrap ((i:Int)+1),()),()))=_;rw[CW (ω:i<1000000000)];rfl)
  (λr _=>by
   show Iz s r (s.size:Int)=_;unfold Iz;rw[f_ (H_ (s.size:Int))];rfl) s.size 0 65535 ω trivial
 have h2:NL ((s,(65535:Int),(0:Int),()),())=_:=Ai h.1 ω
 unfold QG;exact D h2 rfl
def Xd(s:ByteArray):ByteArray:=Hg [L.wrap (B E (X (B E (Za s)) 256)),L.wrap (N (B E (Za s)) 256)]
def Hf(s:ByteArray):ByteArray:=s++Xd s
def PS(s:ByteArray):(Hf s).size=s.size+2:=by
 unfold Hf Xd;rw[O_,Aey];rfl
def Aai(hs:s.size≤1000000):OP s=C ((Hf s,()),()):=by
 unfold OP;refine D (Ang hs) ?_
 have:=PS s
 unfold Hf at this;rw[O_]at this;show(bif Nat.ble (s.size+(Xd s).size) 4611686018427387904 then C ((s++Xd s,()),())else none)=_;rw[Ay ω];rfl
def Im(s:ByteArray):ByteArray×Int:=bif decide ((s.size:Int)<2)then(noB,4)else bif eqB (Hf (s.extract 0 (s.size-2))) s then(s.extract 0 (s.size-2),0)else(noB,5)
def Apd(hs:s.size≤1000000):Sg s=C (((Im s).1,(Im s).2,()),()):=by
 unfold Sg Im;by_cases h:(s.size:Int)<2
 ·rw[b_ h];rfl
 ·rw[f_ h,c_,c_]
  have w:A.wrap ((s.size:Int)-2)=((s.size-2:Nat):Int):=by rw[J ω ω];omega
  simp only[w,i_];rw[b_ (ω:(0:Int)≤((s.size-2:Nat):Int)),b_ (ω:((s.size-2:Nat):Int)≤(s.size:Int)),a3_,d_]
  refine D (Aai (s:=s.extract 0 (s.size-2)) (by rw[Wx s ω];omega)) ?_
  show(bif eqB (Hf (s.extract 0 (s.size-2))) s then _ else _)=_;cases eqB (Hf (s.extract 0 (s.size-2))) s<;>rfl
def Abs(n:Int)(k:Nat):List Int:=(Z k).map λi=>L.wrap (aA n ((2:Int)^(U (8*i) (IntKind.bits .u64))))
def nmB(n:Int)(k:Nat):ByteArray:=Hg (Abs n k)
def AR(n:Int)(k:Nat):(nmB n k).size=k:=by
 unfold nmB;rw[Aey];simp[Abs]
def EP(n:Int)(hk:k≤100):DW n (k:Int)=C ((nmB n k,()),()):=by
 have h:=AP (step:=λx=>Lp x.1.1 x.1.2.1 x.1.2.2.1 x.1.2.2.2.1) k (λi l=>((n,(k:Int),l,(i:Int),()),())) (KL 0 (λi _=>L.wrap (aA n ((2:Int)^(U (8*i) (IntKind.bits .u64)))))) (λ_ l=>l.length=k) (λl=>((l,()),()))
  (λi l hi hl=>by
   refine⟨?_,by rw[KL,A_,hl]⟩
   show Lp n (k:Int) l (i:Int)=_;unfold Lp
   have e:I.wrap (B A (8*(i:Int)))=((8*i:Nat):Int):=by
    rw[J (n:=8*(i:Int)) ω ω,CI ω ω];norm_cast
   simp only[b_ (ω:(i:Int)<(k:Int)),Ac (ω:(0:Int)≤(i:Int)) (ω:(i:Int)<(l.length:Int)),d_,i_,e,b_ (ω:(0:Int)≤((8*i:Nat):Int)),CW (ω:i<1000000000)]
   rfl)
  (λl hl=>by
   show Lp n (k:Int) l (k:Int)=_;unfold Lp;rw[f_ (H_ (k:Int))];rfl) k 0 (List.replicate k 0) ω (by simp)
 have h2:=Ai h.1 ω
 rw[show List.replicate k (0:Int)=(Z k).map (λ_=>0)by simp[List.map_const'],PJ]at h2
 have h3:QM ((n,(k:Int),(Z k).map (λ_=>(0:Int)),(0:Int),()),())=_:=h2
 unfold DW;rw[b_ (ω:(0:Int)≤(k:Int)),b_ (e1_ (k:Int)),b_ (ω:(k:Int)≤2147483648),a3_,a3_,d_,i_,show List.replicate k (0:Int)=(Z k).map (λ_=>0)by simp[List.map_const']]
 exact D h3 rfl
def Ru(c:Int×Int):ByteArray:=nmB (B I c.1) 4++nmB (B I c.2) 4
def ZX(c:Int×Int):(Ru c).size=8:=by
 unfold Ru;rw[O_,AR,AR]
def Anh(c:Int×Int):QH c.1 c.2=C ((Ru c,()),()):=by
 unfold QH;refine D (EP (B I c.1) (k:=4) ω) ?_
 refine D (EP (B I c.2) (k:=4) ω) ?_
 show(bif Nat.ble ((nmB (B I c.1) 4).size+(nmB (B I c.2) 4).size) 4611686018427387904 then _ else _)=_;rw[AR,AR];rfl
def At7(x y:Int):Int:=I.wrap (stk x y (aE ((Y (IntKind.bits I) x)|||(Y (IntKind.bits I) y))))
def Pu(l:List Bool)(i:Nat)(n:Int):Int:=bif l.getD i H then At7 n (B I (1*2^min i (IntKind.bits .u64)))else n
def Wa(l:List Bool):ByteArray:=nmB (AK (Pu l) l.length 0 0) 1
def Pw(l:List Bool):(Wa l).size=1:=AR _ _
def Api{l:List Bool}(hl:l.length≤100):Sj l=C ((Wa l,()),()):=by
 have h:=AP (step:=λx=>JV x.1.1 x.1.2.1 x.1.2.2.1) l.length (λi n=>((l,n,(i:Int),()),())) (Pu l) (λ_ _=>True) (λn=>((n,()),()))
  (λi n hi _=>by
   refine⟨?_,trivial⟩;show JV l n (i:Int)=_;unfold JV;simp only[b_ (ω:(i:Int)<(l.length:Int)),Ac (ω:(0:Int)≤(i:Int)) (ω:(i:Int)<(l.length:Int)),d_,i_,Bp8 (ω:i<1000000000),b_ (ω:(0:Int)≤(i:Int)),CW (ω:i<1000000000)]
   unfold Pu At7;cases l.getD i H<;>rfl)
  (λn _=>by
   show JV l n (l.length:Int)=_;unfold JV;rw[f_ (H_ (l.length:Int))];rfl) l.length 0 0 ω trivial
 have h2:Pg ((l,(0:Int),(0:Int),()),())=_:=Ai h.1 ω
 unfold Sj;refine D h2 ?_;exact D (EP _ (k:=1) ω) rfl
structure Inp where
 press:Int×Int
 kind:Int
 car:Int
 cars:List CarInput
def Inp.tup(x:Inp):Int×Int×Int×Int×List CarInput×Unit:=(x.press.1,x.press.2,x.kind,x.car,x.cars,())
def Inp.none:Inp:=⟨(0,0),0,0,[]⟩
def RQ:CarInput:=CarInput.mk 0 H H H H 0 H 0 H 0 0
def flV(b:O)(n:Int):Bool:=aA (B I n) ((2:Int)^b.C0.toNat)==0
def Fa(b:O)(c:CarInput):Bool:=flV b c.V0&&(flV b c.Y1&&(P 0 (b.C0-1) c.J1&&P 0 2 c.R1))
def Hh(b:O)(c:Int×Int):Bool:=isZ (Aq c (Bx b))
def HA(b:O)(x:Inp):Bool:=Hh b x.press&&(P 0 8 x.kind&&(P 0 ((b.B0.length:Int)-1) x.car&&(!(x.kind==0&&x.car !=0)&&((x.cars.length:Int)==(b.B0.length:Int)&&x.cars.all (Fa b)))))
def Jh(s:ByteArray)(c:CarInput):ByteArray:=s++nmB (B I c.V0) 4++Wa [c.T1,c.F1,c.G1,c.C1,c.L1,c.M1]++nmB (B I c.J1) 1++nmB (B I c.R1) 1++nmB (B I c.Y1) 4++nmB ((c.C3:Nat):Int) 8
def Ag9(s:ByteArray)(c:CarInput):(Jh s c).size=s.size+19:=by
 unfold Jh;simp only[O_,AR,Pw]
def QV(b:O)(x:Inp):ByteArray:=nmB 165 1++nmB (B I (b.B0.length:Int)) 1++Ru x.press++nmB (B I x.kind) 1++nmB (B I x.car) 1
def Adr(b:O)(x:Inp):(QV b x).size=12:=by
 unfold QV;simp only[O_,AR,ZX]
def inV(b:O)(x:Inp):ByteArray:=Hf (x.cars.foldl Jh (QV b x))
def Adk(l:List CarInput)(s:ByteArray):(l.foldl Jh s).size=s.size+19*l.length:=by
 induction l generalizing s with
 |nil=>simp
 |cons c t ih=>rw[f1_,ih,Ag9,C_];omega
def WL(b:O)(x:Inp):(inV b x).size=14+19*x.cars.length:=by
 unfold inV;rw[PS,Adk,Adr];omega
def Mn(n lo hi:Int):NZ n lo hi=C ((P lo hi n,()),()):=by
 unfold NZ P;cases decide (lo≤n)<;>rfl
section
variable{b:O}(hb:b.small)(hcode:b.code=0)
include hb
theorem Xw(n:Int):OR b.C0 b.E0 b.H0 b.M0 b.J0 b.L0 b.N0 b.B0 n=C ((flV b n,()),()):=by
 have h1:=hb.1;have h2:=hb.2;have e:I.wrap b.C0=b.C0:=CI ω ω
 have e2:U b.C0.toNat (IntKind.bits .u64)=b.C0.toNat:=by show min b.C0.toNat 64=_;omega
 unfold OR flV;simp only[e,b_ (ω:(0:Int)≤b.C0),d_,e2]
theorem Ajs(x:Inp)(hx:x.cars.length≤1000):LZ (((),(),(0:Int),()),(b.tup,x.tup,()))=C (bif x.cars.all (Fa b)then .inl ((),())else .inr ((H,()),())):=by
 have h1:=hb.1;have h2:=hb.2
 have h:=Ai (Ah4 (step:=λx=>letI a:=x.2.1.2.2;letI d:=x.2.2.1;letI e:=a.2.2;JU x.1.2.2.1 x.2.1.1 x.2.1.2.1 a.1 a.2.1 e.1 e.2.1 e.2.2.1 e.2.2.2.1 d.1 d.2.1 d.2.2.1 d.2.2.2.1 d.2.2.2.2.1) x.cars RQ (Fa b) (λi=>(((),(),(i:Int),()),(b.tup,x.tup,()))) (.inl ((),())) (λ_=>.inr ((H,()),())) (λi hi=>by
  show JU (i:Int) b.C0 b.E0 b.H0 b.M0 b.J0 b.L0 b.N0 b.B0 x.press.1 x.press.2 x.kind x.car x.cars=_;unfold JU;rw[show CarInput.mk 0 H H H H 0 H 0 H 0 0=RQ from rfl]
  have w:A.wrap (b.C0-1)=b.C0-1:=J ω ω
  simp only[b_ (ω:(i:Int)<(x.cars.length:Int)),d_,Ac (ω:(0:Int)≤(i:Int)) (ω:(i:Int)<(x.cars.length:Int)),i_,CW (ω:i<1000000000),w]
  generalize x.cars.getD i RQ=c;unfold Fa;refine D (Xw hb c.V0) ?_;show(bif !flV b c.V0 then _ else _)=_;cases flV b c.V0 with
  |false=>rfl
  |true=>
  rw[o_,c_,n_];refine D (Xw hb c.Y1) ?_;show(bif !flV b c.Y1 then _ else _)=_;cases flV b c.Y1 with
  |false=>rfl
  |true=>
  rw[o_,c_,n_];refine D (Mn _ _ _) ?_;show(bif !P 0 (b.C0-1) c.J1 then _ else _)=_;cases P 0 (b.C0-1) c.J1 with
  |false=>rfl
  |true=>
  rw[o_,c_,n_];refine D (Mn _ _ _) ?_;show(bif !P 0 2 c.R1 then _ else _)=_;cases P 0 2 c.R1<;>rfl) (by
  show JU (x.cars.length:Int) b.C0 b.E0 b.H0 b.M0 b.J0 b.L0 b.N0 b.B0 x.press.1 x.press.2 x.kind x.car x.cars=_;unfold JU;rw[f_ (H_ _),c_]) x.cars.length 0 ω) ω
 rw[Q_,Bb8]at h;exact h
include hcode
theorem NU(c:Int×Int):OS b.C0 b.E0 b.H0 b.M0 b.J0 b.L0 b.N0 b.B0 c.1 c.2=C ((Hh b c,()),()):=by
 unfold OS;refine D (Apc hb hcode) ?_;have e1:=KQ c.1 (Bx b).1;have e2:=KQ c.2 (Bx b).2;show aF (bif aH.wrap _==0 then C ((B aH _==0,()),())else _) _=_;rw[e1,e2];unfold Hh isZ;show aF (bif(Aq c (Bx b)).1==0 then C (((Aq c (Bx b)).2==0,()),())else _) _=_;cases(Aq c (Bx b)).1==0 with
 |false=>rfl
 |true=>rw[n_,c6_];rfl
theorem Aph(x:Inp)(hx:x.cars.length≤1000):Sh b.C0 b.E0 b.H0 b.M0 b.J0 b.L0 b.N0 b.B0 x.press.1 x.press.2 x.kind x.car x.cars=C ((HA b x,()),()):=by
 have hc:=Aj hcode;have w:A.wrap ((b.B0.length:Int)-1)=(b.B0.length:Int)-1:=J ω ω
 unfold Sh HA;rw[w]
 have fin:∀g:Bool,aF (C (((),(),!g,()),(b.tup,x.tup,()))) (λy5:(Unit×Unit×Bool×Unit)×_=>bif y5.1.2.2.1 then C ((H,()),())else(LZ (((),(),(0:Int),()),(y5.2.1,y5.2.2.1,()))).bind λy6=>(match y6 with | .inl y7=>C ((R,()),()) | .inr y7=>C ((y7.1.1,()),())))=C (((g&&x.cars.all (Fa b)),()),()):=by
  intro g;cases g with
  |false=>rfl
  |true=>
   refine D rfl ?_;show(bif !R then _ else _)=_;rw[o_,c_,n_];refine D (Ajs hb x hx) ?_;cases x.cars.all (Fa b)<;>rfl
 rw[EW];show aF (aF (C ((b.code,()),())) _) _=_;rw[hcode];cases h1:Hh b x.press with
 |false=>
  refine D (D rfl (show(bif((0:Int) !=0)then _ else _)=C (((),(),!H,()),(b.tup,x.tup,()))from D (NU hb hcode x.press) (by show(bif !Hh b x.press then _ else _)=_;rw[h1];rfl))) ?_
  exact fin H
 |true=>
 cases h2:P 0 8 x.kind with
 |false=>
  refine D (D rfl (show(bif((0:Int) !=0)then _ else _)=C (((),(),!H,()),(b.tup,x.tup,()))from D (NU hb hcode x.press) (by
   show(bif !Hh b x.press then _ else _)=_;rw[h1,o_,c_];refine D (Mn _ _ _) ?_;show(bif !P 0 8 x.kind then _ else _)=_;rw[h2];rfl))) ?_
  exact fin H
 |true=>
 cases h3:P 0 ((b.B0.length:Int)-1) x.car with
 |false=>
  refine D (D rfl (show(bif((0:Int) !=0)then _ else _)=C (((),(),!H,()),(b.tup,x.tup,()))from D (NU hb hcode x.press) (by
   show(bif !Hh b x.press then _ else _)=_;rw[h1,o_,c_];refine D (Mn _ _ _) ?_;show(bif !P 0 8 x.kind then _ else _)=_;rw[h2,o_,c_];refine D (Mn _ _ _) ?_;show(bif !P 0 ((b.B0.length:Int)-1) x.car then _ else _)=_;rw[h3];rfl))) ?_
  exact fin H
 |true=>
  refine D (D rfl (show(bif((0:Int) !=0)then _ else _)=C (((),(),!(!(x.kind==0&&x.car !=0)&&((x.cars.length:Int)==(b.B0.length:Int))),()),(b.tup,x.tup,()))from D (NU hb hcode x.press) (by
   show(bif !Hh b x.press then _ else _)=_;rw[h1,o_,c_];refine D (Mn _ _ _) ?_;show(bif !P 0 8 x.kind then _ else _)=_;rw[h2,o_,c_];refine D (Mn _ _ _) ?_;show(bif !P 0 ((b.B0.length:Int)-1) x.car then _ else _)=_;rw[h3,o_,c_];have hne:((x.cars.length:Int) !=(b.B0.length:Int))=!((x.cars.length:Int)==(b.B0.length:Int)):=rfl;rw[hne];cases(x.cars.length:Int)==(b.B0.length:Int)<;>cases x.kind==0<;>cases x.car !=0<;>rfl))) ?_
  refine Eq.trans (fin (!(x.kind==0&&x.car !=0)&&((x.cars.length:Int)==(b.B0.length:Int)))) ?_;simp only[n_,Bool.and_assoc]
end
def Bgx{a c:Nat}(ha:a<65536)(hc:c<65536):E.wrap (stk (a:Int) (c:Int) (aE ((Y (IntKind.bits .u16) (a:Int))^^^(Y (IntKind.bits .u16) (c:Int)))))=((a^^^c:Nat):Int):=by
 have h:=d6_ (n:=16) ha hc;rw[Kf,BitVec.toNat_xor,W_,W_];rw[show(((a:Int))%((2^IntKind.bits .u16:Nat):Int)).toNat=a by simp only[IntKind.bits];omega,show(((c:Int))%((2^IntKind.bits .u16:Nat):Int)).toNat=c by simp only[IntKind.bits];omega]
 generalize a^^^c=n at*;simp only[B,IntKind.signed,IntKind.bits];simp;omega
def Aob{a c:Nat}(ha:a<65536)(hc:c<65536):Aoa (a:Int) (c:Int)=((a^^^c:Nat):Int):=by
 have h:=d6_ (n:=16) ha hc;unfold Aoa;rw[Kf,BitVec.toNat_xor,W_,W_];rw[show(((a:Int))%((2^IntKind.bits .i64:Nat):Int)).toNat=a by simp only[IntKind.bits];omega,show(((c:Int))%((2^IntKind.bits .i64:Nat):Int)).toNat=c by simp only[IntKind.bits];omega]
 exact J ω ω
def Qx(n:Nat):E.wrap (n:Int)=((n%65536:Nat):Int):=by
 simp only[B,IntKind.signed,IntKind.bits];simp
def n16(_:Nat)(r:Nat):Nat:=if 32768≤r then(2*r%65536)^^^4129 else 2*r%65536
def Azh:n16 i r<65536:=by
 unfold n16;split
 ·exact d6_ (n:=16) (g1_ _ (by decide)) (by decide)
 ·exact g1_ _ (by decide)
def Bdu(h:r<65536):Xg i (r:Int)=((n16 i r:Nat):Int):=by
 have w:N (B A ((r:Int)*2)) 65536=((2*r%65536:Nat):Int):=by
  rw[J ω ω,e4_ ω]
  omega
 unfold Xg n16;rw[w];by_cases g:32768≤r
 ·rw[b_ (ω:(32768:Int)≤(r:Int)),d_,if_pos g]
  exact Aob (g1_ _ (by decide)) (by decide)
 ·rw[f_ (ω:¬(32768:Int)≤(r:Int)),c_,if_neg g]
def Bsn(h:r<65536):(B E (stk (B E ((r:Int)*((2:Int)^(U (W (1:Int)) (IntKind.bits E))))) (B E ((aA (r:Int) ((2:Int)^(U (W (15:Int)) (IntKind.bits E))))*(4129:Int))) (aE ((Y (IntKind.bits E) (B E ((r:Int)*((2:Int)^(U (W (1:Int)) (IntKind.bits E))))))^^^(Y (IntKind.bits E) (B E ((aA (r:Int) ((2:Int)^(U (W (15:Int)) (IntKind.bits E))))*(4129:Int))))))))=((n16 i r:Nat):Int):=by
 have w1:E.wrap ((r:Int)*((2:Int)^(U (W (1:Int)) (IntKind.bits E))))=((2*r%65536:Nat):Int):=by
  rw[show((2:Int)^(U (W (1:Int)) (IntKind.bits E)))=2 from rfl,show(r:Int)*2=((2*r:Nat):Int)by omega]
  exact Qx _
 have d:aA (r:Int) ((2:Int)^(U (W (15:Int)) (IntKind.bits E)))=((r/32768:Nat):Int):=by
  rw[show((2:Int)^(U (W (15:Int)) (IntKind.bits E)))=32768 from rfl,V_ _ ω]
  omega
 have w2:E.wrap ((aA (r:Int) ((2:Int)^(U (W (15:Int)) (IntKind.bits E))))*(4129:Int))=((r/32768*4129:Nat):Int):=by
  rw[d,show((r/32768:Nat):Int)*4129=((r/32768*4129:Nat):Int)by omega,Qx]
  have:r/32768*4129<65536:=ω
  rw[h1_ this]
 rw[w1,w2,Bgx (g1_ _ (by decide)) ω]
 unfold n16;by_cases g:32768≤r
 ·rw[if_pos g,show r/32768*4129=4129 by omega]
 ·rw[if_neg g,show r/32768*4129=0 by omega,Nat.xor_zero]
def Adj:∀(k i r:Nat),r<65536→AK Xg k i (r:Int)=((AK n16 k i r:Nat):Int)∧AK n16 k i r<65536
 |0,_,_,h=>⟨rfl,h⟩
 |k+1,i,r,h=>by
  show AK Xg k (i+1) (Xg i (r:Int))=_∧_;rw[Bdu (i:=i) h];exact Adj k (i+1) (n16 i r) Azh
def Azp(s:ByteArray)(hr:r<65536)(a c:Int):NI ((s,(r:Int),a,c,(0:Int),()),())=C ((s,((AK n16 8 0 r:Nat):Int),a,c,()),()):=by
 have h:=AP (S:=Nat) (step:=λx=>Ix x.1.1 x.1.2.1 x.1.2.2.1 x.1.2.2.2.1 x.1.2.2.2.2.1) 8 (λk r=>((s,(r:Int),a,c,(k:Int),()),())) n16 (λ_ r=>r<65536) (λ(r:Nat)=>((s,(r:Int),a,c,()),()))
  (λk r hk hr=>by
   refine⟨?_,Azh⟩;show Ix s (r:Int) a c (k:Int)=_;unfold Ix;simp only[b_ (ω:(k:Int)<8),d_,CW (ω:k<1000000000)]
   rw[Bsn (i:=k) hr])
  (λr _=>by
   show Ix s (r:Int) a c 8=_;unfold Ix;rw[f_ (H_ (8:Int))];rfl) 8 0 r ω hr
 exact Ai h.1 ω
def byN(s:ByteArray)(i:Nat):Nat:=((bl s).getD i 0).toNat
def Rt(s:ByteArray)(i:Nat):byN s i<256:=UInt8.toNat_lt _
def b16(s:ByteArray)(i:Nat)(r:Nat):Nat:=AK n16 8 0 (r^^^(byN s i*256))
def s16(s:ByteArray):Nat:=AK (b16 s) s.size 0 65535
def Akq(hr:r<65536):r^^^(byN s i*256)<65536:=d6_ (n:=16) hr (by have:=Rt s i;omega)
def Alm(hs:s.size≤1000000):QA s=C ((((s16 s:Nat):Int),()),())∧s16 s<65536:=by
 have h:=AP (S:=Nat) (step:=λx=>Iw x.1.1 x.1.2.1 x.1.2.2.1 x.1.2.2.2.1) s.size (λi r=>((s,(r:Int),(s.size:Int),(i:Int),()),())) (b16 s) (λ_ r=>r<65536) (λ(r:Nat)=>(((r:Int),()),()))
  (λi r hi hr=>by
   refine⟨?_,(Adj 8 0 _ (Akq hr)).2⟩;show Iw s (r:Int) (s.size:Int) (i:Int)=_;unfold Iw;have hb:=Rt s i
   have z:E.wrap ((B E (AF s i))*((2:Int)^(U (W (8:Int)) (IntKind.bits E))))=((byN s i*256:Nat):Int):=by
    rw[FR];show E.wrap (B E ((byN s i:Nat):Int)*256)=_;rw[Qx,h1_ ω,show((byN s i:Nat):Int)*256=((byN s i*256:Nat):Int)by omega,Qx,h1_ ω]
   simp only[b_ (ω:(i:Int)<(s.size:Int)),Ac (ω:(0:Int)≤(i:Int)) (ω:(i:Int)<(s.size:Int)),d_,i_]
   rw[z,Bgx hr ω]
   refine D (Azp s (Akq hr) _ _) ?_;show C (Sum.inl ((s,_,_,A.wrap ((i:Int)+1),()),()))=_;rw[CW (ω:i<1000000000)];rfl)
  (λr _=>by
   show Iw s (r:Int) (s.size:Int) (s.size:Int)=_;unfold Iw;rw[f_ (H_ (s.size:Int))];rfl) s.size 0 65535 ω (by decide)
 have h2:NH ((s,(65535:Int),(s.size:Int),(0:Int),()),())=_:=Ai h.1 ω
 unfold QA;exact⟨D h2 rfl,h.2⟩
def Bgi:∀(s:ByteArray) (k i r:Nat),r<65536→AK (Aay s) k i (r:Int)=((AK (b16 s) k i r:Nat):Int)
 |_,0,_,_,_=>rfl
 |s,k+1,i,r,h=>by
  have hb:=Rt s i
  have e:Aay s i (r:Int)=((b16 s i r:Nat):Int):=by
   unfold Aay b16
   have z:A.wrap (B A (AF s i)*256)=((byN s i*256:Nat):Int):=by
    rw[FR];show A.wrap (B A ((byN s i:Nat):Int)*256)=_;rw[J (n:=((byN s i:Nat):Int)) ω ω,J ω ω]
    omega
   rw[z,Aob h ω]
   exact(Adj 8 0 _ (Akq h)).1
  show AK (Aay s) k (i+1) (Aay s i (r:Int))=((AK (b16 s) k (i+1) (b16 s i r):Nat):Int);rw[e];exact Bgi s k (i+1) _ (Adj 8 0 _ (Akq h)).2
def Bab(s:ByteArray):Za s=((s16 s:Nat):Int):=Bgi s s.size 0 65535 (by decide)
def Xn(n:Nat):L.wrap (n:Int)=((n%256:Nat):Int):=by
 simp only[B,IntKind.signed,IntKind.bits];simp
def Az8(s:ByteArray)(h:s16 s<65536):Xd s=Hg [L.wrap (aA ((s16 s:Nat):Int) ((2:Int)^(U (W (8:Int)) (IntKind.bits E)))),L.wrap ((s16 s:Nat):Int)]:=by
 have w:E.wrap (Za s)=((s16 s:Nat):Int):=by rw[Bab,Qx,h1_ h]
 have d1:X ((s16 s:Nat):Int) 256=((s16 s/256:Nat):Int):=by rw[Int.tdiv_eq_ediv_of_nonneg ω];omega
 have d2:aA ((s16 s:Nat):Int) ((2:Int)^(U (W (8:Int)) (IntKind.bits E)))=((s16 s/256:Nat):Int):=by
  rw[show((2:Int)^(U (W (8:Int)) (IntKind.bits E)))=256 from rfl,V_ _ ω]
  omega
 have d3:N ((s16 s:Nat):Int) 256=((s16 s%256:Nat):Int):=by rw[e4_ ω];omega
 unfold Xd;rw[w,d1,d2,d3,Qx,Xn,Xn,Xn,Xn];congr 3
 ·omega
 ·congr 1;omega
def Aox(hs:s.size≤1000000):Sd s=C ((Hf s,()),()):=by
 obtain⟨h1,h2⟩:=Alm hs;unfold Sd;refine D h1 ?_
 have:=PS s
 unfold Hf at this;rw[O_]at this;show(bif Nat.ble (s.size+(Hg [L.wrap (aA ((s16 s:Nat):Int) ((2:Int)^(U (W (8:Int)) (IntKind.bits E)))),L.wrap ((s16 s:Nat):Int)]).size) 4611686018427387904 then C ((s++Hg [L.wrap (aA ((s16 s:Nat):Int) ((2:Int)^(U (W (8:Int)) (IntKind.bits E)))),L.wrap ((s16 s:Nat):Int)],()),())else none)=_;rw[← Az8 s h2,Ay ω];rfl
def Aow(hs:s.size≤1000000):Sc s=C (((Im s).1,(Im s).2,()),()):=by
 unfold Sc Im;by_cases h:(s.size:Int)<2
 ·have w:A.wrap ((s.size:Int)-2)=(s.size:Int)-2:=J ω ω
  simp only[w];rw[b_ h,b_ (ω:(s.size:Int)-2<0)];rfl
 ·rw[f_ h,c_]
  have w:A.wrap ((s.size:Int)-2)=((s.size-2:Nat):Int):=by rw[J ω ω];omega
  simp only[w,i_];rw[f_ (ω:¬((s.size-2:Nat):Int)<0),b_ (ω:(0:Int)≤((s.size-2:Nat):Int)),b_ (ω:((s.size-2:Nat):Int)≤(s.size:Int)),a3_,d_,c_]
  refine D (Aox (s:=s.extract 0 (s.size-2)) (by rw[Wx s ω];omega)) ?_
  show(bif !eqB (Hf (s.extract 0 (s.size-2))) s then _ else _)=_;cases eqB (Hf (s.extract 0 (s.size-2))) s<;>rfl
end Go.Ovl
