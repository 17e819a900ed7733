import Derived.Test.YtefkhaccplcieaaGreatDoorOvF
import Derived.Test.YtefkhaccplcieaaGreatDoorOvA
import Derived.Test.YtefkhaccplcieaaGreatDoorOvD
import Derived.Test.YtefkhaccplcieaaGreatDoorOvC
set_option linter.all false
open Go.IntKind renaming i64->A,wrap->B,u16->E,u64->I,u8->J,u32->aH
open Option renaming some->C,bind->aF
open Go.Ovl renaming Ae->D,Aa->L,Bldg->P,inR->R
open Bool renaming false->H,true->O
open Int renaming tmod->N,toNat->W,tdiv->X,fdiv->aA,lt_of_lt_of_le->aG
open Min renaming min->U
open Go.Ovl.Sat renaming ret->V,bifT->aB,bic->aC,bindS->aD
open BitVec renaming ofInt->Y,toNat->aE
open List renaming range->Z
namespace Go.Ovl
open Go Go.Ab
set_option maxRecDepth 100000
variable{s:ByteArray}{calm:List Bool}{i t r k n:Nat}{α:Type}
def Oz(m:Img)(car:Int):Bool:=m.A0.any λe=>e.R0==car
def HP(m:Img)(i:Nat):Bool:=phA m i==4&&lvA m i
def OD(m:Img)(calm:List Bool)(i:Nat):Bool:=calm.getD i H&&((phA m i==1||HP m i)&&!Oz m i)
def Ox(m:Img)(calm:List Bool)(i:Nat):List Record:=bif OD m calm i then [⟨4,0,0,i,2⟩]++(bif HP m i then [⟨6,0,0,i,0⟩]else [])++(bif flA m i then [⟨5,0,0,i,0⟩]else [])else []
def DO(m:Img)(calm:List Bool):Nat→List Record
 |0=>[]
 |i+1=>DO m calm i++Ox m calm i
def Az8(m:Img)(calm:List Bool)(i:Nat):(Ox m calm i).length≤3:=by unfold Ox;cases OD m calm i<;>cases HP m i<;>cases flA m i<;>simp
def US(m:Img)(calm:List Bool):∀i,(DO m calm i).length≤3*i
 |0=>A_ 0
 |i+1=>by
  have:=US m calm i
  have:=Az8 m calm i
  show(DO m calm i++Ox m calm i).length≤_;rw[i_];omega
section
variable{b:P}{m:Img}(hm:ImgOK b m)(hb:b.small)(he:m.A0.length≤100000)
include hm he
omit hm in
theorem Aps(car:Int):Fg m.G0 m.O0 m.J0 m.A0 car=C ((Oz m car,()),()):=by
 have h:Sat (Fg m.G0 m.O0 m.J0 m.A0 car) λy=>y=((Oz m car,()),()):=by
  unfold Fg Jp;refine aD (Q:=λy=>match y with | .inl _=>Oz m car=H | .inr z=>z=((O,()),())∧Oz m car=O) (Sat.loop (λk x=>∃i:Nat,x=((car,m.A0,(m.A0.length:Int),(i:Int),()),())∧i+k=m.A0.length∧∀e∈m.A0.take i,(e.R0==car)=H) ?_ m.A0.length ⟨0,rfl,ω,λe h=>(by simp at h)⟩ ω) λy hy=>?_
  ·rintro k x ⟨i,rfl,hk,hn⟩;show Sat (MM car m.A0 (m.A0.length:Int) (i:Int)) _;unfold MM;refine aC (λq=>?_) λq=>V ?_
   ·have hi:i<m.A0.length:=by have:=m_ q;omega
    refine aB (Ac ω ω) (aC (λq2=>V ⟨rfl,?_⟩) λq2=>V ⟨k-1,ω,i+1,?_,ω,λe h=>?_⟩)
    ·exact List.any_eq_true.2 ⟨_,BU _ hi,q2⟩
    ·rw[show A.wrap ((i:Int)+1)=((i+1:Nat):Int)by rw[L ω ω];omega]
    ·rw[List.take_succ,j_ hi]at h;rcases n_.1 h with h | h
     ·exact hn e h
     ·rw[h_,k_,j_ hi]at q2
      have:e=m.A0[i]:=by simpa using h
      rw[this];exact q2
   ·have:=D_ q
    rw[b1_ ω]at hn;show Oz m car=H;exact List.any_eq_false.2 λe h=>by rw[hn e h];decide
  ·cases y with
   |inl _=>rw[show Oz m car=H from hy];exact V rfl
   |inr z=>obtain⟨h1,h2⟩:=hy;subst h1;rw[h2];exact V rfl
 obtain⟨y,h,rfl⟩:=h;exact h
include hb in
theorem Ahv{kind:Int}(hk:0≤kind∧kind≤8)(hi:i<b.B0.length)(hcalm:calm.length=b.B0.length){fr:Bool}(hf:CY m.G0 m.O0 m.J0 m.A0=C ((fr,()),())):LC b.C0 b.F0 b.H0 b.M0 b.K0 b.L0 b.N0 b.B0 m.G0 m.O0 m.J0 m.A0 kind (i:Int) calm=C (((bif kind==0 then([],(0:Int))else NS m i (calm.getD i H) fr kind).1,(bif kind==0 then([],(0:Int))else NS m i (calm.getD i H) fr kind).2,()),()):=by
 have hcc:=Aj hm.code;unfold LC;refine D (Db hb m (c3_ (show m.G0.length≤8 by rw[hm.lp];omega) τ) (c3_ he τ)) ?_;show(bif !m.ok b then _ else _)=_;rw[Img.ok_iff.2 hm,hcalm,Q_,f_ (ω:¬kind<0),f_ (ω:¬8<kind),f_ (ω:¬(i:Int)<0),f_ (ω:¬(b.B0.length:Int)≤(i:Int))];simp only[o_,c_];cases kind==0 with
 |true=>rfl
 |false=>rw[c_,Ac ω ω,d_];exact D (Bd4 hm hi hf _ kind) rfl
include hb in
theorem Akz(hcalm:calm.length=b.B0.length):MI b.C0 b.F0 b.H0 b.M0 b.K0 b.L0 b.N0 b.B0 m.G0 m.O0 m.J0 m.A0 calm=C ((DO m calm b.B0.length,()),()):=by
 have hcc:=Aj hm.code;have lp:=hm.lp;have lf:=hm.lf;have ll:=hm.ll;have hL:Sat (Km ((calm,(),([]:List Record),m.G0,(m.G0.length:Int),(0:Int),()),(m.tup,()))) λy=>y=((DO m calm b.B0.length,()),()):=by
  unfold Km;refine Sat.loop (λk x=>∃(i:Nat),x=((calm,(),DO m calm i,m.G0,(m.G0.length:Int),(i:Int),()),(m.tup,()))∧i+k=m.G0.length) ?_ m.G0.length ⟨0,rfl,ω⟩ ω;rintro k x ⟨i,rfl,hk⟩;have hl:=US m calm i;show Sat (QJ calm (DO m calm i) m.G0 (m.G0.length:Int) (i:Int) m.G0 m.O0 m.J0 m.A0) _;unfold QJ;refine aC (λq=>?_) λq=>V (by have q:=D_ q;show((DO m calm i,()),())=((DO m calm b.B0.length,()),());rw[show b.B0.length=i by omega]);have hi:i<m.G0.length:=by have:=m_ q;omega
  have w:=ER hi (show m.G0.length≤AL by unfold AL;omega);have i1:inB (i:Int) m.G0.length=O:=Ac ω ω;have i2:inB (i:Int) m.J0.length=O:=Ac ω ω;have i3:inB (i:Int) m.O0.length=O:=Ac ω ω;have i4:inB (i:Int) calm.length=O:=Ac ω ω;refine aB i1 ?_;refine Sat.bindE (b:=((calm,(),DO m calm i,(i:Int),phA m i,HP m i,m.G0,(m.G0.length:Int),(i:Int),()),(m.tup,()))) ?_ ?_
  ·show(bif phA m i==4 then _ else _)=_;unfold HP;cases phA m i==4 with
   |true=>rw[d_,i2];rfl
   |false=>rfl
  refine Sat.bindE (b:=((calm,(),DO m calm i,(i:Int),HP m i,m.G0,(m.G0.length:Int),(i:Int),!OD m calm i,()),(m.tup,()))) ?_ ?_
  ·have hb2:=Aps (m:=m) he (i:Int);show(bif inB (i:Int) calm.length then _ else _)=_;rw[i4,d_];unfold OD;show(bif !calm.getD i H then _ else bif phA m i !=1 then bif !HP m i then _ else(Fg m.G0 m.O0 m.J0 m.A0 (i:Int)).bind _ else(Fg m.G0 m.O0 m.J0 m.A0 (i:Int)).bind _)=_;cases calm.getD i H with
   |false=>rfl
   |true=>
    rw[o_,c_,u_];unfold bne;cases phA m i==1 with
    |true=>rw[o_,c_];exact D hb2 (by show C ((calm,(),DO m calm i,(i:Int),HP m i,m.G0,(m.G0.length:Int),(i:Int),Oz m (i:Int),()),_)=_;rw[Bool.true_or,u_,Bool.not_not])
    |false=>
     rw[d4_,d_];cases HP m i with
     |false=>rfl
     |true=>exact D hb2 (by show C ((calm,(),DO m calm i,(i:Int),O,m.G0,(m.G0.length:Int),(i:Int),Oz m (i:Int),()),_)=_;rw[Bool.or_true,u_,Bool.not_not])
  refine aC (λq2=>V ⟨k-1,ω,i+1,?_,ω⟩) λq2=>?_
  ·simp only[w];have q2:OD m calm i=H:=by simpa using q2
   show _=((calm,(),DO m calm i++Ox m calm i,m.G0,(m.G0.length:Int),((i+1:Nat):Int),()),(m.tup,()));rw[show Ox m calm i=[]by unfold Ox;rw[q2];rfl,a2_]
  ·have q2:OD m calm i=O:=by simpa using q2
   refine aB (f7_ (by simp only[C_,d6_];omega)) ?_;refine Sat.bindE (b:=((calm,(),DO m calm i++[⟨4,0,0,i,2⟩]++(bif HP m i then [⟨6,0,0,i,0⟩]else []),(i:Int),m.G0,(m.G0.length:Int),(i:Int),()),(m.tup,()))) ?_ ?_
   ·show(bif HP m i then _ else _)=_;cases HP m i with
    |true=>rw[d_];refine Yy (f7_ (by simp only[i_,C_,d6_];omega)) rfl
    |false=>rw[c_,c_,a2_]
   refine aB i3 ?_;have e:DO m calm (i+1)=DO m calm i++[⟨4,0,0,i,2⟩]++(bif HP m i then [⟨6,0,0,i,0⟩]else [])++(bif flA m i then [⟨5,0,0,i,0⟩]else []):=by show DO m calm i++Ox m calm i=_;unfold Ox;rw[q2,d_];simp only[O_]
   refine aC (λq3=>?_) λq3=>V ⟨k-1,ω,i+1,?_,ω⟩
   ·have q3:flA m i=O:=q3;rw[q3,d_]at e;refine aB (f7_ (by have:(bif HP m i then [(⟨6,0,0,i,0⟩:Record)]else []).length≤1:=(by cases HP m i<;>simp);simp only[i_,C_,d6_];omega)) (V ⟨k-1,ω,i+1,?_,ω⟩);simp only[w];rw[e]
   ·have q3:flA m i=H:=q3;rw[q3,c_,a2_]at e;simp only[w];rw[e]
 obtain⟨y,hy,rfl⟩:=hL;unfold MI;refine D (Db hb m (c3_ (show m.G0.length≤8 by rw[hm.lp];omega) τ) (c3_ he τ)) ?_;show(bif !m.ok b then _ else _)=_;rw[Img.ok_iff.2 hm,hcalm,Q_,o_,c_,c_];exact D hy rfl
end
def Wg(x:Int):0≤aH.wrap (stk x 255 (aE (Y (IntKind.bits .u32) x&&&Y (IntKind.bits .u32) 255)))∧aH.wrap (stk x 255 (aE (Y (IntKind.bits .u32) x&&&Y (IntKind.bits .u32) 255)))<256:=by
 rw[Aap];unfold vb;have h:(bv x&&&bv 255).toNat<256:=by rw[BitVec.toNat_and];exact Nat.lt_of_le_of_lt Nat.and_le_right (show(bv 255).toNat<256 by decide)
 omega
def Bty(n:Int):0≤A.wrap (B J n)∧A.wrap (B J n)≤255:=by
 have:=Adk n
 rw[L ω ω];omega
def Uv{x:Int}(h:0≤x∧x<4294967296):Sat (Df x) λy=>0≤y.1.1∧y.1.1≤255:=by
 unfold Df;refine aB (Ac ?_ (aG ?_ (Int.ofNat_le.2 (F_ (n:=256) rfl)))) ?_
 ·rw[a6_ _ τ];exact Int.ediv_nonneg h.1 τ
 ·rw[a6_ _ τ];exact Int.ediv_lt_of_lt_mul τ h.2
 refine aB (Ac (Wg _).1 (aG (Wg _).2 (Int.ofNat_le.2 (F_ (n:=256) rfl)))) ?_;refine aB (Ac (Wg _).1 (aG (Wg _).2 (Int.ofNat_le.2 (F_ (n:=256) rfl)))) ?_;exact aB (Ac (Wg _).1 (aG (Wg _).2 (Int.ofNat_le.2 (F_ (n:=256) rfl)))) (V (Bty _))
def YT(fl:Int){set:Int}(h:0≤set∧set<4294967296)(a c d e:Bool):Sat (Je fl set a c d e) λy=>y.2.1.2.2.1=2→e=O:=by unfold Je NI;have i:SatT (Df set):=⟨(Uv h).any⟩;refine aD (Q:=λ_=>True) (aD (Awr set) λ_ _=>aD (Q:=λ_=>True) ?_ λ_ _=>aC (λ_=>V trivial) λ_=>V trivial) λ_ _=>aD (Btn a c) λ_ _=>aD (Q:=λy=>y.1.1=2→e=O) (by cases d<;>cases e<;>exact⟨_,rfl,τ⟩) λ_ h=>V h;refine aD (isFloors_ti fl).out λ_ _=>aC (λ_=>aD (Uv h) λ_ _=>aC (λ_=>V trivial) λ_=>V trivial) λ_=>V trivial
def orL(x y:Int):Int:=I.wrap (stk x y (aE ((Y (IntKind.bits I) x)|||(Y (IntKind.bits I) y))))
def leV(s:ByteArray):Nat→Int
 |0=>0
 |i+1=>orL (leV s i) (B I (B I (Bs s i)*((2:Int)^(U (W (8*(i:Int))) (IntKind.bits I)))))
def MX(b:P)(hk:k≤8)(hs:k≤s.size):BF (k:Int) s b.C0 b.F0 b.H0 b.M0 b.K0 b.L0 b.N0 b.B0=C ((leV s k,()),((s.extract k s.size,b.C0,b.F0,b.H0,b.M0,b.K0,b.L0,b.N0,b.B0,()),())):=by
 have h:Sat (Dh (((),(k:Int),(0:Int),(k:Int),(0:Int),()),((s,b.C0,b.F0,b.H0,b.M0,b.K0,b.L0,b.N0,b.B0,()),()))) λy=>y=(((),(k:Int),leV s k,()),((s,b.C0,b.F0,b.H0,b.M0,b.K0,b.L0,b.N0,b.B0,()),())):=by
  unfold Dh;refine Sat.loop (λm x=>∃i:Nat,x=(((),(k:Int),leV s i,(k:Int),(i:Int),()),((s,b.C0,b.F0,b.H0,b.M0,b.K0,b.L0,b.N0,b.B0,()),()))∧i+m=k) ?_ k ⟨0,rfl,ω⟩ ω;rintro m x ⟨i,rfl,hm⟩;show Sat (Hg (k:Int) (leV s i) (k:Int) (i:Int) s b.C0 b.F0 b.H0 b.M0 b.K0 b.L0 b.N0 b.B0) _;unfold Hg;refine aC (λq=>?_) λq=>V ?_
  ·have q:=m_ q;have hi:i<s.size:=ω;refine aB (Ac ω ω) ?_;have w8:A.wrap (8*(i:Int))=8*(i:Int):=L ω ω;have w1:A.wrap ((i:Int)+1)=((i+1:Nat):Int):=by rw[L ω ω];omega
   simp only[w8,w1];exact aB (b_ ω) (V ⟨m-1,ω,i+1,rfl,ω⟩)
  ·have q:=D_ q;obtain rfl:i=k:=ω;rfl
 obtain⟨y,h1,rfl⟩:=h;unfold BF;rw[h1];simp only[a_];rw[b_ (ω:(0:Int)≤(k:Int)),b_ (ω:(k:Int)≤(s.size:Int))];rfl
def Lv{α:Type}(d:α)(g:Nat→α→α)(i:Nat)(l:List α):List α:=l.set i (g i (l.getD i d))
def Ai1{α:Type}(d:α)(g:Nat→α→α):∀(m i:Nat) (l:List α),i+m=l.length→Bo (Lv d g) m i l=l.take i++(List.range' i m).map (λj=>g j (l.getD j d))
 |0,i,l,h=>by rw[show i=l.length by omega,List.take_length];simp[Bo]
 |m+1,i,l,h=>by
  have hi:i<l.length:=ω;unfold Bo;rw[Ai1 d g m (i+1) _ (by rw[Lv,y_];omega)];have e1:(Lv d g i l).take (i+1)=l.take i++[g i (l.getD i d)]:=by unfold Lv;rw[List.take_add_one,List.take_set_of_le ω,List.getElem?_set_self ω];rfl
  rw[e1,e7_,b8_,O_,e5_];congr 2;apply List.map_congr_left;intro j hj;rw[List.mem_range']at hj;obtain⟨k,hk,rfl⟩:=hj;unfold Lv;rw[k_,List.getElem?_set_ne ω,← k_]
def Qn(d:α)(g:Nat→α→α)(f:Nat→α)(n:Nat):Bo (Lv d g) n 0 ((Z n).map f)=(Z n).map (λj=>g j (f j)):=by rw[Ai1 d g n 0 _ σ,List.take_zero,a1_,← List.range_eq_range'];apply List.map_congr_left;intro j hj;rw[List.mem_range]at hj;simp[k_,hj]
def Bb{l:List α}(d x:α)(h:i<l.length):(l.set i x).getD i d=x:=by rw[k_,List.getElem?_set_self h];rfl
def g15(fl t i:Nat)(c:Car):Car:=⟨c.I1,c.L3,c.Q3,c.K2,((1+t%3:Nat):Int),((1+t/3%3:Nat):Int),((1+t/9%3:Nat):Int),((1+t/9%3+t/27%5:Nat):Int),(((i+t)%fl:Nat):Int)⟩
def g18(t:Nat)(_:Nat)(c:Car):Car:={ c with I1:=((1+t%16:Nat):Int) }
def g27(n1 n2:Nat)(_:Nat)(c:Car):Car:={ c with Q3:=((1+n2%4:Nat):Int),K2:=((n1%5:Nat):Int) }
def Fa(fl ca t:Nat):P:={ AH fl ca with M0:=((1+t%7:Nat):Int),B0:=(Z ca).map λi=>g15 fl t i (Gd fl i) }
def UV(fl ca t:Nat):P:={ Fa fl ca t with B0:=(Z ca).map λi=>g18 t i (g15 fl t i (Gd fl i)) }
def FN(fl ca n1 n2:Nat):P:={ Fa fl ca n1 with F0:=((1+n2%3:Nat):Int),H0:=((18*ca+24+6*(n2/3):Nat):Int),B0:=(Z ca).map λi=>g27 n1 n2 i (g18 n1 i (g15 fl n1 i (Gd fl i))) }
def Bgu{n:Int}(h:0≤n)(h':n<256):J.wrap n=n:=by simp only[B,IntKind.signed,IntKind.bits];simp;omega
def Nc(a b:Nat):N (a:Int) (b:Int)=((a%b:Nat):Int):=by rw[e2_ ω];norm_cast
def Bgq(a b:Nat):X (a:Int) (b:Int)=((a/b:Nat):Int):=by rw[Int.tdiv_eq_ediv_of_nonneg ω];norm_cast
def Pf(k:Nat)(ht:t<100000):A.wrap ((1:Int)+A.wrap (N (t:Int) (k:Int)))=((1+t%k:Nat):Int):=by
 have:t%k≤t:=Nat.mod_le _ _
 rw[Nc];generalize t%k=q at this⊢;rw[L (n:=(q:Int)) ω ω,L ω ω];norm_cast
def YH(k:Nat)(ht:t<256):J.wrap (X (t:Int) (k:Int))=((t/k:Nat):Int):=by
 have:t/k≤t:=Nat.div_le_self _ _
 generalize hq:t/k=q at this;rw[Bgq,hq,Bgu ω ω]
def Ath{fl ca:Nat}(h1:1≤fl)(hf:fl≤100)(h2:ca≤8)(ht:t<256):
  Lb (((t:Int),(),(),(0:Int),()),(Bldg.none.tup,(AH fl ca).tup,()))=C (((t:Int),(),(),()),(Bldg.none.tup,({ AH fl ca with B0:=(Fa fl ca t).B0 }:P).tup,())):=by
 have hl:(AH fl ca).B0.length=ca:=by simp[AH]
 have h:=AQ (step:=λx=>letI a:=x.2.2.1.2.2;letI b:=x.2.1.2.2;letI c:=b.2.2;letI d:=a.2.2;GA x.1.1 x.1.2.2.2.1 x.2.1.1 x.2.1.2.1 b.1 b.2.1 c.1 c.2.1 c.2.2.1 c.2.2.2.1 x.2.2.1.1 x.2.2.1.2.1 a.1 a.2.1 d.1 d.2.1 d.2.2.1 d.2.2.2.1) ca
  (λi l=>(((t:Int),(),(),(i:Int),()),(Bldg.none.tup,({ AH fl ca with B0:=l }:P).tup,()))) (Lv Fb (g15 fl t)) (λ_ l=>l.length=ca) (λl=>(((t:Int),(),(),()),(Bldg.none.tup,({ AH fl ca with B0:=l }:P).tup,())))
  (λi l hi hll=>by
   refine⟨?_,by rw[Lv,y_,hll]⟩;show GA (t:Int) (i:Int) Bldg.none.C0 Bldg.none.F0 Bldg.none.H0 Bldg.none.M0 Bldg.none.K0 Bldg.none.L0 Bldg.none.N0 Bldg.none.B0 (AH fl ca).C0 (AH fl ca).F0 (AH fl ca).H0 (AH fl ca).M0 (AH fl ca).K0 (AH fl ca).L0 (AH fl ca).N0 l=_;unfold GA;have hil:i<l.length:=ω;have hz:((AH fl ca).C0 !=0)=O:=by show((fl:Int) !=0)=O;simp;omega
   have w:A.wrap ((i:Int)+1)=((i+1:Nat):Int):=by rw[L ω ω];omega
   have e1:A.wrap ((1:Int)+A.wrap (N (t:Int) 3))=((1+t%3:Nat):Int):=Pf 3 ω;have e2:A.wrap ((1:Int)+A.wrap (N (B J (X (t:Int) 3)) 3))=((1+t/3%3:Nat):Int):=by rw[show J.wrap (X (t:Int) 3)=((t/3:Nat):Int)from YH 3 ht];exact Pf 3 ω
   have e3:A.wrap ((1:Int)+A.wrap (N (B J (X (t:Int) 9)) 3))=((1+t/9%3:Nat):Int):=by rw[show J.wrap (X (t:Int) 9)=((t/9:Nat):Int)from YH 9 ht];exact Pf 3 ω
   have e4:A.wrap (((1+t/9%3:Nat):Int)+A.wrap (N (B J (X (t:Int) 27)) 5))=((1+t/9%3+t/27%5:Nat):Int):=by rw[show J.wrap (X (t:Int) 27)=((t/27:Nat):Int)from YH 27 ht,show N ((t/27:Nat):Int) 5=((t/27%5:Nat):Int)from Nc _ 5,L (n:=((t/27%5:Nat):Int)) ω ω,L ω ω];norm_cast
   have e5:N (B A ((i:Int)+A.wrap (t:Int))) (AH fl ca).C0=(((i+t)%fl:Nat):Int):=by show N _ (fl:Int)=_;rw[L (n:=(t:Int)) ω ω,L ω ω];exact Nc (i+t) fl
   rw[show Car.mk 0 0 0 0 0 0 0 0 0=Fb from rfl];simp only[b_ (ω:(i:Int)<(l.length:Int)),Ac (ω:(0:Int)≤(i:Int)) (ω:(i:Int)<(l.length:Int)),d_,h_,hz,w,Bb Fb _ hil,List.set_set,e1,e2,e3,e4,e5];unfold Lv g15;rfl)
  (λl hll=>by show GA (t:Int) (ca:Int) Bldg.none.C0 Bldg.none.F0 Bldg.none.H0 Bldg.none.M0 Bldg.none.K0 Bldg.none.L0 Bldg.none.N0 Bldg.none.B0 (AH fl ca).C0 (AH fl ca).F0 (AH fl ca).H0 (AH fl ca).M0 (AH fl ca).K0 (AH fl ca).L0 (AH fl ca).N0 l=_;unfold GA;rw[hll,f_ (M_ (ca:Int))];rfl)
  ca 0 (AH fl ca).B0 ω hl
 have h2:=Ak h.1 ω;rw[show(AH fl ca).B0=(Z ca).map (Gd fl)from rfl,Qn]at h2;exact h2
def Ati{fl ca:Nat}(_hf:fl≤100)(h2:ca≤8)(ht:t<256):
  Lc (((t:Int),(),(),(0:Int),()),(Bldg.none.tup,(Fa fl ca t).tup,()))=C (((),(),()),(Bldg.none.tup,(UV fl ca t).tup,())):=by
 have hl:(Fa fl ca t).B0.length=ca:=by simp[Fa]
 have h:=AQ (step:=λx=>letI a:=x.2.2.1.2.2;letI b:=x.2.1.2.2;letI c:=b.2.2;letI d:=a.2.2;GB x.1.1 x.1.2.2.2.1 x.2.1.1 x.2.1.2.1 b.1 b.2.1 c.1 c.2.1 c.2.2.1 c.2.2.2.1 x.2.2.1.1 x.2.2.1.2.1 a.1 a.2.1 d.1 d.2.1 d.2.2.1 d.2.2.2.1) ca
  (λi l=>(((t:Int),(),(),(i:Int),()),(Bldg.none.tup,({ Fa fl ca t with B0:=l }:P).tup,()))) (Lv Fb (g18 t)) (λ_ l=>l.length=ca) (λl=>(((),(),()),(Bldg.none.tup,({ Fa fl ca t with B0:=l }:P).tup,())))
  (λi l hi hll=>by
   refine⟨?_,by rw[Lv,y_,hll]⟩;show GB (t:Int) (i:Int) Bldg.none.C0 Bldg.none.F0 Bldg.none.H0 Bldg.none.M0 Bldg.none.K0 Bldg.none.L0 Bldg.none.N0 Bldg.none.B0 (Fa fl ca t).C0 (Fa fl ca t).F0 (Fa fl ca t).H0 (Fa fl ca t).M0 (Fa fl ca t).K0 (Fa fl ca t).L0 (Fa fl ca t).N0 l=_;unfold GB;have w:A.wrap ((i:Int)+1)=((i+1:Nat):Int):=by rw[L ω ω];omega
   have e1:A.wrap ((1:Int)+A.wrap (N (t:Int) 16))=((1+t%16:Nat):Int):=Pf 16 ω;rw[show Car.mk 0 0 0 0 0 0 0 0 0=Fb from rfl];simp only[b_ (ω:(i:Int)<(l.length:Int)),Ac (ω:(0:Int)≤(i:Int)) (ω:(i:Int)<(l.length:Int)),d_,h_,w,e1];unfold Lv g18;rfl)
  (λl hll=>by show GB (t:Int) (ca:Int) Bldg.none.C0 Bldg.none.F0 Bldg.none.H0 Bldg.none.M0 Bldg.none.K0 Bldg.none.L0 Bldg.none.N0 Bldg.none.B0 (Fa fl ca t).C0 (Fa fl ca t).F0 (Fa fl ca t).H0 (Fa fl ca t).M0 (Fa fl ca t).K0 (Fa fl ca t).L0 (Fa fl ca t).N0 l=_;unfold GB;rw[hll,f_ (M_ (ca:Int))];rfl)
  ca 0 (Fa fl ca t).B0 ω hl
 have h2:=Ak h.1 ω;rw[show(Fa fl ca t).B0=(Z ca).map (λi=>g15 fl t i (Gd fl i))from rfl,Qn]at h2;exact h2
def GX(fl ca n1 n2:Nat):P:={ FN fl ca n1 n2 with B0:=(UV fl ca n1).B0 }
def Atj{fl ca n0 n1 n2:Nat}(h2:ca≤8)(_h3:n1<256)(h4:n2<256) :
  Iq (((),(),(),(0:Int),()),(((n0:Int),(n1:Int),(n2:Int),()),Bldg.none.tup,(GX fl ca n1 n2).tup,()))=C (((),(),()),(Bldg.none.tup,(FN fl ca n1 n2).tup,())):=by
 have hl:(GX fl ca n1 n2).B0.length=ca:=by simp[GX,UV]
 have h:=AQ (step:=λx=>letI a:=x.2.2;letI b:=a.2.1.2.2;letI c:=a.1.2.2;letI d:=c.2.2;letI e:=b.2.2;GC x.1.2.2.2.1 x.2.1.1 x.2.1.2.1 x.2.1.2.2.1 a.1.1 a.1.2.1 c.1 c.2.1 d.1 d.2.1 d.2.2.1 d.2.2.2.1 a.2.1.1 a.2.1.2.1 b.1 b.2.1 e.1 e.2.1 e.2.2.1 e.2.2.2.1) ca
  (λi l=>(((),(),(),(i:Int),()),(((n0:Int),(n1:Int),(n2:Int),()),Bldg.none.tup,({ GX fl ca n1 n2 with B0:=l }:P).tup,()))) (Lv Fb (g27 n1 n2)) (λ_ l=>l.length=ca) (λl=>(((),(),()),(Bldg.none.tup,({ GX fl ca n1 n2 with B0:=l }:P).tup,())))
  (λi l hi hll=>by
   refine⟨?_,by rw[Lv,y_,hll]⟩;show GC (i:Int) (n0:Int) (n1:Int) (n2:Int) Bldg.none.C0 Bldg.none.F0 Bldg.none.H0 Bldg.none.M0 Bldg.none.K0 Bldg.none.L0 Bldg.none.N0 Bldg.none.B0 (GX fl ca n1 n2).C0 (GX fl ca n1 n2).F0 (GX fl ca n1 n2).H0 (GX fl ca n1 n2).M0 (GX fl ca n1 n2).K0 (GX fl ca n1 n2).L0 (GX fl ca n1 n2).N0 l=_;unfold GC;have hil:i<l.length:=ω;have w:A.wrap ((i:Int)+1)=((i+1:Nat):Int):=by rw[L ω ω];omega
   have e1:A.wrap ((1:Int)+A.wrap (N (n2:Int) 4))=((1+n2%4:Nat):Int):=Pf 4 ω;have e2:A.wrap (N (n1:Int) 5)=((n1%5:Nat):Int):=by rw[show N (n1:Int) 5=((n1%5:Nat):Int)from Nc n1 5,L ω ω]
   rw[show Car.mk 0 0 0 0 0 0 0 0 0=Fb from rfl];simp only[b_ (ω:(i:Int)<(l.length:Int)),Ac (ω:(0:Int)≤(i:Int)) (ω:(i:Int)<(l.length:Int)),d_,h_,w,e1,e2,Bb Fb _ hil,List.set_set,y_];unfold Lv g27;rfl)
  (λl hll=>by show GC (ca:Int) (n0:Int) (n1:Int) (n2:Int) Bldg.none.C0 Bldg.none.F0 Bldg.none.H0 Bldg.none.M0 Bldg.none.K0 Bldg.none.L0 Bldg.none.N0 Bldg.none.B0 (GX fl ca n1 n2).C0 (GX fl ca n1 n2).F0 (GX fl ca n1 n2).H0 (GX fl ca n1 n2).M0 (GX fl ca n1 n2).K0 (GX fl ca n1 n2).L0 (GX fl ca n1 n2).N0 l=_;unfold GC;rw[hll,f_ (M_ (ca:Int))];rfl)
  ca 0 (GX fl ca n1 n2).B0 ω hl
 have h2:=Ak h.1 ω;rw[show(GX fl ca n1 n2).B0=(Z ca).map (λi=>g18 n1 i (g15 fl n1 i (Gd fl i)))from rfl,Qn]at h2;exact h2
def HO(n0:Nat):Nat:=2+n0%5
def HE(n0:Nat):Nat:=1+n0/5%3
def Aat{n0:Nat}(hn:n0<256)(ht:t<256):Nj (n0:Int) (t:Int)=C (((),()),((Fa (HO n0) (HE n0) t).tup,())):=by
 have e1:A.wrap ((2:Int)+A.wrap (N (n0:Int) 5))=((HO n0:Nat):Int):=by rw[show N (n0:Int) 5=((n0%5:Nat):Int)from Nc n0 5,L (n:=((n0%5:Nat):Int)) ω ω,L ω ω];unfold HO;norm_cast
 have e2:A.wrap ((1:Int)+A.wrap (N (B J (X (n0:Int) 5)) 3))=((HE n0:Nat):Int):=by rw[show J.wrap (X (n0:Int) 5)=((n0/5:Nat):Int)from YH 5 hn];exact Pf 3 ω
 have hf:2≤HO n0∧HO n0≤6:=by unfold HO;omega
 have hc:1≤HE n0∧HE n0≤3:=by unfold HE;omega
 have e3:A.wrap ((1:Int)+A.wrap (N (t:Int) 7))=((1+t%7:Nat):Int):=Pf 7 ω;unfold Nj;rw[e1,e2];refine D (Adp ω ω) ?_;refine D (Ath ω ω ω ht) ?_;show C (((),()),(((HO n0:Nat):Int),(1:Int),(4000:Int),A.wrap ((1:Int)+A.wrap (N (t:Int) 7)),_,_,_,_,()),())=_;rw[e3];rfl
def Aau{n0:Nat}(hn:n0<256)(ht:t<256):Nk (n0:Int) (t:Int)=C (((),()),((UV (HO n0) (HE n0) t).tup,())):=by
 have hf:2≤HO n0∧HO n0≤6:=by unfold HO;omega
 have hc:1≤HE n0∧HE n0≤3:=by unfold HE;omega
 unfold Nk;refine D (Aat hn ht) ?_;exact D (Ati ω ω ht) rfl
def Aav{n0 n1 n2:Nat}(h0:n0<256)(h1:n1<256)(h2:n2<256):Gr (n0:Int) (n1:Int) (n2:Int)=C (((),()),((FN (HO n0) (HE n0) n1 n2).tup,())):=by
 have hf:2≤HO n0∧HO n0≤6:=by unfold HO;omega
 have hc:1≤HE n0∧HE n0≤3:=by unfold HE;omega
 have e1:A.wrap ((1:Int)+A.wrap (N (n2:Int) 3))=((1+n2%3:Nat):Int):=Pf 3 ω;have hl:(UV (HO n0) (HE n0) n1).B0.length=HE n0:=by simp[UV]
 have e2:A.wrap (B A (B A (18*(((UV (HO n0) (HE n0) n1).B0.length:Nat):Int))+24)+A.wrap (6*A.wrap (B J (X (n2:Int) 3))))=((18*HE n0+24+6*(n2/3):Nat):Int):=by
  rw[hl,show J.wrap (X (n2:Int) 3)=((n2/3:Nat):Int)from YH 3 h2,L (n:=18*((HE n0:Nat):Int)) ω ω,L (n:=18*((HE n0:Nat):Int)+24) ω ω,L (n:=((n2/3:Nat):Int)) ω ω,L (n:=6*((n2/3:Nat):Int)) ω ω,L ω ω]
  norm_cast
 unfold Gr;refine D (Aau h0 h1) ?_;refine D (a:=(((),(),()),(Bldg.none.tup,(FN (HO n0) (HE n0) n1 n2).tup,()))) ?_ rfl;show Iq (((),(),(),(0:Int),()),(((n0:Int),(n1:Int),(n2:Int),()),Bldg.none.tup,(((HO n0:Nat):Int),A.wrap ((1:Int)+A.wrap (N (n2:Int) 3)),A.wrap (B A (B A (18*(((UV (HO n0) (HE n0) n1).B0.length:Nat):Int))+24)+A.wrap (6*A.wrap (B J (X (n2:Int) 3)))),_,_,_,_,_,()),()))=_;rw[e1,e2];exact Atj ω h1 h2
def Apr{fl ca n1 n2:Nat}(hf:2≤fl∧fl≤6)(hc:1≤ca∧ca≤3)(_h1:n1<256)(h2:n2<256):(FN fl ca n1 n2).small∧(FN fl ca n1 n2).code=0∧(FN fl ca n1 n2).B0.length=ca∧(FN fl ca n1 n2).C0=(fl:Int)∧18*(ca:Int)+24≤(FN fl ca n1 n2).H0∧(FN fl ca n1 n2).H0≤600:=by
 have hl:(FN fl ca n1 n2).B0.length=ca:=by simp[FN]
 have hr:(FN fl ca n1 n2).H0=((18*ca+24+6*(n2/3):Nat):Int):=rfl;refine⟨⟨by show(2:Int)≤(fl:Int);omega,by show(fl:Int)≤8;omega⟩,?_,hl,rfl,by rw[hr];omega,by rw[hr];omega⟩;unfold Bldg.code;have e1:R 2 32 (FN fl ca n1 n2).C0=O:=As.2 (by show(2:Int)≤(fl:Int)∧(fl:Int)≤32;omega);have e2:R 1 8 ((FN fl ca n1 n2).B0.length:Int)=O:=As.2 ω;have e3:R 1 16 (FN fl ca n1 n2).F0=O:=As.2 (by show(1:Int)≤((1+n2%3:Nat):Int)∧((1+n2%3:Nat):Int)≤16;omega);have e4:R 1 10000 (FN fl ca n1 n2).M0=O:=As.2 (by show(1:Int)≤((1+n1%7:Nat):Int)∧((1+n1%7:Nat):Int)≤10000;omega);have e5:(FN fl ca n1 n2).B0.all (Co (FN fl ca n1 n2).C0)=O:=by rw[N_];intro c hc';obtain⟨i,_,rfl⟩:=b6_.1 hc';have hm:(i+n1)%fl<fl:=g0_ _ ω;show Co (fl:Int) (g27 n1 n2 i (g18 n1 i (g15 fl n1 i (Gd fl i))))=O;unfold Co g27 g18 g15 Gd;simp only[Z_,List.all_nil,d5_,e_,As,t_];rw[L (n:=(fl:Int)-1) ω ω];refine⟨⟨?_,?_,?_,?_,?_,?_,?_⟩,?_,?_,?_⟩<;>omega
 have e6:(FN fl ca n1 n2).loadsOK=O:=by
  show(AH 2 1).loadsOK=O
  kernel_rfl
 have e7:R (18*((FN fl ca n1 n2).B0.length:Int)+24) 65536 (FN fl ca n1 n2).H0=O:=As.2 (by rw[hl,hr];omega);rw[e1,e2,e3,e4,e5,e6,e7];rfl
def Dn(h:n<1000000000):A.wrap ((n:Int)+1)=((n+1:Nat):Int):=by rw[L ω ω];omega
def Cgz(h:n<1000000000):I.wrap (n:Int)=(n:Int):=EG ω ω
def Af5(l:List Int):(Hu l).size=l.length:=by simp[Hu,ByteArray.size]
def Api(x y:Int):Int:=A.wrap (stk x y (aE ((Y (IntKind.bits A) x)^^^(Y (IntKind.bits A) y))))
def XQ(_:Nat)(r:Int):Int:=bif decide (32768≤r)then Api (N (B A (r*2)) 65536) 4129 else N (B A (r*2)) 65536
def Ab0(s:ByteArray)(i:Nat)(r:Int):Int:=Bo XQ 8 0 (Api r (B A (B A (Bs s i)*256)))
def ZH(s:ByteArray):Int:=Bo (Ab0 s) s.size 0 65535
def Aqp(s:ByteArray)(r i:Int):Ov ((s,r,i,(0:Int),()),())=C ((s,Bo XQ 8 0 r,i,()),()):=by
 have h:=AQ (step:=λx=>IS x.1.1 x.1.2.1 x.1.2.2.1 x.1.2.2.2.1) 8 (λk r=>((s,r,i,(k:Int),()),())) XQ (λ_ _=>True) (λr=>((s,r,i,()),()))
  (λk r hk _=>by refine⟨?_,trivial⟩;show IS s r i (k:Int)=_;unfold IS;simp only[b_ (ω:(k:Int)<8),d_,Dn (ω:k<1000000000)];unfold XQ Api;cases decide ((32768:Int)≤r)<;>rfl)
  (λr _=>by show IS s r i 8=_;unfold IS;rw[f_ (M_ (8:Int))];rfl) 8 0 r ω trivial
 exact Ak h.1 ω
def Aoq(hs:s.size≤1000000):Rq s=C ((B E (ZH s),()),()):=by
 have h:=AQ (step:=λx=>IR x.1.1 x.1.2.1 x.1.2.2.1) s.size (λi r=>((s,r,(i:Int),()),())) (Ab0 s) (λ_ _=>True) (λr=>((r,()),()))
  (λi r hi _=>by refine⟨?_,trivial⟩;show IR s r (i:Int)=_;unfold IR;simp only[b_ (ω:(i:Int)<(s.size:Int)),Ac (ω:(0:Int)≤(i:Int)) (ω:(i:Int)<(s.size:Int)),d_,h_];refine D (Aqp s _ _) ?_;show C (Sum.inl ((s,_,A.wrap ((i:Int)+1),()),()))=_;rw[Dn (ω:i<1000000000)];rfl)
  (λr _=>by show IR s r (s.size:Int)=_;unfold IR;rw[f_ (M_ (s.size:Int))];rfl) s.size 0 65535 ω trivial
 have h2:Ou ((s,(65535:Int),(0:Int),()),())=_:=Ak h.1 ω;unfold Rq;exact D h2 rfl
def Aal(s:ByteArray):ByteArray:=Hu [J.wrap (B E (X (B E (ZH s)) 256)),J.wrap (N (B E (ZH s)) 256)]
def JZ(s:ByteArray):ByteArray:=s++Aal s
def Qz(s:ByteArray):(JZ s).size=s.size+2:=by unfold JZ Aal;rw[R_,Af5];rfl
def Aqn(hs:s.size≤1000000):SO s=C ((JZ s,()),()):=by
 unfold SO;refine D (Aoq hs) ?_
 have:=Qz s
 unfold JZ at this;rw[R_]at this;show(bif Nat.ble (s.size+(Aal s).size) 4611686018427387904 then C ((s++Aal s,()),())else none)=_;rw[Az ω];rfl
def Lu(s:ByteArray):ByteArray×Int:=bif decide ((s.size:Int)<2)then(noB,4)else bif eqB (JZ (s.extract 0 (s.size-2))) s then(s.extract 0 (s.size-2),0)else(noB,5)
def Aht(n:Int)(k:Nat):List Int:=(Z k).map λi=>J.wrap (aA n ((2:Int)^(U (8*i) (IntKind.bits .u64))))
def nmB(n:Int)(k:Nat):ByteArray:=Hu (Aht n k)
def Bv(n:Int)(k:Nat):(nmB n k).size=k:=by unfold nmB;rw[Af5];simp[Aht]
def Fc(n:Int)(hk:k≤100):Eh n (k:Int)=C ((nmB n k,()),()):=by
 have h:=AQ (step:=λx=>LW x.1.1 x.1.2.1 x.1.2.2.1 x.1.2.2.2.1) k (λi l=>((n,(k:Int),l,(i:Int),()),())) (Lv 0 (λi _=>J.wrap (aA n ((2:Int)^(U (8*i) (IntKind.bits .u64)))))) (λ_ l=>l.length=k) (λl=>((l,()),()))
  (λi l hi hl=>by
   refine⟨?_,by rw[Lv,y_,hl]⟩;show LW n (k:Int) l (i:Int)=_;unfold LW;have e:I.wrap (B A (8*(i:Int)))=((8*i:Nat):Int):=by rw[L (n:=8*(i:Int)) ω ω,EG ω ω];norm_cast
   simp only[b_ (ω:(i:Int)<(k:Int)),Ac (ω:(0:Int)≤(i:Int)) (ω:(i:Int)<(l.length:Int)),d_,h_,e,b_ (ω:(0:Int)≤((8*i:Nat):Int)),Dn (ω:i<1000000000)];rfl)
  (λl hl=>by show LW n (k:Int) l (k:Int)=_;unfold LW;rw[f_ (M_ (k:Int))];rfl) k 0 (List.replicate k 0) ω σ
 have h2:=Ak h.1 ω;rw[show List.replicate k (0:Int)=(Z k).map (λ_=>0)by simp[List.map_const'],Qn]at h2;have h3:Rx ((n,(k:Int),(Z k).map (λ_=>(0:Int)),(0:Int),()),())=_:=h2;unfold Eh;rw[b_ (ω:(0:Int)≤(k:Int)),b_ (c7_ (k:Int)),b_ (ω:(k:Int)≤2147483648),a0_,a0_,d_,h_,show List.replicate k (0:Int)=(Z k).map (λ_=>0)by simp[List.map_const']];exact D h3 rfl
def Ua(c:Int×Int):ByteArray:=nmB (B I c.1) 4++nmB (B I c.2) 4
def Abb(c:Int×Int):(Ua c).size=8:=by unfold Ua;rw[R_,Bv,Bv]
def Aor(c:Int×Int):Rr c.1 c.2=C ((Ua c,()),()):=by unfold Rr;refine D (Fc (B I c.1) (k:=4) ω) ?_;refine D (Fc (B I c.2) (k:=4) ω) ?_;show(bif Nat.ble ((nmB (B I c.1) 4).size+(nmB (B I c.2) 4).size) 4611686018427387904 then _ else _)=_;rw[Bv,Bv];rfl
def Bti(x y:Int):Int:=I.wrap (stk x y (aE ((Y (IntKind.bits I) x)|||(Y (IntKind.bits I) y))))
def Bdu(l:List Bool)(i:Nat)(n:Int):Int:=bif l.getD i H then Bti n (B I (1*2^min i (IntKind.bits .u64)))else n
def WJ(l:List Bool):ByteArray:=nmB (Bo (Bdu l) l.length 0 0) 1
def SS(l:List Bool):(WJ l).size=1:=Bv _ _
def Aqs{l:List Bool}(hl:l.length≤100):SQ l=C ((WJ l,()),()):=by
 have h:=AQ (step:=λx=>Ku x.1.1 x.1.2.1 x.1.2.2.1) l.length (λi n=>((l,n,(i:Int),()),())) (Bdu l) (λ_ _=>True) (λn=>((n,()),()))
  (λi n hi _=>by refine⟨?_,trivial⟩;show Ku l n (i:Int)=_;unfold Ku;simp only[b_ (ω:(i:Int)<(l.length:Int)),Ac (ω:(0:Int)≤(i:Int)) (ω:(i:Int)<(l.length:Int)),d_,h_,Cgz (ω:i<1000000000),b_ (ω:(0:Int)≤(i:Int)),Dn (ω:i<1000000000)];unfold Bdu Bti;cases l.getD i H<;>rfl)
  (λn _=>by show Ku l n (l.length:Int)=_;unfold Ku;rw[f_ (M_ (l.length:Int))];rfl) l.length 0 0 ω trivial
 have h2:PS ((l,(0:Int),(0:Int),()),())=_:=Ak h.1 ω;unfold SQ;refine D h2 ?_;exact D (Fc _ (k:=1) ω) rfl
structure Inp where
 press:Int×Int
 kind:Int
 car:Int
 cars:List CarInput
def Inp.tup(x:Inp):Int×Int×Int×Int×List CarInput×Unit:=(x.press.1,x.press.2,x.kind,x.car,x.cars,())
def Inp.none:Inp:=⟨(0,0),0,0,[]⟩
def OW:CarInput:=CarInput.mk 0 H H H H 0 H 0 H 0 0
def flV(b:P)(n:Int):Bool:=aA (B I n) ((2:Int)^b.C0.toNat)==0
def LN(b:P)(c:CarInput):Bool:=flV b c.V0&&(flV b c.E2&&(R 0 (b.C0-1) c.M1&&R 0 2 c.L1))
def GN(b:P)(c:Int×Int):Bool:=isZ (Ay c (Bz b))
def OE(b:P)(x:Inp):Bool:=GN b x.press&&(R 0 8 x.kind&&(R 0 ((b.B0.length:Int)-1) x.car&&(!(x.kind==0&&x.car !=0)&&((x.cars.length:Int)==(b.B0.length:Int)&&x.cars.all (LN b)))))
def OR(s:ByteArray)(c:CarInput):ByteArray:=s++nmB (B I c.V0) 4++WJ [c.I2,c.T1,c.U1,c.D1,c.Y1,c.H2]++nmB (B I c.M1) 1++nmB (B I c.L1) 1++nmB (B I c.E2) 4++nmB ((c.I3:Nat):Int) 8
def Aih(s:ByteArray)(c:CarInput):(OR s c).size=s.size+19:=by unfold OR;simp only[R_,Bv,SS]
def Vi(b:P)(x:Inp):ByteArray:=nmB 165 1++nmB (B I (b.B0.length:Int)) 1++Ua x.press++nmB (B I x.kind) 1++nmB (B I x.car) 1
def Aey(b:P)(x:Inp):(Vi b x).size=12:=by unfold Vi;simp only[R_,Bv,Abb]
def inV(b:P)(x:Inp):ByteArray:=JZ (x.cars.foldl OR (Vi b x))
def Aeq(l:List CarInput)(s:ByteArray):(l.foldl OR s).size=s.size+19*l.length:=by
 induction l generalizing s with
 |nil=>simp
 |cons c t ih=>rw[g7_,ih,Aih,C_];omega
def Ach(b:P)(x:Inp):(inV b x).size=14+19*x.cars.length:=by unfold inV;rw[Qz,Aeq,Aey];omega
def Na(n lo hi:Int):OK n lo hi=C ((R lo hi n,()),()):=by unfold OK R;cases decide (lo≤n)<;>rfl
section
variable{b:P}(hb:b.small)(hcode:b.code=0)
include hb
theorem Yg(n:Int):PA b.C0 b.F0 b.H0 b.M0 b.K0 b.L0 b.N0 b.B0 n=C ((flV b n,()),()):=by
 have h1:=hb.1;have h2:=hb.2;have e:I.wrap b.C0=b.C0:=EG ω ω;have e2:U b.C0.toNat (IntKind.bits .u64)=b.C0.toNat:=by show min b.C0.toNat 64=_;omega
 unfold PA flV;simp only[e,b_ (ω:(0:Int)≤b.C0),d_,e2]
theorem Ak0(x:Inp)(hx:x.cars.length≤1000):MJ (((),(),(0:Int),()),(b.tup,x.tup,()))=C (bif x.cars.all (LN b)then .inl ((),())else .inr ((H,()),())):=by
 have h1:=hb.1;have h2:=hb.2;have h:=Ak (Ajb (step:=λx=>letI a:=x.2.1.2.2;letI d:=x.2.2.1;letI e:=a.2.2;Kt x.1.2.2.1 x.2.1.1 x.2.1.2.1 a.1 a.2.1 e.1 e.2.1 e.2.2.1 e.2.2.2.1 d.1 d.2.1 d.2.2.1 d.2.2.2.1 d.2.2.2.2.1) x.cars OW (LN b) (λi=>(((),(),(i:Int),()),(b.tup,x.tup,()))) (.inl ((),())) (λ_=>.inr ((H,()),())) (λi hi=>by
  show Kt (i:Int) b.C0 b.F0 b.H0 b.M0 b.K0 b.L0 b.N0 b.B0 x.press.1 x.press.2 x.kind x.car x.cars=_;unfold Kt;rw[show CarInput.mk 0 H H H H 0 H 0 H 0 0=OW from rfl];have w:A.wrap (b.C0-1)=b.C0-1:=L ω ω;simp only[b_ (ω:(i:Int)<(x.cars.length:Int)),d_,Ac (ω:(0:Int)≤(i:Int)) (ω:(i:Int)<(x.cars.length:Int)),h_,Dn (ω:i<1000000000),w];generalize x.cars.getD i OW=c;unfold LN;refine D (Yg hb c.V0) ?_;show(bif !flV b c.V0 then _ else _)=_;cases flV b c.V0 with
  |false=>rfl
  |true=>
  rw[o_,c_,u_];refine D (Yg hb c.E2) ?_;show(bif !flV b c.E2 then _ else _)=_;cases flV b c.E2 with
  |false=>rfl
  |true=>
  rw[o_,c_,u_];refine D (Na _ _ _) ?_;show(bif !R 0 (b.C0-1) c.M1 then _ else _)=_;cases R 0 (b.C0-1) c.M1 with
  |false=>rfl
  |true=>
  rw[o_,c_,u_];refine D (Na _ _ _) ?_;show(bif !R 0 2 c.L1 then _ else _)=_;cases R 0 2 c.L1<;>rfl) (by
  show Kt (x.cars.length:Int) b.C0 b.F0 b.H0 b.M0 b.K0 b.L0 b.N0 b.B0 x.press.1 x.press.2 x.kind x.car x.cars=_;unfold Kt;rw[f_ (M_ _),c_]) x.cars.length 0 ω) ω
 rw[P_,Bev]at h;exact h
include hcode
theorem OG(c:Int×Int):PB b.C0 b.F0 b.H0 b.M0 b.K0 b.L0 b.N0 b.B0 c.1 c.2=C ((GN b c,()),()):=by
 unfold PB;refine D (Aqm hb hcode) ?_;have e1:=OX c.1 (Bz b).1;have e2:=OX c.2 (Bz b).2;show aF (bif aH.wrap _==0 then C ((B aH _==0,()),())else _) _=_;rw[e1,e2];unfold GN isZ;show aF (bif(Ay c (Bz b)).1==0 then C (((Ay c (Bz b)).2==0,()),())else _) _=_;cases(Ay c (Bz b)).1==0 with
 |false=>rfl
 |true=>rw[u_,d5_];rfl
theorem Aqr(x:Inp)(hx:x.cars.length≤1000):SP b.C0 b.F0 b.H0 b.M0 b.K0 b.L0 b.N0 b.B0 x.press.1 x.press.2 x.kind x.car x.cars=C ((OE b x,()),()):=by
 have hc:=Aj hcode;have w:A.wrap ((b.B0.length:Int)-1)=(b.B0.length:Int)-1:=L ω ω;unfold SP OE;rw[w];have fin:∀g:Bool,aF (C (((),(),!g,()),(b.tup,x.tup,()))) (λy5:(Unit×Unit×Bool×Unit)×_=>bif y5.1.2.2.1 then C ((H,()),())else(MJ (((),(),(0:Int),()),(y5.2.1,y5.2.2.1,()))).bind λy6=>(match y6 with | .inl y7=>C ((O,()),()) | .inr y7=>C ((y7.1.1,()),())))=C (((g&&x.cars.all (LN b)),()),()):=by
  intro g;cases g with
  |false=>rfl
  |true=>refine D rfl ?_;show(bif !O then _ else _)=_;rw[o_,c_,u_];refine D (Ak0 hb x hx) ?_;cases x.cars.all (LN b)<;>rfl
 rw[Ia];show aF (aF (C ((b.code,()),())) _) _=_;rw[hcode];cases h1:GN b x.press with
 |false=>refine D (D rfl (show(bif((0:Int) !=0)then _ else _)=C (((),(),!H,()),(b.tup,x.tup,()))from D (OG hb hcode x.press) (by show(bif !GN b x.press then _ else _)=_;rw[h1];rfl))) ?_;exact fin H
 |true=>
 cases h2:R 0 8 x.kind with
 |false=>refine D (D rfl (show(bif((0:Int) !=0)then _ else _)=C (((),(),!H,()),(b.tup,x.tup,()))from D (OG hb hcode x.press) (by show(bif !GN b x.press then _ else _)=_;rw[h1,o_,c_];refine D (Na _ _ _) ?_;show(bif !R 0 8 x.kind then _ else _)=_;rw[h2];rfl))) ?_;exact fin H
 |true=>
 cases h3:R 0 ((b.B0.length:Int)-1) x.car with
 |false=>refine D (D rfl (show(bif((0:Int) !=0)then _ else _)=C (((),(),!H,()),(b.tup,x.tup,()))from D (OG hb hcode x.press) (by show(bif !GN b x.press then _ else _)=_;rw[h1,o_,c_];refine D (Na _ _ _) ?_;show(bif !R 0 8 x.kind then _ else _)=_;rw[h2,o_,c_];refine D (Na _ _ _) ?_;show(bif !R 0 ((b.B0.length:Int)-1) x.car then _ else _)=_;rw[h3];rfl))) ?_;exact fin H
 |true=>refine D (D rfl (show(bif((0:Int) !=0)then _ else _)=C (((),(),!(!(x.kind==0&&x.car !=0)&&((x.cars.length:Int)==(b.B0.length:Int))),()),(b.tup,x.tup,()))from D (OG hb hcode x.press) (by show(bif !GN b x.press then _ else _)=_;rw[h1,o_,c_];refine D (Na _ _ _) ?_;show(bif !R 0 8 x.kind then _ else _)=_;rw[h2,o_,c_];refine D (Na _ _ _) ?_;show(bif !R 0 ((b.B0.length:Int)-1) x.car then _ else _)=_;rw[h3,o_,c_];have hne:((x.cars.length:Int) !=(b.B0.length:Int))=!((x.cars.length:Int)==(b.B0.length:Int)):=rfl;rw[hne];cases(x.cars.length:Int)==(b.B0.length:Int)<;>cases x.kind==0<;>cases x.car !=0<;>rfl))) ?_;refine Eq.trans (fin (!(x.kind==0&&x.car !=0)&&((x.cars.length:Int)==(b.B0.length:Int)))) ?_;simp only[u_,Bool.and_assoc]
end
def Bjp{a c:Nat}(ha:a<65536)(hc:c<65536):E.wrap (stk (a:Int) (c:Int) (aE ((Y (IntKind.bits .u16) (a:Int))^^^(Y (IntKind.bits .u16) (c:Int)))))=((a^^^c:Nat):Int):=by have h:=d7_ (n:=16) ha hc;rw[KH,BitVec.toNat_xor,X_,X_];rw[show(((a:Int))%((2^IntKind.bits .u16:Nat):Int)).toNat=a by simp only[IntKind.bits];omega,show(((c:Int))%((2^IntKind.bits .u16:Nat):Int)).toNat=c by simp only[IntKind.bits];omega];generalize a^^^c=n at*;simp only[B,IntKind.signed,IntKind.bits];simp;omega
def Apj{a c:Nat}(ha:a<65536)(hc:c<65536):Api (a:Int) (c:Int)=((a^^^c:Nat):Int):=by have h:=d7_ (n:=16) ha hc;unfold Api;rw[KH,BitVec.toNat_xor,X_,X_];rw[show(((a:Int))%((2^IntKind.bits .i64:Nat):Int)).toNat=a by simp only[IntKind.bits];omega,show(((c:Int))%((2^IntKind.bits .i64:Nat):Int)).toNat=c by simp only[IntKind.bits];omega];exact L ω ω
def Rf(n:Nat):E.wrap (n:Int)=((n%65536:Nat):Int):=by simp only[B,IntKind.signed,IntKind.bits];simp
def n16(_:Nat)(r:Nat):Nat:=if 32768≤r then(2*r%65536)^^^4129 else 2*r%65536
def Bbu:n16 i r<65536:=by
 unfold n16;split
 ·exact d7_ (n:=16) (g0_ _ τ) τ
 ·exact g0_ _ τ
def Bgl(h:r<65536):XQ i (r:Int)=((n16 i r:Nat):Int):=by
 have w:N (B A ((r:Int)*2)) 65536=((2*r%65536:Nat):Int):=by rw[L ω ω,e2_ ω];omega
 unfold XQ n16;rw[w];by_cases g:32768≤r
 ·rw[b_ (ω:(32768:Int)≤(r:Int)),d_,if_pos g];exact Apj (g0_ _ τ) τ
 ·rw[f_ (ω:¬(32768:Int)≤(r:Int)),c_,if_neg g]
def Bwh(h:r<65536):(B E (stk (B E ((r:Int)*((2:Int)^(U (W (1:Int)) (IntKind.bits E))))) (B E ((aA (r:Int) ((2:Int)^(U (W (15:Int)) (IntKind.bits E))))*(4129:Int))) (aE ((Y (IntKind.bits E) (B E ((r:Int)*((2:Int)^(U (W (1:Int)) (IntKind.bits E))))))^^^(Y (IntKind.bits E) (B E ((aA (r:Int) ((2:Int)^(U (W (15:Int)) (IntKind.bits E))))*(4129:Int))))))))=((n16 i r:Nat):Int):=by
 have w1:E.wrap ((r:Int)*((2:Int)^(U (W (1:Int)) (IntKind.bits E))))=((2*r%65536:Nat):Int):=by rw[show((2:Int)^(U (W (1:Int)) (IntKind.bits E)))=2 from rfl,show(r:Int)*2=((2*r:Nat):Int)by omega];exact Rf _
 have d:aA (r:Int) ((2:Int)^(U (W (15:Int)) (IntKind.bits E)))=((r/32768:Nat):Int):=by rw[show((2:Int)^(U (W (15:Int)) (IntKind.bits E)))=32768 from rfl,a6_ _ ω];omega
 have w2:E.wrap ((aA (r:Int) ((2:Int)^(U (W (15:Int)) (IntKind.bits E))))*(4129:Int))=((r/32768*4129:Nat):Int):=by
  rw[d,show((r/32768:Nat):Int)*4129=((r/32768*4129:Nat):Int)by omega,Rf]
  have:r/32768*4129<65536:=ω
  rw[h2_ this]
 rw[w1,w2,Bjp (g0_ _ τ) ω];unfold n16;by_cases g:32768≤r
 ·rw[if_pos g,show r/32768*4129=4129 by omega]
 ·rw[if_neg g,show r/32768*4129=0 by omega,Nat.xor_zero]
def Aep:∀(k i r:Nat),r<65536→Bo XQ k i (r:Int)=((Bo n16 k i r:Nat):Int)∧Bo n16 k i r<65536
 |0,_,_,h=>⟨rfl,h⟩
 |k+1,i,r,h=>by show Bo XQ k (i+1) (XQ i (r:Int))=_∧_;rw[Bgl (i:=i) h];exact Aep k (i+1) (n16 i r) Bbu
def Bb4(s:ByteArray)(hr:r<65536)(a c:Int):Oo ((s,(r:Int),a,c,(0:Int),()),())=C ((s,((Bo n16 8 0 r:Nat):Int),a,c,()),()):=by
 have h:=AQ (S:=Nat) (step:=λx=>IP x.1.1 x.1.2.1 x.1.2.2.1 x.1.2.2.2.1 x.1.2.2.2.2.1) 8 (λk r=>((s,(r:Int),a,c,(k:Int),()),())) n16 (λ_ r=>r<65536) (λ(r:Nat)=>((s,(r:Int),a,c,()),()))
  (λk r hk hr=>by refine⟨?_,Bbu⟩;show IP s (r:Int) a c (k:Int)=_;unfold IP;simp only[b_ (ω:(k:Int)<8),d_,Dn (ω:k<1000000000)];rw[Bwh (i:=k) hr])
  (λr _=>by show IP s (r:Int) a c 8=_;unfold IP;rw[f_ (M_ (8:Int))];rfl) 8 0 r ω hr
 exact Ak h.1 ω
def byN(s:ByteArray)(i:Nat):Nat:=((bl s).getD i 0).toNat
def RY(s:ByteArray)(i:Nat):byN s i<256:=UInt8.toNat_lt _
def b16(s:ByteArray)(i:Nat)(r:Nat):Nat:=Bo n16 8 0 (r^^^(byN s i*256))
def s16(s:ByteArray):Nat:=Bo (b16 s) s.size 0 65535
def Alv(hr:r<65536):r^^^(byN s i*256)<65536:=d7_ (n:=16) hr (by have:=RY s i;omega)
def Amv(hs:s.size≤1000000):Rj s=C ((((s16 s:Nat):Int),()),())∧s16 s<65536:=by
 have h:=AQ (S:=Nat) (step:=λx=>IN x.1.1 x.1.2.1 x.1.2.2.1 x.1.2.2.2.1) s.size (λi r=>((s,(r:Int),(s.size:Int),(i:Int),()),())) (b16 s) (λ_ r=>r<65536) (λ(r:Nat)=>(((r:Int),()),()))
  (λi r hi hr=>by
   refine⟨?_,(Aep 8 0 _ (Alv hr)).2⟩;show IN s (r:Int) (s.size:Int) (i:Int)=_;unfold IN;have hb:=RY s i;have z:E.wrap ((B E (Bs s i))*((2:Int)^(U (W (8:Int)) (IntKind.bits E))))=((byN s i*256:Nat):Int):=by rw[KN];show E.wrap (B E ((byN s i:Nat):Int)*256)=_;rw[Rf,h2_ ω,show((byN s i:Nat):Int)*256=((byN s i*256:Nat):Int)by omega,Rf,h2_ ω]
   simp only[b_ (ω:(i:Int)<(s.size:Int)),Ac (ω:(0:Int)≤(i:Int)) (ω:(i:Int)<(s.size:Int)),d_,h_];rw[z,Bjp hr ω];refine D (Bb4 s (Alv hr) _ _) ?_;show C (Sum.inl ((s,_,_,A.wrap ((i:Int)+1),()),()))=_;rw[Dn (ω:i<1000000000)];rfl)
  (λr _=>by show IN s (r:Int) (s.size:Int) (s.size:Int)=_;unfold IN;rw[f_ (M_ (s.size:Int))];rfl) s.size 0 65535 ω τ
 have h2:On ((s,(65535:Int),(s.size:Int),(0:Int),()),())=_:=Ak h.1 ω;unfold Rj;exact⟨D h2 rfl,h.2⟩
def Bi9:∀(s:ByteArray) (k i r:Nat),r<65536→Bo (Ab0 s) k i (r:Int)=((Bo (b16 s) k i r:Nat):Int)
 |_,0,_,_,_=>rfl
 |s,k+1,i,r,h=>by
  have hb:=RY s i;have e:Ab0 s i (r:Int)=((b16 s i r:Nat):Int):=by
   unfold Ab0 b16;have z:A.wrap (B A (Bs s i)*256)=((byN s i*256:Nat):Int):=by rw[KN];show A.wrap (B A ((byN s i:Nat):Int)*256)=_;rw[L (n:=((byN s i:Nat):Int)) ω ω,L ω ω];omega
   rw[z,Apj h ω];exact(Aep 8 0 _ (Alv h)).1
  show Bo (Ab0 s) k (i+1) (Ab0 s i (r:Int))=((Bo (b16 s) k (i+1) (b16 s i r):Nat):Int);rw[e];exact Bi9 s k (i+1) _ (Aep 8 0 _ (Alv h)).2
def Bco(s:ByteArray):ZH s=((s16 s:Nat):Int):=Bi9 s s.size 0 65535 τ
def XW(n:Nat):J.wrap (n:Int)=((n%256:Nat):Int):=by simp only[B,IntKind.signed,IntKind.bits];simp
def Bcl(s:ByteArray)(h:s16 s<65536):Aal s=Hu [J.wrap (aA ((s16 s:Nat):Int) ((2:Int)^(U (W (8:Int)) (IntKind.bits E)))),J.wrap ((s16 s:Nat):Int)]:=by
 have w:E.wrap (ZH s)=((s16 s:Nat):Int):=by rw[Bco,Rf,h2_ h]
 have d1:X ((s16 s:Nat):Int) 256=((s16 s/256:Nat):Int):=by rw[Int.tdiv_eq_ediv_of_nonneg ω];omega
 have d2:aA ((s16 s:Nat):Int) ((2:Int)^(U (W (8:Int)) (IntKind.bits E)))=((s16 s/256:Nat):Int):=by rw[show((2:Int)^(U (W (8:Int)) (IntKind.bits E)))=256 from rfl,a6_ _ ω];omega
 have d3:N ((s16 s:Nat):Int) 256=((s16 s%256:Nat):Int):=by rw[e2_ ω];omega
 unfold Aal;rw[w,d1,d2,d3,Rf,XW,XW,XW,XW];congr 3
 ·omega
 ·congr 1;omega
def Ap7(hs:s.size≤1000000):SK s=C ((JZ s,()),()):=by
 obtain⟨h1,h2⟩:=Amv hs;unfold SK;refine D h1 ?_
 have:=Qz s
 unfold JZ at this;rw[R_]at this;show(bif Nat.ble (s.size+(Hu [J.wrap (aA ((s16 s:Nat):Int) ((2:Int)^(U (W (8:Int)) (IntKind.bits E)))),J.wrap ((s16 s:Nat):Int)]).size) 4611686018427387904 then C ((s++Hu [J.wrap (aA ((s16 s:Nat):Int) ((2:Int)^(U (W (8:Int)) (IntKind.bits E)))),J.wrap ((s16 s:Nat):Int)],()),())else none)=_;rw[← Bcl s h2,Az ω];rfl
def Ap6(hs:s.size≤1000000):SJ s=C (((Lu s).1,(Lu s).2,()),()):=by
 unfold SJ Lu;by_cases h:(s.size:Int)<2
 ·have w:A.wrap ((s.size:Int)-2)=(s.size:Int)-2:=L ω ω;simp only[w];rw[b_ h,b_ (ω:(s.size:Int)-2<0)];rfl
 ·rw[f_ h,c_];have w:A.wrap ((s.size:Int)-2)=((s.size-2:Nat):Int):=by rw[L ω ω];omega
  simp only[w,h_];rw[f_ (ω:¬((s.size-2:Nat):Int)<0),b_ (ω:(0:Int)≤((s.size-2:Nat):Int)),b_ (ω:((s.size-2:Nat):Int)≤(s.size:Int)),a0_,d_,c_];refine D (Ap7 (s:=s.extract 0 (s.size-2)) (by rw[Aca s ω];omega)) ?_;show(bif !eqB (JZ (s.extract 0 (s.size-2))) s then _ else _)=_;cases eqB (JZ (s.extract 0 (s.size-2))) s<;>rfl
end Go.Ovl
