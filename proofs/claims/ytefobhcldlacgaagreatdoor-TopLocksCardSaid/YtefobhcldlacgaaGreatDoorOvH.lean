import Derived.Test.YtefobhcldlacgaaGreatDoorOvG
import Derived.Test.YtefobhcldlacgaaGreatDoorOvF
import Derived.Test.YtefobhcldlacgaaGreatDoorOvE
import Derived.Test.YtefobhcldlacgaaGreatDoorOvA
set_option linter.all false
open Go.IntKind renaming wrap->A,u64->E,i64->H,u32->Y
open Go.Ovl.Sat renaming ret->B,bic->I,bindS->R,bifT->Z
open Go.Ovl renaming bv->C,tl->O,nmB->S,vb->U,CarInput->V,Bldg->aB,View->aC
open Bool renaming true->J,false->N,and_eq_true_iff->aH
open Int renaming tmod->W,toNat->X,fdiv->aF,emod_lt_of_pos->aJ
open Option renaming some->aA
open Nat renaming blt->aD
open Min renaming min->aE
open Go.Ovl.CarInput renaming mk->aG
open ByteArray renaming mk->aI
namespace Go.Ovl
open Go Go.Ab
set_option maxRecDepth 100000
noncomputable section
variable{b:aB}{s:ByteArray}{n:Int}{vs:List aC}{l:List Int}{x:Inp}{i k:Nat}
structure Hd(b:Bldg)(s:ByteArray):Prop where
 size:10≤s.size
 u:vb (bv (IntKind.u32.wrap (leV s 4))&&& ~~~ bv (Bz b).1)=0
 d:vb (bv (IntKind.u32.wrap (leV (tl 4 s) 4))&&& ~~~ bv (Bz b).2)=0
 kind:((byN (tl 4 (tl 4 s)) 0:Nat):Int)≤8
 car:((byN (tl 1 (tl 4 (tl 4 s))) 0:Nat):Int)≤(b.B0.length:Int)-1
 none:byN (tl 4 (tl 4 s)) 0=0→byN (tl 1 (tl 4 (tl 4 s))) 0=0
 cars:∀j,j<b.B0.length→Ck b (SD j (tl 1 (tl 1 (tl 4 (tl 4 s)))))
def hdP(n:Nat)(s:ByteArray):Inp:=⟨(A Y (leV s 4),Y.wrap (leV (O 4 s) 4)),((byN (O 4 (O 4 s)) 0:Nat):Int),((byN (O 1 (O 4 (O 4 s))) 0:Nat):Int),Ok n (O 1 (O 1 (O 4 (O 4 s))))⟩
def Adn(hb:b.small)(hcode:b.code=0)(h:Hd b s):∃z,Ej s b.C0 b.F0 b.H0 b.M0 b.K0 b.L0 b.N0 b.B0=aA (((),(),()),((hdP b.B0.length s).tup,((0:Int),()),z)):=by
 have hcc:=Aj hcode;have hz:=h.size;refine⟨((SD b.B0.length (O 1 (O 1 (O 4 (O 4 s)))),b.C0,b.F0,b.H0,b.M0,b.K0,b.L0,b.N0,b.B0,()),()),?_⟩;unfold Ej;refine Ae (Af0 hb hcode ω h.u h.d) ?_;refine Ae (Js b (s:=O 4 (O 4 s)) (by rw[DP,DP];omega) h.kind) ?_;refine Ae (Js b (s:=O 1 (O 4 (O 4 s))) (by rw[DP,DP,DP];omega) (by show _≤H.wrap ((b.B0.length:Int)-1);rw[Aa ω ω];exact h.car)) ?_;refine Ae (a:=(((),(),(),()),((A Y (leV s 4),Y.wrap (leV (O 4 s) 4),((byN (O 4 (O 4 s)) 0:Nat):Int),((byN (O 1 (O 4 (O 4 s))) 0:Nat):Int),([]:List V),()),((0:Int),()),(O 1 (O 1 (O 4 (O 4 s))),b.C0,b.F0,b.H0,b.M0,b.K0,b.L0,b.N0,b.B0,()),()))) ?_ (Ae (Af5 hb hcc.2 h.cars _ _ _ _ 0) rfl);show(bif((byN (O 4 (O 4 s)) 0:Nat):Int) !=(0:Int)then(GS J).bind _ else(GS (((byN (O 1 (O 4 (O 4 s))) 0:Nat):Int)==0)).bind _)=_;cases q:(((byN (O 4 (O 4 s)) 0:Nat):Int) !=(0:Int))with
 |true=>rfl
 |false=>
  have q:((byN (O 4 (O 4 s)) 0:Nat):Int)=0:=by simpa using q
  rw[h.none ω];rfl
def RM(hb:b.small)(hcode:b.code=0)(hs:s.size≤1000000)(h:BX b s=0)(hd:Hd b ((s.extract 0 (s.size-2)).extract 2 (s.size-2))):Ei b.C0 b.F0 b.H0 b.M0 b.K0 b.L0 b.N0 b.B0 s=aA (((),(0:Int),()),((hdP b.B0.length ((s.extract 0 (s.size-2)).extract 2 (s.size-2))).tup,())):=by
 obtain⟨y,h1,hy⟩:=Yr hcode s hs;obtain⟨z,h2⟩:=Adn hb hcode hd;unfold Ei;refine Ae (Xy hcode) (Ae h1 ?_);cases y with
 |inl z=>exact absurd h hy.2
 |inr w=>obtain⟨_,e1,e2⟩:=hy;show(bif w.1.2.1 !=0 then _ else _)=_;rw[e1];show Option.bind _ _=_;rw[e2];exact Ae h2 rfl
def Bid{a c:Nat}(ha:a<2^i)(hc:c<256)(hi:i+8≤64):orL (a:Int) (A E (A E (c:Int)*((2^i:Nat):Int)))=((a+c*2^i:Nat):Int):=by
 have h1:c*2^i<2^(i+8):=by rw[Nat.pow_add,f9_];exact Nat.mul_lt_mul_of_pos_left hc (Nat.two_pow_pos i)
 have h2:(2:Nat)^(i+8)≤2^64:=Nat.pow_le_pow_right τ hi;have h3:(2:Nat)^i≤2^64:=Nat.pow_le_pow_right τ ω;have h4:(2:Nat)^64=18446744073709551616:=by decide
 have h5:=Nat.or_lt_two_pow (n:=64) (x:=a) (y:=c*2^i) ω ω;have h6:a|||c*2^i=a+c*2^i:=by rw[Nat.or_comm,← Nat.shiftLeft_eq,← Nat.shiftLeft_add_eq_or_of_lt ha,e4_]
 unfold orL;rw[CN (n:=(c:Int)) ω ω,show(c:Int)*((2^i:Nat):Int)=((c*2^i:Nat):Int)by rw[Int.natCast_mul],← h6];generalize c*2^i=p at*;rw[CN (n:=(p:Int)) ω ω];rw[LC,BitVec.toNat_or,a0_,a0_];rw[show((a:Int)%((2^IntKind.bits .u64:Nat):Int)).toNat=a by simp only[IntKind.bits];omega,show((p:Int)%((2^IntKind.bits .u64:Nat):Int)).toNat=p by simp only[IntKind.bits];omega];exact CN ω ω
def leN(s:ByteArray):Nat→Nat
 |0=>0
 |i+1=>leN s i+byN s i*2^(8*i)
def Azb(s:ByteArray):∀i,leN s i<2^(8*i)
 |0=>by show 0<1;decide
 |i+1=>by
  have h:=Azb s i;have hb:=Rk s i;show leN s i+byN s i*2^(8*i)<2^(8*i+8);rw[Nat.pow_add]
  have:byN s i*2^(8*i)≤255*2^(8*i):=K_ _ ω
  omega
def Aqn(s:ByteArray):∀i,i≤8→leV s i=((leN s i:Nat):Int)
 |0,_=>rfl
 |i+1,h=>by show orL (leV s i) (A E (A E (AC s i)*((2:Int)^(aE (X (8*(i:Int))) (IntKind.bits E)))))=_;rw[Aqn s i ω,FU,show((2:Int)^(aE (X (8*(i:Int))) (IntKind.bits E)))=((2^(8*i):Nat):Int)by rw[show aE (X (8*(i:Int))) (IntKind.bits E)=8*i by show min (X (8*(i:Int))) 64=8*i;omega];norm_cast];exact Bid (Azb s i) (Rk s i) ω
def Bbe(l:List Int):bl (ID l)=l.map λn=>UInt8.ofNat n.toNat:=by simp[bl,ID]
def Ayb{n:Nat}(hi:i<k)(hk:k≤8)(r:ByteArray):byN (S (n:Int) k++r) i=n/2^(8*i)%256:=by
 have hl:(Abz (n:Int) k).length=k:=by simp[Abz]
 have hg:(Abz (n:Int) k)[i]?=aA ((n/2^(8*i)%256:Nat):Int):=by unfold Abz;rw[b5_,List.getElem?_range hi];show aA (A IntKind.u8 (aF (n:Int) ((2:Int)^(aE (8*i) (IntKind.bits .u64)))))=_;rw[show aE (8*i) (IntKind.bits .u64)=8*i by show min (8*i) 64=8*i;omega,X_ _ (Int.le_of_lt (Int.pow_pos τ)),show(2:Int)^(8*i)=((2^(8*i):Nat):Int)by norm_cast,← Int.natCast_ediv];simp only[A,IntKind.signed,IntKind.bits];simp
 unfold byN S;rw[Ly,Bbe,k_,c1_ (by rw[b2_,hl];exact hi),b5_,hg];show n/2^(8*i)%256%256=_;omega
def Azc{n k:Nat}(hk:k≤8)(r:ByteArray):∀i,i≤k→leN (S (n:Int) k++r) i=n%2^(8*i)
 |0,_=>by show 0=n%1;omega
 |i+1,h=>by show leN _ i+byN _ i*2^(8*i)=n%2^(8*i+8);rw[Azc hk r i ω,Ayb ω hk,Nat.pow_add,Nat.mod_mul,f9_ (2^(8*i))]
def Aml(n:Int)(hk:k≤8)(hn:0≤n)(r:ByteArray):leV (S n k++r) k=((n.toNat%2^(8*k):Nat):Int):=by obtain⟨m,rfl⟩:=e2_ hn;rw[Aqn _ _ hk,Azc hk r k (y_ k),j_]
def CJ{a:ByteArray}(h:a.size=k)(r:ByteArray):O k (a++r)=r:=by subst h;unfold O;apply Py;rw[NI,Ly,List.drop_left' (Ev a),O_,← Ev r];exact a7_ ω
def Bcw(h:0≤n∧n<4294967296)(r:ByteArray):Y.wrap (leV (S n 4++r) 4)=n:=by rw[Aml n τ h.1,show n.toNat%2^(8*4)=n.toNat by show n.toNat%4294967296=_;omega,f4_ h.1];simp only[A,IntKind.signed,IntKind.bits];simp;omega
def LJ(h:0≤n∧n<256)(r:ByteArray):((byN (S n 1++r) 0:Nat):Int)=n:=by obtain⟨m,rfl⟩:=e2_ h.1;rw[Ayb τ τ];show((m/1%256:Nat):Int)=m;omega
def HN:List V→ByteArray
 |[]=>noB
 |c::l=>S (A E c.V0) 4++(Ue [c.T1,c.F1,c.G1,c.W0,c.Y0,c.Q1]++(S (A E c.M1) 1++(S (A E c.B1) 1++(S (A E c.B2) 4++(S ((c.G3:Nat):Int) 8++HN l)))))
def UM(c:V)(l:List V):HN (c::l)=S (A E c.V0) 4++(Ue [c.T1,c.F1,c.G1,c.W0,c.Y0,c.Q1]++(S (A E c.M1) 1++(S (A E c.B1) 1++(S (A E c.B2) 4++(S ((c.G3:Nat):Int) 8++HN l))))):=rfl
def Bg8(s:ByteArray):s++noB=s:=Py (by rw[Ly,show bl noB=[]from rfl,Z_])
def WG:∀(l:List V) (s:ByteArray),l.foldl JE s=s++HN l
 |[],s=>(Bg8 s).symm
 |c::l,s=>by rw[f2_,WG l,UM];unfold JE;simp only[ByteArray.append_assoc]
def PJ(x:Inp):ByteArray:=S (A E x.press.1) 4++(S (A E x.press.2) 4++(S (A E x.kind) 1++(S (A E x.car) 1++HN x.cars)))
def ZB(b:aB)(x:Inp):((inV b x).extract 0 ((inV b x).size-2)).extract 2 ((inV b x).size-2)=PJ x:=by
 have e:x.cars.foldl JE (QM b x)=(S 165 1++S (A E (b.B0.length:Int)) 1)++PJ x:=by rw[WG];unfold QM Rl PJ;simp only[ByteArray.append_assoc]
 have h2:(S 165 1++S (A E (b.B0.length:Int)) 1).size=2:=by rw[O_,AB,AB]
 unfold inV;rw[PW,Nat.add_sub_cancel];generalize x.cars.foldl JE (QM b x)=t at e;have e1:(Hm t).extract 0 t.size=t:=by unfold Hm;apply Py;rw[NI,Ly,S_,Nat.sub_zero];exact f1_ (Ev t)
 rw[e1,e];exact CJ h2 (PJ x)
def Bae(n:Int):0≤E.wrap n∧E.wrap n<18446744073709551616:=by simp only[A,IntKind.signed,IntKind.bits];simp;exact⟨Int.emod_nonneg _ τ,aJ _ τ⟩
def Bhu(a b c d e f:Bool)(r:ByteArray):byN (Ue [a,b,c,d,e,f]++r) 0≤63:=by
 have h:∀n:Int,0≤n∧n<64→byN (S n 1++r) 0≤63:=λn h=>by
  have:=LJ (n:=n) ω r
  omega
 refine h _ ?_;cases a<;>cases b<;>cases c<;>cases d<;>cases e<;>cases f<;>decide
section
variable{b:aB}(hb:b.small)
include hb
theorem An0:4≤2^b.C0.toNat∧2^b.C0.toNat≤(256:Nat):=by have lo:=hb.lo;have hi:=hb.hi;have h:b.C0.toNat=2∨b.C0.toNat=3∨b.C0.toNat=4∨b.C0.toNat=5∨b.C0.toNat=6∨b.C0.toNat=7∨b.C0.toNat=8:=ω;rcases h with h | h | h | h | h | h | h<;>rw[h]<;>decide
theorem Aqt(h:flV b n=J)(r:ByteArray):C2 b.C0 (A Y (leV (S (A E n) 4++r) 4)):=by have h1:C2 b.C0 (A E n):=Acl.1 h;have h2:=An0 hb;obtain⟨h3,h4⟩:=h1;rw[Bcw ω];exact⟨h3,h4⟩
theorem Ae2{c:V}(h:Ec b c=J)(l:List V):Ck b (HN (c::l))∧rest (HN (c::l))=HN l:=by
 have lo:=hb.lo;have hi:=hb.hi;unfold Ec at h;simp only[e_]at h;obtain⟨h1,h2,h3,h4⟩:=h;have h3:=Ao.1 h3;have h4:=Ao.1 h4;have u:∀n:Int,0≤n∧n<256→E.wrap n=n:=λn h=>CN h.1 ω;rw[UM];have t1:=λr=>CJ (AB (A E c.V0) 4) r;have t2:=λr=>CJ (Nh [c.T1,c.F1,c.G1,c.W0,c.Y0,c.Q1]) r;have t3:=λr=>CJ (AB (A E c.M1) 1) r;have t4:=λr=>CJ (AB (A E c.B1) 1) r;have t5:=λr=>CJ (AB (A E c.B2) 4) r;have t6:=λr=>CJ (AB ((c.G3:Nat):Int) 8) r;refine⟨⟨?_,?_,?_,?_,?_,?_⟩,?_⟩
 ·simp only[O_,AB,Nh];omega
 ·exact Aqt hb h1 _
 ·rw[t1];exact Bhu ..
 ·rw[t1,t2,u _ ω,LJ ω];exact h3.2
 ·rw[t1,t2,t3,u _ ω,LJ ω];exact h4.2
 ·rw[t1,t2,t3,t4];exact Aqt hb h2 _
 ·unfold rest;rw[t1,t2,t3,t4,t5,t6]
theorem Aef:∀(l:List V),(∀c∈l,Ec b c=J)→∀j,j<l.length→Ck b (SD j (HN l))
 |[],_,_,hj=>absurd hj (d5_ _)
 |c::l,h,0,_=>(Ae2 hb (h c (p_ ..)) l).1
 |c::l,h,j+1,hj=>by show Ck b (SD j (rest (HN (c::l))));rw[(Ae2 hb (h c (p_ ..)) l).2];exact Aef l (λa ha=>h a (r_ _ ha)) j (by rw[B_]at hj;omega)
end
def OO(n:Int)(r:ByteArray):Y.wrap (leV (S (A E n) 4++r) 4)=Y.wrap n:=by
 have h:=Bae n;rw[Aml _ τ h.1];have e:E.wrap n=n%18446744073709551616:=by simp only[A,IntKind.signed,IntKind.bits];simp
 show Y.wrap (((A E n).toNat%4294967296:Nat):Int)=_;generalize E.wrap n=m at*;simp only[A,IntKind.signed,IntKind.bits];simp;omega
def Aya(n:Int):C (A Y n)=C n:=by unfold C;apply BitVec.eq_of_toNat_eq;simp only[a0_,A,IntKind.signed,IntKind.bits];simp
def Au8(hb:b.small)(hcode:b.code=0)(h:HI b x=J):Hd b (PJ x)∧(hdP b.B0.length (PJ x)).press=(A Y x.press.1,Y.wrap x.press.2)∧(hdP b.B0.length (PJ x)).kind=x.kind∧(hdP b.B0.length (PJ x)).car=x.car:=by
 have hc:=Aj hcode;unfold HI at h;simp only[e_,U_]at h;obtain⟨h1,h2,h3,h4,h5,h6⟩:=h;have h2:=Ao.1 h2;have h3:=Ao.1 h3;have u:∀n:Int,0≤n∧n<256→E.wrap n=n:=λn h=>CN h.1 ω;have t1:=λr=>CJ (AB (A E x.press.1) 4) r;have t2:=λr=>CJ (AB (A E x.press.2) 4) r;have t3:=λr=>CJ (AB (A E x.kind) 1) r;have t4:=λr=>CJ (AB (A E x.car) 1) r;have hw:U (C x.press.1&&& ~~~ C (Bz b).1)=0∧U (C x.press.2&&& ~~~ C (Bz b).2)=0:=by
  unfold GG isZ at h1;have h1:(Az x.press (Bz b)).1=0∧(Az x.press (Bz b)).2=0:=by simpa using h1
  exact h1
 have k1:∀r,((byN (S (A E x.kind) 1++r) 0:Nat):Int)=x.kind:=λr=>by rw[u _ ω,LJ ω]
 have k2:∀r,((byN (S (A E x.car) 1++r) 0:Nat):Int)=x.car:=λr=>by rw[u _ ω,LJ ω]
 unfold PJ;refine⟨⟨?_,?_,?_,?_,?_,?_,?_⟩,?_,?_,?_⟩
 ·simp only[O_,AB];omega
 ·rw[OO,Aya];exact hw.1
 ·rw[t1,OO,Aya];exact hw.2
 ·rw[t1,t2,k1];exact h2.2
 ·rw[t1,t2,t3,k2];exact h3.2
 ·rw[t1,t2,t3];intro q;have q1:=k1 (S (A E x.car) 1++HN x.cars);have q2:=k2 (HN x.cars);rw[q]at q1
  have:x.car=0:=by rw[← q1]at h4;simpa using h4
  omega
 ·rw[t1,t2,t3,t4];intro j hj;exact Aef hb x.cars (λc hc=>I_.1 h6 c hc) j ω
 ·unfold hdP;rw[t1,OO,OO]
 ·unfold hdP;rw[t1,t2];exact k1 _
 ·unfold hdP;rw[t1,t2,t3];exact k2 _
def Bas(b:aB)(x:Inp):Prop:=HI b x=J∧EC x.press
def Bgx(v:BitVec 32):0≤U v∧U v<4294967296:=by
 have:=v.isLt
 unfold U;omega
def FrX(b:aB)(x:Inp)(s:ByteArray):Prop:=s.size=(inV b x).size∧s.extract 0 (s.size-2)=(inV b x).extract 0 (s.size-2)
def Fr(b:aB)(s:ByteArray):Prop:=∃x,Bas b x∧FrX b x s
def FrX.spoilt(h:FrX b x s)(r:ByteArray)(hr:r.size=1)(hs:1≤s.size):FrX b x (s.extract 0 (s.size-1)++r):=by
 have hz:(s.extract 0 (s.size-1)++r).size=s.size:=by rw[O_,hr,ByteArray.size_extract];omega
 refine⟨hz.trans h.1,?_⟩;rw[hz,← h.2];apply Py;have hl:=Ev s;rw[NI,NI,Ly,NI];simp only[S_,Nat.sub_zero];rw[List.take_append_of_le_length (by rw[u_,hl];omega),List.take_take];congr 1;omega
def DW(b:aB):Int:=Y.wrap (A Y (1*2^min (X (A E b.C0)) (IntKind.bits .u32))-1)
def Ad5(hb:b.small):0≤DW b∧DW b<2^b.C0.toNat∧2^b.C0.toNat≤(256:Int)∧(∀f:Nat,f<32→CW (DW b) f=J→(f:Int)<b.C0)∧(∀f:Nat,f<32→CW (aF (DW b) ((2:Int)^(aE (X (1:Int)) (IntKind.bits Y)))) f=J→(f:Int)<b.C0-1):=by
 have lo:=hb.lo;have hi:=hb.hi;unfold DW
 have:b.C0=2∨b.C0=3∨b.C0=4∨b.C0=5∨b.C0=6∨b.C0=7∨b.C0=8:=ω
 rcases this with h | h | h | h | h | h | h<;>rw[h]<;>refine⟨τ,τ,τ,τ,τ⟩
def Blc(a:Int){c:Int}(hc:0≤c∧c<4294967296):0≤U (C a&&&C c)∧U (C a&&&C c)≤c:=by
 have h2:=Au3 hc;unfold U at*;rw[BitVec.toNat_and]
 have:=Nat.and_le_right (n:=(C a).toNat) (m:=(C c).toNat)
 omega
section
variable{b:aB}(hb:b.small)(hcode:b.code=0)
include hb in
theorem Bcg(a:Int):flV b (U (C a&&&C (DW b)))=J:=by
 obtain⟨m0,m1,m2,_⟩:=Ad5 hb;have h:=Blc a (c:=DW b) ω;unfold flV;rw[CN ω ω];generalize U (C a&&&C (DW b))=n at h
 have:n.fdiv (2^b.C0.toNat)=0:=by rw[X_ _ ω];exact Int.ediv_eq_zero_of_lt h.1 ω
 rw[this];rfl
include hb hcode in
theorem Au5(u d:Int):GG b (U (C (U (C u&&&C (DW b)))&&&C (aF (DW b) ((2:Int)^(aE (X (1:Int)) (IntKind.bits Y))))),U (C (U (C d&&&C (DW b)))&&& ~~~ C 1))=J:=by
 obtain⟨_,_,_,m3,m4⟩:=Ad5 hb;unfold GG;rw[Kx (Ha _ _)];intro f hf D hD;rw[Bo _ _ hf,WM hb hcode hf hD];rcases hD with rfl | rfl
 ·cases hq:Am (U (C (U (C u&&&C (DW b)))&&&C (aF (DW b) ((2:Int)^(aE (X (1:Int)) (IntKind.bits Y))))),U (C (U (C d&&&C (DW b)))&&& ~~~ C 1)) f 1 with
  |false=>rfl
  |true=>
   have h1:CW (U (C (U (C u&&&C (DW b)))&&&C (aF (DW b) ((2:Int)^(aE (X (1:Int)) (IntKind.bits Y)))))) f=J:=hq;rw[Ti,f7_,aH]at h1;have h2:=m4 f hf h1.2;have h5:Ap b (f:Int) 1=J:=by unfold Ap Oj;rw[hcode,show inR 0 (b.C0-2) (f:Int)=J from Ao.2 ⟨ω,ω⟩];rfl
   rw[h5];rfl
 ·cases hq:Am (U (C (U (C u&&&C (DW b)))&&&C (aF (DW b) ((2:Int)^(aE (X (1:Int)) (IntKind.bits Y))))),U (C (U (C d&&&C (DW b)))&&& ~~~ C 1)) f 2 with
  |false=>rfl
  |true=>
   have h1:CW (U (C (U (C d&&&C (DW b)))&&& ~~~ C 1)) f=J:=hq;rw[Ti,f7_,Ar2,f7_,BitVec.getLsbD_not,aH,aH,aH]at h1;have h2:=m3 f hf h1.1.2;have h3:f≠0:=λh=>by subst h;exact absurd h1.2.2 τ
   have h5:Ap b (f:Int) 2=J:=by unfold Ap Oj;rw[hcode,show inR 1 (b.C0-1) (f:Int)=J from Ao.2 ⟨ω,ω⟩];rfl
   rw[h5];rfl
end
def BZ{α:Type}{l:List α}{j:Nat}(d x:α)(h:i≠j):(l.set i x).getD j d=l.getD j d:=by rw[k_,List.getElem?_set_ne h,← k_]
section
variable{b:aB}(hb:b.small)(hcode:b.code=0)
include hb hcode
theorem Bao(u d kd car:Int){cs:List V}(hcs:cs.length=b.B0.length):Sat (OW b.C0 b.F0 b.H0 b.M0 b.K0 b.L0 b.N0 b.B0 u d kd car cs) λy=>∃x:Inp,y=(((),()),(x.tup,()))∧Bas b x:=by
 have hc:=Aj hcode;have lo:=hb.lo;have hi:=hb.hi;have hw:=Au5 hb hcode u d;unfold OW;refine Z (Aez _) ?_;have z8:E.wrap (b.B0.length:Int)=(b.B0.length:Int):=CN ω ω;refine Z (by show(A E (b.B0.length:Int) !=0)=J;rw[z8];exact JR ω) ?_;have u64n:∀n:Int,0≤E.wrap n∧E.wrap n<18446744073709551616:=λn=>by simp only[A,IntKind.signed,IntKind.bits];simp;exact⟨Int.emod_nonneg _ τ,aJ _ τ⟩
 have md:∀(n:Int) (m:Int),0<m→m≤9→0≤H.wrap (W (A E n) m)∧H.wrap (W (A E n) m)<m:=λn m h0 h1=>by have h2:=(u64n n).1;rw[f6_ h2];have h3:=Int.emod_nonneg (A E n) (ω:m≠0);have h4:=aJ (A E n) h0;rw[Aa ω ω];exact⟨h3,h4⟩
 refine R (Q:=λy=>∃(k c:Int),y=(((),(),(),DW b,()),(b.tup,(U (C (U (C u&&&C (DW b)))&&&C (aF (DW b) ((2:Int)^(aE (X (1:Int)) (IntKind.bits Y))))),U (C (U (C d&&&C (DW b)))&&& ~~~ C 1),k,c,cs,()),((0:Int),(0:Int),(0:Int),(0:Int),([]:List V),()),()))∧inR 0 8 k=J∧inR 0 ((b.B0.length:Int)-1) c=J∧(k==0&&c !=0)=N) ?_ λy hy=>?_
 ·have hk:=md kd 9 τ τ;have hkr:inR 0 8 (A H (W (A E kd) 9))=J:=Ao.2 ⟨hk.1,ω⟩;simp only[ZK,OF];refine I (λh=>B ⟨_,_,rfl,hkr,Ao.2 ⟨e1_ 0,ω⟩,by rw[h];rfl⟩) λh=>B ⟨_,_,rfl,hkr,?_,by rw[h];rfl⟩;have hcr:=md car (b.B0.length:Int) ω ω;rw[z8];exact Ao.2 ⟨hcr.1,ω⟩
 obtain⟨k,c,rfl,hk,hcr,hkc⟩:=hy;have hcap:((decide ((0:Int)≤(b.B0.length:Int))&&decide ((b.B0.length:Int)≤(b.B0.length:Int)))&&decide ((b.B0.length:Int)≤2147483648))=J:=by simp only[b_ (ω:(0:Int)≤(b.B0.length:Int)),b_ (e1_ (b.B0.length:Int)),b_ (ω:(b.B0.length:Int)≤2147483648),a6_]
 refine Z hcap ?_;generalize hP:(U (C (U (C u&&&C (DW b)))&&&C (aF (DW b) ((2:Int)^(aE (X (1:Int)) (IntKind.bits Y))))),U (C (U (C d&&&C (DW b)))&&& ~~~ C 1))=P at hw;have hP1:=c0_ Prod.fst hP;have hP2:=c0_ Prod.snd hP;simp only at hP1 hP2;rw[hP1,hP2];refine R (Q:=λy=>∃l:List V,y=(((),(),l,()),((P.1,P.2,k,c,cs,()),((0:Int),(0:Int),(0:Int),(0:Int),([]:List V),()),()))∧l.length=b.B0.length∧∀j,j<b.B0.length→Ec b (l.getD j Ed)=J) ?_ λy hy=>?_
 ·refine Sat.loop (λ(kk:Nat) z=>∃(l:List V) (i:Nat),z=(((),(),(),DW b,l,(i:Int),()),(b.tup,(P.1,P.2,k,c,cs,()),((0:Int),(0:Int),(0:Int),(0:Int),([]:List V),()),()))∧l.length=b.B0.length∧(∀j,j<i→Ec b (l.getD j Ed)=J)∧i+kk=b.B0.length) (λkk z hz=>?_) b.B0.length ⟨_,0,rfl,?_,λj hj=>absurd hj (d5_ j),o_ _⟩ ω
  ·obtain⟨l,i,rfl,hl,hj,hkk⟩:=hz;unfold Vo;refine I (λgg=>?_) λgg=>B ⟨l,rfl,hl,?_⟩
   ·have gg:(i:Int)<(l.length:Int):=m_ gg;have hin:i<l.length:=ω;have w:=CK (n:=i) ω;have z7:E.wrap b.C0=b.C0:=CN ω ω;refine Z (Ac (ω:(0:Int)≤(i:Int)) gg) ?_;refine Z (by show(A E b.C0 !=0)=J;rw[z7];exact JR ω) ?_;simp only[ZK,j_];refine B ⟨kk-1,ω,_,i+1,by first | (rw[← w];rfl) | rw[← w],?_,?_,ω⟩
    ·simp only[x_];exact hl
    ·intro j hjj;by_cases he:j=i
     ·subst he;rw[Bf _ _ (by simp only[x_];exact hin),Bf _ _ (by simp only[x_];exact hin),Bf _ _ (by simp only[x_];exact hin),Bf _ _ hin];unfold Ec;have f1:=md (l.getD j (aG 0 N N N N 0 N 0 N 0 0)).M1 b.C0 ω ω;have f2:=md (l.getD j (aG 0 N N N N 0 N 0 N 0 0)).B1 3 τ τ;simp only[Bcg hb,z_];rw[show E.wrap b.tup.1=b.C0 from z7,Ao.2 ⟨f1.1,show _≤b.C0-1 by omega⟩,Ao.2 ⟨f2.1,show _≤(2:Int)by omega⟩];rfl
     ·rw[BZ _ _ (e8_ he),BZ _ _ (e8_ he),BZ _ _ (e8_ he),BZ _ _ (e8_ he)];exact hj j ω
   ·have gg:¬(i:Int)<(l.length:Int):=D_ gg;intro j hjj;exact hj j ω
  ·show(Lg (List.replicate (X (b.B0.length:Int)) (aG 0 N N N N 0 N 0 N 0 0)) cs).length=b.B0.length;unfold Lg;simp only[h_,u_,V_,T_,j_];omega
 obtain⟨l,rfl,hl,hall⟩:=hy;refine B ⟨⟨P,k,c,l⟩,rfl,?_,by show EC P;rw[← hP];exact⟨Bgx _,Bgx _⟩⟩;unfold HI;rw[hw,hk,hcr,hkc,show((l.length:Int)==(b.B0.length:Int))=J by rw[hl];exact l_ _];simp only[z_,d4_];refine I_.2 λe he=>?_;obtain⟨j,hj,rfl⟩:=g2_ he
 have:=hall j ω
 rwa [k_,i_ hj]at this
end
def Bsm:∀k:Fin 16,(arF .quo .f64 (Ad8 .f64 ((k.val:Nat):Int)) 4622945017495814144).isSome=J:=by decide
def Bsn(h:0≤n∧n<256):Sat (arF .quo .f64 (Ad8 .f64 (W n 16)) 4622945017495814144) λ_=>True:=by obtain⟨k,rfl⟩:=e2_ h.1;have e:W ((k:Nat):Int) 16=((k%16:Nat):Int):=MM k 16;have h2:=Bsm ⟨k%16,g1_ _ τ⟩;rw[e];obtain⟨a,ha⟩:=Option.isSome_iff_exists.1 h2;exact⟨a,ha,trivial⟩
def Aq5(h:∀e∈l,u8r e)(n:Nat):u8r (l.getD n 0):=by
 by_cases hn:n<l.length
 ·exact Al1 h hn
 ·rw[k_,List.getElem?_eq_none ω];exact Bqf
section
variable{b:aB}(hb:b.small)(hcode:b.code=0)
include hb hcode
theorem Baq{x0 x1 x2 x3 x4 x5:Int}(h:∀e∈[x0,x1,x2,x3,x4,x5],u8r e):Sat (OX b.C0 b.F0 b.H0 b.M0 b.K0 b.L0 b.N0 b.B0 x0 x1 x2 x3 x4 x5) λy=>∃x:Inp,y=(((),()),(x.tup,()))∧Bas b x:=by
 have hc:=Aj hcode;unfold OX;refine R (Q:=λy=>∃u d:Int,y=(((),(),(),(),()),(b.tup,(x0,x1,x2,x3,x4,x5,()),((0:Int),(0:Int),(0:Int),(0:Int),([]:List V),()),(u,d,(0:Int),(0:Int),([]:List V),()),()))) (I (λ_=>B ⟨_,_,rfl⟩) λ_=>B ⟨_,_,rfl⟩) λy hy=>?_;obtain⟨u,d,rfl⟩:=hy;refine R (Q:=λy=>∃k c:Int,y=(((),(),(),(),()),(b.tup,(x0,x1,x2,x3,x4,x5,()),((0:Int),(0:Int),(0:Int),(0:Int),([]:List V),()),(u,d,k,c,([]:List V),()),()))) (I (λ_=>B ⟨_,_,rfl⟩) λ_=>B ⟨_,_,rfl⟩) λy hy=>?_;obtain⟨k,c,rfl⟩:=hy;refine R (Q:=λy=>∃cs:List V,y=(((),(),(),()),(b.tup,((0:Int),(0:Int),(0:Int),(0:Int),([]:List V),()),(u,d,k,c,cs,()),()))∧cs.length=b.B0.length) ?_ λy hy=>?_
 ·refine Sat.loop (λ(kk:Nat) z=>∃(cs:List V) (i:Nat),z=(((),(),(),(),(i:Int),()),(b.tup,(x0,x1,x2,x3,x4,x5,()),((0:Int),(0:Int),(0:Int),(0:Int),([]:List V),()),(u,d,k,c,cs,()),()))∧cs.length=i∧i+kk=b.B0.length) (λkk z hz=>?_) b.B0.length ⟨[],0,rfl,rfl,o_ _⟩ ω;obtain⟨cs,i,rfl,hcs,hkk⟩:=hz;unfold Vr;refine I (λgg=>?_) λgg=>B ⟨cs,rfl,?_⟩
  ·have gg:(i:Int)<(b.B0.length:Int):=m_ gg;have w:=CK (n:=i) ω;have e3:W (i:Int) 3=((i%3:Nat):Int):=MM i 3;have e4:W (i:Int) 4=((i%4:Nat):Int):=MM i 4;have w3:H.wrap (3+W (i:Int) 3)=3+((i%3:Nat):Int):=by rw[e3,Aa ω ω]
   have w4:H.wrap (2+W (i:Int) 4)=2+((i%4:Nat):Int):=by rw[e4,Aa ω ω]
   refine Z (Ac (ω:0≤H.wrap (3+W (i:Int) 3)) (ω:H.wrap (3+W (i:Int) 3)<((6:Nat):Int))) ?_;refine Z (Ac (ω:0≤H.wrap (2+W (i:Int) 4)) (ω:H.wrap (2+W (i:Int) 4)<((6:Nat):Int))) ?_;refine R (Bsn (Aq5 h _)) λld _=>Z (Aez _) ?_;refine R (Q:=λy=>∃(z:Int) (ci:V),y=(((),(),(),(),(i:Int),z,(),()),(b.tup,(x0,x1,x2,x3,x4,x5,()),((0:Int),(0:Int),(0:Int),(0:Int),([]:List V),()),(u,d,k,c,cs,()),(ci.V0,ci.T1,ci.F1,ci.G1,ci.W0,ci.M1,ci.Y0,ci.B1,ci.Q1,ci.B2,ci.G3,()),()))) ?_ λy hy=>?_
   ·refine I (λ_=>B ⟨_,aG _ _ _ _ _ _ _ _ _ _ _,rfl⟩) λ_=>B ⟨_,aG _ _ _ _ _ _ _ _ _ _ _,rfl⟩
   obtain⟨z,ci,rfl⟩:=hy;refine Z (AD (ω:cs.length+1≤_)) (B ⟨kk-1,ω,cs++[aG ci.V0 ci.T1 ci.F1 ci.G1 ci.W0 (A H (W z 8)) (decide ((0:Int)<W z 5)) (A H (W (A IntKind.u8 (Int.tdiv z 8)) 3)) (W z 7==0) ci.B2 ci.G3],i+1,by first | (rw[← w];rfl) | rw[← w],by rw[h_,hcs];rfl,ω⟩)
  ·have gg:¬(i:Int)<(b.B0.length:Int):=D_ gg;omega
 obtain⟨cs,rfl,hcs⟩:=hy;refine R (Bao hb hcode u d k c hcs) λy hy=>?_;obtain⟨x,rfl,hx⟩:=hy;exact B ⟨x,rfl,hx⟩
theorem Bap(h:∀e∈l,u8r e)(_hl:l.length≤maxLen){most:Nat}(hm:most≤1000):Sat (Mp b.C0 b.F0 b.H0 b.M0 b.K0 b.L0 b.N0 b.B0 l (most:Int)) λy=>y.1.1.length≤most∧∀s∈y.1.1,Fr b s:=by
 have hc:=Aj hcode;have hmx:maxLen≤9223372036854775807:=by decide
 unfold Mp;refine R (Q:=λy=>y.1.1.length≤most∧∀s∈y.1.1,Fr b s) ?_ λy hy=>B hy;refine Sat.loop (λ(k:Nat) z=>∃(out:List ByteArray) (i:Nat),z=((l,(most:Int),(),out,(i:Int),()),(b.tup,()))∧i≤out.length∧out.length≤most∧(∀s∈out,Fr b s)∧i+k=most) (λk z hz=>?_) most ⟨[],0,rfl,y_ 0,a4_ _,λs hs=>(by cases hs),o_ _⟩ ω;obtain⟨out,i,rfl,h1,h2,h3,hk⟩:=hz;unfold Vp;have w6:H.wrap (6*(i:Int))=6*(i:Int):=Aa ω ω;refine I (λg1=>I (λg2=>?_) λ_=>B ⟨h2,h3⟩) λ_=>B ⟨h2,h3⟩;have g1:H.wrap (6*(i:Int))<(l.length:Int):=m_ g1;have g2:(out.length:Int)<(most:Int):=m_ g2;refine Z (by show(decide ((0:Int)≤H.wrap (6*(i:Int)))&&decide (A H (6*(i:Int))≤(l.length:Int)))=J;rw[b_ (ω:(0:Int)≤H.wrap (6*(i:Int))),b_ (ω:H.wrap (6*(i:Int))≤(l.length:Int))];rfl) ?_;have hz1:∀e∈List.drop (X (A H (6*(i:Int)))) (List.take (List.length l) l),u8r e:=λe he=>h e (by
  have:=e0_ he
  exact d9_ this)
 generalize List.drop (X (A H (6*(i:Int)))) (List.take (List.length l) l)=L at hz1;dsimp only;have pick:∀n:Nat,u8r (bif aD n L.length then L.getD n 0 else 0):=λn=>by
  cases aD n L.length with
  |true=>exact Aq5 hz1 n
  |false=>exact Bqf
 have hall:∀e∈[(bif aD 0 L.length then L.getD 0 0 else 0),(bif aD 1 L.length then L.getD 1 0 else 0),(bif aD 2 L.length then L.getD 2 0 else 0),(bif aD 3 L.length then L.getD 3 0 else 0),(bif aD 4 L.length then L.getD 4 0 else 0),(bif aD 5 L.length then L.getD 5 0 else 0)],u8r e:=λe he=>by simp only[s_,h3_,or_false]at he;rcases he with rfl | rfl | rfl | rfl | rfl | rfl<;>exact pick _
 have h5:=pick 5;have hin:=Baq hb hcode hall;generalize(bif aD 0 L.length then L.getD 0 0 else 0)=q0 at hin;generalize(bif aD 1 L.length then L.getD 1 0 else 0)=q1 at hin;generalize(bif aD 2 L.length then L.getD 2 0 else 0)=q2 at hin;generalize(bif aD 3 L.length then L.getD 3 0 else 0)=q3 at hin;generalize(bif aD 4 L.length then L.getD 4 0 else 0)=q4 at hin;generalize(bif aD 5 L.length then L.getD 5 0 else 0)=q5 at hin h5;refine R hin λy hy=>?_;obtain⟨x,rfl,hx⟩:=hy;have hxl:x.cars.length=b.B0.length:=by have hx:=hx.1;unfold HI at hx;simp only[e_,U_]at hx;omega
 have hin2:=Aib hb hcode x ω;rw[hx.1,d_]at hin2;refine Sat.bindE hin2 ?_;have hsz:=WN b x;have h5':0≤W q5 4∧W q5 4≤3:=by have h50:0≤q5:=h5.1;rw[f6_ h50];omega
 have w5:H.wrap (W q5 4)=W q5 4:=Aa ω ω;refine R (Q:=λy=>∃o:List ByteArray,y=((l,(most:Int),(),o,(i:Int),()),(b.tup,()))∧i+1≤o.length∧o.length≤most∧∀s∈o,Fr b s) ?_ λy hy=>?_
 ·refine Sat.loop (λ(kk:Nat) z=>∃(o:List ByteArray) (s:ByteArray) (j:Nat),z=((l,(most:Int),(),o,(i:Int),(),s,(j:Int),()),(b.tup,(q0,q1,q2,q3,q4,q5,()),()))∧o.length=out.length+j∧o.length≤most∧(∀s∈o,Fr b s)∧FrX b x s∧j+kk=4) (λkk z hz=>?_) 4 ⟨out,inV b x,0,rfl,rfl,h2,h3,⟨rfl,rfl⟩,rfl⟩ τ;obtain⟨o,s,j,rfl,o1,o2,o3,s1,hkk⟩:=hz;have s2:=s1.1;unfold Vq;have w:=CK (n:=j) ω;refine I (λc1=>I (λc2=>?_) λc2=>B ⟨o,rfl,?_,o2,o3⟩) λc1=>B ⟨o,rfl,?_,o2,o3⟩
  ·have c1:(j:Int)≤H.wrap (W q5 4):=m_ c1;have c2:(o.length:Int)<(most:Int):=m_ c2;refine I (λ_=>?_) λ_=>?_
   ·have ws:H.wrap ((s.size:Int)-1)=(s.size:Int)-1:=Aa ω ω;refine Z (by
     show(decide ((0:Int)≤H.wrap ((s.size:Int)-1))&&decide (A H ((s.size:Int)-1)≤(s.size:Int)))=J;rw[b_ (ω:(0:Int)≤H.wrap ((s.size:Int)-1)),b_ (ω:H.wrap ((s.size:Int)-1)≤(s.size:Int))];rfl) ?_
    have ex:(s.extract 0 (X (A H ((s.size:Int)-1)))).size=s.size-1:=by rw[ByteArray.size_extract,ws];omega
    have sz:(s.extract 0 (X (A H ((s.size:Int)-1)))++aI (Array.mk [63])).size=s.size:=by rw[O_,ex];show s.size-1+1=_;omega
    have sp:FrX b x (s.extract 0 (X (A H ((s.size:Int)-1)))++aI (Array.mk [63])):=by rw[ws,show X ((s.size:Int)-1)=s.size-1 by omega];exact s1.spoilt _ rfl ω
    refine Z (AD (by show(s.extract 0 (X (A H ((s.size:Int)-1)))).size+1≤_;omega)) ?_;refine Z (AD (ω:o.length+1≤_)) (B ⟨kk-1,ω,o++[s.extract 0 (X (A H ((s.size:Int)-1)))++aI (Array.mk [63])],s.extract 0 (X (A H ((s.size:Int)-1)))++aI (Array.mk [63]),j+1,by first | (rw[← w];rfl) | rw[← w],by rw[h_,o1];rfl,by rw[h_];show o.length+1≤_;omega,λu hu=>?_,sp,ω⟩);rcases n_.1 hu with hu | hu
    ·exact o3 u hu
    ·rw[E_]at hu;subst hu;exact⟨x,hx,sp⟩
   ·refine Z (AD (ω:o.length+1≤_)) (B ⟨kk-1,ω,o++[s],s,j+1,by first | (rw[← w];rfl) | rw[← w],by rw[h_,o1];rfl,by rw[h_];show o.length+1≤_;omega,λu hu=>?_,s1,ω⟩);rcases n_.1 hu with hu | hu
    ·exact o3 u hu
    ·rw[E_]at hu;subst hu;exact⟨x,hx,s1⟩
  ·have c2:¬(o.length:Int)<(most:Int):=D_ c2;omega
  ·have c1:¬(j:Int)≤H.wrap (W q5 4):=D_ c1;omega
 obtain⟨o,rfl,o1,o2,o3⟩:=hy;have w:=CK (n:=i) ω;exact B ⟨k-1,ω,o,i+1,by first | (rw[← w];rfl) | rw[← w],o1,o2,o3,ω⟩
end
structure InOK(b:Bldg)(x:Inp):Prop where
 press:GG b x.press=true
 pu:EC x.press
 kind:0≤x.kind∧x.kind≤8
 car:0≤x.car∧x.car<(b.B0.length:Int)
 len:x.cars.length=b.B0.length
 flo:∀c∈x.cars,0≤c.V0∧c.V0<4294967296
def Ag4:∀(n:Nat) (s:ByteArray),∀c∈Ok n s,0≤c.V0∧c.V0<4294967296
 |0,_,_,h=>by cases h
 |n+1,s,c,h=>by
  rcases s_.1 h with rfl | h
  ·exact HQ _
  ·exact Ag4 n (rest s) c h
def Fr.good(h:FrX b x s)(ho:BX b s=0):s=inV b x:=by
 obtain⟨h1,h2⟩:=h;have h3:(IB s).2=0:=by
  unfold BX at ho;cases q1:((s.size:Int) !=14+19*(b.B0.length:Int))with
  |true=>rw[q1]at ho;cases ho
  |false=>
  rw[q1]at ho;cases q2:(A H (AC s 0) !=165)with
  |true=>rw[q2]at ho;cases ho
  |false=>
  rw[q2]at ho;cases q3:(A H (AC s 1) !=(b.B0.length:Int))with
  |true=>rw[q3]at ho;cases ho
  |false=>rw[q3]at ho;exact ho
 have hi:=WN b x;unfold IB at h3;rw[f_ (ω:¬(s.size:Int)<2),c_,h2]at h3;cases q:eqB (Hm ((inV b x).extract 0 (s.size-2))) s with
 |false=>rw[q]at h3;cases h3
 |true=>have q:Hm ((inV b x).extract 0 (s.size-2))=s:=Ap6.1 q;rw[← q,h1];unfold inV;rw[PW,Nat.add_sub_cancel];generalize x.cars.foldl JE (QM b x)=t;congr 1;unfold Hm;apply Py;rw[NI,Ly,S_,Nat.sub_zero];exact(f1_ (Ev t))
def VP(h:0≤n∧n<4294967296):Y.wrap n=n:=by simp only[A,IntKind.signed,IntKind.bits];simp;omega
def Adm(hb:b.small)(hcode:b.code=0)(hs:Fr b s):∃x:Inp,Ei b.C0 b.F0 b.H0 b.M0 b.K0 b.L0 b.N0 b.B0 s=aA (((),BX b s,()),(x.tup,()))∧(BX b s≠0→x=Inp.none)∧(BX b s=0→InOK b x):=by
 have hc:=Aj hcode;obtain⟨x,⟨hx,hu⟩,hf⟩:=hs;have hxl:x.cars.length=b.B0.length:=by unfold HI at hx;simp only[e_,U_]at hx;omega
 have hz:s.size≤1000000:=by rw[hf.1,WN];omega
 by_cases ho:BX b s=0
 ·have e:=Fr.good hf ho;subst e;obtain⟨hd,e1,e2,e3⟩:=Au8 hb hcode hx;have h:=RM hb hcode hz ho (by rw[ZB];exact hd);rw[ZB]at h;refine⟨_,by rw[ho];exact h,λg=>absurd ho g,λ_=>?_⟩;unfold HI at hx;simp only[e_,U_]at hx;obtain⟨g1,g2,g3,_⟩:=hx;have g2:=Ao.1 g2;have g3:=Ao.1 g3;refine⟨?_,?_,?_,?_,Ag5 _ _,Ag4 _ _⟩
  ·rw[e1,VP hu.1,VP hu.2];exact g1
  ·rw[e1,VP hu.1,VP hu.2];exact hu
  ·rw[e2];exact g2
  ·rw[e3];omega
 ·exact⟨Inp.none,Abe hcode hz ho,λ_=>rfl,λg=>absurd g ho⟩
def Ul(n:Int):Sat (IX n) λy=>y.1.1=J→2≤n∧n≤32:=by unfold IX;exact R (Q:=λy=>y.1.1=J→2≤n∧n≤32) (I (λq=>B λg=>⟨m_ q,m_ g⟩) λ_=>B λg=>(by cases g)) λ_ h=>B h
def Ai5(hn:2≤n∧n≤32)(f d:Int):Sat (NQ n f d) λy=>y.1.1=J→0≤f∧f<n:=by
 unfold NQ;have w:H.wrap (n-1)=n-1:=Aa ω ω;have p:Sat (bif(d==(2:Int))then bif(decide ((0:Int)<f))then aA (((decide (f<n)),()),())else aA ((N,()),())else aA ((N,()),())) λ(y:(Bool×Unit)×Unit)=>y.1.1=J→0≤f∧f<n:=I (λ_=>I (λq=>B λg=>by have:=m_ q;have:=m_ g;omega) λ_=>B λg=>(by cases g)) λ_=>B λg=>(by cases g)
 exact R (Q:=λy=>y.1.1=J→0≤f∧f<n) (I (λ_=>I (λq=>I (λq2=>B λ_=>by have:=m_ q;have q2:=m_ q2;rw[w]at q2;omega) λ_=>p) λ_=>p) λ_=>p) λ_ h=>B h
def Vv(h:0≤n)(a c d:Int):Sat (JY n a c d) λy=>(0≤y.2.1.1∧y.2.1.1<4294967296)∧U2 y.2.1.2.1 y.2.1.2.2.1:=by unfold JY;exact Z (b_ h) (Sat.bindE (rfl:Cp ..=_) (B ⟨HQ _,HQ _,HQ _⟩))
def Ale(a c d:Int):Sat (OQ n a c d) λy=>0≤y.1.1∧y.1.1≤1000:=by
 unfold OQ;refine R (Ul n) λy1 h1=>I (λ_=>B (show(0:Int)≤0∧(0:Int)≤1000 by decide)) λq=>?_;have h1:=h1 (by simpa using q);refine R (Vv ω a c d) λy2 h2=>R (TB h2.1) λy3 h3=>?_;refine R (Q:=λy=>0≤y.1.1∧y.1.1≤510) ?_ λy4 h4=>B ?_
 ·unfold Rz;refine R (TB h2.2.1) λz1 k1=>R (TB h2.2.2) λz2 k2=>B ?_;show 0≤H.wrap (z1.1.1+z2.1.1)∧H.wrap (z1.1.1+z2.1.1)≤510;rw[Aa ω ω];omega
 ·show 0≤H.wrap (y3.1.1+y4.1.1)∧H.wrap (y3.1.1+y4.1.1)≤1000;rw[Aa ω ω];omega
def nf(x:Int):Prop:=-1≤x∧x≤300
def Alf(hl:l.length≤10){a c:Int}(ha:nf a)(hc:nf c)(hx:∀x∈l,nf x):Sat (Cg l a c) λy=>0≤y.1.1∧y.1.1≤4400:=by
 unfold Cg;refine Z (f8_ (by simp only[B_,d7_];omega)) ?_;refine R (Q:=λy=>0≤y.1.1∧y.1.1≤4400) ?_ λ_ h=>B h;unfold GK;have hz:(l++[c]).length≤11:=by rw[h_,H_];omega
 have hall:∀x∈l++[c],nf x:=λx h=>by
  rcases n_.1 h with h | h
  ·exact hx x h
  ·rw[E_.1 h];exact hc
 refine Sat.loop (λk x=>∃(n p:Int) (i:Nat),x=((n,p,l++[c],((l++[c]).length:Int),(i:Int),()),((a,()),(c,()),()))∧i+k=(l++[c]).length∧nf p∧0≤n∧n≤400*(i:Int)) ?_ (l++[c]).length ⟨0,a,0,rfl,ω,ha,τ,τ⟩ ω;rintro k x ⟨n,p,i,rfl,hk,hp,hn,hn2⟩;show Sat (JC n p (l++[c]) ((l++[c]).length:Int) (i:Int) a c) _;unfold JC;refine I (λq=>?_) λ_=>B (ω:0≤n∧n≤4400);have q:=m_ q;simp only[CK (ω:i<1000000000)];have hv:=Al1 hall (i:=i) (d:=(0:Int)) ω;refine Z (Ac ω ω) (B ⟨k-1,ω,_,_,i+1,rfl,ω,hv,?_⟩);show 0≤H.wrap (n+_)∧H.wrap (n+_)≤_;rw[j_];generalize(l++[c]).getD i 0=z at hv⊢;unfold nf at hp hv;rw[Aa (n:=z-p) ω ω,Aa (n:=p-z) ω ω];by_cases g:z-p<p-z
 ·rw[b_ g,d_,Aa ω ω];omega
 ·rw[f_ g,c_,Aa ω ω];omega
def Aos(n f w a c d g e:Int):Sat (Qw n f w a c d g e) λy=>-1≤y.1.1∧y.1.1≤4400:=by
 unfold Qw;have no:(-1:Int)≤-1∧(-1:Int)≤4400:=by decide
 refine R (Ul n) λy1 h1=>I (λ_=>B no) λq1=>I (λ_=>B no) λq2=>I (λ_=>B no) λq4=>I (λ_=>B no) λ_=>I (λ_=>B no) λ_=>?_;have h1:=h1 (by simpa using q1);have q2:=D_ q2;have q4:=D_ q4;refine R (Ai5 h1 g e) λy2 h2=>I (λ_=>B no) λq3=>?_;have h2:=h2 (by simpa using q3);refine R (Vv ω a c d) λy3 _=>Z (b_ ω) (Z (b_ h2.1) ?_);refine R (Au1 _) λy4 h4=>R (Atu _) λy5 h5=>?_;have nf6:nf (A H (y5.1.1-1)):=by rw[Aa ω ω];exact⟨ω,ω⟩
 have nf4:nf y4.1.1:=⟨ω,ω⟩
 have nff:nf f:=⟨ω,ω⟩
 have nfg:nf g:=⟨ω,ω⟩
 generalize H.wrap (y5.1.1-1)=z at nf6;have all:nf y4.1.1∧nf z∧nf f∧nf g:=⟨nf4,nf6,nff,nfg⟩;refine R (Q:=λy=>nf y.1.2.2.1∧nf y.1.2.2.2.1∧nf y.2.1.1∧nf y.2.2.1.1) ?_ λy6 h6=>R (Q:=λy=>nf y.1.2.2.1∧nf y.1.2.2.2.1∧nf y.2.1.1∧nf y.2.2.1.1) ?_ λy7 h7=>?_
 ·exact I (λ_=>I (λ_=>B all) λ_=>I (λ_=>B all) λ_=>B all) λ_=>I (λ_=>B all) λ_=>B all
 ·exact I (λ_=>B h6) λ_=>I (λ_=>B h6) λ_=>B h6
 have p:∀(l:List Int) {a c:Int},l.length≤10→nf a→nf c→(∀x∈l,nf x)→Sat (Option.bind (Cg l a c) λy10=>aA ((y10.1.1,()),())) λy=>-1≤y.1.1∧y.1.1≤4400:=λl a c hl ha hc hx=>R (Alf hl ha hc hx) λy h=>B ⟨Int.le_trans τ h.1,h.2⟩;have m1:∀{x:Int},nf x→∀y∈[x],nf y:=λh y hy=>by rw[E_.1 hy];exact h
 have m2:∀{x z:Int},nf x→nf z→∀y∈[x,z],nf y:=λh h2 y hy=>by
  rcases s_.1 hy with rfl | hy
  ·exact h
  ·exact m1 h2 y hy
 refine I (λ_=>p _ (a4_ _) h7.2.2.1 h7.2.2.2 λx hx=>by cases hx) λ_=>R (Q:=λy=>nf y.1.2.2.1∧nf y.1.2.2.2.1∧nf y.2.1.1∧nf y.2.2.1.1) ?_ λy9 h9=>?_
 ·exact I (λ_=>B h7) λ_=>B h7
 obtain⟨k1,k2,k3,k4⟩:=h9;exact I (λ_=>p _ (show(1:Nat)≤10 by decide) k3 k4 (m1 k2)) λ_=>I (λ_=>p _ (show(1:Nat)≤10 by decide) k3 k4 (m1 k1)) λ_=>I (λ_=>p _ (show(2:Nat)≤10 by decide) k3 k4 (m2 k2 k1)) λ_=>p _ (show(2:Nat)≤10 by decide) k3 k4 (m2 k1 k2)
def Alc(h:b.code=0){c:Car}(hc:c∈b.B0):Cl b.C0 c=J:=by
 unfold Bldg.code at h;cases h1:inR 2 32 b.C0<;>rw[h1]at h
 ·cases h
 cases h2:inR 1 8 (b.B0.length:Int)<;>rw[h2]at h
 ·cases h
 cases h3:inR 1 16 b.F0<;>rw[h3]at h
 ·cases h
 cases h4:inR 1 10000 b.M0<;>rw[h4]at h
 ·cases h
 cases h5:b.B0.all (Cl b.C0)<;>rw[h5]at h
 ·cases h
 exact I_.1 h5 c hc
def Ac3(h:b.code=0)(hi:i<b.B0.length):(0≤(b.B0.getD i ES).T3∧(b.B0.getD i ES).T3≤10000)∧(0≤(b.B0.getD i ES).Q2∧(b.B0.getD i ES).Q2≤10000)∧(0≤(b.B0.getD i ES).N2∧(b.B0.getD i ES).N2≤10000)∧0≤(b.B0.getD i ES).J2∧(b.B0.getD i ES).J2≤10000:=by have ht:Cl b.C0 (b.B0.getD i ES)=J:=Alc h (BN _ hi);unfold Cl at ht;simp only[a3_,List.all_nil,e3_,e_,Ao]at ht;omega
def Uk(b:aB)(car:Int)(v:aC)(floor dir:Int):Sat (ED b.C0 b.F0 b.H0 b.M0 b.K0 b.L0 b.N0 b.B0 car v.C3 v.D3 v.H3 v.V3 v.E0 v.I0 v.G3 v.I3 v.T2 v.R2 v.D2 v.U1 floor dir) λy=>0≤y.1.1∧y.1.1≤1000000:=by
 unfold ED;have one:(0:Int)≤1000000∧(1000000:Int)≤1000000:=by decide
 refine Sat.bindE (AR b) (I (λ_=>B one) λhc=>I (λ_=>B one) λg1=>I (λ_=>B one) λg2=>?_);have g1:=D_ g1;have g2:=D_ g2;have hcode:b.code=0:=by simpa using hc
 have ib:inB car b.B0.length=J:=Ac ω ω;refine R (Q:=λy=>y.1.1=car∧y.2.1=b.tup) (I (λ_=>B ⟨rfl,rfl⟩) λ_=>B ⟨rfl,rfl⟩) λy2 h2=>?_;obtain⟨⟨yc,ya⟩,yb,yv⟩:=y2;obtain⟨e1,e2⟩:=h2;simp only at e1 e2;subst e1 e2;have ht:=Ac3 hcode (ω:yc.toNat<b.B0.length);refine R (Aos ..) λy3 h3=>I (λ_=>B one) λq3=>Z ib ?_;have q3:=D_ q3;refine R (Ale ..) λy4 h4=>B ?_;have key:∀n:Int,0≤n→0≤(bif decide (1000000<n)then(1000000:Int)else n)∧(bif decide (1000000<n)then(1000000:Int)else n)≤1000000:=λn hn=>by
  by_cases g:1000000<n
  ·rw[b_ g];exact one
  ·rw[f_ g,c_];omega
 refine key _ ?_;show 0≤H.wrap (A H (y3.1.1*(b.B0.getD yc.toNat ES).T3)+H.wrap (y4.1.1*H.wrap (A H (2*(b.B0.getD yc.toNat ES).Q2)+(b.B0.getD yc.toNat ES).N2)));generalize b.B0.getD yc.toNat ES=c at ht;have k1:0≤y3.1.1*c.T3∧y3.1.1*c.T3≤4400*10000:=⟨Int.mul_nonneg ω ω,Int.mul_le_mul ω ω ω τ⟩
 rw[Aa (n:=2*c.Q2) ω ω,Aa (n:=2*c.Q2+c.N2) ω ω];have k2:0≤y4.1.1*(2*c.Q2+c.N2)∧y4.1.1*(2*c.Q2+c.N2)≤1000*30000:=⟨Int.mul_nonneg ω ω,Int.mul_le_mul ω ω ω τ⟩
 generalize y4.1.1*(2*c.Q2+c.N2)=p at k2;generalize y3.1.1*c.T3=q at k1;rw[Aa (n:=q) ω ω,Aa (n:=p) ω ω,Aa ω ω];omega
def Agx(n:Int):Prop:=0≤n∧n<4294967296
def View.none:aC:=View.mk N N N N 0 0 0 0 0 0 0 0
def Car.none:Car:=Car.mk 0 0 0 0 0 0 0 0 0
structure View.ok(v:View):Prop where
 c:Agx v.R2
 u:Agx v.D2
 d:Agx v.U1
def Alr(b:aB)(car:Int)(v:aC)(floor dir:Int):Option ((Int×Unit)×Unit):=ED b.C0 b.F0 b.H0 b.M0 b.K0 b.L0 b.N0 b.B0 car v.C3 v.D3 v.H3 v.V3 v.E0 v.I0 v.G3 v.I3 v.T2 v.R2 v.D2 v.U1 floor dir
def RE(b:aB)(car:Int)(v:aC)(floor dir:Int):Int:=match Alr b car v floor dir with | some r=>r.1.1 | none=>0
def Aqa(_hb:b.small){v:aC}(_hv:v.ok)(car floor dir:Int):Alr b car v floor dir=aA ((RE b car v floor dir,()),()):=by obtain⟨r,h,_⟩:=Uk b car v floor dir;have h':Alr b car v floor dir=aA r:=h;rw[show RE b car v floor dir=r.1.1 by unfold RE;rw[h']];exact h'
def Bhs(b:aB)(car:Int)(v:aC)(floor dir:Int):0≤RE b car v floor dir∧RE b car v floor dir≤1000000:=by obtain⟨r,h,h2⟩:=Uk b car v floor dir;have h':Alr b car v floor dir=aA r:=h;rw[show RE b car v floor dir=r.1.1 by unfold RE;rw[h']];exact h2
def Ut(v:aC):Bool:=v.G3==3||v.G3==4
def Qi(v:aC):Hp v.C3 v.D3 v.H3 v.V3 v.E0 v.I0 v.G3 v.I3 v.T2 v.R2 v.D2 v.U1=aA ((Ut v,()),()):=by unfold Hp Ut;cases v.G3==3<;>rfl
def XX(a b:Int×Int):Bool:=decide (a.1<b.1)||(a.1==b.1&&decide (a.2<b.2))
def Tf(a b:Int×Int):IU a.1 a.2 b.1 b.2=aA ((XX a b,()),()):=by
 unfold IU XX;by_cases h:a.1=b.1
 ·by_cases h':a.2=b.2
  ·rw[h,h',l_,l_,f_ ω,f_ ω];rfl
  ·rw[h,l_,An h',f_ ω];rfl
 ·rw[An h];cases decide (a.1<b.1)<;>rfl
def Ar(vs:List aC)(i:Int):aC:=vs.getD i.toNat (View.mk N N N N 0 0 0 0 0 0 0 0)
def okViews(vs:List aC):Prop:=∀v∈vs,v.ok
def View.ok_none:View.ok (View.mk N N N N 0 0 0 0 0 0 0 0):=⟨⟨τ,τ⟩,⟨τ,τ⟩,⟨τ,τ⟩⟩
def okViews.at(h:okViews vs)(i:Int):(Ar vs i).ok:=by
 unfold Ar;rw[k_];cases hq:vs[i.toNat]? with
 |none=>exact View.ok_none
 |some v=>exact h v (w_ hq)
def HL(b:aB)(vs:List aC)(floor dir:Int)(car:Int):Int×Int:=((bif Ut (Ar vs car)then 1 else 0),RE b car (Ar vs car) floor dir)
def Qj(hb:b.small)(hv:okViews vs){car:Int}(hc:0≤car∧car<vs.length)(floor dir:Int):
  Lo b.C0 b.F0 b.H0 b.M0 b.K0 b.L0 b.N0 b.B0 vs car floor dir=aA (((),()),(((HL b vs floor dir car).1,(HL b vs floor dir car).2,()),())):=by
 unfold Lo;have e:ED b.C0 b.F0 b.H0 b.M0 b.K0 b.L0 b.N0 b.B0 car (Ar vs car).C3 (Ar vs car).D3 (Ar vs car).H3 (Ar vs car).V3 (Ar vs car).E0 (Ar vs car).I0 (Ar vs car).G3 (Ar vs car).I3 (Ar vs car).T2 (Ar vs car).R2 (Ar vs car).D2 (Ar vs car).U1 floor dir=_:=Aqa hb (hv.at car) car floor dir;rw[Ac hc.1 hc.2];show(ED b.C0 b.F0 b.H0 b.M0 b.K0 b.L0 b.N0 b.B0 car (Ar vs car).C3 (Ar vs car).D3 (Ar vs car).H3 (Ar vs car).V3 (Ar vs car).E0 (Ar vs car).I0 (Ar vs car).G3 (Ar vs car).I3 (Ar vs car).T2 (Ar vs car).R2 (Ar vs car).D2 (Ar vs car).U1 floor dir).bind (λy1=>(Hp (Ar vs car).C3 (Ar vs car).D3 (Ar vs car).H3 (Ar vs car).V3 (Ar vs car).E0 (Ar vs car).I0 (Ar vs car).G3 (Ar vs car).I3 (Ar vs car).T2 (Ar vs car).R2 (Ar vs car).D2 (Ar vs car).U1).bind (λy2=>bif y2.1.1 then aA (((),()),(((1:Int),y1.1.1,()),()))else aA (((),()),(((0:Int),y1.1.1,()),()))))=_;rw[e,a_,Qi,a_];unfold HL;cases Ut (Ar vs car)<;>rfl
def My(b:aB)(vs:List aC)(floor dir except:Int)(i best:Int):Int:=bif !(Ar vs i).C3||i==except then best else bif best==-1||XX (HL b vs floor dir i) (HL b vs floor dir best)then i else best
def Uc(b:aB)(vs:List aC)(floor dir except:Int):Nat→Nat→Int→Int
 |0,_,best=>best
 |m+1,i,best=>Uc b vs floor dir except m (i+1) (My b vs floor dir except i best)
def DO(b:aB)(vs:List aC)(floor dir except:Int):Int:=bif b.code !=0||(vs.length:Int) !=(b.B0.length:Int)then -1 else Uc b vs floor dir except vs.length 0 (-1)
def Ri(vs:List aC)(best:Int):Prop:=best=-1∨(0≤best∧best<vs.length)
def Aae{floor dir except:Int}(hi:i<vs.length){best:Int}(h:Ri vs best):Ri vs (My b vs floor dir except i best):=by
 unfold My;cases(!(Ar vs i).C3||(i:Int)==except)with
 |true=>exact h
 |false=>
  simp only[c_];cases(best==-1||XX (HL b vs floor dir i) (HL b vs floor dir best))with
  |true=>exact .inr (by simp only[d_];omega)
  |false=>exact h
def Rh{b:aB}(hb:b.small){vs:List aC}(hv:okViews vs)(hl:vs.length≤100)(floor dir except:Int) :
  ∀(m i:Nat) (best l0 l1:Int),i+m=vs.length→Ri vs best→(best≠ -1→(l0,l1)=HL b vs floor dir best)→
   Cd (λx=>letI a:=x.2.1.2.2;letI c:=x.1.2.2.2.2.2;letI d:=a.2.2;FN x.1.1 x.1.2.1 x.1.2.2.1 x.1.2.2.2.1 c.1 c.2.2.1 c.2.2.2.1 c.2.2.2.2.1 x.2.1.1 x.2.1.2.1 a.1 a.2.1 d.1 d.2.1 d.2.2.1 d.2.2.2.1 x.2.2.1.1 x.2.2.1.2.1) (m+1) ((vs,floor,dir,except,(),best,(),vs,(vs.length:Int),(i:Int),()),(b.tup,(l0,l1,()),()))=aA ((Uc b vs floor dir except m i best,()),())
 |0,i,best,l0,l1,hi,hin,hr=>by
  refine AU ?_;show FN vs floor dir except best vs (vs.length:Int) (i:Int) b.C0 b.F0 b.H0 b.M0 b.K0 b.L0 b.N0 b.B0 l0 l1=_;unfold FN;have e:decide ((i:Int)<(vs.length:Int))=N:=by simp;omega
  rw[e];rfl
 |m+1,i,best,l0,l1,hi,hin,hr=>by
  have hi':i<vs.length:=ω;have e:decide ((i:Int)<(vs.length:Int))=J:=by simp;omega
  have ib:inB (i:Int) vs.length=J:=Ac ω ω;have w:H.wrap ((i:Int)+1)=((i+1:Nat):Int):=by rw[Aa ω ω];omega
  have hs:∃l0' l1',(My b vs floor dir except i best≠ -1→(l0',l1')=HL b vs floor dir (My b vs floor dir except i best))∧FN vs floor dir except best vs (vs.length:Int) (i:Int) b.C0 b.F0 b.H0 b.M0 b.K0 b.L0 b.N0 b.B0 l0 l1=aA (.inl ((vs,floor,dir,except,(),My b vs floor dir except i best,(),vs,(vs.length:Int),((i+1:Nat):Int),()),(b.tup,(l0',l1',()),()))):=by
   unfold FN;have k1:=Qj hb hv (car:=(i:Int)) ω floor dir;rw[e,ib,w];simp only[d_];unfold My;rw[show vs.getD (X (i:Int)) (View.mk N N N N 0 0 0 0 0 0 0 0)=Ar vs (i:Int)from rfl];cases(Ar vs (i:Int)).C3 with
   |false=>exact⟨l0,l1,hr,rfl⟩
   |true=>
    simp only[q_,c_,Bool.false_or];cases(i:Int)==except with
    |true=>exact⟨l0,l1,hr,rfl⟩
    |false=>
     simp only[c_,k1,a_];rcases hin with hbest | hbest
     ·subst hbest;rw[show((-1:Int)==-1)=J from rfl];simp only[d_,a_,w,Bool.true_or];exact⟨_,_,λ_=>rfl,rfl⟩
     ·have hr':=hr ω;have e1:l0=(HL b vs floor dir best).1:=c0_ Prod.fst hr';have e2:l1=(HL b vs floor dir best).2:=c0_ Prod.snd hr';subst e1 e2;rw[An (ω:¬best=-1)];simp only[c_,a_,Bool.false_or,Tf];cases XX (HL b vs floor dir i) (HL b vs floor dir best)with
      |true=>simp only[d_,w];exact⟨_,_,λ_=>rfl,rfl⟩
      |false=>simp only[c_,w];exact⟨_,_,λ_=>rfl,rfl⟩
  obtain⟨l0',l1',h1,h2⟩:=hs;exact(Ca h2).trans (Rh hb hv hl floor dir except m (i+1) _ l0' l1' ω (Aae hi' hin) h1)
def OA(hb:b.small)(hv:okViews vs)(hl:vs.length≤100)(floor dir except:Int):
  Hb b.C0 b.F0 b.H0 b.M0 b.K0 b.L0 b.N0 b.B0 vs floor dir except=aA ((DO b vs floor dir except,()),()):=by
 unfold Hb DO;rw[AR,a_];cases b.code !=0 with
 |true=>rfl
 |false=>
  simp only[c_,Bool.false_or];cases(vs.length:Int) !=(b.B0.length:Int)with
  |true=>rfl
  |false=>have h:=As (Rh hb hv hl floor dir except vs.length 0 (-1) 0 0 ω (.inl rfl) (λh=>absurd rfl h)) ω;have h':JN ((vs,floor,dir,except,(),(-1:Int),(),vs,(vs.length:Int),(0:Int),()),(b.tup,((0:Int),(0:Int),()),()))=_:=h;simp only[c_];refine(c0_ (λz=>Option.bind z _) h').trans ?_;rfl
end
end Go.Ovl
