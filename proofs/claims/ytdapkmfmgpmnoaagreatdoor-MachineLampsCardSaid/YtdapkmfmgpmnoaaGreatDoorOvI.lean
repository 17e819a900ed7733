/- The frames of the statements about machines (layer 27): valid inputs, and their texts. -/
import Derived.Test.YtdapkmfmgpmnoaaGreatDoorOvH
import Derived.Test.YtdapkmfmgpmnoaaGreatDoorOvG
import Derived.Test.YtdapkmfmgpmnoaaGreatDoorOvF
import Derived.Test.YtdapkmfmgpmnoaaGreatDoorOvA
import Derived.Test.YtdapkmfmgpmnoaaGreatDoorOvB
set_option linter.all false
open Go.Ovl.Sat renaming ret->A,bic->I,bindS->O,bifT->X
open Go.IntKind renaming i64->B,wrap->R,u64->aD,u32->aF
open Bool renaming false->C,true->E,and_eq_true_iff->aK
open Go.Ovl renaming bv->H,Bldg->J,View->S,vb->U,noE->V,Entry->aA,CarInput->aB
open Int renaming tmod->W,toNat->Z,fdiv->aH
open Option renaming some->Y
open Nat renaming blt->aC
open List renaming replicate->aE
open Go.Ovl.View renaming mk->aG
open Min renaming min->aI
open Go.Ovl.CarInput renaming mk->aJ
open ByteArray renaming mk->aL
namespace Go.Ovl
open Go Go.Ab
set_option maxRecDepth 100000
noncomputable section
variable{b:J}{vs:List S}{s:ByteArray}{l:List Int}{n:Int}{α:Type}{i:Nat}{x:Inp}
def Bat(b:J)(x:Inp):Prop:=HA b x=E∧Ey x.press
def Bgv(v:BitVec 32):0≤U v∧U v<4294967296:=by
 have:=v.isLt
 unfold U;omega
def FrX(b:J)(x:Inp)(s:ByteArray):Prop:=s.size=(inV b x).size∧s.extract 0 (s.size-2)=(inV b x).extract 0 (s.size-2)
def Fr(b:J)(s:ByteArray):Prop:=∃x,Bat b x∧FrX b x s
def FrX.spoilt(h:FrX b x s)(r:ByteArray)(hr:r.size=1)(hs:1≤s.size):FrX b x (s.extract 0 (s.size-1)++r):=by
 have hz:(s.extract 0 (s.size-1)++r).size=s.size:=by
  rw[O_,hr,ByteArray.size_extract];omega
 refine⟨hz.trans h.1,?_⟩;rw[hz,← h.2];apply Nq;have hl:=Gg s;rw[Rr,Rr,Lc,Rr];simp only[Q_,Nat.sub_zero];rw[List.take_append_of_le_length (by rw[y_,hl];omega),List.take_take]
 congr 1;omega
def DS(b:J):Int:=aF.wrap (R aF (1*2^min (Z (R aD b.C0)) (IntKind.bits .u32))-1)
def Ad5(hb:b.small):0≤DS b∧DS b<2^b.C0.toNat∧2^b.C0.toNat≤(256:Int)∧(∀f:Nat,f<32→CQ (DS b) f=E→(f:Int)<b.C0)∧(∀f:Nat,f<32→CQ (aH (DS b) ((2:Int)^(aI (Z (1:Int)) (IntKind.bits aF)))) f=E→(f:Int)<b.C0-1):=by
 have lo:=hb.lo;have hi:=hb.hi;unfold DS
 have:b.C0=2∨b.C0=3∨b.C0=4∨b.C0=5∨b.C0=6∨b.C0=7∨b.C0=8:=ω
 rcases this with h | h | h | h | h | h | h<;>rw[h]<;>refine⟨by decide,by decide,by decide,by decide,by decide⟩
def Bku(a:Int){c:Int}(hc:0≤c∧c<4294967296):0≤U (H a&&&H c)∧U (H a&&&H c)≤c:=by
 have h2:=Au9 hc;unfold U at*;rw[BitVec.toNat_and]
 have:=Nat.and_le_right (n:=(H a).toNat) (m:=(H c).toNat)
 omega
section
variable{b:J}(hb:b.small)(hcode:b.code=0)
include hb in
theorem Bca(a:Int):flV b (U (H a&&&H (DS b)))=E:=by
 obtain⟨m0,m1,m2,_⟩:=Ad5 hb;have h:=Bku a (c:=DS b) ω
 unfold flV;rw[CI ω ω]
 generalize U (H a&&&H (DS b))=n at h
 have:n.fdiv (2^b.C0.toNat)=0:=by
  rw[V_ _ ω]
  exact Int.ediv_eq_zero_of_lt h.1 ω
 rw[this];rfl
include hb hcode in
theorem Ava(u d:Int):Hh b (U (H (U (H u&&&H (DS b)))&&&H (aH (DS b) ((2:Int)^(aI (Z (1:Int)) (IntKind.bits aF))))),U (H (U (H d&&&H (DS b)))&&& ~~~ H 1))=E:=by
 obtain⟨_,_,_,m3,m4⟩:=Ad5 hb;unfold Hh;rw[Ox (Kk _ _)];intro f hf D hD;rw[BY _ _ hf,WK hb hcode hf hD];rcases hD with rfl | rfl
 ·cases hq:Ak (U (H (U (H u&&&H (DS b)))&&&H (aH (DS b) ((2:Int)^(aI (Z (1:Int)) (IntKind.bits aF))))),U (H (U (H d&&&H (DS b)))&&& ~~~ H 1)) f 1 with
  |false=>rfl
  |true=>
   have h1:CQ (U (H (U (H u&&&H (DS b)))&&&H (aH (DS b) ((2:Int)^(aI (Z (1:Int)) (IntKind.bits aF)))))) f=E:=hq;rw[Ts,f5_,aK]at h1;have h2:=m4 f hf h1.2
   have h5:Am b (f:Int) 1=E:=by
    unfold Am NQ;rw[hcode,show inR 0 (b.C0-2) (f:Int)=E from Ao.2 ⟨ω,ω⟩];rfl
   rw[h5];rfl
 ·cases hq:Ak (U (H (U (H u&&&H (DS b)))&&&H (aH (DS b) ((2:Int)^(aI (Z (1:Int)) (IntKind.bits aF))))),U (H (U (H d&&&H (DS b)))&&& ~~~ H 1)) f 2 with
  |false=>rfl
  |true=>
   have h1:CQ (U (H (U (H d&&&H (DS b)))&&& ~~~ H 1)) f=E:=hq;rw[Ts,f5_,Asa,f5_,BitVec.getLsbD_not,aK,aK,aK]at h1;have h2:=m3 f hf h1.1.2;have h3:f≠0:=λh=>by subst h;exact absurd h1.2.2 (by decide)
   have h5:Am b (f:Int) 2=E:=by
    unfold Am NQ;rw[hcode,show inR 1 (b.C0-1) (f:Int)=E from Ao.2 ⟨ω,ω⟩];rfl
   rw[h5];rfl
end
def Fk{l:List α}{j:Nat}(d x:α)(h:i≠j):(l.set i x).getD j d=l.getD j d:=by
 rw[k_,List.getElem?_set_ne h,← k_]
section
variable{b:J}(hb:b.small)(hcode:b.code=0)
include hb hcode
theorem Bap(u d kd car:Int){cs:List aB}(hcs:cs.length=b.B0.length):Sat (JF b.C0 b.E0 b.H0 b.M0 b.J0 b.L0 b.N0 b.B0 u d kd car cs) λy=>∃x:Inp,y=(((),()),(x.tup,()))∧Bat b x:=by
 have hc:=Aj hcode;have lo:=hb.lo;have hi:=hb.hi;have hw:=Ava hb hcode u d;unfold JF;refine X (Ae0 _) ?_;have z8:aD.wrap (b.B0.length:Int)=(b.B0.length:Int):=CI ω ω
 refine X (by show(R aD (b.B0.length:Int) !=0)=E;rw[z8];exact FG ω) ?_
 have u64n:∀n:Int,0≤aD.wrap n∧aD.wrap n<18446744073709551616:=λn=>by
  simp only[R,IntKind.signed,IntKind.bits];simp;exact⟨Int.emod_nonneg _ (by decide),Int.emod_lt_of_pos _ (by decide)⟩
 have md:∀(n:Int) (m:Int),0<m→m≤9→0≤B.wrap (W (R aD n) m)∧B.wrap (W (R aD n) m)<m:=λn m h0 h1=>by
  have h2:=(u64n n).1;rw[e4_ h2];have h3:=Int.emod_nonneg (R aD n) (ω:m≠0)
  have h4:=Int.emod_lt_of_pos (R aD n) h0;rw[Aa ω ω]
  exact⟨h3,h4⟩
 refine O (Q:=λy=>∃(k c:Int),y=(((),(),(),DS b,()),(b.tup,(U (H (U (H u&&&H (DS b)))&&&H (aH (DS b) ((2:Int)^(aI (Z (1:Int)) (IntKind.bits aF))))),U (H (U (H d&&&H (DS b)))&&& ~~~ H 1),k,c,cs,()),((0:Int),(0:Int),(0:Int),(0:Int),([]:List aB),()),()))∧inR 0 8 k=E∧inR 0 ((b.B0.length:Int)-1) c=E∧(k==0&&c !=0)=C) ?_ λy hy=>?_
 ·have hk:=md kd 9 (by decide) (by decide)
  have hkr:inR 0 8 (R B (W (R aD kd) 9))=E:=Ao.2 ⟨hk.1,ω⟩
  simp only[US,KQ];refine I (λh=>A ⟨_,_,rfl,hkr,Ao.2 ⟨e1_ 0,ω⟩,by rw[h];rfl⟩) λh=>A ⟨_,_,rfl,hkr,?_,by rw[h];rfl⟩
  have hcr:=md car (b.B0.length:Int) ω ω
  rw[z8];exact Ao.2 ⟨hcr.1,ω⟩
 obtain⟨k,c,rfl,hk,hcr,hkc⟩:=hy
 have hcap:((decide ((0:Int)≤(b.B0.length:Int))&&decide ((b.B0.length:Int)≤(b.B0.length:Int)))&&decide ((b.B0.length:Int)≤2147483648))=E:=by
  simp only[b_ (ω:(0:Int)≤(b.B0.length:Int)),b_ (e1_ (b.B0.length:Int)),b_ (ω:(b.B0.length:Int)≤2147483648),a3_]
 refine X hcap ?_;generalize hP:(U (H (U (H u&&&H (DS b)))&&&H (aH (DS b) ((2:Int)^(aI (Z (1:Int)) (IntKind.bits aF))))),U (H (U (H d&&&H (DS b)))&&& ~~~ H 1))=P at hw;have hP1:=b8_ Prod.fst hP;have hP2:=b8_ Prod.snd hP;simp only at hP1 hP2;rw[hP1,hP2];refine O (Q:=λy=>∃l:List aB,y=(((),(),l,()),((P.1,P.2,k,c,cs,()),((0:Int),(0:Int),(0:Int),(0:Int),([]:List aB),()),()))∧l.length=b.B0.length∧∀j,j<b.B0.length→Fa b (l.getD j RQ)=E) ?_ λy hy=>?_
 ·refine Sat.loop (λ(kk:Nat) z=>∃(l:List aB) (i:Nat),z=(((),(),(),DS b,l,(i:Int),()),(b.tup,(P.1,P.2,k,c,cs,()),((0:Int),(0:Int),(0:Int),(0:Int),([]:List aB),()),()))∧l.length=b.B0.length∧(∀j,j<i→Fa b (l.getD j RQ)=E)∧i+kk=b.B0.length) (λkk z hz=>?_) b.B0.length ⟨_,0,rfl,?_,λj hj=>absurd hj (Nat.not_lt_zero j),p_ _⟩ ω
  ·obtain⟨l,i,rfl,hl,hj,hkk⟩:=hz
   unfold Vr;refine I (λgg=>?_) λgg=>A ⟨l,rfl,hl,?_⟩
   ·have gg:(i:Int)<(l.length:Int):=m_ gg
    have hin:i<l.length:=ω
    have w:=CW (n:=i) ω
    have z7:aD.wrap b.C0=b.C0:=CI ω ω
    refine X (Ac (ω:(0:Int)≤(i:Int)) gg) ?_
    refine X (by show(R aD b.C0 !=0)=E;rw[z7];exact FG ω) ?_
    simp only[US,i_];refine A ⟨kk-1,ω,_,i+1,by first | (rw[← w];rfl) | rw[← w],?_,?_,ω⟩
    ·simp only[A_];exact hl
    ·intro j hjj
     by_cases he:j=i
     ·subst he
      rw[Cb _ _ (by simp only[A_];exact hin),Cb _ _ (by simp only[A_];exact hin),Cb _ _ (by simp only[A_];exact hin),Cb _ _ hin]
      unfold Fa;have f1:=md (l.getD j (aJ 0 C C C C 0 C 0 C 0 0)).J1 b.C0 ω ω
      have f2:=md (l.getD j (aJ 0 C C C C 0 C 0 C 0 0)).R1 3 (by decide) (by decide)
      simp only[Bca hb,n_];rw[show aD.wrap b.tup.1=b.C0 from z7,Ao.2 ⟨f1.1,show _≤b.C0-1 by omega⟩,Ao.2 ⟨f2.1,show _≤(2:Int)by omega⟩]
      rfl
     ·rw[Fk _ _ (f6_ he),Fk _ _ (f6_ he),Fk _ _ (f6_ he),Fk _ _ (f6_ he)]
      exact hj j ω
   ·have gg:¬(i:Int)<(l.length:Int):=F_ gg
    intro j hjj;exact hj j ω
  ·show(KG (aE (Z (b.B0.length:Int)) (aJ 0 C C C C 0 C 0 C 0 0)) cs).length=b.B0.length
   unfold KG;simp only[h_,y_,Z_,S_,i_];omega
 obtain⟨l,rfl,hl,hall⟩:=hy;refine A ⟨⟨P,k,c,l⟩,rfl,?_,by show Ey P;rw[← hP];exact⟨Bgv _,Bgv _⟩⟩
 unfold HA;rw[hw,hk,hcr,hkc,show((l.length:Int)==(b.B0.length:Int))=E by rw[hl];exact l_ _]
 simp only[n_,c0_];refine E_.2 λe he=>?_
 obtain⟨j,hj,rfl⟩:=List.getElem_of_mem he
 have:=hall j ω
 rwa [k_,j_ hj]at this
end
def Bso:∀k:Fin 16,(arF .quo .f64 (Ad7 .f64 ((k.val:Nat):Int)) 4622945017495814144).isSome=E:=by decide
def Bsp(h:0≤n∧n<256):Sat (arF .quo .f64 (Ad7 .f64 (W n 16)) 4622945017495814144) λ_=>True:=by
 obtain⟨k,rfl⟩:=e9_ h.1;have e:W ((k:Nat):Int) 16=((k%16:Nat):Int):=Mq k 16;have h2:=Bso ⟨k%16,g1_ _ (by decide)⟩
 rw[e];obtain⟨a,ha⟩:=Option.isSome_iff_exists.1 h2;exact⟨a,ha,trivial⟩
def Arh(h:∀e∈l,u8r e)(n:Nat):u8r (l.getD n 0):=by
 by_cases hn:n<l.length
 ·exact Al8 h hn
 ·rw[k_,List.getElem?_eq_none ω];exact Bqb
section
variable{b:J}(hb:b.small)(hcode:b.code=0)
include hb hcode
theorem Bar{x0 x1 x2 x3 x4 x5:Int}(h:∀e∈[x0,x1,x2,x3,x4,x5],u8r e):Sat (OK b.C0 b.E0 b.H0 b.M0 b.J0 b.L0 b.N0 b.B0 x0 x1 x2 x3 x4 x5) λy=>∃x:Inp,y=(((),()),(x.tup,()))∧Bat b x:=by
 have hc:=Aj hcode;unfold OK;refine O (Q:=λy=>∃u d:Int,y=(((),(),(),(),()),(b.tup,(x0,x1,x2,x3,x4,x5,()),((0:Int),(0:Int),(0:Int),(0:Int),([]:List aB),()),(u,d,(0:Int),(0:Int),([]:List aB),()),()))) (I (λ_=>A ⟨_,_,rfl⟩) λ_=>A ⟨_,_,rfl⟩) λy hy=>?_
 obtain⟨u,d,rfl⟩:=hy;refine O (Q:=λy=>∃k c:Int,y=(((),(),(),(),()),(b.tup,(x0,x1,x2,x3,x4,x5,()),((0:Int),(0:Int),(0:Int),(0:Int),([]:List aB),()),(u,d,k,c,([]:List aB),()),()))) (I (λ_=>A ⟨_,_,rfl⟩) λ_=>A ⟨_,_,rfl⟩) λy hy=>?_
 obtain⟨k,c,rfl⟩:=hy;refine O (Q:=λy=>∃cs:List aB,y=(((),(),(),()),(b.tup,((0:Int),(0:Int),(0:Int),(0:Int),([]:List aB),()),(u,d,k,c,cs,()),()))∧cs.length=b.B0.length) ?_ λy hy=>?_
 ·refine Sat.loop (λ(kk:Nat) z=>∃(cs:List aB) (i:Nat),z=(((),(),(),(),(i:Int),()),(b.tup,(x0,x1,x2,x3,x4,x5,()),((0:Int),(0:Int),(0:Int),(0:Int),([]:List aB),()),(u,d,k,c,cs,()),()))∧cs.length=i∧i+kk=b.B0.length) (λkk z hz=>?_) b.B0.length ⟨[],0,rfl,rfl,p_ _⟩ ω
  obtain⟨cs,i,rfl,hcs,hkk⟩:=hz;unfold Vu;refine I (λgg=>?_) λgg=>A ⟨cs,rfl,?_⟩
  ·have gg:(i:Int)<(b.B0.length:Int):=m_ gg
   have w:=CW (n:=i) ω
   have e3:W (i:Int) 3=((i%3:Nat):Int):=Mq i 3;have e4:W (i:Int) 4=((i%4:Nat):Int):=Mq i 4;have w3:B.wrap (3+W (i:Int) 3)=3+((i%3:Nat):Int):=by rw[e3,Aa ω ω]
   have w4:B.wrap (2+W (i:Int) 4)=2+((i%4:Nat):Int):=by rw[e4,Aa ω ω]
   refine X (Ac (ω:0≤B.wrap (3+W (i:Int) 3)) (ω:B.wrap (3+W (i:Int) 3)<((6:Nat):Int))) ?_
   refine X (Ac (ω:0≤B.wrap (2+W (i:Int) 4)) (ω:B.wrap (2+W (i:Int) 4)<((6:Nat):Int))) ?_
   refine O (Bsp (Arh h _)) λld _=>X (Ae0 _) ?_
   refine O (Q:=λy=>∃(z:Int) (ci:aB),y=(((),(),(),(),(i:Int),z,(),()),(b.tup,(x0,x1,x2,x3,x4,x5,()),((0:Int),(0:Int),(0:Int),(0:Int),([]:List aB),()),(u,d,k,c,cs,()),(ci.V0,ci.T1,ci.F1,ci.G1,ci.C1,ci.J1,ci.L1,ci.R1,ci.M1,ci.Y1,ci.C3,()),()))) ?_ λy hy=>?_
   ·refine I (λ_=>A ⟨_,aJ _ _ _ _ _ _ _ _ _ _ _,rfl⟩) λ_=>A ⟨_,aJ _ _ _ _ _ _ _ _ _ _ _,rfl⟩
   obtain⟨z,ci,rfl⟩:=hy;refine X (Ay (ω:cs.length+1≤_)) (A ⟨kk-1,ω,cs++[aJ ci.V0 ci.T1 ci.F1 ci.G1 ci.C1 (R B (W z 8)) (decide ((0:Int)<W z 5)) (R B (W (R IntKind.u8 (Int.tdiv z 8)) 3)) (W z 7==0) ci.Y1 ci.C3],i+1,by first | (rw[← w];rfl) | rw[← w],by rw[h_,hcs];rfl,ω⟩)
  ·have gg:¬(i:Int)<(b.B0.length:Int):=F_ gg
   omega
 obtain⟨cs,rfl,hcs⟩:=hy;refine O (Bap hb hcode u d k c hcs) λy hy=>?_
 obtain⟨x,rfl,hx⟩:=hy;exact A ⟨x,rfl,hx⟩
theorem Baq(h:∀e∈l,u8r e)(_hl:l.length≤maxLen){most:Nat}(hm:most≤1000):Sat (LX b.C0 b.E0 b.H0 b.M0 b.J0 b.L0 b.N0 b.B0 l (most:Int)) λy=>y.1.1.length≤most∧∀s∈y.1.1,Fr b s:=by
 have hc:=Aj hcode;have hmx:maxLen≤9223372036854775807:=by decide
 unfold LX;refine O (Q:=λy=>y.1.1.length≤most∧∀s∈y.1.1,Fr b s) ?_ λy hy=>A hy
 refine Sat.loop (λ(k:Nat) z=>∃(out:List ByteArray) (i:Nat),z=((l,(most:Int),(),out,(i:Int),()),(b.tup,()))∧i≤out.length∧out.length≤most∧(∀s∈out,Fr b s)∧i+k=most) (λk z hz=>?_) most ⟨[],0,rfl,z_ 0,a6_ _,λs hs=>(by cases hs),p_ _⟩ ω
 obtain⟨out,i,rfl,h1,h2,h3,hk⟩:=hz;unfold Vs;have w6:B.wrap (6*(i:Int))=6*(i:Int):=Aa ω ω
 refine I (λg1=>I (λg2=>?_) λ_=>A ⟨h2,h3⟩) λ_=>A ⟨h2,h3⟩
 have g1:B.wrap (6*(i:Int))<(l.length:Int):=m_ g1;have g2:(out.length:Int)<(most:Int):=m_ g2
 refine X (by
  show(decide ((0:Int)≤B.wrap (6*(i:Int)))&&decide (R B (6*(i:Int))≤(l.length:Int)))=E;rw[b_ (ω:(0:Int)≤B.wrap (6*(i:Int))),b_ (ω:B.wrap (6*(i:Int))≤(l.length:Int))];rfl) ?_
 have hz1:∀e∈List.drop (Z (R B (6*(i:Int)))) (List.take (List.length l) l),u8r e:=λe he=>h e (by
  have:=e0_ he
  exact d9_ this)
 generalize List.drop (Z (R B (6*(i:Int)))) (List.take (List.length l) l)=L at hz1
 dsimp only
 have pick:∀n:Nat,u8r (bif aC n L.length then L.getD n 0 else 0):=λn=>by
  cases aC n L.length with
  |true=>exact Arh hz1 n
  |false=>exact Bqb
 have hall:∀e∈[(bif aC 0 L.length then L.getD 0 0 else 0),(bif aC 1 L.length then L.getD 1 0 else 0),(bif aC 2 L.length then L.getD 2 0 else 0),(bif aC 3 L.length then L.getD 3 0 else 0),(bif aC 4 L.length then L.getD 4 0 else 0),(bif aC 5 L.length then L.getD 5 0 else 0)],u8r e:=λe he=>by
  simp only[r_,List.not_mem_nil,or_false]at he;rcases he with rfl | rfl | rfl | rfl | rfl | rfl<;>exact pick _
 have h5:=pick 5;have hin:=Bar hb hcode hall;generalize(bif aC 0 L.length then L.getD 0 0 else 0)=q0 at hin;generalize(bif aC 1 L.length then L.getD 1 0 else 0)=q1 at hin;generalize(bif aC 2 L.length then L.getD 2 0 else 0)=q2 at hin;generalize(bif aC 3 L.length then L.getD 3 0 else 0)=q3 at hin;generalize(bif aC 4 L.length then L.getD 4 0 else 0)=q4 at hin;generalize(bif aC 5 L.length then L.getD 5 0 else 0)=q5 at hin h5;refine O hin λy hy=>?_
 obtain⟨x,rfl,hx⟩:=hy
 have hxl:x.cars.length=b.B0.length:=by
  have hx:=hx.1;unfold HA at hx;simp only[e_,R_]at hx;omega
 have hin2:=Aik hb hcode x ω
 rw[hx.1,d_]at hin2;refine Sat.bindE hin2 ?_;have hsz:=WL b x
 have h5':0≤W q5 4∧W q5 4≤3:=by
  have h50:0≤q5:=h5.1;rw[e4_ h50];omega
 have w5:B.wrap (W q5 4)=W q5 4:=Aa ω ω
 refine O (Q:=λy=>∃o:List ByteArray,y=((l,(most:Int),(),o,(i:Int),()),(b.tup,()))∧i+1≤o.length∧o.length≤most∧∀s∈o,Fr b s) ?_ λy hy=>?_
 ·refine Sat.loop (λ(kk:Nat) z=>∃(o:List ByteArray) (s:ByteArray) (j:Nat),z=((l,(most:Int),(),o,(i:Int),(),s,(j:Int),()),(b.tup,(q0,q1,q2,q3,q4,q5,()),()))∧o.length=out.length+j∧o.length≤most∧(∀s∈o,Fr b s)∧FrX b x s∧j+kk=4) (λkk z hz=>?_) 4 ⟨out,inV b x,0,rfl,rfl,h2,h3,⟨rfl,rfl⟩,rfl⟩ (by decide)
  obtain⟨o,s,j,rfl,o1,o2,o3,s1,hkk⟩:=hz;have s2:=s1.1;unfold Vt;have w:=CW (n:=j) ω
  refine I (λc1=>I (λc2=>?_) λc2=>A ⟨o,rfl,?_,o2,o3⟩) λc1=>A ⟨o,rfl,?_,o2,o3⟩
  ·have c1:(j:Int)≤B.wrap (W q5 4):=m_ c1
   have c2:(o.length:Int)<(most:Int):=m_ c2;refine I (λ_=>?_) λ_=>?_
   ·have ws:B.wrap ((s.size:Int)-1)=(s.size:Int)-1:=Aa ω ω
    refine X (by
     show(decide ((0:Int)≤B.wrap ((s.size:Int)-1))&&decide (R B ((s.size:Int)-1)≤(s.size:Int)))=E;rw[b_ (ω:(0:Int)≤B.wrap ((s.size:Int)-1)),b_ (ω:B.wrap ((s.size:Int)-1)≤(s.size:Int))];rfl) ?_
    have ex:(s.extract 0 (Z (R B ((s.size:Int)-1)))).size=s.size-1:=by
     rw[ByteArray.size_extract,ws];omega
    have sz:(s.extract 0 (Z (R B ((s.size:Int)-1)))++aL (Array.mk [63])).size=s.size:=by
     rw[O_,ex];show s.size-1+1=_;omega
    have sp:FrX b x (s.extract 0 (Z (R B ((s.size:Int)-1)))++aL (Array.mk [63])):=by
     rw[ws,show Z ((s.size:Int)-1)=s.size-1 by omega]
     exact s1.spoilt _ rfl ω
    refine X (Ay (by show(s.extract 0 (Z (R B ((s.size:Int)-1)))).size+1≤_;omega)) ?_
    refine X (Ay (ω:o.length+1≤_)) (A ⟨kk-1,ω,o++[s.extract 0 (Z (R B ((s.size:Int)-1)))++aL (Array.mk [63])],s.extract 0 (Z (R B ((s.size:Int)-1)))++aL (Array.mk [63]),j+1,by first | (rw[← w];rfl) | rw[← w],by rw[h_,o1];rfl,by rw[h_];show o.length+1≤_;omega,λu hu=>?_,sp,ω⟩)
    rcases q_.1 hu with hu | hu
    ·exact o3 u hu
    ·rw[P_]at hu;subst hu;exact⟨x,hx,sp⟩
   ·refine X (Ay (ω:o.length+1≤_)) (A ⟨kk-1,ω,o++[s],s,j+1,by first | (rw[← w];rfl) | rw[← w],by rw[h_,o1];rfl,by rw[h_];show o.length+1≤_;omega,λu hu=>?_,s1,ω⟩)
    rcases q_.1 hu with hu | hu
    ·exact o3 u hu
    ·rw[P_]at hu;subst hu;exact⟨x,hx,s1⟩
  ·have c2:¬(o.length:Int)<(most:Int):=F_ c2
   omega
  ·have c1:¬(j:Int)≤B.wrap (W q5 4):=F_ c1
   omega
 obtain⟨o,rfl,o1,o2,o3⟩:=hy;have w:=CW (n:=i) ω
 exact A ⟨k-1,ω,o,i+1,by first | (rw[← w];rfl) | rw[← w],o1,o2,o3,ω⟩
end
structure InOK(b:Bldg)(x:Inp):Prop where
 press:Hh b x.press=true
 pu:Ey x.press
 kind:0≤x.kind∧x.kind≤8
 car:0≤x.car∧x.car<(b.B0.length:Int)
 len:x.cars.length=b.B0.length
 flo:∀c∈x.cars,0≤c.V0∧c.V0<4294967296
def Ahb:∀(n:Nat) (s:ByteArray),∀c∈Us n s,0≤c.V0∧c.V0<4294967296
 |0,_,_,h=>by cases h
 |n+1,s,c,h=>by
  rcases r_.1 h with rfl | h
  ·exact HG _
  ·exact Ahb n (rest s) c h
def Fr.good(h:FrX b x s)(ho:BM b s=0):s=inV b x:=by
 obtain⟨h1,h2⟩:=h
 have h3:(Im s).2=0:=by
  unfold BM at ho;cases q1:((s.size:Int) !=14+19*(b.B0.length:Int))with
  |true=>rw[q1]at ho;cases ho
  |false=>
  rw[q1]at ho;cases q2:(R B (AF s 0) !=165)with
  |true=>rw[q2]at ho;cases ho
  |false=>
  rw[q2]at ho;cases q3:(R B (AF s 1) !=(b.B0.length:Int))with
  |true=>rw[q3]at ho;cases ho
  |false=>rw[q3]at ho;exact ho
 have hi:=WL b x;unfold Im at h3;rw[f_ (ω:¬(s.size:Int)<2),c_,h2]at h3
 cases q:eqB (Hf ((inV b x).extract 0 (s.size-2))) s with
 |false=>rw[q]at h3;cases h3
 |true=>
  have q:Hf ((inV b x).extract 0 (s.size-2))=s:=Aqh.1 q;rw[← q,h1];unfold inV;rw[PS,Nat.add_sub_cancel];generalize x.cars.foldl Jh (QV b x)=t;congr 1;unfold Hf;apply Nq;rw[Rr,Lc,Q_,Nat.sub_zero];exact(f0_ (Gg t))
def RI(h:0≤n∧n<4294967296):aF.wrap n=n:=by
 simp only[R,IntKind.signed,IntKind.bits];simp;omega
def Adm(hb:b.small)(hcode:b.code=0)(hs:Fr b s):∃x:Inp,Ec b.C0 b.E0 b.H0 b.M0 b.J0 b.L0 b.N0 b.B0 s=Y (((),BM b s,()),(x.tup,()))∧(BM b s≠0→x=Inp.none)∧(BM b s=0→InOK b x):=by
 have hc:=Aj hcode;obtain⟨x,⟨hx,hu⟩,hf⟩:=hs
 have hxl:x.cars.length=b.B0.length:=by
  unfold HA at hx;simp only[e_,R_]at hx;omega
 have hz:s.size≤1000000:=by rw[hf.1,WL];omega
 by_cases ho:BM b s=0
 ·have e:=Fr.good hf ho
  subst e;obtain⟨hd,e1,e2,e3⟩:=Avd hb hcode hx;have h:=RY hb hcode hz ho (by rw[Zw];exact hd)
  rw[Zw]at h;refine⟨_,by rw[ho];exact h,λg=>absurd ho g,λ_=>?_⟩
  unfold HA at hx;simp only[e_,R_]at hx;obtain⟨g1,g2,g3,_⟩:=hx;have g2:=Ao.1 g2;have g3:=Ao.1 g3;refine⟨?_,?_,?_,?_,Ahc _ _,Ahb _ _⟩
  ·rw[e1,RI hu.1,RI hu.2];exact g1
  ·rw[e1,RI hu.1,RI hu.2];exact hu
  ·rw[e2];exact g2
  ·rw[e3];omega
 ·exact⟨Inp.none,Aa7 hcode hz ho,λ_=>rfl,λg=>absurd g ho⟩
def Uu(n:Int):Sat (IL n) λy=>y.1.1=E→2≤n∧n≤32:=by
 unfold IL;exact O (Q:=λy=>y.1.1=E→2≤n∧n≤32) (I (λq=>A λg=>⟨m_ q,m_ g⟩) λ_=>A λg=>(by cases g)) λ_ h=>A h
def Aje(hn:2≤n∧n≤32)(f d:Int):Sat (Nw n f d) λy=>y.1.1=E→0≤f∧f<n:=by
 unfold Nw;have w:B.wrap (n-1)=n-1:=Aa ω ω
 have p:Sat (bif(d==(2:Int))then bif(decide ((0:Int)<f))then Y (((decide (f<n)),()),())else Y ((C,()),())else Y ((C,()),())) λ(y:(Bool×Unit)×Unit)=>y.1.1=E→0≤f∧f<n:=
  I (λ_=>I (λq=>A λg=>by have:=m_ q;have:=m_ g;omega) λ_=>A λg=>(by cases g)) λ_=>A λg=>(by cases g)
 exact O (Q:=λy=>y.1.1=E→0≤f∧f<n) (I (λ_=>I (λq=>I (λq2=>A λ_=>by have:=m_ q;have q2:=m_ q2;rw[w]at q2;omega) λ_=>p) λ_=>p) λ_=>p) λ_ h=>A h
def VB(h:0≤n)(a c d:Int):Sat (JD n a c d) λy=>(0≤y.2.1.1∧y.2.1.1<4294967296)∧U2 y.2.1.2.1 y.2.1.2.2.1:=by
 unfold JD;exact X (b_ h) (Sat.bindE (rfl:DT ..=_) (A ⟨HG _,HG _,HG _⟩))
def Alk(a c d:Int):Sat (OF n a c d) λy=>0≤y.1.1∧y.1.1≤1000:=by
 unfold OF;refine O (Uu n) λy1 h1=>I (λ_=>A (show(0:Int)≤0∧(0:Int)≤1000 by decide)) λq=>?_
 have h1:=h1 (by simpa using q)
 refine O (VB ω a c d) λy2 h2=>O (TM h2.1) λy3 h3=>?_
 refine O (Q:=λy=>0≤y.1.1∧y.1.1≤510) ?_ λy4 h4=>A ?_
 ·unfold RJ
  refine O (TM h2.2.1) λz1 k1=>O (TM h2.2.2) λz2 k2=>A ?_
  show 0≤B.wrap (z1.1.1+z2.1.1)∧B.wrap (z1.1.1+z2.1.1)≤510;rw[Aa ω ω];omega
 ·show 0≤B.wrap (y3.1.1+y4.1.1)∧B.wrap (y3.1.1+y4.1.1)≤1000
  rw[Aa ω ω];omega
def nf(x:Int):Prop:=-1≤x∧x≤300
def All(hl:l.length≤10){a c:Int}(ha:nf a)(hc:nf c)(hx:∀x∈l,nf x):Sat (Ch l a c) λy=>0≤y.1.1∧y.1.1≤4400:=by
 unfold Ch;refine X (f7_ (by simp only[C_,d5_];omega)) ?_
 refine O (Q:=λy=>0≤y.1.1∧y.1.1≤4400) ?_ λ_ h=>A h
 unfold GE;have hz:(l++[c]).length≤11:=by rw[h_,J_];omega
 have hall:∀x∈l++[c],nf x:=λx h=>by
  rcases q_.1 h with h | h
  ·exact hx x h
  ·rw[P_.1 h];exact hc
 refine Sat.loop (λk x=>∃(n p:Int) (i:Nat),x=((n,p,l++[c],((l++[c]).length:Int),(i:Int),()),((a,()),(c,()),()))∧i+k=(l++[c]).length∧nf p∧0≤n∧n≤400*(i:Int)) ?_ (l++[c]).length ⟨0,a,0,rfl,ω,ha,by decide,by decide⟩ ω
 rintro k x ⟨n,p,i,rfl,hk,hp,hn,hn2⟩;show Sat (Jg n p (l++[c]) ((l++[c]).length:Int) (i:Int) a c) _;unfold Jg;refine I (λq=>?_) λ_=>A (ω:0≤n∧n≤4400)
 have q:=m_ q;simp only[CW (ω:i<1000000000)]
 have hv:=Al8 hall (i:=i) (d:=(0:Int)) ω
 refine X (Ac ω ω) (A ⟨k-1,ω,_,_,i+1,rfl,ω,hv,?_⟩)
 show 0≤B.wrap (n+_)∧B.wrap (n+_)≤_;rw[i_];generalize(l++[c]).getD i 0=z at hv⊢;unfold nf at hp hv;rw[Aa (n:=z-p) ω ω,Aa (n:=p-z) ω ω]
 by_cases g:z-p<p-z
 ·rw[b_ g,d_,Aa ω ω];omega
 ·rw[f_ g,c_,Aa ω ω];omega
def Aou(n f w a c d g e:Int):Sat (Qz n f w a c d g e) λy=>-1≤y.1.1∧y.1.1≤4400:=by
 unfold Qz;have no:(-1:Int)≤-1∧(-1:Int)≤4400:=by decide
 refine O (Uu n) λy1 h1=>I (λ_=>A no) λq1=>I (λ_=>A no) λq2=>I (λ_=>A no) λq4=>I (λ_=>A no) λ_=>I (λ_=>A no) λ_=>?_
 have h1:=h1 (by simpa using q1)
 have q2:=F_ q2;have q4:=F_ q4;refine O (Aje h1 g e) λy2 h2=>I (λ_=>A no) λq3=>?_
 have h2:=h2 (by simpa using q3)
 refine O (VB ω a c d) λy3 _=>X (b_ ω) (X (b_ h2.1) ?_)
 refine O (Au6 _) λy4 h4=>O (At1 _) λy5 h5=>?_
 have nf6:nf (R B (y5.1.1-1)):=by rw[Aa ω ω];exact⟨ω,ω⟩
 have nf4:nf y4.1.1:=⟨ω,ω⟩
 have nff:nf f:=⟨ω,ω⟩
 have nfg:nf g:=⟨ω,ω⟩
 generalize B.wrap (y5.1.1-1)=z at nf6;have all:nf y4.1.1∧nf z∧nf f∧nf g:=⟨nf4,nf6,nff,nfg⟩;refine O (Q:=λy=>nf y.1.2.2.1∧nf y.1.2.2.2.1∧nf y.2.1.1∧nf y.2.2.1.1) ?_ λy6 h6=>O (Q:=λy=>nf y.1.2.2.1∧nf y.1.2.2.2.1∧nf y.2.1.1∧nf y.2.2.1.1) ?_ λy7 h7=>?_
 ·exact I (λ_=>I (λ_=>A all) λ_=>I (λ_=>A all) λ_=>A all) λ_=>I (λ_=>A all) λ_=>A all
 ·exact I (λ_=>A h6) λ_=>I (λ_=>A h6) λ_=>A h6
 have p:∀(l:List Int) {a c:Int},l.length≤10→nf a→nf c→(∀x∈l,nf x)→Sat (Option.bind (Ch l a c) λy10=>Y ((y10.1.1,()),())) λy=>-1≤y.1.1∧y.1.1≤4400:=λl a c hl ha hc hx=>O (All hl ha hc hx) λy h=>A ⟨Int.le_trans (by decide) h.1,h.2⟩
 have m1:∀{x:Int},nf x→∀y∈[x],nf y:=λh y hy=>by rw[P_.1 hy];exact h
 have m2:∀{x z:Int},nf x→nf z→∀y∈[x,z],nf y:=λh h2 y hy=>by
  rcases r_.1 hy with rfl | hy
  ·exact h
  ·exact m1 h2 y hy
 refine I (λ_=>p _ (a6_ _) h7.2.2.1 h7.2.2.2 λx hx=>by cases hx) λ_=>O (Q:=λy=>nf y.1.2.2.1∧nf y.1.2.2.2.1∧nf y.2.1.1∧nf y.2.2.1.1) ?_ λy9 h9=>?_
 ·exact I (λ_=>A h7) λ_=>A h7
 obtain⟨k1,k2,k3,k4⟩:=h9;exact I (λ_=>p _ (show(1:Nat)≤10 by decide) k3 k4 (m1 k2)) λ_=>I (λ_=>p _ (show(1:Nat)≤10 by decide) k3 k4 (m1 k1)) λ_=>I (λ_=>p _ (show(2:Nat)≤10 by decide) k3 k4 (m2 k2 k1)) λ_=>p _ (show(2:Nat)≤10 by decide) k3 k4 (m2 k1 k2)
def Ali(h:b.code=0){c:Car}(hc:c∈b.B0):Cm b.C0 c=E:=by
 unfold Bldg.code at h;cases h1:inR 2 32 b.C0<;>rw[h1]at h
 ·cases h
 cases h2:inR 1 8 (b.B0.length:Int)<;>rw[h2]at h
 ·cases h
 cases h3:inR 1 16 b.E0<;>rw[h3]at h
 ·cases h
 cases h4:inR 1 10000 b.M0<;>rw[h4]at h
 ·cases h
 cases h5:b.B0.all (Cm b.C0)<;>rw[h5]at h
 ·cases h
 exact E_.1 h5 c hc
def Acz(h:b.code=0)(hi:i<b.B0.length):(0≤(b.B0.getD i EO).O3∧(b.B0.getD i EO).O3≤10000)∧(0≤(b.B0.getD i EO).L2∧(b.B0.getD i EO).L2≤10000)∧(0≤(b.B0.getD i EO).K2∧(b.B0.getD i EO).K2≤10000)∧0≤(b.B0.getD i EO).I2∧(b.B0.getD i EO).I2≤10000:=by
 have ht:Cm b.C0 (b.B0.getD i EO)=E:=Ali h (CA _ hi);unfold Cm at ht;simp only[X_,List.all_nil,c6_,e_,Ao]at ht;omega
def Ut(b:J)(car:Int)(v:S)(floor dir:Int):Sat (Ez b.C0 b.E0 b.H0 b.M0 b.J0 b.L0 b.N0 b.B0 car v.H3 v.Y2 v.D3 v.X3 v.D0 v.I0 v.C3 v.F3 v.Q2 v.M2 v.Z1 v.Q1 floor dir) λy=>0≤y.1.1∧y.1.1≤1000000:=by
 unfold Ez;have one:(0:Int)≤1000000∧(1000000:Int)≤1000000:=by decide
 refine Sat.bindE (Bi b) (I (λ_=>A one) λhc=>I (λ_=>A one) λg1=>I (λ_=>A one) λg2=>?_)
 have g1:=F_ g1;have g2:=F_ g2;have hcode:b.code=0:=by simpa using hc
 have ib:inB car b.B0.length=E:=Ac ω ω
 refine O (Q:=λy=>y.1.1=car∧y.2.1=b.tup) (I (λ_=>A ⟨rfl,rfl⟩) λ_=>A ⟨rfl,rfl⟩) λy2 h2=>?_
 obtain⟨⟨yc,ya⟩,yb,yv⟩:=y2;obtain⟨e1,e2⟩:=h2;simp only at e1 e2;subst e1 e2;have ht:=Acz hcode (ω:yc.toNat<b.B0.length)
 refine O (Aou ..) λy3 h3=>I (λ_=>A one) λq3=>X ib ?_
 have q3:=F_ q3;refine O (Alk ..) λy4 h4=>A ?_
 have key:∀n:Int,0≤n→0≤(bif decide (1000000<n)then(1000000:Int)else n)∧(bif decide (1000000<n)then(1000000:Int)else n)≤1000000:=λn hn=>by
  by_cases g:1000000<n
  ·rw[b_ g];exact one
  ·rw[f_ g,c_];omega
 refine key _ ?_;show 0≤B.wrap (R B (y3.1.1*(b.B0.getD yc.toNat EO).O3)+B.wrap (y4.1.1*B.wrap (R B (2*(b.B0.getD yc.toNat EO).L2)+(b.B0.getD yc.toNat EO).K2)));generalize b.B0.getD yc.toNat EO=c at ht;have k1:0≤y3.1.1*c.O3∧y3.1.1*c.O3≤4400*10000:=⟨Int.mul_nonneg ω ω,Int.mul_le_mul ω ω ω (by decide)⟩
 rw[Aa (n:=2*c.L2) ω ω,Aa (n:=2*c.L2+c.K2) ω ω]
 have k2:0≤y4.1.1*(2*c.L2+c.K2)∧y4.1.1*(2*c.L2+c.K2)≤1000*30000:=⟨Int.mul_nonneg ω ω,Int.mul_le_mul ω ω ω (by decide)⟩
 generalize y4.1.1*(2*c.L2+c.K2)=p at k2;generalize y3.1.1*c.O3=q at k1;rw[Aa (n:=q) ω ω,Aa (n:=p) ω ω,Aa ω ω]
 omega
def Ag3(n:Int):Prop:=0≤n∧n<4294967296
def View.none:S:=aG C C C C 0 0 0 0 0 0 0 0
def Car.none:Car:=Car.mk 0 0 0 0 0 0 0 0 0
structure View.ok(v:View):Prop where
 c:Ag3 v.M2
 u:Ag3 v.Z1
 d:Ag3 v.Q1
def Al0(b:J)(car:Int)(v:S)(floor dir:Int):Option ((Int×Unit)×Unit):=
 Ez b.C0 b.E0 b.H0 b.M0 b.J0 b.L0 b.N0 b.B0 car v.H3 v.Y2 v.D3 v.X3 v.D0 v.I0 v.C3 v.F3 v.Q2 v.M2 v.Z1 v.Q1 floor dir
def RO(b:J)(car:Int)(v:S)(floor dir:Int):Int:=match Al0 b car v floor dir with | some r=>r.1.1 | none=>0
def Aql(_hb:b.small){v:S}(_hv:v.ok)(car floor dir:Int):Al0 b car v floor dir=Y ((RO b car v floor dir,()),()):=by
 obtain⟨r,h,_⟩:=Ut b car v floor dir;have h':Al0 b car v floor dir=Y r:=h;rw[show RO b car v floor dir=r.1.1 by unfold RO;rw[h']];exact h'
def Bhn(b:J)(car:Int)(v:S)(floor dir:Int):0≤RO b car v floor dir∧RO b car v floor dir≤1000000:=by
 obtain⟨r,h,h2⟩:=Ut b car v floor dir;have h':Al0 b car v floor dir=Y r:=h;rw[show RO b car v floor dir=r.1.1 by unfold RO;rw[h']]
 exact h2
def Uz(v:S):Bool:=v.C3==3||v.C3==4
def Qg(v:S):Hj v.H3 v.Y2 v.D3 v.X3 v.D0 v.I0 v.C3 v.F3 v.Q2 v.M2 v.Z1 v.Q1=Y ((Uz v,()),()):=by
 unfold Hj Uz;cases v.C3==3<;>rfl
def Aau(a b:Int×Int):Bool:=decide (a.1<b.1)||(a.1==b.1&&decide (a.2<b.2))
def Tp(a b:Int×Int):IJ a.1 a.2 b.1 b.2=Y ((Aau a b,()),()):=by
 unfold IJ Aau;by_cases h:a.1=b.1
 ·by_cases h':a.2=b.2
  ·rw[h,h',l_,l_,f_ ω,f_ ω];rfl
  ·rw[h,l_,An h',f_ ω];rfl
 ·rw[An h]
  cases decide (a.1<b.1)<;>rfl
def Ax(vs:List S)(i:Int):S:=vs.getD i.toNat (aG C C C C 0 0 0 0 0 0 0 0)
def okViews(vs:List S):Prop:=∀v∈vs,v.ok
def View.ok_none:View.ok (aG C C C C 0 0 0 0 0 0 0 0):=⟨⟨by decide,by decide⟩,⟨by decide,by decide⟩,⟨by decide,by decide⟩⟩
def okViews.at(h:okViews vs)(i:Int):(Ax vs i).ok:=by
 unfold Ax;rw[k_];cases hq:vs[i.toNat]? with
 |none=>exact View.ok_none
 |some v=>exact h v (v_ hq)
def Jc(b:J)(vs:List S)(floor dir:Int)(car:Int):Int×Int:=((bif Uz (Ax vs car)then 1 else 0),RO b car (Ax vs car) floor dir)
def Qh(hb:b.small)(hv:okViews vs){car:Int}(hc:0≤car∧car<vs.length)(floor dir:Int):
  KR b.C0 b.E0 b.H0 b.M0 b.J0 b.L0 b.N0 b.B0 vs car floor dir=Y (((),()),(((Jc b vs floor dir car).1,(Jc b vs floor dir car).2,()),())):=by
 unfold KR;have e:Ez b.C0 b.E0 b.H0 b.M0 b.J0 b.L0 b.N0 b.B0 car (Ax vs car).H3 (Ax vs car).Y2 (Ax vs car).D3 (Ax vs car).X3 (Ax vs car).D0 (Ax vs car).I0 (Ax vs car).C3 (Ax vs car).F3 (Ax vs car).Q2 (Ax vs car).M2 (Ax vs car).Z1 (Ax vs car).Q1 floor dir=_:=Aql hb (hv.at car) car floor dir;rw[Ac hc.1 hc.2];show(Ez b.C0 b.E0 b.H0 b.M0 b.J0 b.L0 b.N0 b.B0 car (Ax vs car).H3 (Ax vs car).Y2 (Ax vs car).D3 (Ax vs car).X3 (Ax vs car).D0 (Ax vs car).I0 (Ax vs car).C3 (Ax vs car).F3 (Ax vs car).Q2 (Ax vs car).M2 (Ax vs car).Z1 (Ax vs car).Q1 floor dir).bind (λy1=>(Hj (Ax vs car).H3 (Ax vs car).Y2 (Ax vs car).D3 (Ax vs car).X3 (Ax vs car).D0 (Ax vs car).I0 (Ax vs car).C3 (Ax vs car).F3 (Ax vs car).Q2 (Ax vs car).M2 (Ax vs car).Z1 (Ax vs car).Q1).bind (λy2=>bif y2.1.1 then Y (((),()),(((1:Int),y1.1.1,()),()))else Y (((),()),(((0:Int),y1.1.1,()),()))))=_
 rw[e,a_,Qg,a_];unfold Jc;cases Uz (Ax vs car)<;>rfl
def Og(b:J)(vs:List S)(floor dir except:Int)(i best:Int):Int:=
 bif !(Ax vs i).H3||i==except then best else bif best==-1||Aau (Jc b vs floor dir i) (Jc b vs floor dir best)then i else best
def Aj7(b:J)(vs:List S)(floor dir except:Int):Nat→Nat→Int→Int
 |0,_,best=>best
 |m+1,i,best=>Aj7 b vs floor dir except m (i+1) (Og b vs floor dir except i best)
def IG(b:J)(vs:List S)(floor dir except:Int):Int:=
 bif b.code !=0||(vs.length:Int) !=(b.B0.length:Int)then -1 else Aj7 b vs floor dir except vs.length 0 (-1)
def Ro(vs:List S)(best:Int):Prop:=best=-1∨(0≤best∧best<vs.length)
def ZW{floor dir except:Int}(hi:i<vs.length){best:Int}(h:Ro vs best):Ro vs (Og b vs floor dir except i best):=by
 unfold Og;cases(!(Ax vs i).H3||(i:Int)==except)with
 |true=>exact h
 |false=>
  simp only[c_];cases(best==-1||Aau (Jc b vs floor dir i) (Jc b vs floor dir best))with
  |true=>exact .inr (by simp only[d_];omega)
  |false=>exact h
def Rn{b:J}(hb:b.small){vs:List S}(hv:okViews vs)(hl:vs.length≤100)(floor dir except:Int) :
  ∀(m i:Nat) (best l0 l1:Int),i+m=vs.length→Ro vs best→(best≠ -1→(l0,l1)=Jc b vs floor dir best)→
   BQ (λx=>letI a:=x.2.1.2.2;letI c:=x.1.2.2.2.2.2;letI d:=a.2.2;FM x.1.1 x.1.2.1 x.1.2.2.1 x.1.2.2.2.1 c.1 c.2.2.1 c.2.2.2.1 c.2.2.2.2.1 x.2.1.1 x.2.1.2.1 a.1 a.2.1 d.1 d.2.1 d.2.2.1 d.2.2.2.1 x.2.2.1.1 x.2.2.1.2.1) (m+1) ((vs,floor,dir,except,(),best,(),vs,(vs.length:Int),(i:Int),()),(b.tup,(l0,l1,()),()))=Y ((Aj7 b vs floor dir except m i best,()),())
 |0,i,best,l0,l1,hi,hin,hr=>by
  refine Az ?_;show FM vs floor dir except best vs (vs.length:Int) (i:Int) b.C0 b.E0 b.H0 b.M0 b.J0 b.L0 b.N0 b.B0 l0 l1=_;unfold FM;have e:decide ((i:Int)<(vs.length:Int))=C:=by simp;omega
  rw[e];rfl
 |m+1,i,best,l0,l1,hi,hin,hr=>by
  have hi':i<vs.length:=ω
  have e:decide ((i:Int)<(vs.length:Int))=E:=by simp;omega
  have ib:inB (i:Int) vs.length=E:=Ac ω ω
  have w:B.wrap ((i:Int)+1)=((i+1:Nat):Int):=by rw[Aa ω ω];omega
  have hs:∃l0' l1',(Og b vs floor dir except i best≠ -1→(l0',l1')=Jc b vs floor dir (Og b vs floor dir except i best))∧FM vs floor dir except best vs (vs.length:Int) (i:Int) b.C0 b.E0 b.H0 b.M0 b.J0 b.L0 b.N0 b.B0 l0 l1=Y (.inl ((vs,floor,dir,except,(),Og b vs floor dir except i best,(),vs,(vs.length:Int),((i+1:Nat):Int),()),(b.tup,(l0',l1',()),()))):=by
   unfold FM;have k1:=Qh hb hv (car:=(i:Int)) ω floor dir
   rw[e,ib,w];simp only[d_];unfold Og;rw[show vs.getD (Z (i:Int)) (aG C C C C 0 0 0 0 0 0 0 0)=Ax vs (i:Int)from rfl]
   cases(Ax vs (i:Int)).H3 with
   |false=>exact⟨l0,l1,hr,rfl⟩
   |true=>
    simp only[o_,c_,g6_];cases(i:Int)==except with
    |true=>exact⟨l0,l1,hr,rfl⟩
    |false=>
     simp only[c_,k1,a_];rcases hin with hbest | hbest
     ·subst hbest
      rw[show((-1:Int)==-1)=E from rfl]
      simp only[d_,a_,w,Bool.true_or];exact⟨_,_,λ_=>rfl,rfl⟩
     ·have hr':=hr ω
      have e1:l0=(Jc b vs floor dir best).1:=b8_ Prod.fst hr';have e2:l1=(Jc b vs floor dir best).2:=b8_ Prod.snd hr';subst e1 e2;rw[An (ω:¬best=-1)]
      simp only[c_,a_,g6_,Tp];cases Aau (Jc b vs floor dir i) (Jc b vs floor dir best)with
      |true=>simp only[d_,w];exact⟨_,_,λ_=>rfl,rfl⟩
      |false=>simp only[c_,w];exact⟨_,_,λ_=>rfl,rfl⟩
  obtain⟨l0',l1',h1,h2⟩:=hs;exact(Bu h2).trans (Rn hb hv hl floor dir except m (i+1) _ l0' l1' ω (ZW hi' hin) h1)
def Of(hb:b.small)(hv:okViews vs)(hl:vs.length≤100)(floor dir except:Int):
  GS b.C0 b.E0 b.H0 b.M0 b.J0 b.L0 b.N0 b.B0 vs floor dir except=Y ((IG b vs floor dir except,()),()):=by
 unfold GS IG;rw[Bi,a_];cases b.code !=0 with
 |true=>rfl
 |false=>
  simp only[c_,g6_];cases(vs.length:Int) !=(b.B0.length:Int)with
  |true=>rfl
  |false=>
   have h:=Ai (Rn hb hv hl floor dir except vs.length 0 (-1) 0 0 ω (.inl rfl) (λh=>absurd rfl h)) ω
   have h':Jq ((vs,floor,dir,except,(),(-1:Int),(),vs,(vs.length:Int),(0:Int),()),(b.tup,((0:Int),(0:Int),()),()))=_:=h;simp only[c_];refine(b8_ (λz=>Option.bind z _) h').trans ?_
   rfl
def Ak6{b:J}{vs:List S}{floor dir except:Int}:∀(m i:Nat) (best:Int),i+m=vs.length→Ro vs best→Ro vs (Aj7 b vs floor dir except m i best)
 |0,_,_,_,h=>h
 |m+1,i,best,hi,h=>Ak6 m (i+1) _ ω (ZW ω h)
def Sw(b:J)(vs:List S)(floor dir except:Int):Ro vs (IG b vs floor dir except):=by
 unfold IG;cases(b.code !=0||(vs.length:Int) !=(b.B0.length:Int))with
 |true=>exact .inl rfl
 |false=>exact Ak6 vs.length 0 (-1) ω (.inl rfl)
def Afh(b:J)(vs:List S)(e:aA)(x n:Int):Bool:=
 ((Ax vs e.S0).D3&&(x==0&&Aau (Jc b vs e.D0 e.I0 n) (Jc b vs e.D0 e.I0 e.S0)))||(!(Ax vs e.S0).D3&&(Uz (Ax vs e.S0)&&!Uz (Ax vs n)))
def Nt(b:J)(vs:List S)(e:aA)(x:Int):Int:=
 bif IG b vs e.D0 e.I0 e.S0==-1 then -1 else bif Afh b vs e x (IG b vs e.D0 e.I0 e.S0)then IG b vs e.D0 e.I0 e.S0 else -1
def Fi(b:J)(vs:List S)(e:aA)(x:Int):aA:=
 bif e.S0==-2 then e
 else bif e.S0==-1 then⟨e.D0,e.I0,IG b vs e.D0 e.I0 (-1),e.B1,e.B2⟩
 else bif(Ax vs e.S0).X3 then(bif decide ((b.B0.length:Int)<e.B1)then⟨e.D0,e.I0,-2,e.B1,e.B2⟩else⟨e.D0,e.I0,IG b vs e.D0 e.I0 e.S0,e.B1+1,e.B2⟩)
 else bif !e.B2&&decide (e.B1≤(b.B0.length:Int))then(bif Nt b vs e x != -1 then⟨e.D0,e.I0,Nt b vs e x,e.B1+1,E⟩else e)
 else e
def Entry.tup(e:aA):Int×Int×Int×Int×Bool×Unit:=(e.D0,e.I0,e.S0,e.B1,e.B2,())
section
variable{b:J}(hb:b.small){vs:List S}(hv:okViews vs)(hl:vs.length≤100){e:aA}
include hb hv hl
theorem Abu(hc:0≤e.S0∧e.S0<vs.length)(x:Int):GD b.C0 b.E0 b.H0 b.M0 b.J0 b.L0 b.N0 b.B0 vs e.D0 e.I0 e.S0 e.B1 e.B2 x=Y ((Nt b vs e x,()),()):=by
 unfold GD Nt;have hn:=Sw b vs e.D0 e.I0 e.S0;rw[Of hb hv hl];generalize IG b vs e.D0 e.I0 e.S0=n at hn;simp only[a_];rcases hn with rfl | hn
 ·rfl
 ·have k1:=Qh hb hv hn e.D0 e.I0
  have k2:=Qh hb hv hc e.D0 e.I0;have f1:=Qg (Ax vs e.S0);have f2:=Qg (Ax vs n);rw[An (ω:¬n=-1),Ac hc.1 hc.2]
  unfold Afh;unfold Ax at f1 f2⊢;simp only[d_,c_];cases hleg:(vs.getD e.S0.toNat (aG C C C C 0 0 0 0 0 0 0 0)).D3 with
  |true=>
   simp only[d_,n_,o_,a4_,Bool.or_false];cases x==0 with
   |true=>
    simp only[d_,n_,k1,k2,a_,Tp];cases Aau (Jc b vs e.D0 e.I0 n) (Jc b vs e.D0 e.I0 e.S0)<;>rfl
   |false=>rfl
  |false=>
   rw[hleg]at f1;simp only[c_,a4_,c0_,n_,g6_,a_,d_,f1];cases Uz (vs.getD e.S0.toNat (aG C C C C 0 0 0 0 0 0 0 0))with
   |false=>rfl
   |true=>
    simp only[d_,Ac hn.1 hn.2,n_,f2,a_];cases Uz (vs.getD n.toNat (aG C C C C 0 0 0 0 0 0 0 0))<;>rfl
theorem ZP(hc:-2≤e.S0∧e.S0<vs.length)(hm:0≤e.B1∧e.B1≤255)(x:Int):FX b.C0 b.E0 b.H0 b.M0 b.J0 b.L0 b.N0 b.B0 vs e.D0 e.I0 e.S0 e.B1 e.B2 x=Y (((),()),((Fi b vs e x).tup,())):=by
 unfold FX Fi;have w:B.wrap (e.B1+1)=e.B1+1:=Aa ω ω
 by_cases g1:e.S0=-2
 ·rw[show(e.S0==-2)=E by rw[g1];rfl];rfl
 rw[An g1];by_cases g2:e.S0=-1
 ·rw[show(e.S0==-1)=E by rw[g2];rfl]
  simp only[d_,c_,Of hb hv hl,a_];rfl
 rw[An g2];have hc':0≤e.S0∧e.S0<vs.length:=ω
 have ho:=Abu hb hv hl hc' x;unfold Ax;simp only[c_,Ac hc'.1 hc'.2,d_];cases hlost:(vs.getD e.S0.toNat (aG C C C C 0 0 0 0 0 0 0 0)).X3 with
 |true=>
  simp only[d_,a_];cases decide ((b.B0.length:Int)<e.B1)with
  |true=>rfl
  |false=>
   simp only[c_,Ac hc'.1 hc'.2,d_,hlost,Of hb hv hl,a_,w];rfl
 |false=>
  simp only[c_,a_,Ac hc'.1 hc'.2,d_,hlost];cases hmv:e.B2 with
  |true=>
   simp only[o_,c_,a_,a4_];unfold Entry.tup;rw[hmv]
  |false=>
   rw[hmv]at ho;simp only[c0_,d_,a_,n_];cases decide (e.B1≤(b.B0.length:Int))with
   |false=>
    simp only[c_];unfold Entry.tup;rw[hmv]
   |true=>
    simp only[d_,ho,a_,w];cases Nt b vs e x != -1 with
    |true=>rfl
    |false=>
     simp only[c_];unfold Entry.tup;rw[hmv]
end
def Nb(was now:aA):List Record:=
 (bif was.B1 !=now.B1||!(was.B2==now.B2)then [⟨7,now.D0,now.I0,(bif now.B2 then 1 else 0),now.B1⟩]else [])++(bif was.S0 !=now.S0 then [⟨3,now.D0,now.I0,now.S0,0⟩]else [])
def Ain(a b:aA):(Nb a b).length≤2:=by
 unfold Nb;cases(a.B1 !=b.B1||!(a.B2==b.B2))<;>cases a.S0 !=b.S0<;>simp
def ZL(a c:aA):Kl a.D0 a.I0 a.S0 a.B1 a.B2 c.D0 c.I0 c.S0 c.B1 c.B2=Y ((Nb a c,()),()):=by
 unfold Kl Nb;have b1:∀r:Record,Nat.ble (([]:List Record).length+[r].length) 2147483648=E:=λ_=>Ay (by simp)
 have b2:∀r s:Record,Nat.ble (([]++[s]:List Record).length+[r].length) 2147483648=E:=λ_ _=>Ay (by simp)
 cases a.B1 !=c.B1<;>cases a.B2==c.B2<;>cases hm:c.B2<;>cases hc:a.S0 !=c.S0<;>
  simp only[d_,c_,a_,o_,c0_,Bool.or_true,Bool.true_or,Bool.or_self,b1,b2,hc]<;>rfl
def We(b:J)(i:Int):Car:=b.B0.getD i.toNat (Car.mk 0 0 0 0 0 0 0 0 0)
def ZA(b:J)(vs:List S)(e n:aA)(x:Int):Int:=
 bif n.S0 !=e.S0&&decide (0≤n.S0)then(bif decide (1000000<B.wrap (RO b n.S0 (Ax vs n.S0) e.D0 e.I0+(We b n.S0).I2))then 1000000 else B.wrap (RO b n.S0 (Ax vs n.S0) e.D0 e.I0+(We b n.S0).I2))
 else(bif decide (R B (x-1)<0)then 0 else B.wrap (x-1))
def GH(b:J)(vs:List S):List aA→List Int→List Record
 |e::t,x::xs=>Nb e (Fi b vs e x)++GH b vs t xs
 |_,_=>[]
def LT(b:J)(vs:List S):List aA→List Int→List Int
 |e::t,x::xs=>ZA b vs e (Fi b vs e x) x::LT b vs t xs
 |_,_=>[]
def Ayl(b:J)(vs:List S)(e:aA)(x:Int):(Fi b vs e x).D0=e.D0∧(Fi b vs e x).I0=e.I0:=by
 unfold Fi;cases e.S0==-2<;>cases e.S0==-1<;>cases(Ax vs e.S0).X3<;>cases decide ((b.B0.length:Int)<e.B1)<;>cases(!e.B2&&decide (e.B1≤(b.B0.length:Int)))<;>cases Nt b vs e x != -1<;>exact⟨rfl,rfl⟩
def Azo(b:J)(vs:List S)(e:aA)(x:Int):Ro vs (Nt b vs e x):=by
 unfold Nt;cases IG b vs e.D0 e.I0 e.S0==-1 with
 |true=>exact .inl rfl
 |false=>
  cases Afh b vs e x (IG b vs e.D0 e.I0 e.S0)with
  |true=>exact Sw ..
  |false=>exact .inl rfl
def Aqc(b:J){e:aA}(h:-2≤e.S0∧e.S0<vs.length)(x:Int):-2≤(Fi b vs e x).S0∧(Fi b vs e x).S0<vs.length:=by
 have k:∀n:Int,Ro vs n→-2≤n∧n<vs.length:=λn h=>by
  rcases h with rfl | h
  ·omega
  ·omega
 unfold Fi;by_cases g1:e.S0=-2
 ·rw[show(e.S0==-2)=E by rw[g1];rfl];exact h
 rw[An g1];by_cases g2:e.S0=-1
 ·rw[show(e.S0==-1)=E by rw[g2];rfl];exact k _ (Sw ..)
 rw[An g2];simp only[c_];cases(Ax vs e.S0).X3 with
 |true=>
  cases decide ((b.B0.length:Int)<e.B1)with
  |true=>exact⟨by show(-2:Int)≤-2;omega,by show(-2:Int)<_;omega⟩
  |false=>exact k _ (Sw ..)
 |false=>
  cases(!e.B2&&decide (e.B1≤(b.B0.length:Int)))with
  |true=>
   cases Nt b vs e x != -1 with
   |true=>exact k _ (Azo ..)
   |false=>exact h
  |false=>exact h
def Ahl{b:J}:∀{l:List aA}{p:Option aA},EE b p l=E→∀e∈l,Ha b e=E
 |[],_,_,_,he=>by cases he
 |a::t,p,h,e,he=>by
  simp only[EE,e_]at h;rcases r_.1 he with rfl | he
  ·exact h.1
  ·exact Ahl h.2.2 e he
def Ta(N:List α)(a v:α)(t:List α):(N++a::t).set N.length v=N++v::t:=by
 induction N with
 |nil=>rfl
 |cons h N ih=>simp only[List.cons_append,C_,List.set_cons_succ,ih]
section
variable{b:J}(hb:b.small){vs:List S}(hv:okViews vs)(hl:vs.length≤100)(hlen:(vs.length:Int)=(b.B0.length:Int)){m:Img}(hm:∀e∈m.A0,Ha b e=E)(hm':m.A0.length≤1000){xs:List Int}(hx:xs.length=m.A0.length)
include hb hv hl hlen hm hm' hx
theorem Tq:∀(k i:Nat) (out:List Record) (N:List Int),i+k=m.A0.length→N.length=i→out.length≤2*i→
  BQ (λx=>letI a:=x.2.2.1.2.2;letI c:=x.1.2.2.2.2;letI d:=x.2.1.2.2;letI f:=a.2.2;letI g:=d.2.2;GV x.1.1 x.1.2.1 c.1 c.2.1 c.2.2.1 c.2.2.2.1 c.2.2.2.2.1 x.2.1.1 x.2.1.2.1 d.1 d.2.1 g.1 g.2.1 g.2.2.1 g.2.2.2.1 x.2.2.1.1 x.2.2.1.2.1 a.1 a.2.1 f.1 f.2.1 f.2.2.1 f.2.2.2.1 f.2.2.2.2.1) (k+1)
   ((xs,vs,(),(),out,N++aE k 0,m.A0,(m.A0.length:Int),(i:Int),()),(b.tup,(b.C0,b.E0,b.H0,b.M0,b.J0,b.L0,b.N0,b.B0,vs,()),()))=Y ((out++GH b vs (m.A0.drop i) (xs.drop i),N++LT b vs (m.A0.drop i) (xs.drop i),()),())
 |0,i,out,N,hi,hN,ho=>by
  refine Az ?_;show GV xs vs out (N++[]) m.A0 (m.A0.length:Int) (i:Int) b.C0 b.E0 b.H0 b.M0 b.J0 b.L0 b.N0 b.B0 b.C0 b.E0 b.H0 b.M0 b.J0 b.L0 b.N0 b.B0 vs=_;unfold GV;have e:decide ((i:Int)<(m.A0.length:Int))=C:=by simp;omega
  rw[e,show i=m.A0.length by omega,a5_]
  simp[GH,LT]
 |k+1,i,out,N,hi,hN,ho=>by
  have hi':i<m.A0.length:=ω
  have hix:i<xs.length:=ω
  have e:decide ((i:Int)<(m.A0.length:Int))=E:=by simp;omega
  have ib:inB (i:Int) m.A0.length=E:=Ac ω ω
  have ibx:inB (i:Int) xs.length=E:=Ac ω ω
  have ibn:inB (i:Int) (N++aE (k+1) (0:Int)).length=E:=Ac ω (by simp;omega)
  have w:B.wrap ((i:Int)+1)=((i+1:Nat):Int):=by rw[Aa ω ω];omega
  have hok:=CA V hi';have hent:=hm _ hok;simp only[Ha,e_,t_]at hent;obtain⟨_,c1,c2,c3,c4⟩:=hent;have hd:=ZP hb hv hl (e:=m.A0.getD i V) ω ⟨c3,c4⟩ (xs.getD i 0)
  have hr:=ZL (m.A0.getD i V) (Fi b vs (m.A0.getD i V) (xs.getD i 0));have hin:=Aqc b (vs:=vs) (e:=m.A0.getD i V) ω (xs.getD i 0)
  have hrl:=Ain (m.A0.getD i V) (Fi b vs (m.A0.getD i V) (xs.getD i 0));have hble:Nat.ble (out.length+(Nb (m.A0.getD i V) (Fi b vs (m.A0.getD i V) (xs.getD i 0))).length) 2147483648=E:=Ay ω
  have hset:∀v:Int,(N++aE (k+1) (0:Int)).set i v=N++v::aE k 0:=λv=>by
   rw[← hN];exact Ta N 0 v (aE k 0)
  have hset2:∀v u:Int,(N++v::aE k (0:Int)).set i u=N++u::aE k 0:=λv u=>by
   rw[← hN];exact Ta N v u (aE k 0)
  have ibn2:∀v:Int,inB (i:Int) (N++v::aE k (0:Int)).length=E:=λv=>Ac ω (by simp;omega)
  rw[BU V hi',BU (0:Int) hix];refine(Bu (x':=((xs,vs,(),(),out++Nb (m.A0.getD i V) (Fi b vs (m.A0.getD i V) (xs.getD i 0)),(N++[ZA b vs (m.A0.getD i V) (Fi b vs (m.A0.getD i V) (xs.getD i 0)) (xs.getD i 0)])++aE k 0,m.A0,(m.A0.length:Int),((i+1:Nat):Int),()),(b.tup,(b.C0,b.E0,b.H0,b.M0,b.J0,b.L0,b.N0,b.B0,vs,()),()))) ?_).trans ?_
  ·show GV xs vs out (N++aE (k+1) 0) m.A0 (m.A0.length:Int) (i:Int) b.C0 b.E0 b.H0 b.M0 b.J0 b.L0 b.N0 b.B0 b.C0 b.E0 b.H0 b.M0 b.J0 b.L0 b.N0 b.B0 vs=_
   unfold GV;rw[e,ib,ibx,show Entry.mk 0 0 0 0 C=V from rfl]
   unfold Entry.tup at hd;simp only[d_,i_,hd,a_,hr,hble,ibn,hset];unfold ZA;have hest:=Aql hb (hv.at (Fi b vs (m.A0.getD i V) (xs.getD i 0)).S0) (Fi b vs (m.A0.getD i V) (xs.getD i 0)).S0 (m.A0.getD i V).D0 (m.A0.getD i V).I0;unfold Al0 Ax at hest;cases hne:((Fi b vs (m.A0.getD i V) (xs.getD i 0)).S0 !=(m.A0.getD i V).S0)with
   |false=>
    simp only[c_,a_,a4_,M_,d4_,w];rfl
   |true=>
    simp only[d_,a_,n_];by_cases hge:0≤(Fi b vs (m.A0.getD i V) (xs.getD i 0)).S0
    ·have ibc:inB (Fi b vs (m.A0.getD i V) (xs.getD i 0)).S0 vs.length=E:=Ac hge hin.2
     have ibc':inB (Fi b vs (m.A0.getD i V) (xs.getD i 0)).S0 b.B0.length=E:=Ac hge ω
     rw[b_ hge];simp only[d_,ibc,hest,a_,ibc',ibn2,i_,hset2,M_,d4_,w];rfl
    ·rw[f_ hge]
     simp only[c_,M_,d4_,w];rfl
  ·rw[Tq k (i+1) _ (N++[_]) ω (by simp;omega) (by rw[h_];omega)]
   simp only[GH,LT,M_,d4_]
end
end
end Go.Ovl
