/- The frames of the statements about machines (layer 27): valid inputs, and their texts. -/
import Derived.Test.YtoppkmfgeaflcaaGreatDoorOvH
import Derived.Test.YtoppkmfgeaflcaaGreatDoorOvG
import Derived.Test.YtoppkmfgeaflcaaGreatDoorOvF
import Derived.Test.YtoppkmfgeaflcaaGreatDoorOvA
import Derived.Test.YtoppkmfgeaflcaaGreatDoorOvB
set_option linter.all false
open Go.Ovl.Sat renaming ret->A,bic->I,bindS->O,bifT->X
open Go.IntKind renaming i64->B,wrap->R,u64->aD,u32->aF
open Bool renaming false->C,true->E,and_eq_true_iff->aK,false_or->aL
open Go.Ovl renaming bv->H,Bldg->J,View->S,vb->U,noE->V,Entry->aA,CarInput->aB
open Int renaming tmod->W,toNat->Z,fdiv->aH
open Option renaming some->Y
open Nat renaming blt->aC
open List renaming replicate->aE
open Go.Ovl.View renaming mk->aG
open Min renaming min->aI
open Go.Ovl.CarInput renaming mk->aJ
open ByteArray renaming mk->aM
namespace Go.Ovl
open Go Go.Ab
set_option maxRecDepth 100000
noncomputable section
variable{b:J}{vs:List S}{s:ByteArray}{l:List Int}{n:Int}{α:Type}{i:Nat}{x:Inp}
def Az0(b:J)(x:Inp):Prop:=Hl b x=E∧JX x.press
def Bga(v:BitVec 32):0≤U v∧U v<4294967296:=by
 have:=v.isLt
 unfold U;omega
def FrX(b:J)(x:Inp)(s:ByteArray):Prop:=s.size=(inV b x).size∧s.extract 0 (s.size-2)=(inV b x).extract 0 (s.size-2)
def Fr(b:J)(s:ByteArray):Prop:=∃x,Az0 b x∧FrX b x s
def FrX.spoilt(h:FrX b x s)(r:ByteArray)(hr:r.size=1)(hs:1≤s.size):FrX b x (s.extract 0 (s.size-1)++r):=by
 have hz:(s.extract 0 (s.size-1)++r).size=s.size:=by
  rw[P_,hr,ByteArray.size_extract];omega
 refine⟨hz.trans h.1,?_⟩;rw[hz,← h.2];apply MY;have hl:=FW s;rw[QX,QX,KR,QX];simp only[R_,Nat.sub_zero];rw[List.take_append_of_le_length (by rw[v_,hl];omega),List.take_take]
 congr 1;omega
def DM(b:J):Int:=aF.wrap (R aF (1*2^min (Z (R aD b.C0)) (IntKind.bits .u32))-1)
def Adi(hb:b.small):0≤DM b∧DM b<2^b.C0.toNat∧2^b.C0.toNat≤(256:Int)∧(∀f:Nat,f<32→CK (DM b) f=E→(f:Int)<b.C0)∧(∀f:Nat,f<32→CK (aH (DM b) ((2:Int)^(aI (Z (1:Int)) (IntKind.bits aF)))) f=E→(f:Int)<b.C0-1):=by
 have lo:=hb.lo;have hi:=hb.hi;unfold DM
 have:b.C0=2∨b.C0=3∨b.C0=4∨b.C0=5∨b.C0=6∨b.C0=7∨b.C0=8:=ω
 rcases this with h | h | h | h | h | h | h<;>rw[h]<;>refine⟨by decide,by decide,by decide,by decide,by decide⟩
def Bj9(a:Int){c:Int}(hc:0≤c∧c<4294967296):0≤U (H a&&&H c)∧U (H a&&&H c)≤c:=by
 have h2:=Auf hc;unfold U at*;rw[BitVec.toNat_and]
 have:=Nat.and_le_right (n:=(H a).toNat) (m:=(H c).toNat)
 omega
section
variable{b:J}(hb:b.small)(hcode:b.code=0)
include hb in
theorem Bbl(a:Int):flV b (U (H a&&&H (DM b)))=E:=by
 obtain⟨m0,m1,m2,_⟩:=Adi hb;have h:=Bj9 a (c:=DM b) ω
 unfold flV;rw[CN ω ω]
 generalize U (H a&&&H (DM b))=n at h
 have:n.fdiv (2^b.C0.toNat)=0:=by
  rw[V_ _ ω]
  exact Int.ediv_eq_zero_of_lt h.1 ω
 rw[this];rfl
include hb hcode in
theorem Auh(u d:Int):Ix b (U (H (U (H u&&&H (DM b)))&&&H (aH (DM b) ((2:Int)^(aI (Z (1:Int)) (IntKind.bits aF))))),U (H (U (H d&&&H (DM b)))&&& ~~~ H 1))=E:=by
 obtain⟨_,_,_,m3,m4⟩:=Adi hb;unfold Ix;rw[Afj (Ayp _ _)];intro f hf D hD;rw[VB _ _ hf,Wp hb hcode hf hD];rcases hD with rfl | rfl
 ·cases hq:BP (U (H (U (H u&&&H (DM b)))&&&H (aH (DM b) ((2:Int)^(aI (Z (1:Int)) (IntKind.bits aF))))),U (H (U (H d&&&H (DM b)))&&& ~~~ H 1)) f 1 with
  |false=>rfl
  |true=>
   have h1:CK (U (H (U (H u&&&H (DM b)))&&&H (aH (DM b) ((2:Int)^(aI (Z (1:Int)) (IntKind.bits aF)))))) f=E:=hq;rw[SX,f2_,aK]at h1;have h2:=m4 f hf h1.2
   have h5:An b (f:Int) 1=E:=by
    unfold An Pf;rw[hcode,show inR 0 (b.C0-2) (f:Int)=E from Am.2 ⟨ω,ω⟩];rfl
   rw[h5];rfl
 ·cases hq:BP (U (H (U (H u&&&H (DM b)))&&&H (aH (DM b) ((2:Int)^(aI (Z (1:Int)) (IntKind.bits aF))))),U (H (U (H d&&&H (DM b)))&&& ~~~ H 1)) f 2 with
  |false=>rfl
  |true=>
   have h1:CK (U (H (U (H d&&&H (DM b)))&&& ~~~ H 1)) f=E:=hq;rw[SX,f2_,Arg,f2_,BitVec.getLsbD_not,aK,aK,aK]at h1;have h2:=m3 f hf h1.1.2;have h3:f≠0:=λh=>by subst h;exact absurd h1.2.2 (by decide)
   have h5:An b (f:Int) 2=E:=by
    unfold An Pf;rw[hcode,show inR 1 (b.C0-1) (f:Int)=E from Am.2 ⟨ω,ω⟩];rfl
   rw[h5];rfl
end
def Di{l:List α}{j:Nat}(d x:α)(h:i≠j):(l.set i x).getD j d=l.getD j d:=by
 rw[k_,List.getElem?_set_ne h,← k_]
section
variable{b:J}(hb:b.small)(hcode:b.code=0)
include hb hcode
theorem Azw(u d kd car:Int){cs:List aB}(hcs:cs.length=b.B0.length):Sat (Jr b.C0 b.E0 b.H0 b.M0 b.J0 b.L0 b.N0 b.B0 u d kd car cs) λy=>∃x:Inp,y=(((),()),(x.tup,()))∧Az0 b x:=by
 have hc:=Aj hcode;have lo:=hb.lo;have hi:=hb.hi;have hw:=Auh hb hcode u d;unfold Jr;refine X (Aed _) ?_;have z8:aD.wrap (b.B0.length:Int)=(b.B0.length:Int):=CN ω ω
 refine X (by show(R aD (b.B0.length:Int) !=0)=E;rw[z8];exact EK ω) ?_
 have u64n:∀n:Int,0≤aD.wrap n∧aD.wrap n<18446744073709551616:=λn=>by
  simp only[R,IntKind.signed,IntKind.bits];simp;exact⟨Int.emod_nonneg _ (by decide),Int.emod_lt_of_pos _ (by decide)⟩
 have md:∀(n:Int) (m:Int),0<m→m≤9→0≤B.wrap (W (R aD n) m)∧B.wrap (W (R aD n) m)<m:=λn m h0 h1=>by
  have h2:=(u64n n).1;rw[e1_ h2];have h3:=Int.emod_nonneg (R aD n) (ω:m≠0)
  have h4:=Int.emod_lt_of_pos (R aD n) h0;rw[Ac ω ω]
  exact⟨h3,h4⟩
 refine O (Q:=λy=>∃(k c:Int),y=(((),(),(),DM b,()),(b.tup,(U (H (U (H u&&&H (DM b)))&&&H (aH (DM b) ((2:Int)^(aI (Z (1:Int)) (IntKind.bits aF))))),U (H (U (H d&&&H (DM b)))&&& ~~~ H 1),k,c,cs,()),((0:Int),(0:Int),(0:Int),(0:Int),([]:List aB),()),()))∧inR 0 8 k=E∧inR 0 ((b.B0.length:Int)-1) c=E∧(k==0&&c !=0)=C) ?_ λy hy=>?_
 ·have hk:=md kd 9 (by decide) (by decide)
  have hkr:inR 0 8 (R B (W (R aD kd) 9))=E:=Am.2 ⟨hk.1,ω⟩
  simp only[Zk,NX];refine I (λh=>A ⟨_,_,rfl,hkr,Am.2 ⟨d7_ 0,ω⟩,by rw[h];rfl⟩) λh=>A ⟨_,_,rfl,hkr,?_,by rw[h];rfl⟩
  have hcr:=md car (b.B0.length:Int) ω ω
  rw[z8];exact Am.2 ⟨hcr.1,ω⟩
 obtain⟨k,c,rfl,hk,hcr,hkc⟩:=hy
 have hcap:((decide ((0:Int)≤(b.B0.length:Int))&&decide ((b.B0.length:Int)≤(b.B0.length:Int)))&&decide ((b.B0.length:Int)≤2147483648))=E:=by
  simp only[b_ (ω:(0:Int)≤(b.B0.length:Int)),b_ (d7_ (b.B0.length:Int)),b_ (ω:(b.B0.length:Int)≤2147483648),a4_]
 refine X hcap ?_;generalize hP:(U (H (U (H u&&&H (DM b)))&&&H (aH (DM b) ((2:Int)^(aI (Z (1:Int)) (IntKind.bits aF))))),U (H (U (H d&&&H (DM b)))&&& ~~~ H 1))=P at hw;have hP1:=b9_ Prod.fst hP;have hP2:=b9_ Prod.snd hP;simp only at hP1 hP2;rw[hP1,hP2];refine O (Q:=λy=>∃l:List aB,y=(((),(),l,()),((P.1,P.2,k,c,cs,()),((0:Int),(0:Int),(0:Int),(0:Int),([]:List aB),()),()))∧l.length=b.B0.length∧∀j,j<b.B0.length→EW b (l.getD j RB)=E) ?_ λy hy=>?_
 ·refine Sat.loop (λ(kk:Nat) z=>∃(l:List aB) (i:Nat),z=(((),(),(),DM b,l,(i:Int),()),(b.tup,(P.1,P.2,k,c,cs,()),((0:Int),(0:Int),(0:Int),(0:Int),([]:List aB),()),()))∧l.length=b.B0.length∧(∀j,j<i→EW b (l.getD j RB)=E)∧i+kk=b.B0.length) (λkk z hz=>?_) b.B0.length ⟨_,0,rfl,?_,λj hj=>absurd hj (Nat.not_lt_zero j),p_ _⟩ ω
  ·obtain⟨l,i,rfl,hl,hj,hkk⟩:=hz
   unfold UV;refine I (λgg=>?_) λgg=>A ⟨l,rfl,hl,?_⟩
   ·have gg:(i:Int)<(l.length:Int):=m_ gg
    have hin:i<l.length:=ω
    have w:=CH (n:=i) ω
    have z7:aD.wrap b.C0=b.C0:=CN ω ω
    refine X (Aa (ω:(0:Int)≤(i:Int)) gg) ?_
    refine X (by show(R aD b.C0 !=0)=E;rw[z7];exact EK ω) ?_
    simp only[Zk,j_];refine A ⟨kk-1,ω,_,i+1,by first | (rw[← w];rfl) | rw[← w],?_,?_,ω⟩
    ·simp only[r_];exact hl
    ·intro j hjj
     by_cases he:j=i
     ·subst he
      rw[Bp _ _ (by simp only[r_];exact hin),Bp _ _ (by simp only[r_];exact hin),Bp _ _ (by simp only[r_];exact hin),Bp _ _ hin]
      unfold EW;have f1:=md (l.getD j (aJ 0 C C C C 0 C 0 C 0 0)).J1 b.C0 ω ω
      have f2:=md (l.getD j (aJ 0 C C C C 0 C 0 C 0 0)).S1 3 (by decide) (by decide)
      simp only[Bbl hb,n_];rw[show aD.wrap b.tup.1=b.C0 from z7,Am.2 ⟨f1.1,show _≤b.C0-1 by omega⟩,Am.2 ⟨f2.1,show _≤(2:Int)by omega⟩]
      rfl
     ·rw[Di _ _ (f0_ he),Di _ _ (f0_ he),Di _ _ (f0_ he),Di _ _ (f0_ he)]
      exact hj j ω
   ·have gg:¬(i:Int)<(l.length:Int):=G_ gg
    intro j hjj;exact hj j ω
  ·show(Ky (aE (Z (b.B0.length:Int)) (aJ 0 C C C C 0 C 0 C 0 0)) cs).length=b.B0.length
   unfold Ky;simp only[h_,v_,Y_,S_,j_];omega
 obtain⟨l,rfl,hl,hall⟩:=hy;refine A ⟨⟨P,k,c,l⟩,rfl,?_,by show JX P;rw[← hP];exact⟨Bga _,Bga _⟩⟩
 unfold Hl;rw[hw,hk,hcr,hkc,show((l.length:Int)==(b.B0.length:Int))=E by rw[hl];exact l_ _]
 simp only[n_,b7_];refine D_.2 λe he=>?_
 obtain⟨j,hj,rfl⟩:=f8_ he
 have:=hall j ω
 rwa [k_,i_ hj]at this
end
def Br1:∀k:Fin 16,(arF .quo .f64 (Adl .f64 ((k.val:Nat):Int)) 4622945017495814144).isSome=E:=by decide
def Br2(h:0≤n∧n<256):Sat (arF .quo .f64 (Adl .f64 (W n 16)) 4622945017495814144) λ_=>True:=by
 obtain⟨k,rfl⟩:=d8_ h.1;have e:W ((k:Nat):Int) 16=((k%16:Nat):Int):=Mc k 16;have h2:=Br1 ⟨k%16,f6_ _ (by decide)⟩
 rw[e];obtain⟨a,ha⟩:=Option.isSome_iff_exists.1 h2;exact⟨a,ha,trivial⟩
def Aqn(h:∀e∈l,u8r e)(n:Nat):u8r (l.getD n 0):=by
 by_cases hn:n<l.length
 ·exact Ale h hn
 ·rw[k_,List.getElem?_eq_none ω];exact Bpo
section
variable{b:J}(hb:b.small)(hcode:b.code=0)
include hb hcode
theorem Azy{x0 x1 x2 x3 x4 x5:Int}(h:∀e∈[x0,x1,x2,x3,x4,x5],u8r e):Sat (Ot b.C0 b.E0 b.H0 b.M0 b.J0 b.L0 b.N0 b.B0 x0 x1 x2 x3 x4 x5) λy=>∃x:Inp,y=(((),()),(x.tup,()))∧Az0 b x:=by
 have hc:=Aj hcode;unfold Ot;refine O (Q:=λy=>∃u d:Int,y=(((),(),(),(),()),(b.tup,(x0,x1,x2,x3,x4,x5,()),((0:Int),(0:Int),(0:Int),(0:Int),([]:List aB),()),(u,d,(0:Int),(0:Int),([]:List aB),()),()))) (I (λ_=>A ⟨_,_,rfl⟩) λ_=>A ⟨_,_,rfl⟩) λy hy=>?_
 obtain⟨u,d,rfl⟩:=hy;refine O (Q:=λy=>∃k c:Int,y=(((),(),(),(),()),(b.tup,(x0,x1,x2,x3,x4,x5,()),((0:Int),(0:Int),(0:Int),(0:Int),([]:List aB),()),(u,d,k,c,([]:List aB),()),()))) (I (λ_=>A ⟨_,_,rfl⟩) λ_=>A ⟨_,_,rfl⟩) λy hy=>?_
 obtain⟨k,c,rfl⟩:=hy;refine O (Q:=λy=>∃cs:List aB,y=(((),(),(),()),(b.tup,((0:Int),(0:Int),(0:Int),(0:Int),([]:List aB),()),(u,d,k,c,cs,()),()))∧cs.length=b.B0.length) ?_ λy hy=>?_
 ·refine Sat.loop (λ(kk:Nat) z=>∃(cs:List aB) (i:Nat),z=(((),(),(),(),(i:Int),()),(b.tup,(x0,x1,x2,x3,x4,x5,()),((0:Int),(0:Int),(0:Int),(0:Int),([]:List aB),()),(u,d,k,c,cs,()),()))∧cs.length=i∧i+kk=b.B0.length) (λkk z hz=>?_) b.B0.length ⟨[],0,rfl,rfl,p_ _⟩ ω
  obtain⟨cs,i,rfl,hcs,hkk⟩:=hz;unfold UY;refine I (λgg=>?_) λgg=>A ⟨cs,rfl,?_⟩
  ·have gg:(i:Int)<(b.B0.length:Int):=m_ gg
   have w:=CH (n:=i) ω
   have e3:W (i:Int) 3=((i%3:Nat):Int):=Mc i 3;have e4:W (i:Int) 4=((i%4:Nat):Int):=Mc i 4;have w3:B.wrap (3+W (i:Int) 3)=3+((i%3:Nat):Int):=by rw[e3,Ac ω ω]
   have w4:B.wrap (2+W (i:Int) 4)=2+((i%4:Nat):Int):=by rw[e4,Ac ω ω]
   refine X (Aa (ω:0≤B.wrap (3+W (i:Int) 3)) (ω:B.wrap (3+W (i:Int) 3)<((6:Nat):Int))) ?_
   refine X (Aa (ω:0≤B.wrap (2+W (i:Int) 4)) (ω:B.wrap (2+W (i:Int) 4)<((6:Nat):Int))) ?_
   refine O (Br2 (Aqn h _)) λld _=>X (Aed _) ?_
   refine O (Q:=λy=>∃(z:Int) (ci:aB),y=(((),(),(),(),(i:Int),z,(),()),(b.tup,(x0,x1,x2,x3,x4,x5,()),((0:Int),(0:Int),(0:Int),(0:Int),([]:List aB),()),(u,d,k,c,cs,()),(ci.V0,ci.T1,ci.F1,ci.G1,ci.C1,ci.J1,ci.L1,ci.S1,ci.M1,ci.Z1,ci.B3,()),()))) ?_ λy hy=>?_
   ·refine I (λ_=>A ⟨_,aJ _ _ _ _ _ _ _ _ _ _ _,rfl⟩) λ_=>A ⟨_,aJ _ _ _ _ _ _ _ _ _ _ _,rfl⟩
   obtain⟨z,ci,rfl⟩:=hy;refine X (Ax (ω:cs.length+1≤_)) (A ⟨kk-1,ω,cs++[aJ ci.V0 ci.T1 ci.F1 ci.G1 ci.C1 (R B (W z 8)) (decide ((0:Int)<W z 5)) (R B (W (R IntKind.u8 (Int.tdiv z 8)) 3)) (W z 7==0) ci.Z1 ci.B3],i+1,by first | (rw[← w];rfl) | rw[← w],by rw[h_,hcs];rfl,ω⟩)
  ·have gg:¬(i:Int)<(b.B0.length:Int):=G_ gg
   omega
 obtain⟨cs,rfl,hcs⟩:=hy;refine O (Azw hb hcode u d k c hcs) λy hy=>?_
 obtain⟨x,rfl,hx⟩:=hy;exact A ⟨x,rfl,hx⟩
theorem Azx(h:∀e∈l,u8r e)(_hl:l.length≤maxLen){most:Nat}(hm:most≤1000):Sat (LL b.C0 b.E0 b.H0 b.M0 b.J0 b.L0 b.N0 b.B0 l (most:Int)) λy=>y.1.1.length≤most∧∀s∈y.1.1,Fr b s:=by
 have hc:=Aj hcode;have hmx:maxLen≤9223372036854775807:=by decide
 unfold LL;refine O (Q:=λy=>y.1.1.length≤most∧∀s∈y.1.1,Fr b s) ?_ λy hy=>A hy
 refine Sat.loop (λ(k:Nat) z=>∃(out:List ByteArray) (i:Nat),z=((l,(most:Int),(),out,(i:Int),()),(b.tup,()))∧i≤out.length∧out.length≤most∧(∀s∈out,Fr b s)∧i+k=most) (λk z hz=>?_) most ⟨[],0,rfl,w_ 0,a3_ _,λs hs=>(by cases hs),p_ _⟩ ω
 obtain⟨out,i,rfl,h1,h2,h3,hk⟩:=hz;unfold UW;have w6:B.wrap (6*(i:Int))=6*(i:Int):=Ac ω ω
 refine I (λg1=>I (λg2=>?_) λ_=>A ⟨h2,h3⟩) λ_=>A ⟨h2,h3⟩
 have g1:B.wrap (6*(i:Int))<(l.length:Int):=m_ g1;have g2:(out.length:Int)<(most:Int):=m_ g2
 refine X (by
  show(decide ((0:Int)≤B.wrap (6*(i:Int)))&&decide (R B (6*(i:Int))≤(l.length:Int)))=E;rw[b_ (ω:(0:Int)≤B.wrap (6*(i:Int))),b_ (ω:B.wrap (6*(i:Int))≤(l.length:Int))];rfl) ?_
 have hz1:∀e∈List.drop (Z (R B (6*(i:Int)))) (List.take (List.length l) l),u8r e:=λe he=>h e (by
  have:=e6_ he
  exact e5_ this)
 generalize List.drop (Z (R B (6*(i:Int)))) (List.take (List.length l) l)=L at hz1
 dsimp only
 have pick:∀n:Nat,u8r (bif aC n L.length then L.getD n 0 else 0):=λn=>by
  cases aC n L.length with
  |true=>exact Aqn hz1 n
  |false=>exact Bpo
 have hall:∀e∈[(bif aC 0 L.length then L.getD 0 0 else 0),(bif aC 1 L.length then L.getD 1 0 else 0),(bif aC 2 L.length then L.getD 2 0 else 0),(bif aC 3 L.length then L.getD 3 0 else 0),(bif aC 4 L.length then L.getD 4 0 else 0),(bif aC 5 L.length then L.getD 5 0 else 0)],u8r e:=λe he=>by
  simp only[z_,List.not_mem_nil,or_false]at he;rcases he with rfl | rfl | rfl | rfl | rfl | rfl<;>exact pick _
 have h5:=pick 5;have hin:=Azy hb hcode hall;generalize(bif aC 0 L.length then L.getD 0 0 else 0)=q0 at hin;generalize(bif aC 1 L.length then L.getD 1 0 else 0)=q1 at hin;generalize(bif aC 2 L.length then L.getD 2 0 else 0)=q2 at hin;generalize(bif aC 3 L.length then L.getD 3 0 else 0)=q3 at hin;generalize(bif aC 4 L.length then L.getD 4 0 else 0)=q4 at hin;generalize(bif aC 5 L.length then L.getD 5 0 else 0)=q5 at hin h5;refine O hin λy hy=>?_
 obtain⟨x,rfl,hx⟩:=hy
 have hxl:x.cars.length=b.B0.length:=by
  have hx:=hx.1;unfold Hl at hx;simp only[e_,U_]at hx;omega
 have hin2:=Ahs hb hcode x ω
 rw[hx.1,d_]at hin2;refine Sat.bindE hin2 ?_;have hsz:=Wq b x
 have h5':0≤W q5 4∧W q5 4≤3:=by
  have h50:0≤q5:=h5.1;rw[e1_ h50];omega
 have w5:B.wrap (W q5 4)=W q5 4:=Ac ω ω
 refine O (Q:=λy=>∃o:List ByteArray,y=((l,(most:Int),(),o,(i:Int),()),(b.tup,()))∧i+1≤o.length∧o.length≤most∧∀s∈o,Fr b s) ?_ λy hy=>?_
 ·refine Sat.loop (λ(kk:Nat) z=>∃(o:List ByteArray) (s:ByteArray) (j:Nat),z=((l,(most:Int),(),o,(i:Int),(),s,(j:Int),()),(b.tup,(q0,q1,q2,q3,q4,q5,()),()))∧o.length=out.length+j∧o.length≤most∧(∀s∈o,Fr b s)∧FrX b x s∧j+kk=4) (λkk z hz=>?_) 4 ⟨out,inV b x,0,rfl,rfl,h2,h3,⟨rfl,rfl⟩,rfl⟩ (by decide)
  obtain⟨o,s,j,rfl,o1,o2,o3,s1,hkk⟩:=hz;have s2:=s1.1;unfold UX;have w:=CH (n:=j) ω
  refine I (λc1=>I (λc2=>?_) λc2=>A ⟨o,rfl,?_,o2,o3⟩) λc1=>A ⟨o,rfl,?_,o2,o3⟩
  ·have c1:(j:Int)≤B.wrap (W q5 4):=m_ c1
   have c2:(o.length:Int)<(most:Int):=m_ c2;refine I (λ_=>?_) λ_=>?_
   ·have ws:B.wrap ((s.size:Int)-1)=(s.size:Int)-1:=Ac ω ω
    refine X (by
     show(decide ((0:Int)≤B.wrap ((s.size:Int)-1))&&decide (R B ((s.size:Int)-1)≤(s.size:Int)))=E;rw[b_ (ω:(0:Int)≤B.wrap ((s.size:Int)-1)),b_ (ω:B.wrap ((s.size:Int)-1)≤(s.size:Int))];rfl) ?_
    have ex:(s.extract 0 (Z (R B ((s.size:Int)-1)))).size=s.size-1:=by
     rw[ByteArray.size_extract,ws];omega
    have sz:(s.extract 0 (Z (R B ((s.size:Int)-1)))++aM (Array.mk [63])).size=s.size:=by
     rw[P_,ex];show s.size-1+1=_;omega
    have sp:FrX b x (s.extract 0 (Z (R B ((s.size:Int)-1)))++aM (Array.mk [63])):=by
     rw[ws,show Z ((s.size:Int)-1)=s.size-1 by omega]
     exact s1.spoilt _ rfl ω
    refine X (Ax (by show(s.extract 0 (Z (R B ((s.size:Int)-1)))).size+1≤_;omega)) ?_
    refine X (Ax (ω:o.length+1≤_)) (A ⟨kk-1,ω,o++[s.extract 0 (Z (R B ((s.size:Int)-1)))++aM (Array.mk [63])],s.extract 0 (Z (R B ((s.size:Int)-1)))++aM (Array.mk [63]),j+1,by first | (rw[← w];rfl) | rw[← w],by rw[h_,o1];rfl,by rw[h_];show o.length+1≤_;omega,λu hu=>?_,sp,ω⟩)
    rcases q_.1 hu with hu | hu
    ·exact o3 u hu
    ·rw[E_]at hu;subst hu;exact⟨x,hx,sp⟩
   ·refine X (Ax (ω:o.length+1≤_)) (A ⟨kk-1,ω,o++[s],s,j+1,by first | (rw[← w];rfl) | rw[← w],by rw[h_,o1];rfl,by rw[h_];show o.length+1≤_;omega,λu hu=>?_,s1,ω⟩)
    rcases q_.1 hu with hu | hu
    ·exact o3 u hu
    ·rw[E_]at hu;subst hu;exact⟨x,hx,s1⟩
  ·have c2:¬(o.length:Int)<(most:Int):=G_ c2
   omega
  ·have c1:¬(j:Int)≤B.wrap (W q5 4):=G_ c1
   omega
 obtain⟨o,rfl,o1,o2,o3⟩:=hy;have w:=CH (n:=i) ω
 exact A ⟨k-1,ω,o,i+1,by first | (rw[← w];rfl) | rw[← w],o1,o2,o3,ω⟩
end
structure InOK(b:Bldg)(x:Inp):Prop where
 press:Ix b x.press=true
 pu:JX x.press
 kind:0≤x.kind∧x.kind≤8
 car:0≤x.car∧x.car<(b.B0.length:Int)
 len:x.cars.length=b.B0.length
 flo:∀c∈x.cars,0≤c.V0∧c.V0<4294967296
def Agm:∀(n:Nat) (s:ByteArray),∀c∈TV n s,0≤c.V0∧c.V0<4294967296
 |0,_,_,h=>by cases h
 |n+1,s,c,h=>by
  rcases z_.1 h with rfl | h
  ·exact Ht _
  ·exact Agm n (rest s) c h
def Fr.good(h:FrX b x s)(ho:BT b s=0):s=inV b x:=by
 obtain⟨h1,h2⟩:=h
 have h3:(HZ s).2=0:=by
  unfold BT at ho;cases q1:((s.size:Int) !=14+19*(b.B0.length:Int))with
  |true=>rw[q1]at ho;cases ho
  |false=>
  rw[q1]at ho;cases q2:(R B (AD s 0) !=165)with
  |true=>rw[q2]at ho;cases ho
  |false=>
  rw[q2]at ho;cases q3:(R B (AD s 1) !=(b.B0.length:Int))with
  |true=>rw[q3]at ho;cases ho
  |false=>rw[q3]at ho;exact ho
 have hi:=Wq b x;unfold HZ at h3;rw[f_ (ω:¬(s.size:Int)<2),c_,h2]at h3
 cases q:eqB (GU ((inV b x).extract 0 (s.size-2))) s with
 |false=>rw[q]at h3;cases h3
 |true=>
  have q:GU ((inV b x).extract 0 (s.size-2))=s:=Apn.1 q;rw[← q,h1];unfold inV;rw[PC,Nat.add_sub_cancel];generalize x.cars.foldl IU (QF b x)=t;congr 1;unfold GU;apply MY;rw[QX,KR,R_,Nat.sub_zero];exact(e8_ (FW t))
def Rr(h:0≤n∧n<4294967296):aF.wrap n=n:=by
 simp only[R,IntKind.signed,IntKind.bits];simp;omega
def Acz(hb:b.small)(hcode:b.code=0)(hs:Fr b s):∃x:Inp,DW b.C0 b.E0 b.H0 b.M0 b.J0 b.L0 b.N0 b.B0 s=Y (((),BT b s,()),(x.tup,()))∧(BT b s≠0→x=Inp.none)∧(BT b s=0→InOK b x):=by
 have hc:=Aj hcode;obtain⟨x,⟨hx,hu⟩,hf⟩:=hs
 have hxl:x.cars.length=b.B0.length:=by
  unfold Hl at hx;simp only[e_,U_]at hx;omega
 have hz:s.size≤1000000:=by rw[hf.1,Wq];omega
 by_cases ho:BT b s=0
 ·have e:=Fr.good hf ho
  subst e;obtain⟨hd,e1,e2,e3⟩:=Auk hb hcode hx;have h:=RI hb hcode hz ho (by rw[Zb];exact hd)
  rw[Zb]at h;refine⟨_,by rw[ho];exact h,λg=>absurd ho g,λ_=>?_⟩
  unfold Hl at hx;simp only[e_,U_]at hx;obtain⟨g1,g2,g3,_⟩:=hx;have g2:=Am.1 g2;have g3:=Am.1 g3;refine⟨?_,?_,?_,?_,Agn _ _,Agm _ _⟩
  ·rw[e1,Rr hu.1,Rr hu.2];exact g1
  ·rw[e1,Rr hu.1,Rr hu.2];exact hu
  ·rw[e2];exact g2
  ·rw[e3];omega
 ·exact⟨Inp.none,Aap hcode hz ho,λ_=>rfl,λg=>absurd g ho⟩
def TX(n:Int):Sat (IB n) λy=>y.1.1=E→2≤n∧n≤32:=by
 unfold IB;exact O (Q:=λy=>y.1.1=E→2≤n∧n≤32) (I (λq=>A λg=>⟨m_ q,m_ g⟩) λ_=>A λg=>(by cases g)) λ_ h=>A h
def Aik(hn:2≤n∧n≤32)(f d:Int):Sat (Ng n f d) λy=>y.1.1=E→0≤f∧f<n:=by
 unfold Ng;have w:B.wrap (n-1)=n-1:=Ac ω ω
 have p:Sat (bif(d==(2:Int))then bif(decide ((0:Int)<f))then Y (((decide (f<n)),()),())else Y ((C,()),())else Y ((C,()),())) λ(y:(Bool×Unit)×Unit)=>y.1.1=E→0≤f∧f<n:=
  I (λ_=>I (λq=>A λg=>by have:=m_ q;have:=m_ g;omega) λ_=>A λg=>(by cases g)) λ_=>A λg=>(by cases g)
 exact O (Q:=λy=>y.1.1=E→0≤f∧f<n) (I (λ_=>I (λq=>I (λq2=>A λ_=>by have:=m_ q;have q2:=m_ q2;rw[w]at q2;omega) λ_=>p) λ_=>p) λ_=>p) λ_ h=>A h
def Ve(h:0≤n)(a c d:Int):Sat (Jp n a c d) λy=>(0≤y.2.1.1∧y.2.1.1<4294967296)∧U2 y.2.1.2.1 y.2.1.2.2.1:=by
 unfold Jp;exact X (b_ h) (Sat.bindE (rfl:DN ..=_) (A ⟨Ht _,Ht _,Ht _⟩))
def Aku(a c d:Int):Sat (Ol n a c d) λy=>0≤y.1.1∧y.1.1≤1000:=by
 unfold Ol;refine O (TX n) λy1 h1=>I (λ_=>A (show(0:Int)≤0∧(0:Int)≤1000 by decide)) λq=>?_
 have h1:=h1 (by simpa using q)
 refine O (Ve ω a c d) λy2 h2=>O (To h2.1) λy3 h3=>?_
 refine O (Q:=λy=>0≤y.1.1∧y.1.1≤510) ?_ λy4 h4=>A ?_
 ·unfold Rt
  refine O (To h2.2.1) λz1 k1=>O (To h2.2.2) λz2 k2=>A ?_
  show 0≤B.wrap (z1.1.1+z2.1.1)∧B.wrap (z1.1.1+z2.1.1)≤510;rw[Ac ω ω];omega
 ·show 0≤B.wrap (y3.1.1+y4.1.1)∧B.wrap (y3.1.1+y4.1.1)≤1000
  rw[Ac ω ω];omega
def nf(x:Int):Prop:=-1≤x∧x≤300
def Akv(hl:l.length≤10){a c:Int}(ha:nf a)(hc:nf c)(hx:∀x∈l,nf x):Sat (Cb l a c) λy=>0≤y.1.1∧y.1.1≤4400:=by
 unfold Cb;refine X (f3_ (by simp only[y_,d4_];omega)) ?_
 refine O (Q:=λy=>0≤y.1.1∧y.1.1≤4400) ?_ λ_ h=>A h
 unfold Gv;have hz:(l++[c]).length≤11:=by rw[h_,J_];omega
 have hall:∀x∈l++[c],nf x:=λx h=>by
  rcases q_.1 h with h | h
  ·exact hx x h
  ·rw[E_.1 h];exact hc
 refine Sat.loop (λk x=>∃(n p:Int) (i:Nat),x=((n,p,l++[c],((l++[c]).length:Int),(i:Int),()),((a,()),(c,()),()))∧i+k=(l++[c]).length∧nf p∧0≤n∧n≤400*(i:Int)) ?_ (l++[c]).length ⟨0,a,0,rfl,ω,ha,by decide,by decide⟩ ω
 rintro k x ⟨n,p,i,rfl,hk,hp,hn,hn2⟩;show Sat (IT n p (l++[c]) ((l++[c]).length:Int) (i:Int) a c) _;unfold IT;refine I (λq=>?_) λ_=>A (ω:0≤n∧n≤4400)
 have q:=m_ q;simp only[CH (ω:i<1000000000)]
 have hv:=Ale hall (i:=i) (d:=(0:Int)) ω
 refine X (Aa ω ω) (A ⟨k-1,ω,_,_,i+1,rfl,ω,hv,?_⟩)
 show 0≤B.wrap (n+_)∧B.wrap (n+_)≤_;rw[j_];generalize(l++[c]).getD i 0=z at hv⊢;unfold nf at hp hv;rw[Ac (n:=z-p) ω ω,Ac (n:=p-z) ω ω]
 by_cases g:z-p<p-z
 ·rw[b_ g,d_,Ac ω ω];omega
 ·rw[f_ g,c_,Ac ω ω];omega
def An2(n f w a c d g e:Int):Sat (Qm n f w a c d g e) λy=>-1≤y.1.1∧y.1.1≤4400:=by
 unfold Qm;have no:(-1:Int)≤-1∧(-1:Int)≤4400:=by decide
 refine O (TX n) λy1 h1=>I (λ_=>A no) λq1=>I (λ_=>A no) λq2=>I (λ_=>A no) λq4=>I (λ_=>A no) λ_=>I (λ_=>A no) λ_=>?_
 have h1:=h1 (by simpa using q1)
 have q2:=G_ q2;have q4:=G_ q4;refine O (Aik h1 g e) λy2 h2=>I (λ_=>A no) λq3=>?_
 have h2:=h2 (by simpa using q3)
 refine O (Ve ω a c d) λy3 _=>X (b_ ω) (X (b_ h2.1) ?_)
 refine O (Auc _) λy4 h4=>O (As6 _) λy5 h5=>?_
 have nf6:nf (R B (y5.1.1-1)):=by rw[Ac ω ω];exact⟨ω,ω⟩
 have nf4:nf y4.1.1:=⟨ω,ω⟩
 have nff:nf f:=⟨ω,ω⟩
 have nfg:nf g:=⟨ω,ω⟩
 generalize B.wrap (y5.1.1-1)=z at nf6;have all:nf y4.1.1∧nf z∧nf f∧nf g:=⟨nf4,nf6,nff,nfg⟩;refine O (Q:=λy=>nf y.1.2.2.1∧nf y.1.2.2.2.1∧nf y.2.1.1∧nf y.2.2.1.1) ?_ λy6 h6=>O (Q:=λy=>nf y.1.2.2.1∧nf y.1.2.2.2.1∧nf y.2.1.1∧nf y.2.2.1.1) ?_ λy7 h7=>?_
 ·exact I (λ_=>I (λ_=>A all) λ_=>I (λ_=>A all) λ_=>A all) λ_=>I (λ_=>A all) λ_=>A all
 ·exact I (λ_=>A h6) λ_=>I (λ_=>A h6) λ_=>A h6
 have p:∀(l:List Int) {a c:Int},l.length≤10→nf a→nf c→(∀x∈l,nf x)→Sat (Option.bind (Cb l a c) λy10=>Y ((y10.1.1,()),())) λy=>-1≤y.1.1∧y.1.1≤4400:=λl a c hl ha hc hx=>O (Akv hl ha hc hx) λy h=>A ⟨Int.le_trans (by decide) h.1,h.2⟩
 have m1:∀{x:Int},nf x→∀y∈[x],nf y:=λh y hy=>by rw[E_.1 hy];exact h
 have m2:∀{x z:Int},nf x→nf z→∀y∈[x,z],nf y:=λh h2 y hy=>by
  rcases z_.1 hy with rfl | hy
  ·exact h
  ·exact m1 h2 y hy
 refine I (λ_=>p _ (a3_ _) h7.2.2.1 h7.2.2.2 λx hx=>by cases hx) λ_=>O (Q:=λy=>nf y.1.2.2.1∧nf y.1.2.2.2.1∧nf y.2.1.1∧nf y.2.2.1.1) ?_ λy9 h9=>?_
 ·exact I (λ_=>A h7) λ_=>A h7
 obtain⟨k1,k2,k3,k4⟩:=h9;exact I (λ_=>p _ (show(1:Nat)≤10 by decide) k3 k4 (m1 k2)) λ_=>I (λ_=>p _ (show(1:Nat)≤10 by decide) k3 k4 (m1 k1)) λ_=>I (λ_=>p _ (show(2:Nat)≤10 by decide) k3 k4 (m2 k2 k1)) λ_=>p _ (show(2:Nat)≤10 by decide) k3 k4 (m2 k1 k2)
def Aks(h:b.code=0){c:Car}(hc:c∈b.B0):Cg b.C0 c=E:=by
 unfold Bldg.code at h;cases h1:inR 2 32 b.C0<;>rw[h1]at h
 ·cases h
 cases h2:inR 1 8 (b.B0.length:Int)<;>rw[h2]at h
 ·cases h
 cases h3:inR 1 16 b.E0<;>rw[h3]at h
 ·cases h
 cases h4:inR 1 10000 b.M0<;>rw[h4]at h
 ·cases h
 cases h5:b.B0.all (Cg b.C0)<;>rw[h5]at h
 ·cases h
 exact D_.1 h5 c hc
def Acb(h:b.code=0)(hi:i<b.B0.length):(0≤(b.B0.getD i EM).N3∧(b.B0.getD i EM).N3≤10000)∧(0≤(b.B0.getD i EM).J2∧(b.B0.getD i EM).J2≤10000)∧(0≤(b.B0.getD i EM).I2∧(b.B0.getD i EM).I2≤10000)∧0≤(b.B0.getD i EM).H2∧(b.B0.getD i EM).H2≤10000:=by
 have ht:Cg b.C0 (b.B0.getD i EM)=E:=Aks h (Cn _ hi);unfold Cg at ht;simp only[X_,List.all_nil,c9_,e_,Am]at ht;omega
def TW(b:J)(car:Int)(v:S)(floor dir:Int):Sat (Et b.C0 b.E0 b.H0 b.M0 b.J0 b.L0 b.N0 b.B0 car v.Y2 v.Z2 v.C3 v.Q3 v.D0 v.I0 v.B3 v.F3 v.R2 v.M2 v.B2 v.R1 floor dir) λy=>0≤y.1.1∧y.1.1≤1000000:=by
 unfold Et;have one:(0:Int)≤1000000∧(1000000:Int)≤1000000:=by decide
 refine Sat.bindE (Bg b) (I (λ_=>A one) λhc=>I (λ_=>A one) λg1=>I (λ_=>A one) λg2=>?_)
 have g1:=G_ g1;have g2:=G_ g2;have hcode:b.code=0:=by simpa using hc
 have ib:inB car b.B0.length=E:=Aa ω ω
 refine O (Q:=λy=>y.1.1=car∧y.2.1=b.tup) (I (λ_=>A ⟨rfl,rfl⟩) λ_=>A ⟨rfl,rfl⟩) λy2 h2=>?_
 obtain⟨⟨yc,ya⟩,yb,yv⟩:=y2;obtain⟨e1,e2⟩:=h2;simp only at e1 e2;subst e1 e2;have ht:=Acb hcode (ω:yc.toNat<b.B0.length)
 refine O (An2 ..) λy3 h3=>I (λ_=>A one) λq3=>X ib ?_
 have q3:=G_ q3;refine O (Aku ..) λy4 h4=>A ?_
 have key:∀n:Int,0≤n→0≤(bif decide (1000000<n)then(1000000:Int)else n)∧(bif decide (1000000<n)then(1000000:Int)else n)≤1000000:=λn hn=>by
  by_cases g:1000000<n
  ·rw[b_ g];exact one
  ·rw[f_ g,c_];omega
 refine key _ ?_;show 0≤B.wrap (R B (y3.1.1*(b.B0.getD yc.toNat EM).N3)+B.wrap (y4.1.1*B.wrap (R B (2*(b.B0.getD yc.toNat EM).J2)+(b.B0.getD yc.toNat EM).I2)));generalize b.B0.getD yc.toNat EM=c at ht;have k1:0≤y3.1.1*c.N3∧y3.1.1*c.N3≤4400*10000:=⟨Int.mul_nonneg ω ω,Int.mul_le_mul ω ω ω (by decide)⟩
 rw[Ac (n:=2*c.J2) ω ω,Ac (n:=2*c.J2+c.I2) ω ω]
 have k2:0≤y4.1.1*(2*c.J2+c.I2)∧y4.1.1*(2*c.J2+c.I2)≤1000*30000:=⟨Int.mul_nonneg ω ω,Int.mul_le_mul ω ω ω (by decide)⟩
 generalize y4.1.1*(2*c.J2+c.I2)=p at k2;generalize y3.1.1*c.N3=q at k1;rw[Ac (n:=q) ω ω,Ac (n:=p) ω ω,Ac ω ω]
 omega
def Agc(n:Int):Prop:=0≤n∧n<4294967296
def View.none:S:=aG C C C C 0 0 0 0 0 0 0 0
def Car.none:Car:=Car.mk 0 0 0 0 0 0 0 0 0
structure View.ok(v:View):Prop where
 c:Agc v.M2
 u:Agc v.B2
 d:Agc v.R1
def Ak5(b:J)(car:Int)(v:S)(floor dir:Int):Option ((Int×Unit)×Unit):=
 Et b.C0 b.E0 b.H0 b.M0 b.J0 b.L0 b.N0 b.B0 car v.Y2 v.Z2 v.C3 v.Q3 v.D0 v.I0 v.B3 v.F3 v.R2 v.M2 v.B2 v.R1 floor dir
def Ry(b:J)(car:Int)(v:S)(floor dir:Int):Int:=match Ak5 b car v floor dir with | some r=>r.1.1 | none=>0
def Apr(_hb:b.small){v:S}(_hv:v.ok)(car floor dir:Int):Ak5 b car v floor dir=Y ((Ry b car v floor dir,()),()):=by
 obtain⟨r,h,_⟩:=TW b car v floor dir;have h':Ak5 b car v floor dir=Y r:=h;rw[show Ry b car v floor dir=r.1.1 by unfold Ry;rw[h']];exact h'
def Bg2(b:J)(car:Int)(v:S)(floor dir:Int):0≤Ry b car v floor dir∧Ry b car v floor dir≤1000000:=by
 obtain⟨r,h,h2⟩:=TW b car v floor dir;have h':Ak5 b car v floor dir=Y r:=h;rw[show Ry b car v floor dir=r.1.1 by unfold Ry;rw[h']]
 exact h2
def Ub(v:S):Bool:=v.B3==3||v.B3==4
def PT(v:S):GW v.Y2 v.Z2 v.C3 v.Q3 v.D0 v.I0 v.B3 v.F3 v.R2 v.M2 v.B2 v.R1=Y ((Ub v,()),()):=by
 unfold GW Ub;cases v.B3==3<;>rfl
def Xt(a b:Int×Int):Bool:=decide (a.1<b.1)||(a.1==b.1&&decide (a.2<b.2))
def SU(a b:Int×Int):Iz a.1 a.2 b.1 b.2=Y ((Xt a b,()),()):=by
 unfold Iz Xt;by_cases h:a.1=b.1
 ·by_cases h':a.2=b.2
  ·rw[h,h',l_,l_,f_ ω,f_ ω];rfl
  ·rw[h,l_,Ar h',f_ ω];rfl
 ·rw[Ar h]
  cases decide (a.1<b.1)<;>rfl
def Aq(vs:List S)(i:Int):S:=vs.getD i.toNat (aG C C C C 0 0 0 0 0 0 0 0)
def okViews(vs:List S):Prop:=∀v∈vs,v.ok
def View.ok_none:View.ok (aG C C C C 0 0 0 0 0 0 0 0):=⟨⟨by decide,by decide⟩,⟨by decide,by decide⟩,⟨by decide,by decide⟩⟩
def okViews.at(h:okViews vs)(i:Int):(Aq vs i).ok:=by
 unfold Aq;rw[k_];cases hq:vs[i.toNat]? with
 |none=>exact View.ok_none
 |some v=>exact h v (t_ hq)
def Hn(b:J)(vs:List S)(floor dir:Int)(car:Int):Int×Int:=((bif Ub (Aq vs car)then 1 else 0),Ry b car (Aq vs car) floor dir)
def PU(hb:b.small)(hv:okViews vs){car:Int}(hc:0≤car∧car<vs.length)(floor dir:Int):
  KH b.C0 b.E0 b.H0 b.M0 b.J0 b.L0 b.N0 b.B0 vs car floor dir=Y (((),()),(((Hn b vs floor dir car).1,(Hn b vs floor dir car).2,()),())):=by
 unfold KH;have e:Et b.C0 b.E0 b.H0 b.M0 b.J0 b.L0 b.N0 b.B0 car (Aq vs car).Y2 (Aq vs car).Z2 (Aq vs car).C3 (Aq vs car).Q3 (Aq vs car).D0 (Aq vs car).I0 (Aq vs car).B3 (Aq vs car).F3 (Aq vs car).R2 (Aq vs car).M2 (Aq vs car).B2 (Aq vs car).R1 floor dir=_:=Apr hb (hv.at car) car floor dir;rw[Aa hc.1 hc.2];show(Et b.C0 b.E0 b.H0 b.M0 b.J0 b.L0 b.N0 b.B0 car (Aq vs car).Y2 (Aq vs car).Z2 (Aq vs car).C3 (Aq vs car).Q3 (Aq vs car).D0 (Aq vs car).I0 (Aq vs car).B3 (Aq vs car).F3 (Aq vs car).R2 (Aq vs car).M2 (Aq vs car).B2 (Aq vs car).R1 floor dir).bind (λy1=>(GW (Aq vs car).Y2 (Aq vs car).Z2 (Aq vs car).C3 (Aq vs car).Q3 (Aq vs car).D0 (Aq vs car).I0 (Aq vs car).B3 (Aq vs car).F3 (Aq vs car).R2 (Aq vs car).M2 (Aq vs car).B2 (Aq vs car).R1).bind (λy2=>bif y2.1.1 then Y (((),()),(((1:Int),y1.1.1,()),()))else Y (((),()),(((0:Int),y1.1.1,()),()))))=_
 rw[e,a_,PT,a_];unfold Hn;cases Ub (Aq vs car)<;>rfl
def LT(b:J)(vs:List S)(floor dir except:Int)(i best:Int):Int:=
 bif !(Aq vs i).Y2||i==except then best else bif best==-1||Xt (Hn b vs floor dir i) (Hn b vs floor dir best)then i else best
def TO(b:J)(vs:List S)(floor dir except:Int):Nat→Nat→Int→Int
 |0,_,best=>best
 |m+1,i,best=>TO b vs floor dir except m (i+1) (LT b vs floor dir except i best)
def DC(b:J)(vs:List S)(floor dir except:Int):Int:=
 bif b.code !=0||(vs.length:Int) !=(b.B0.length:Int)then -1 else TO b vs floor dir except vs.length 0 (-1)
def QV(vs:List S)(best:Int):Prop:=best=-1∨(0≤best∧best<vs.length)
def ZD{floor dir except:Int}(hi:i<vs.length){best:Int}(h:QV vs best):QV vs (LT b vs floor dir except i best):=by
 unfold LT;cases(!(Aq vs i).Y2||(i:Int)==except)with
 |true=>exact h
 |false=>
  simp only[c_];cases(best==-1||Xt (Hn b vs floor dir i) (Hn b vs floor dir best))with
  |true=>exact .inr (by simp only[d_];omega)
  |false=>exact h
def QU{b:J}(hb:b.small){vs:List S}(hv:okViews vs)(hl:vs.length≤100)(floor dir except:Int) :
  ∀(m i:Nat) (best l0 l1:Int),i+m=vs.length→QV vs best→(best≠ -1→(l0,l1)=Hn b vs floor dir best)→
   BM (λx=>letI a:=x.2.1.2.2;letI c:=x.1.2.2.2.2.2;letI d:=a.2.2;FE x.1.1 x.1.2.1 x.1.2.2.1 x.1.2.2.2.1 c.1 c.2.2.1 c.2.2.2.1 c.2.2.2.2.1 x.2.1.1 x.2.1.2.1 a.1 a.2.1 d.1 d.2.1 d.2.2.1 d.2.2.2.1 x.2.2.1.1 x.2.2.1.2.1) (m+1) ((vs,floor,dir,except,(),best,(),vs,(vs.length:Int),(i:Int),()),(b.tup,(l0,l1,()),()))=Y ((TO b vs floor dir except m i best,()),())
 |0,i,best,l0,l1,hi,hin,hr=>by
  refine Ay ?_;show FE vs floor dir except best vs (vs.length:Int) (i:Int) b.C0 b.E0 b.H0 b.M0 b.J0 b.L0 b.N0 b.B0 l0 l1=_;unfold FE;have e:decide ((i:Int)<(vs.length:Int))=C:=by simp;omega
  rw[e];rfl
 |m+1,i,best,l0,l1,hi,hin,hr=>by
  have hi':i<vs.length:=ω
  have e:decide ((i:Int)<(vs.length:Int))=E:=by simp;omega
  have ib:inB (i:Int) vs.length=E:=Aa ω ω
  have w:B.wrap ((i:Int)+1)=((i+1:Nat):Int):=by rw[Ac ω ω];omega
  have hs:∃l0' l1',(LT b vs floor dir except i best≠ -1→(l0',l1')=Hn b vs floor dir (LT b vs floor dir except i best))∧FE vs floor dir except best vs (vs.length:Int) (i:Int) b.C0 b.E0 b.H0 b.M0 b.J0 b.L0 b.N0 b.B0 l0 l1=Y (.inl ((vs,floor,dir,except,(),LT b vs floor dir except i best,(),vs,(vs.length:Int),((i+1:Nat):Int),()),(b.tup,(l0',l1',()),()))):=by
   unfold FE;have k1:=PU hb hv (car:=(i:Int)) ω floor dir
   rw[e,ib,w];simp only[d_];unfold LT;rw[show vs.getD (Z (i:Int)) (aG C C C C 0 0 0 0 0 0 0 0)=Aq vs (i:Int)from rfl]
   cases(Aq vs (i:Int)).Y2 with
   |false=>exact⟨l0,l1,hr,rfl⟩
   |true=>
    simp only[o_,c_,aL];cases(i:Int)==except with
    |true=>exact⟨l0,l1,hr,rfl⟩
    |false=>
     simp only[c_,k1,a_];rcases hin with hbest | hbest
     ·subst hbest
      rw[show((-1:Int)==-1)=E from rfl]
      simp only[d_,a_,w,Bool.true_or];exact⟨_,_,λ_=>rfl,rfl⟩
     ·have hr':=hr ω
      have e1:l0=(Hn b vs floor dir best).1:=b9_ Prod.fst hr';have e2:l1=(Hn b vs floor dir best).2:=b9_ Prod.snd hr';subst e1 e2;rw[Ar (ω:¬best=-1)]
      simp only[c_,a_,aL,SU];cases Xt (Hn b vs floor dir i) (Hn b vs floor dir best)with
      |true=>simp only[d_,w];exact⟨_,_,λ_=>rfl,rfl⟩
      |false=>simp only[c_,w];exact⟨_,_,λ_=>rfl,rfl⟩
  obtain⟨l0',l1',h1,h2⟩:=hs;exact(Bt h2).trans (QU hb hv hl floor dir except m (i+1) _ l0' l1' ω (ZD hi' hin) h1)
def NR(hb:b.small)(hv:okViews vs)(hl:vs.length≤100)(floor dir except:Int):
  GI b.C0 b.E0 b.H0 b.M0 b.J0 b.L0 b.N0 b.B0 vs floor dir except=Y ((DC b vs floor dir except,()),()):=by
 unfold GI DC;rw[Bg,a_];cases b.code !=0 with
 |true=>rfl
 |false=>
  simp only[c_,aL];cases(vs.length:Int) !=(b.B0.length:Int)with
  |true=>rfl
  |false=>
   have h:=Ai (QU hb hv hl floor dir except vs.length 0 (-1) 0 0 ω (.inl rfl) (λh=>absurd rfl h)) ω
   have h':Jd ((vs,floor,dir,except,(),(-1:Int),(),vs,(vs.length:Int),(0:Int),()),(b.tup,((0:Int),(0:Int),()),()))=_:=h;simp only[c_];refine(b9_ (λz=>Option.bind z _) h').trans ?_
   rfl
def Akc{b:J}{vs:List S}{floor dir except:Int}:∀(m i:Nat) (best:Int),i+m=vs.length→QV vs best→QV vs (TO b vs floor dir except m i best)
 |0,_,_,_,h=>h
 |m+1,i,best,hi,h=>Akc m (i+1) _ ω (ZD ω h)
def Sa(b:J)(vs:List S)(floor dir except:Int):QV vs (DC b vs floor dir except):=by
 unfold DC;cases(b.code !=0||(vs.length:Int) !=(b.B0.length:Int))with
 |true=>exact .inl rfl
 |false=>exact Akc vs.length 0 (-1) ω (.inl rfl)
def YP(b:J)(vs:List S)(e:aA)(x n:Int):Bool:=
 ((Aq vs e.Q0).C3&&(x==0&&Xt (Hn b vs e.D0 e.I0 n) (Hn b vs e.D0 e.I0 e.Q0)))||(!(Aq vs e.Q0).C3&&(Ub (Aq vs e.Q0)&&!Ub (Aq vs n)))
def JQ(b:J)(vs:List S)(e:aA)(x:Int):Int:=
 bif DC b vs e.D0 e.I0 e.Q0==-1 then -1 else bif YP b vs e x (DC b vs e.D0 e.I0 e.Q0)then DC b vs e.D0 e.I0 e.Q0 else -1
def Eg(b:J)(vs:List S)(e:aA)(x:Int):aA:=
 bif e.Q0==-2 then e
 else bif e.Q0==-1 then⟨e.D0,e.I0,DC b vs e.D0 e.I0 (-1),e.B1,e.Y1⟩
 else bif(Aq vs e.Q0).Q3 then(bif decide ((b.B0.length:Int)<e.B1)then⟨e.D0,e.I0,-2,e.B1,e.Y1⟩else⟨e.D0,e.I0,DC b vs e.D0 e.I0 e.Q0,e.B1+1,e.Y1⟩)
 else bif !e.Y1&&decide (e.B1≤(b.B0.length:Int))then(bif JQ b vs e x != -1 then⟨e.D0,e.I0,JQ b vs e x,e.B1+1,E⟩else e)
 else e
def Entry.tup(e:aA):Int×Int×Int×Int×Bool×Unit:=(e.D0,e.I0,e.Q0,e.B1,e.Y1,())
section
variable{b:J}(hb:b.small){vs:List S}(hv:okViews vs)(hl:vs.length≤100){e:aA}
include hb hv hl
theorem Abd(hc:0≤e.Q0∧e.Q0<vs.length)(x:Int):Gu b.C0 b.E0 b.H0 b.M0 b.J0 b.L0 b.N0 b.B0 vs e.D0 e.I0 e.Q0 e.B1 e.Y1 x=Y ((JQ b vs e x,()),()):=by
 unfold Gu JQ;have hn:=Sa b vs e.D0 e.I0 e.Q0;rw[NR hb hv hl];generalize DC b vs e.D0 e.I0 e.Q0=n at hn;simp only[a_];rcases hn with rfl | hn
 ·rfl
 ·have k1:=PU hb hv hn e.D0 e.I0
  have k2:=PU hb hv hc e.D0 e.I0;have f1:=PT (Aq vs e.Q0);have f2:=PT (Aq vs n);rw[Ar (ω:¬n=-1),Aa hc.1 hc.2]
  unfold YP;unfold Aq at f1 f2⊢;simp only[d_,c_];cases hleg:(vs.getD e.Q0.toNat (aG C C C C 0 0 0 0 0 0 0 0)).C3 with
  |true=>
   simp only[d_,n_,o_,a2_,Bool.or_false];cases x==0 with
   |true=>
    simp only[d_,n_,k1,k2,a_,SU];cases Xt (Hn b vs e.D0 e.I0 n) (Hn b vs e.D0 e.I0 e.Q0)<;>rfl
   |false=>rfl
  |false=>
   rw[hleg]at f1;simp only[c_,a2_,b7_,n_,aL,a_,d_,f1];cases Ub (vs.getD e.Q0.toNat (aG C C C C 0 0 0 0 0 0 0 0))with
   |false=>rfl
   |true=>
    simp only[d_,Aa hn.1 hn.2,n_,f2,a_];cases Ub (vs.getD n.toNat (aG C C C C 0 0 0 0 0 0 0 0))<;>rfl
theorem Zv(hc:-2≤e.Q0∧e.Q0<vs.length)(hm:0≤e.B1∧e.B1≤255)(x:Int):FQ b.C0 b.E0 b.H0 b.M0 b.J0 b.L0 b.N0 b.B0 vs e.D0 e.I0 e.Q0 e.B1 e.Y1 x=Y (((),()),((Eg b vs e x).tup,())):=by
 unfold FQ Eg;have w:B.wrap (e.B1+1)=e.B1+1:=Ac ω ω
 by_cases g1:e.Q0=-2
 ·rw[show(e.Q0==-2)=E by rw[g1];rfl];rfl
 rw[Ar g1];by_cases g2:e.Q0=-1
 ·rw[show(e.Q0==-1)=E by rw[g2];rfl]
  simp only[d_,c_,NR hb hv hl,a_];rfl
 rw[Ar g2];have hc':0≤e.Q0∧e.Q0<vs.length:=ω
 have ho:=Abd hb hv hl hc' x;unfold Aq;simp only[c_,Aa hc'.1 hc'.2,d_];cases hlost:(vs.getD e.Q0.toNat (aG C C C C 0 0 0 0 0 0 0 0)).Q3 with
 |true=>
  simp only[d_,a_];cases decide ((b.B0.length:Int)<e.B1)with
  |true=>rfl
  |false=>
   simp only[c_,Aa hc'.1 hc'.2,d_,hlost,NR hb hv hl,a_,w];rfl
 |false=>
  simp only[c_,a_,Aa hc'.1 hc'.2,d_,hlost];cases hmv:e.Y1 with
  |true=>
   simp only[o_,c_,a_,a2_];unfold Entry.tup;rw[hmv]
  |false=>
   rw[hmv]at ho;simp only[b7_,d_,a_,n_];cases decide (e.B1≤(b.B0.length:Int))with
   |false=>
    simp only[c_];unfold Entry.tup;rw[hmv]
   |true=>
    simp only[d_,ho,a_,w];cases JQ b vs e x != -1 with
    |true=>rfl
    |false=>
     simp only[c_];unfold Entry.tup;rw[hmv]
end
def MJ(was now:aA):List Record:=
 (bif was.B1 !=now.B1||!(was.Y1==now.Y1)then [⟨7,now.D0,now.I0,(bif now.Y1 then 1 else 0),now.B1⟩]else [])++(bif was.Q0 !=now.Q0 then [⟨3,now.D0,now.I0,now.Q0,0⟩]else [])
def Ahv(a b:aA):(MJ a b).length≤2:=by
 unfold MJ;cases(a.B1 !=b.B1||!(a.Y1==b.Y1))<;>cases a.Q0 !=b.Q0<;>simp
def Zr(a c:aA):Ka a.D0 a.I0 a.Q0 a.B1 a.Y1 c.D0 c.I0 c.Q0 c.B1 c.Y1=Y ((MJ a c,()),()):=by
 unfold Ka MJ;have b1:∀r:Record,Nat.ble (([]:List Record).length+[r].length) 2147483648=E:=λ_=>Ax (by simp)
 have b2:∀r s:Record,Nat.ble (([]++[s]:List Record).length+[r].length) 2147483648=E:=λ_ _=>Ax (by simp)
 cases a.B1 !=c.B1<;>cases a.Y1==c.Y1<;>cases hm:c.Y1<;>cases hc:a.Q0 !=c.Q0<;>
  simp only[d_,c_,a_,o_,b7_,Bool.or_true,Bool.true_or,Bool.or_self,b1,b2,hc]<;>rfl
def VH(b:J)(i:Int):Car:=b.B0.getD i.toNat (Car.mk 0 0 0 0 0 0 0 0 0)
def Zf(b:J)(vs:List S)(e n:aA)(x:Int):Int:=
 bif n.Q0 !=e.Q0&&decide (0≤n.Q0)then(bif decide (1000000<B.wrap (Ry b n.Q0 (Aq vs n.Q0) e.D0 e.I0+(VH b n.Q0).H2))then 1000000 else B.wrap (Ry b n.Q0 (Aq vs n.Q0) e.D0 e.I0+(VH b n.Q0).H2))
 else(bif decide (R B (x-1)<0)then 0 else B.wrap (x-1))
def Gx(b:J)(vs:List S):List aA→List Int→List Record
 |e::t,x::xs=>MJ e (Eg b vs e x)++Gx b vs t xs
 |_,_=>[]
def LG(b:J)(vs:List S):List aA→List Int→List Int
 |e::t,x::xs=>Zf b vs e (Eg b vs e x) x::LG b vs t xs
 |_,_=>[]
def Axq(b:J)(vs:List S)(e:aA)(x:Int):(Eg b vs e x).D0=e.D0∧(Eg b vs e x).I0=e.I0:=by
 unfold Eg;cases e.Q0==-2<;>cases e.Q0==-1<;>cases(Aq vs e.Q0).Q3<;>cases decide ((b.B0.length:Int)<e.B1)<;>cases(!e.Y1&&decide (e.B1≤(b.B0.length:Int)))<;>cases JQ b vs e x != -1<;>exact⟨rfl,rfl⟩
def Ayw(b:J)(vs:List S)(e:aA)(x:Int):QV vs (JQ b vs e x):=by
 unfold JQ;cases DC b vs e.D0 e.I0 e.Q0==-1 with
 |true=>exact .inl rfl
 |false=>
  cases YP b vs e x (DC b vs e.D0 e.I0 e.Q0)with
  |true=>exact Sa ..
  |false=>exact .inl rfl
def Api(b:J){e:aA}(h:-2≤e.Q0∧e.Q0<vs.length)(x:Int):-2≤(Eg b vs e x).Q0∧(Eg b vs e x).Q0<vs.length:=by
 have k:∀n:Int,QV vs n→-2≤n∧n<vs.length:=λn h=>by
  rcases h with rfl | h
  ·omega
  ·omega
 unfold Eg;by_cases g1:e.Q0=-2
 ·rw[show(e.Q0==-2)=E by rw[g1];rfl];exact h
 rw[Ar g1];by_cases g2:e.Q0=-1
 ·rw[show(e.Q0==-1)=E by rw[g2];rfl];exact k _ (Sa ..)
 rw[Ar g2];simp only[c_];cases(Aq vs e.Q0).Q3 with
 |true=>
  cases decide ((b.B0.length:Int)<e.B1)with
  |true=>exact⟨by show(-2:Int)≤-2;omega,by show(-2:Int)<_;omega⟩
  |false=>exact k _ (Sa ..)
 |false=>
  cases(!e.Y1&&decide (e.B1≤(b.B0.length:Int)))with
  |true=>
   cases JQ b vs e x != -1 with
   |true=>exact k _ (Ayw ..)
   |false=>exact h
  |false=>exact h
def Agx{b:J}:∀{l:List aA}{p:Option aA},EB b p l=E→∀e∈l,GQ b e=E
 |[],_,_,_,he=>by cases he
 |a::t,p,h,e,he=>by
  simp only[EB,e_]at h;rcases z_.1 he with rfl | he
  ·exact h.1
  ·exact Agx h.2.2 e he
def SG(N:List α)(a v:α)(t:List α):(N++a::t).set N.length v=N++v::t:=by
 induction N with
 |nil=>rfl
 |cons h N ih=>simp only[List.cons_append,y_,List.set_cons_succ,ih]
section
variable{b:J}(hb:b.small){vs:List S}(hv:okViews vs)(hl:vs.length≤100)(hlen:(vs.length:Int)=(b.B0.length:Int)){m:Img}(hm:∀e∈m.A0,GQ b e=E)(hm':m.A0.length≤1000){xs:List Int}(hx:xs.length=m.A0.length)
include hb hv hl hlen hm hm' hx
theorem SV:∀(k i:Nat) (out:List Record) (N:List Int),i+k=m.A0.length→N.length=i→out.length≤2*i→
  BM (λx=>letI a:=x.2.2.1.2.2;letI c:=x.1.2.2.2.2;letI d:=x.2.1.2.2;letI f:=a.2.2;letI g:=d.2.2;GL x.1.1 x.1.2.1 c.1 c.2.1 c.2.2.1 c.2.2.2.1 c.2.2.2.2.1 x.2.1.1 x.2.1.2.1 d.1 d.2.1 g.1 g.2.1 g.2.2.1 g.2.2.2.1 x.2.2.1.1 x.2.2.1.2.1 a.1 a.2.1 f.1 f.2.1 f.2.2.1 f.2.2.2.1 f.2.2.2.2.1) (k+1)
   ((xs,vs,(),(),out,N++aE k 0,m.A0,(m.A0.length:Int),(i:Int),()),(b.tup,(b.C0,b.E0,b.H0,b.M0,b.J0,b.L0,b.N0,b.B0,vs,()),()))=Y ((out++Gx b vs (m.A0.drop i) (xs.drop i),N++LG b vs (m.A0.drop i) (xs.drop i),()),())
 |0,i,out,N,hi,hN,ho=>by
  refine Ay ?_;show GL xs vs out (N++[]) m.A0 (m.A0.length:Int) (i:Int) b.C0 b.E0 b.H0 b.M0 b.J0 b.L0 b.N0 b.B0 b.C0 b.E0 b.H0 b.M0 b.J0 b.L0 b.N0 b.B0 vs=_;unfold GL;have e:decide ((i:Int)<(m.A0.length:Int))=C:=by simp;omega
  rw[e,show i=m.A0.length by omega,b0_]
  simp[Gx,LG]
 |k+1,i,out,N,hi,hN,ho=>by
  have hi':i<m.A0.length:=ω
  have hix:i<xs.length:=ω
  have e:decide ((i:Int)<(m.A0.length:Int))=E:=by simp;omega
  have ib:inB (i:Int) m.A0.length=E:=Aa ω ω
  have ibx:inB (i:Int) xs.length=E:=Aa ω ω
  have ibn:inB (i:Int) (N++aE (k+1) (0:Int)).length=E:=Aa ω (by simp;omega)
  have w:B.wrap ((i:Int)+1)=((i+1:Nat):Int):=by rw[Ac ω ω];omega
  have hok:=Cn V hi';have hent:=hm _ hok;simp only[GQ,e_,A_]at hent;obtain⟨_,c1,c2,c3,c4⟩:=hent;have hd:=Zv hb hv hl (e:=m.A0.getD i V) ω ⟨c3,c4⟩ (xs.getD i 0)
  have hr:=Zr (m.A0.getD i V) (Eg b vs (m.A0.getD i V) (xs.getD i 0));have hin:=Api b (vs:=vs) (e:=m.A0.getD i V) ω (xs.getD i 0)
  have hrl:=Ahv (m.A0.getD i V) (Eg b vs (m.A0.getD i V) (xs.getD i 0));have hble:Nat.ble (out.length+(MJ (m.A0.getD i V) (Eg b vs (m.A0.getD i V) (xs.getD i 0))).length) 2147483648=E:=Ax ω
  have hset:∀v:Int,(N++aE (k+1) (0:Int)).set i v=N++v::aE k 0:=λv=>by
   rw[← hN];exact SG N 0 v (aE k 0)
  have hset2:∀v u:Int,(N++v::aE k (0:Int)).set i u=N++u::aE k 0:=λv u=>by
   rw[← hN];exact SG N v u (aE k 0)
  have ibn2:∀v:Int,inB (i:Int) (N++v::aE k (0:Int)).length=E:=λv=>Aa ω (by simp;omega)
  rw[Cc V hi',Cc (0:Int) hix];refine(Bt (x':=((xs,vs,(),(),out++MJ (m.A0.getD i V) (Eg b vs (m.A0.getD i V) (xs.getD i 0)),(N++[Zf b vs (m.A0.getD i V) (Eg b vs (m.A0.getD i V) (xs.getD i 0)) (xs.getD i 0)])++aE k 0,m.A0,(m.A0.length:Int),((i+1:Nat):Int),()),(b.tup,(b.C0,b.E0,b.H0,b.M0,b.J0,b.L0,b.N0,b.B0,vs,()),()))) ?_).trans ?_
  ·show GL xs vs out (N++aE (k+1) 0) m.A0 (m.A0.length:Int) (i:Int) b.C0 b.E0 b.H0 b.M0 b.J0 b.L0 b.N0 b.B0 b.C0 b.E0 b.H0 b.M0 b.J0 b.L0 b.N0 b.B0 vs=_
   unfold GL;rw[e,ib,ibx,show Entry.mk 0 0 0 0 C=V from rfl]
   unfold Entry.tup at hd;simp only[d_,j_,hd,a_,hr,hble,ibn,hset];unfold Zf;have hest:=Apr hb (hv.at (Eg b vs (m.A0.getD i V) (xs.getD i 0)).Q0) (Eg b vs (m.A0.getD i V) (xs.getD i 0)).Q0 (m.A0.getD i V).D0 (m.A0.getD i V).I0;unfold Ak5 Aq at hest;cases hne:((Eg b vs (m.A0.getD i V) (xs.getD i 0)).Q0 !=(m.A0.getD i V).Q0)with
   |false=>
    simp only[c_,a_,a2_,O_,d3_,w];rfl
   |true=>
    simp only[d_,a_,n_];by_cases hge:0≤(Eg b vs (m.A0.getD i V) (xs.getD i 0)).Q0
    ·have ibc:inB (Eg b vs (m.A0.getD i V) (xs.getD i 0)).Q0 vs.length=E:=Aa hge hin.2
     have ibc':inB (Eg b vs (m.A0.getD i V) (xs.getD i 0)).Q0 b.B0.length=E:=Aa hge ω
     rw[b_ hge];simp only[d_,ibc,hest,a_,ibc',ibn2,j_,hset2,O_,d3_,w];rfl
    ·rw[f_ hge]
     simp only[c_,O_,d3_,w];rfl
  ·rw[SV k (i+1) _ (N++[_]) ω (by simp;omega) (by rw[h_];omega)]
   simp only[Gx,LG,O_,d3_]
end
end
end Go.Ovl
