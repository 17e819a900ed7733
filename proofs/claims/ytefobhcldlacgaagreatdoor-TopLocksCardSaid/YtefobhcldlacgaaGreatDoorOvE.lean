import Derived.Test.YtefobhcldlacgaaGreatDoorOvA
import Derived.Test.YtefobhcldlacgaaGreatDoorOvC
import Derived.Test.YtefobhcldlacgaaGreatDoorOvD
set_option linter.all false
open Go.Ovl.Sat renaming ret->A,bic->B,bindS->C,bifT->J,bindE->L,bindR->aB
open Bool renaming true->E,false->S
open Go.Ovl renaming Sat->H,NewCar->R
open Go.IntKind renaming i64->I,wrap->P,u32->aA
open Int renaming toNat->N,emod_lt_of_pos->aD
open BitVec renaming ofInt->O,toNat->aC
open Nat renaming lt_of_le_of_lt->aE
namespace Go.Ovl
open Go Go.Ab
set_option maxRecDepth 100000
variable{fl n D e f:Int}{b:Bldg}{l:List Duty}{x:R}{car:Nat}{d:Bool}
def HQ(n:Int):0≤aA.wrap n∧aA.wrap n<4294967296:=by simp only[P,IntKind.signed,IntKind.bits];simp;exact⟨Int.emod_nonneg _ τ,aD _ τ⟩
def Ach(n:Int):0≤IntKind.u8.wrap n∧IntKind.u8.wrap n<256:=by simp only[P,IntKind.signed,IntKind.bits];simp;exact⟨Int.emod_nonneg _ τ,aD _ τ⟩
def Au1(n:Int):H (CM n) λy=>0≤y.1.1∧y.1.1≤32:=by
 unfold CM;refine B (λ_=>A (show(0:Int)≤32∧(32:Int)≤32 by decide)) λ_=>J (Ac ?_ ?_) (A ?_)
 ·rw[X_ _ τ];exact Int.ediv_nonneg (HQ _).1 τ
 ·rw[X_ _ τ];refine Int.ediv_lt_of_lt_mul τ ?_;exact(HQ _).2
 ·have h:∀(l:List Int) (k:Nat),(∀x∈l,0≤x∧x≤32)→0≤I.wrap (l.getD k 0)∧I.wrap (l.getD k 0)≤32:=λl k h=>by
   have:0≤l.getD k 0∧l.getD k 0≤32:=by
    by_cases hk:k<l.length
    ·rw[k_,i_ hk];exact h _ (b1_ hk)
    ·rw[k_,List.getElem?_eq_none ω];decide
   rw[Aa ω ω];exact this
  exact h _ _ τ
instance tz_ti(n:Int):SatT (CM n):=⟨(Au1 n).any⟩
def Ayc(s:ByteArray)(i:Nat):0≤AC s i∧AC s i≤255:=by
 unfold AC
 have:=(s.data.getD i 0).toNat_lt
 omega
def Atu(n:Int):H (JW n) λy=>0≤y.1.1∧y.1.1≤300:=by
 unfold JW;refine C (Q:=λy=>y.1.2.1=0∨y.1.2.1=16) (B (λ_=>A (.inr rfl)) λ_=>A (.inl rfl)) λy1 h1=>C (Q:=λy=>0≤y.1.2.1∧y.1.2.1≤24) (B (λ_=>A ?_) λ_=>A ?_) λy2 h2=>?_
 ·show 0≤I.wrap (y1.1.2.1+8)∧I.wrap (y1.1.2.1+8)≤24;rw[Aa ω ω];omega
 ·show 0≤y1.1.2.1∧y1.1.2.1≤24;omega
 refine J (Ac (Ach _).1 (Ach _).2) (A ?_);have h:∀s i,0≤I.wrap (y2.1.2.1+I.wrap (AC s i))∧I.wrap (y2.1.2.1+I.wrap (AC s i))≤300:=λs i=>by
  have:=Ayc s i
  rw[Aa (n:=AC s i) ω ω,Aa ω ω];omega
 exact h _ _
instance len_ti(n:Int):SatT (JW n):=⟨(Atu n).any⟩
def Ak5(a b c d:Int):H (Cp a b c d) λ_=>True:=⟨_,FV (a,b) (c,d),trivial⟩
def Aag(a b:Int){F:Int}(hF:0≤F∧F<32)(hD:D=1∨D=2):H (Dt a b F D) λ_=>True:=⟨_,PA (a,b) hF hD,trivial⟩
def Bpt(fl d o f a b c:Int)(h:0≤fl)(hf:0≤f∧f<32):H (JL fl d o f a b c) λy=>y.2.1.2.2.2.2.2.1=o:=by unfold JL;have g:=b_ hf.1;refine J (b_ h) (C (Ak5 ..) λy1 _=>J g (C (Aag _ _ hf (.inl rfl)) λy2 _=>C (Aag _ _ hf (.inr rfl)) λy3 _=>?_));refine C (Q:=λy=>y.1.1=f∧y.2.2.1.2.2.2.2.2.1=o) (J g (B (λ_=>C (Au1 _) λ_ _=>A ⟨rfl,rfl⟩) λ_=>A ⟨rfl,rfl⟩)) λy5 h5=>?_;refine J (b_ (by rw[h5.1];exact hf.1)) (B (λ_=>C (Atu _) λ_ _=>A h5.2) λ_=>A h5.2)
def Baf(a b c:Bool)(d e o:Int):H (Ff a b c d e o) λy=>y.2.1.2.2.2.2.2.1=o∨y.2.1.2.2.2.2.2.1=0:=by
 unfold Ff;refine C (Q:=λy=>y.2.1.2.2.2.2.2.1=o) ?_ λy1 h1=>?_
 ·refine B (λ_=>?_) λ_=>?_<;>exact B (λ_=>B (λ_=>A rfl) λ_=>A rfl) λ_=>B (λ_=>A rfl) λ_=>A rfl
 refine C (Q:=λy=>y.2.2.1.2.2.2.2.2.1=o) ?_ λy2 h2=>?_
 ·refine B (λ_=>?_) λ_=>?_<;>exact B (λ_=>B (λ_=>A h1) λ_=>A h1) λ_=>B (λ_=>A h1) λ_=>A h1
 exact B (λ_=>A (.inl h2)) λ_=>B (λ_=>A (.inl h2)) λ_=>B (λ_=>A (.inl h2)) λ_=>B (λ_=>A (.inl h2)) λ_=>B (λ_=>A (.inl h2)) λ_=>A (.inr rfl)
def dir2(n:Int):Prop:=0≤n∧n≤2
def dir2.zero:dir2 0:=⟨τ,τ⟩
def dir2.one:dir2 1:=⟨τ,τ⟩
def dir2.two:dir2 2:=⟨τ,τ⟩
def Bc9(a b c:Bool)(d e o:Int):H (Fp a b c d e o) λy=>dir2 y.1.1:=by unfold Fp;refine C (Q:=λ_=>True) Sat.go λy1 _=>?_;exact B (λ_=>A dir2.one) λ_=>B (λ_=>A dir2.two) λ_=>A dir2.zero
def chP(y:(Unit×Unit)×((Int×Int×Int×Unit)×Unit)):Prop:=dir2 y.2.1.2.1∧dir2 y.2.1.2.2.1
def Aq4(c:Bool)(a:Int){s:Int}(o:Bool)(b:Int)(hf:dir2 f)(hs:dir2 s):H (GR f c a s o b) λy=>dir2 y.1.1:=by unfold GR;exact B (λ_=>A hf) λ_=>B (λ_=>A hf) λ_=>B (λ_=>A hs) λ_=>B (λ_=>A hs) λ_=>A dir2.zero
def VH(h:dir2 n):H (Dw n) chP:=A ⟨h,h⟩
def Az5(a b c:Bool)(d e o:Int):H (Fd a b c d e o) chP:=by unfold Fd;refine C (Bc9 ..) λy h=>?_;refine B (λ_=>C (VH dir2.one) λ_ h=>A h) λ_=>B (λ_=>C (VH dir2.two) λ_ h=>A h) λ_=>B (λ_=>C (VH h) λ_ h=>A h) λ_=>?_;exact B (λ_=>A ⟨h,dir2.zero⟩) λ_=>B (λ_=>A ⟨h,dir2.zero⟩) λ_=>A ⟨dir2.zero,dir2.zero⟩
def Ahg(a b c:Bool)(d e o:Int):H (DD a b c d e o) chP:=by unfold DD;refine C (Q:=λ_=>True) Sat.go λy1 _=>?_;refine B (λ_=>C (Aq4 _ _ _ _ dir2.two dir2.one) λ_ h=>C (VH h) λ_ h=>A h) λ_=>B (λ_=>A ⟨dir2.two,dir2.zero⟩) λ_=>?_;exact B (λ_=>C (VH dir2.one) λ_ h=>A h) λ_=>B (λ_=>A ⟨dir2.one,dir2.zero⟩) λ_=>A ⟨dir2.zero,dir2.zero⟩
def Bdq(a b c:Bool)(d e o:Int):H (Fq a b c d e o) chP:=by unfold Fq;refine C (Q:=λ_=>True) Sat.go λy1 _=>?_;refine B (λ_=>C (Aq4 _ _ _ _ dir2.one dir2.two) λ_ h=>C (VH h) λ_ h=>A h) λ_=>B (λ_=>A ⟨dir2.one,dir2.zero⟩) λ_=>?_;exact C (Ahg ..) λ_ h=>A h
def Ak9{w o:Int}(a b c:Int)(h:0≤fl)(hf:0≤f∧f<32)(hw:dir2 w):H (Ge fl w o f a b c) λy=>chP ((((),()),y.2))∧(y.1.2.1=o∨y.1.2.1=0):=by
 unfold Ge;refine C (Bpt _ _ _ _ _ _ _ h hf) λy1 h1=>C (Baf ..) λy2 h2=>?_;rw[h1]at h2;refine C (Q:=λy=>chP ((((),()),y.2))∧(y.1.2.1=o∨y.1.2.1=0)) ?_ λy6 h6=>A h6;refine J (Ac hw.1 (by have:=hw.2;show w<(3:Int);omega)) ?_;refine B (λ_=>C (Az5 ..) λ_ h=>A ⟨h,h2⟩) λn0=>B (λ_=>C (Bdq ..) λ_ h=>A ⟨h,h2⟩) λn1=>?_;have e:Nat.beq (N w) 2=E:=by
  have a0:¬N w=0:=λq=>by rw[q]at n0;cases n0
  have a1:¬N w=1:=λq=>by rw[q]at n1;cases n1
  have:N w=2:=by have:=hw.1;have:=hw.2;omega
  rw[this];rfl
 exact J e (C (Ahg ..) λ_ h=>A ⟨h,h2⟩)
def S2(d o:Int):Prop:=dir2 d∧0≤o∧o≤7
def S2.zero{d:Int}(h:dir2 d):S2 d 0:=⟨h,τ,τ⟩
def Anc(fl w o f:Int):H (Gf fl w o f) λy=>y.1.1=E→2≤fl∧fl≤32∧0≤f∧f<fl∧S2 w o:=by
 unfold Gf;refine C (Q:=λy=>y.1.1=E→2≤fl∧fl≤32∧0≤f∧f<fl∧S2 w o) ?_ λy hy=>A hy;refine B (λa=>B (λb=>B (λc=>B (λd=>?_) λ_=>A λq=>by cases q) λ_=>A λq=>by cases q) λ_=>A λq=>by cases q) λ_=>A λq=>by cases q
 refine L (Ku { Bw with X1:=w,I1:=o }) (A λq=>?_);have q:(inR 0 2 w&&inR 0 7 o)=E:=q;rw[e_]at q;exact⟨m_ a,m_ b,m_ c,m_ d,Ao.1 q.1,Ao.1 q.2⟩
def Bam(fl w o f a b c:Int):H (It fl w o f a b c) chP:=by unfold It;refine C (Anc ..) λy h=>B (λ_=>A ⟨dir2.zero,dir2.zero⟩) λq=>?_;obtain⟨h1,h2,h3,h4,h5⟩:=h (by simpa using q);exact C (Ak9 _ _ _ ω ⟨h3,ω⟩ h5.1) λ_ h=>A h.1
def Bdk:∀(o:Fin 8) (s:Fin 3),0≤I.wrap (stk ((o.val:Nat):Int) (P I ((1:Int)*((2:Int)^(Min.min (N ((s.val:Nat):Int)) (IntKind.bits I))))) (aC ((O (IntKind.bits I) ((o.val:Nat):Int))|||(O (IntKind.bits I) (P I ((1:Int)*((2:Int)^(Min.min (N ((s.val:Nat):Int)) (IntKind.bits I)))))))))∧I.wrap (stk ((o.val:Nat):Int) (P I ((1:Int)*((2:Int)^(Min.min (N ((s.val:Nat):Int)) (IntKind.bits I))))) (aC ((O (IntKind.bits I) ((o.val:Nat):Int))|||(O (IntKind.bits I) (P I ((1:Int)*((2:Int)^(Min.min (N ((s.val:Nat):Int)) (IntKind.bits I)))))))))≤7:=by decide
def Bje(fl w o f a b c:Int):H (JK fl w o f a b c) λy=>S2 y.2.1.1 y.2.1.2.1:=by
 unfold JK;refine C (Anc ..) λy h=>B (λ_=>A (S2.zero dir2.zero)) λq=>?_;obtain⟨h1,h2,h3,h4,h5⟩:=h (by simpa using q);refine C (Ak9 _ _ _ ω ⟨h3,ω⟩ h5.1) λy2 h=>?_;refine B (λ_=>A (S2.zero h.1.1)) λ_=>J (b_ h.1.2.1) (A ⟨h.1.1,?_⟩);have ho:0≤y2.1.2.1∧y2.1.2.1<8:=by have h5a:=h5.2.1;have h5b:=h5.2.2;rcases h.2 with e | e<;>rw[e]<;>omega
 have hs:dir2 y2.2.1.2.2.1:=h.1.2;have key:=Bdk ⟨y2.1.2.1.toNat,ω⟩ ⟨y2.2.1.2.2.1.toNat,by have:=hs.1;have:=hs.2;omega⟩;rw[show((y2.1.2.1.toNat:Nat):Int)=y2.1.2.1 from f4_ ho.1,show((y2.2.1.2.2.1.toNat:Nat):Int)=y2.2.1.2.2.1 from f4_ hs.1]at key;exact key
def D5(a b c:Int)(d:Bool)(e:Int):Prop:=(a=0∧b=0∧c=0∧d=S∧e=0)∨(0<a∧a≤3∧0≤b∧b≤1000000∧0≤c∧c≤1000000∧0≤e∧e≤1000000)
def D5.zero:D5 0 0 0 S 0:=.inl ⟨rfl,rfl,rfl,rfl,rfl⟩
def D5.at{a c:Int}(h:0<a∧a≤3)(hc:0≤c)(hc':c≤1000000)(he:0≤e)(he':e≤1000000):D5 a 0 c d e:=.inr ⟨h.1,h.2,e1_ 0,show(0:Int)≤1000000 from by decide,hc,hc',he,he'⟩
def dN(a b c:Int)(d:Bool)(e:Int):R:={ Bw with C1:=a,S1:=b,J1:=c,R1:=d,H1:=e }
def Ada(x:R):Ro x=E↔D5 x.C1 x.S1 x.J1 x.R1 x.H1:=by
 unfold Ro D5 Sf inR;by_cases g:x.C1=0
 ·rw[g];simp
 ·rw[An g];simp;omega
def Vx(a b c:Int)(d:Bool)(e:Int):∃r,Gh a b c d e=some ((r,()),())∧(r=E↔D5 a b c d e):=⟨_,PD (dN a b c d e),Ada (dN a b c d e)⟩
def up1(n:Int):Int:=bif decide (1000000<I.wrap (n+1))then 1000000 else I.wrap (n+1)
def KF(h:0≤n∧n≤1000000):0≤up1 n∧up1 n≤1000000:=by
 unfold up1;rw[Aa ω ω];by_cases g:1000000<n+1
 ·rw[b_ g,d_];decide
 ·rw[f_ g,c_];omega
def Tp(n:Int):LD n=some ((up1 n,()),()):=rfl
def Um(a b c:Int)(d:Bool)(e:Int):JZ a b c d e=some (((),()),((a,b,bif c !=0 then up1 c else c,d,e,()),())):=by unfold JZ;cases c !=0<;>rfl
def Aoy{a b c:Int}(h:D5 a b c d e):H (NE a b c d e) λy=>letI f:=y.2.1.2;D5 y.2.1.1 f.1 f.2.1 f.2.2.1 f.2.2.2.1:=by
 obtain⟨r,h1,h2⟩:=Vx a b c d e;have hr:r=E:=h2.2 h;subst hr;unfold NE;refine L h1 (B (λ_=>A h) λ_=>B (λ_=>A h) λg=>?_);have g:¬a=0:=by simpa using g
 rcases h with h | ⟨p1,p2,p3,p4,p5,p6,p7,p8⟩
 ·exact absurd h.1 g
 refine L (Um ..) (L (Tp _) (A (.inr ⟨p1,p2,(KF ⟨p3,p4⟩).1,(KF ⟨p3,p4⟩).2,?_,?_,p7,p8⟩)))
 ·show 0≤(bif c !=0 then up1 c else c)
  cases c !=0 with
  |true=>exact(KF ⟨p5,p6⟩).1
  |false=>exact p5
 ·show(bif c !=0 then up1 c else c)≤1000000;cases c !=0 with
  |true=>exact(KF ⟨p5,p6⟩).2
  |false=>exact p6
def Aaj(c0 c1 c2 c3 c4 c5 c6 c7 c8 a b c:Int)(d:Bool)(e f:Int)(g h:Bool):H (NF c0 c1 c2 c3 c4 c5 c6 c7 c8 a b c d e f g h) λy=>letI f:=y.2.1.2;D5 y.2.1.1 f.1 f.2.1 f.2.2.1 f.2.2.2.1:=by
 unfold NF;refine C (Q:=λy=>letI f:=y.2.2.1;D5 f.1 f.2.1 f.2.2.1 f.2.2.2.1 f.2.2.2.2.1) ?_ λy hy=>?_
 ·obtain⟨r,h1,h2⟩:=Vx a b c d e;refine L h1 (B (λ_=>A D5.zero) λk=>A (h2.1 (by simpa using k)))
 refine B (λ_=>B (λ_=>A (D5.at (a:=1) τ τ τ τ τ)) λ_=>A hy) λk=>?_;have k:¬y.2.2.1.1=0:=by simpa using k
 obtain⟨p1,p2,p3,p4,p5,p6,p7,p8⟩:=hy.resolve_left λq=>k q.1;have hc:0≤(bif y.2.2.1.2.2.1 !=0 then up1 y.2.2.1.2.2.1 else y.2.2.1.2.2.1)∧(bif y.2.2.1.2.2.1 !=0 then up1 y.2.2.1.2.2.1 else y.2.2.1.2.2.1)≤1000000:=by
  cases y.2.2.1.2.2.1 !=0 with
  |true=>exact KF ⟨p5,p6⟩
  |false=>exact⟨p5,p6⟩
 refine L (Um ..) ?_;refine C (Q:=λz=>0<z.2.2.1.1∧z.2.2.1.1≤3∧0≤z.2.2.1.2.1∧z.2.2.1.2.1≤1000000∧0≤z.2.2.1.2.2.1∧z.2.2.1.2.2.1≤1000000∧0≤z.2.2.1.2.2.2.2.1∧z.2.2.1.2.2.2.2.1≤1000000) (B (λ_=>A ⟨p1,p2,p3,p4,hc.1,hc.2,p7,p8⟩) λ_=>A ⟨p1,p2,p3,p4,hc.1,hc.2,p7,p8⟩) λz hz=>?_;refine B (λ_=>L rfl (A (D5.at (a:=2) τ ?_ ?_ hz.2.2.2.2.2.2.1 hz.2.2.2.2.2.2.2))) λ_=>?_
 ·show 0≤(bif decide (z.2.2.1.2.2.1<1)then 1 else z.2.2.1.2.2.1)
  cases decide (z.2.2.1.2.2.1<1)with
  |true=>exact show(0:Int)≤1 from by decide
  |false=>exact hz.2.2.2.2.1
 ·show(bif decide (z.2.2.1.2.2.1<1)then 1 else z.2.2.1.2.2.1)≤1000000;cases decide (z.2.2.1.2.2.1<1)with
  |true=>exact show(1:Int)≤1000000 from by decide
  |false=>exact hz.2.2.2.2.2.1
 refine C (Q:=λw=>w.2.2.1=z.2.2.1) (B (λ_=>A rfl) λ_=>A rfl) λw hw=>?_;refine B (λ_=>A D5.zero) λ_=>?_;refine C (Q:=λv=>v.2.2.1=z.2.2.1) (B (λ_=>B (λ_=>A hw) λ_=>A hw) λ_=>A hw) λv hv=>?_;have stay:∀n:Int,H (Qz v.2.2.1.1 v.2.2.1.2.1 v.2.2.1.2.2.1 v.2.2.1.2.2.2.1 v.2.2.1.2.2.2.2.1 n) λy=>letI b:=y.2.1.2;D5 y.2.1.1 b.1 b.2.1 b.2.2.1 b.2.2.2.1:=λn=>by rw[hv];exact L (Tp _) (A (.inr ⟨hz.1,hz.2.1,(KF ⟨hz.2.2.1,hz.2.2.2.1⟩).1,(KF ⟨hz.2.2.1,hz.2.2.2.1⟩).2,hz.2.2.2.2.1,hz.2.2.2.2.2.1,hz.2.2.2.2.2.2.1,hz.2.2.2.2.2.2.2⟩))
 refine B (λ_=>C (stay 5) λ_ h=>A h) λ_=>?_;refine B (λ_=>?_) λ_=>?_
 ·rw[hv];exact L rfl (A (D5.at (a:=3) τ hz.2.2.2.2.1 hz.2.2.2.2.2.1 hz.2.2.2.2.2.2.1 hz.2.2.2.2.2.2.2))
 refine B (λ_=>C (stay 3) λ_ h=>A h) λ_=>?_;refine B (λ_=>?_) λ_=>?_
 ·refine C (Q:=λu=>u.2.1=v.2.2.1) (B (λ_=>A rfl) λ_=>A rfl) λu hu=>?_;rw[hu];refine B (λ_=>?_) λ_=>C (stay 0) λ_ h=>A h;rw[hv];exact L rfl (A (D5.at (a:=3) τ hz.2.2.2.2.1 hz.2.2.2.2.2.1 hz.2.2.2.2.2.2.1 hz.2.2.2.2.2.2.2))
 refine B (λ_=>?_) λ_=>C (stay 4) λ_ h=>A h;rw[hv];exact L (Tp _) (L rfl (A (D5.at (a:=1) τ hz.2.2.2.2.1 hz.2.2.2.2.2.1 (KF ⟨hz.2.2.2.2.2.2.1,hz.2.2.2.2.2.2.2⟩).1 (KF ⟨hz.2.2.2.2.2.2.1,hz.2.2.2.2.2.2.2⟩).2)))
def Aox(c0 c1 c2 c3 c4 c5 c6 c7 c8 a b c:Int)(d:Bool)(e:Int):H (Qy c0 c1 c2 c3 c4 c5 c6 c7 c8 a b c d e) λ_=>True:=by unfold Qy;exact Sat.go
def M3(fl c t f:Int):Prop:=0≤t∧t≤1000000∧((c=0∧f=0)∨(c=1∧0≤f∧f+1<fl)∨(c=2∧0<f∧f<fl))
def M3.zero:M3 fl 0 0 0:=⟨τ,τ,.inl ⟨rfl,rfl⟩⟩
def Ah7(hf:2≤fl)(x:R):UA fl x=E↔M3 fl x.T0 x.Z0 x.S0:=by
 unfold UA M3 inR;by_cases g:x.T0=0
 ·rw[g];simp;omega
 by_cases g1:x.T0=1
 ·rw[g1];simp;omega
 by_cases g2:x.T0=2
 ·rw[g2];simp;omega
 ·rw[An g,An g1,An g2];simp;omega
def mN(c t f:Int):R:={ Bw with T0:=c,Z0:=t,S0:=f }
def Abx(h:2≤fl∧fl≤8)(c t f:Int):∃r,Gj fl c t f=some ((r,()),())∧(r=E↔M3 fl c t f):=⟨_,ND h (mN c t f),Ah7 h.1 (mN c t f)⟩
def UB{c:Int}(hf:0≤f∧f<fl)(h:fl≤8):H (Fu fl f c) λy=>y.1.2.1=E→(c=1∧0≤f∧f+1<fl)∨(c=2∧0<f∧f<fl):=by
 unfold Fu;by_cases c1:c=1
 ·subst c1;refine aB (Sat.bifF rfl (J rfl (Sat.bindC (λ_=>aB (A λg=>.inl ⟨rfl,hf.1,?_⟩)) λ_=>aB (A λg=>by cases g))));have g:=m_ g;have e:I.wrap (f+List.getD [(0:Int),1,-1] (N 1) 0)=f+1:=Aa (ω:(-9223372036854775808:Int)≤f+1) (ω:f+1<9223372036854775808);exact e▸g
 ·rw[JR c1];by_cases c2:c=2
  ·subst c2;have e:I.wrap (f+List.getD [(0:Int),1,-1] (N 2) 0)=f+ -1:=Aa (ω:(-9223372036854775808:Int)≤f+ -1) (ω:f+ -1<9223372036854775808);refine aB (Sat.bifF rfl (J rfl (Sat.bindC (λg0=>aB (A λg=>.inr ⟨rfl,?_,hf.2⟩)) λ_=>aB (A λg=>by cases g))));have g0:0≤f+ -1:=e▸m_ g0;omega
  ·rw[JR c2];exact aB (J rfl (A λg=>by cases g))
def Aje{c t:Int}(h:M3 fl c t f):H (Lu c t f) λy=>M3 fl y.2.1.1 y.2.1.2.1 y.2.1.2.2.1:=by
 unfold Lu;refine C (Q:=λy=>y.2.1=(c,t,f,())∧(y.1.2.2.1=E→t<1000000)) ?_ λy hy=>?_
 ·refine B (λ_=>B (λ_=>A ⟨rfl,λg=>m_ g⟩) λ_=>A ⟨rfl,λg=>by cases g⟩) λ_=>?_;exact B (λ_=>B (λ_=>A ⟨rfl,λg=>m_ g⟩) λ_=>A ⟨rfl,λg=>by cases g⟩) λ_=>A ⟨rfl,λg=>by cases g⟩
 refine B (λg=>A ?_) λ_=>A ?_
 ·rw[hy.1];have ht:=hy.2 g
  have:=h.1
  show M3 fl c (P I (t+1)) f;rw[Aa ω ω];exact⟨ω,ω,h.2.2⟩
 ·rw[hy.1];exact h
def MZ(y:Int×Int×Int×Unit):Prop:=y=(0,0,0,())
def Ajg(h:2≤fl∧fl≤8)(c t f g:Int)(l:Bool)(d:Int)(k:Bool)(w:Int):H (NW fl c t f g l d k w) λy=>M3 fl y.2.1.1 y.2.1.2.1 y.2.1.2.2.1∧(y.1.2.2.1=E→MZ y.2.1)∧(c=0→w=0→l=E→MZ y.2.1):=by
 unfold NW;obtain⟨r,h1,h2⟩:=Abx h c t f;have hz:M3 fl 0 0 0:=M3.zero;refine L h1 (B (λ_=>A ⟨hz,λ_=>rfl,λ_ _ _=>rfl⟩) λhr=>B (λ_=>A ⟨hz,λ_=>rfl,λ_ _ _=>rfl⟩) λa1=>B (λ_=>A ⟨hz,λ_=>rfl,λ_ _ _=>rfl⟩) λa2=>?_);have hm:M3 fl c t f:=h2.1 (by simpa using hr);have hg:0≤g∧g<fl:=⟨by have:=D_ a1;omega,by have:=D_ a2;omega⟩
 have hf:0≤f∧f<fl:=by rcases hm.2.2 with q | q | q<;>omega
 refine C (UB hf h.2) λy2 b2=>?_;have nb:c=0→y2.1.2.1=S:=λc0=>by
  cases q:y2.1.2.1 with
  |false=>rfl
  |true=>rcases b2 q with e | e<;>omega
 refine C (Q:=λy=>(y.1.1=fl∧y.1.2.1=w∧y.2.1=(c,t,f,())∧y.2.2.1.1=g)∧y.1.2.2.2.2.2.1=y2.1.2.1∧y.2.2.1.2.1=l) ?_ λy3 h3=>?_
 ·exact B (λ_=>B (λ_=>A ⟨⟨rfl,rfl,rfl,rfl⟩,rfl,rfl⟩) λ_=>A ⟨⟨rfl,rfl,rfl,rfl⟩,rfl,rfl⟩) λ_=>A ⟨⟨rfl,rfl,rfl,rfl⟩,rfl,rfl⟩
 refine B (λ_=>A ⟨hz,λ_=>rfl,λ_ _ _=>rfl⟩) λ_=>?_;refine C (Q:=λy=>(y.1.1=fl∧y.1.2.1=w∧y.2.1=(c,t,f,())∧y.2.2.1.1=g)∧(c=0→l=E→y.1.2.2.2.2.2.1=S)) ?_ λy4 h4=>?_
 ·refine B (λq=>A ⟨h3.1,λc0 _=>?_⟩) λ_=>A ⟨h3.1,λ_ l1=>?_⟩
  ·rw[h3.2.1,nb c0]at q;cases q
  ·show(!y3.2.2.1.2.1)=S;rw[h3.2.2,l1];rfl
 obtain⟨⟨e1,e2,e3,e4⟩,e5⟩:=h4;refine B (λq=>A ⟨?_,λg=>(by cases g),λc0 _ l1=>?_⟩) λ_=>?_
 ·rw[e3];exact⟨(KF ⟨hm.1,hm.2.1⟩).1,(KF ⟨hm.1,hm.2.1⟩).2,hm.2.2⟩
 ·rw[e5 c0 l1]at q;cases q
 rw[e1,e2,e4];refine C (UB hg h.2) λy5 h5=>B (λq=>A ⟨?_,λg=>(by cases g),λ_ w0 _=>?_⟩) λ_=>A ⟨hz,λ_=>rfl,λ_ _ _=>rfl⟩
 ·exact⟨show(0:Int)≤0 from by decide,show(0:Int)≤1000000 from by decide,.inr (h5 q)⟩
 ·rcases h5 q with e | e<;>omega
def Ajd(c0 c1 c2 c3 c4 c5 c6 c7 c8 a b c:Int):H (RA c0 c1 c2 c3 c4 c5 c6 c7 c8 a b c) λ_=>True:=A trivial
def Ao6(hcode:b.code=0)(hv:AJ b.C0 b.F0 b.H0 b.M0 b.K0 b.L0 b.N0 b.B0=some ((b.code,()),()))(car idle floor:Int):H (QB b.C0 b.F0 b.H0 b.M0 b.K0 b.L0 b.N0 b.B0 car idle floor) λy=>y.1.1=0∨y.1.1=1∨y.1.1=2:=by unfold QB;refine L hv (B (λ_=>A (.inl rfl)) λ_=>B (λ_=>A (.inl rfl)) λh1=>B (λ_=>A (.inl rfl)) λh2=>?_);have h1:=D_ h1;have h2:=D_ h2;refine B (λ_=>A (.inl rfl)) λ_=>B (λ_=>A (.inl rfl)) λ_=>B (λ_=>A (.inl rfl)) λ_=>?_;refine J (Ac ω ω) (B (λ_=>A (.inr (.inl rfl))) λ_=>B (λ_=>A (.inr (.inr rfl))) λ_=>A (.inl rfl))
def C2(fl n:Int):Prop:=0≤n∧n.toNat<2^fl.toNat
def C2.zero:C2 fl 0:=⟨e1_ 0,Nat.two_pow_pos _⟩
def C2.vb{v:BitVec 32}(h:v.toNat<2^fl.toNat):C2 fl (vb v):=⟨Int.natCast_nonneg _,h⟩
def C2.bv(h:C2 fl n):(bv n).toNat<2^fl.toNat:=by
 refine aE ?_ h.2
 have:=h.1
 show(O 32 n).toNat≤n.toNat;rw[a0_];show(n%4294967296).toNat≤n.toNat;omega
def C2.and{x y:Int}(h:C2 fl y):C2 fl (P aA (stk x y (aC (O (IntKind.bits .u32) x&&&O (IntKind.bits .u32) y)))):=by rw[ZK];refine C2.vb ?_;rw[BitVec.toNat_and];exact aE Nat.and_le_right h.bv
def C2.andNot{x y:Int}(h:C2 fl x):C2 fl (P aA (stk x y (aC (O (IntKind.bits .u32) x&&& ~~~ O (IntKind.bits .u32) y)))):=by rw[OF];refine C2.vb ?_;rw[BitVec.toNat_and];exact aE Nat.and_le_left h.bv
def C2.or{x y:Int}(h:C2 fl x)(h2:C2 fl y):C2 fl (P aA (stk x y (aC (O (IntKind.bits .u32) x|||BitVec.ofInt (IntKind.bits .u32) y)))):=by rw[Au4];refine C2.vb ?_;rw[BitVec.toNat_or];exact Nat.or_lt_two_pow h.bv h2.bv
def C2.all(h:2≤fl∧fl≤8):C2 fl (P aA (P aA (1*2^min (N fl) (IntKind.bits .u32))-1)):=by
 unfold C2
 have:fl=2∨fl=3∨fl=4∨fl=5∨fl=6∨fl=7∨fl=8:=ω
 rcases this with e | e | e | e | e | e | e<;>rw[e]<;>decide
def Acl:(Int.fdiv n ((2:Int)^N fl)==0)=E↔C2 fl n:=by
 have hp:(0:Int)<2^N fl:=Int.pow_pos τ;have hc:((2^N fl:Nat):Int)=(2:Int)^N fl:=by rw[Int.natCast_pow];rfl
 rw[X_ _ (Int.le_of_lt hp),U_];unfold C2;constructor
 ·intro h;have h1:=Int.mul_ediv_add_emod n (2^N fl);rw[h,Int.mul_zero,Int.zero_add]at h1;have h2:=Int.emod_nonneg n (Int.ne_of_gt hp);have h3:=aD n hp;rw[h1]at h2 h3;refine⟨h2,?_⟩;rw[← hc]at h3;omega
 ·intro h;refine Int.ediv_eq_zero_of_lt h.1 ?_;rw[← hc]
  have:=h.1
  have:=h.2
  omega
structure Sx(fl:Int)(x:NewCar):Prop where
 sw:S2 x.X1 x.I1
 dr:D5 x.C1 x.S1 x.J1 x.R1 x.H1
 mt:M3 fl x.T0 x.Z0 x.S0
 ca:C2 fl x.B2
 sh:dir2 x.B3
 idle:0≤x.O3∧x.O3≤1000000
 nf:x.E3=false
def Mz(x:R):Prop:=x.T0=0∧x.Z0=0∧x.S0=0
def Amz(x:R):Amy x=E↔Mz x:=by unfold Amy Mz;simp
def Sy(fl:Int)(x:R):Prop:=Sx fl x∧(x.C1=0∨Mz x)
def Ahc(h:D5 x.C1 x.S1 x.J1 x.R1 x.H1):Sf x=E↔x.C1=0:=by
 unfold Sf;rcases h with⟨h1,h2,h3,h4,h5⟩ | h
 ·rw[h1,h2,h3,h4,h5];decide
 ·have:¬x.C1=0:=ω
  simp[this]
def VG(hb:b.small)(hf:x.E3=S):HK b x=E↔Sy b.C0 x:=by
 have lo:=hb.lo;unfold HK;rw[hf,c_];unfold VO Qt Aeg inR;simp only[e_,R_,t_,Ada,Ah7 (ω:2≤b.C0),Acl,Amz];constructor
 ·rintro⟨h1,h2,h3,h4,h5,h6,h7⟩;rw[Ahc h2]at h4;exact⟨⟨⟨h1.1,h1.2⟩,h2,h3,h5,h6,h7,hf⟩,h4⟩
 ·rintro⟨h,h4⟩;exact⟨⟨h.sw.1,h.sw.2⟩,h.dr,h.mt,h4.imp_left (Ahc h.dr).2,h.ca,h.sh,h.idle⟩
def D5.one:D5 1 0 0 S 0:=D5.at (a:=1) τ τ τ τ τ
abbrev Are:=Int×Int×Int×Int×Int×Bool×Int×Int×Int×Int×Int×Int×Int×Bool×Unit
abbrev Ae6:=Int×Int×Int×Int×Nat×Nat×Nat×List Car×Int×Int×Int×Int×Int×Int×Bool×Int×Int×Int×Int×Int×Int×Int×Bool×Int×Bool×Int×Bool×Int×Unit
@[reducible] def Ql(b:Bldg)(car:Int)(x:R)(f:Int)(l:Bool)(d:Int)(k:Bool)(c:Int):Ae6:=(b.C0,b.F0,b.H0,b.M0,b.K0,b.L0,b.N0,b.B0,car,x.X1,x.I1,x.C1,x.S1,x.J1,x.R1,x.H1,x.T0,x.Z0,x.S0,x.B2,x.B3,x.O3,x.E3,f,l,d,k,c,())
section
variable{b:Bldg}(hb:b.small){car f:Int}(hf:0≤f∧f<b.C0){x:R}(l:Bool)(d:Int)(k:Bool)(c:Int)
include hb
theorem To(hcar:0≤car∧car<b.B0.length):H (BT (newcar_control.mk b.C0 b.F0 b.H0 b.M0 b.K0 b.L0 b.N0 b.B0 car x.X1 x.I1 x.C1 x.S1 x.J1 x.R1 x.H1 x.T0 x.Z0 x.S0 x.B2 x.B3 x.O3 x.E3 f l d k c)) λ_=>True:=by unfold BT;exact J (Ac hcar.1 hcar.2) (A trivial)
include hf
theorem Aow(p:Int)(h:Sx b.C0 x):H (DS p b.C0 b.F0 b.H0 b.M0 b.K0 b.L0 b.N0 b.B0 car x.X1 x.I1 x.C1 x.S1 x.J1 x.R1 x.H1 x.T0 x.Z0 x.S0 x.B2 x.B3 x.O3 x.E3 f l d k c) λy=>∃n,y.2.1=Ql b car { x with B2:=n } f l d k c∧C2 b.C0 n:=by
 have lo:=hb.lo;have hi:=hb.hi;unfold DS;refine J (b_ (ω:0≤b.C0)) ?_;refine C (Q:=λy=>y.2.1=Ql b car x f l d k c∧C2 b.C0 y.1.2.1) ?_ λy hy=>?_
 ·exact B (λ_=>J (b_ hf.1) (A ⟨rfl,(C2.all ⟨ω,hi⟩).and.andNot⟩)) λ_=>A ⟨rfl,(C2.all ⟨ω,hi⟩).and⟩
 ·obtain⟨u,t,w⟩:=y;obtain⟨e,hn⟩:=hy;change t=_ at e;subst e;exact A ⟨_,rfl,h.ca.or hn⟩
omit hf
theorem Ac8(w:Int):H (BL w b.C0 b.F0 b.H0 b.M0 b.K0 b.L0 b.N0 b.B0 car x.X1 x.I1 x.C1 x.S1 x.J1 x.R1 x.H1 x.T0 x.Z0 x.S0 x.B2 x.B3 x.O3 x.E3 f l d k c) λy=>∃c' t' f' cm,y.2.1=Ql b car { x with T0:=c',Z0:=t',S0:=f' } f l d k cm∧M3 b.C0 c' t' f'∧(y.1.1=E→MZ (c',t',f',()))∧(x.T0=0→w=0→l=E→MZ (c',t',f',())):=by have lo:=hb.lo;have hi:=hb.hi;unfold BL;exact C (Ajg ⟨ω,hi⟩ ..) λy hy=>A ⟨_,_,_,_,rfl,hy.1,hy.2.1,hy.2.2⟩
omit hb in
theorem Bgq{c' t' f':Int}(x:R)(h:MZ (c',t',f',())):Mz { x with T0:=c',Z0:=t',S0:=f' }:=by unfold MZ at h;simp only[e7_]at h;exact⟨h.1,h.2.1,h.2.2.1⟩
theorem Ali(h:Sx b.C0 x):H (DG b.C0 b.F0 b.H0 b.M0 b.K0 b.L0 b.N0 b.B0 car x.X1 x.I1 x.C1 x.S1 x.J1 x.R1 x.H1 x.T0 x.Z0 x.S0 x.B2 x.B3 x.O3 x.E3 f l d k c) λy=>∃x' c',y.2.1=Ql b car x' f l d k c'∧Sx b.C0 x'∧x'.C1=x.C1∧(y.1.1=E→Mz x'):=by
 unfold DG;refine C (Q:=λy=>y.2.1=Ql b car x f l d k c∧(y.1.2.1=E→Mz x)) (B (λq=>A ⟨rfl,λ_=>(Amz x).1 q⟩) λ_=>A ⟨rfl,λq=>(by cases q)⟩) ?_;rintro⟨u,t,w⟩ ⟨e,h1⟩;change t=_ at e;subst e;refine B (λq=>A ⟨x,c,rfl,h,rfl,λ_=>h1 q⟩) λ_=>?_;refine C (Q:=λy=>∃x' c',y.2.1=Ql b car x' f l d k c'∧Sx b.C0 x'∧x'.C1=x.C1∧(y.1.2.2.1=E→Mz x')) ?_ ?_
 ·refine C (Ac8 hb (x:=x) l d k c 0) ?_;rintro⟨u2,t2,w2⟩ ⟨c',t',f',cm,e,hm,hs,hz⟩;change t2=_ at e;subst e;have hx':Sx b.C0 { x with T0:=c',Z0:=t',S0:=f' }:=⟨h.sw,h.dr,hm,h.ca,h.sh,h.idle,h.nf⟩
  refine B (λq=>A ⟨_,cm,rfl,hx',rfl,λ_=>Bgq x (hs q)⟩) λ_=>B (λq=>A ⟨_,cm,rfl,hx',rfl,λq2=>Bgq x (hz ?_ rfl q2)⟩) λ_=>A ⟨_,cm,rfl,hx',rfl,λq=>(by cases q)⟩;simpa using q
 rintro⟨u3,t3,w3⟩ ⟨x',c',e,h',hd,hz⟩;change t3=_ at e;subst e;refine B (λq=>A ⟨x',c',rfl,h',hd,λ_=>hz q⟩) λ_=>?_;refine C (Q:=λy=>y.2.1=Ql b car x' f l d k c') (B (λ_=>A rfl) λ_=>A rfl) ?_;rintro⟨u4,t4,w4⟩ e;change t4=_ at e;subst e;exact B (λ_=>A ⟨{ x' with O3:=0 },c',rfl,⟨h'.sw,h'.dr,h'.mt,h'.ca,h'.sh,⟨e1_ 0,show(0:Int)≤1000000 from by decide⟩,h'.nf⟩,hd,λq=>(by cases q)⟩) λ_=>A ⟨x',c',rfl,h',hd,λq=>(by cases q)⟩
omit hb in
theorem i00:(0:Int)≤0∧(0:Int)≤1000000:=by decide
include hf
theorem Aov(hcar:0≤car∧car<b.B0.length)(h:Sx b.C0 x)(hm:Mz x):H (DR b.C0 b.F0 b.H0 b.M0 b.K0 b.L0 b.N0 b.B0 car x.X1 x.I1 x.C1 x.S1 x.J1 x.R1 x.H1 x.T0 x.Z0 x.S0 x.B2 x.B3 x.O3 x.E3 f l d k c) λy=>∃x' c',y.2.1=Ql b car x' f l d k c'∧Sx b.C0 x'∧Mz x':=by
 unfold DR;refine C (To hb l d k c hcar) λy1 _=>C (Aaj ..) λy2 hd=>?_;refine C (Q:=λy=>∃x' c',y.2.1=Ql b car x' f l d k c'∧Sx b.C0 x'∧Mz x') ?_ ?_
 ·refine B (λ_=>J (b_ hf.1) (A ⟨{ x with C1:=y2.2.1.1,S1:=y2.2.1.2.1,J1:=y2.2.1.2.2.1,R1:=y2.2.1.2.2.2.1,H1:=y2.2.1.2.2.2.2.1,B2:=_ },_,rfl,⟨h.sw,hd,h.mt,h.ca.andNot,h.sh,h.idle,h.nf⟩,hm⟩)) λ_=>?_;refine B (λ_=>A ⟨{ x with C1:=y2.2.1.1,S1:=y2.2.1.2.1,J1:=y2.2.1.2.2.1,R1:=y2.2.1.2.2.2.1,H1:=y2.2.1.2.2.2.2.1,B3:=0 },_,rfl,⟨h.sw,hd,h.mt,h.ca,dir2.zero,h.idle,h.nf⟩,hm⟩) λ_=>?_;exact A ⟨{ x with C1:=y2.2.1.1,S1:=y2.2.1.2.1,J1:=y2.2.1.2.2.1,R1:=y2.2.1.2.2.2.1,H1:=y2.2.1.2.2.2.2.1 },_,rfl,⟨h.sw,hd,h.mt,h.ca,h.sh,h.idle,h.nf⟩,hm⟩
 rintro⟨u,t,w⟩ ⟨x',c',e,h',hz⟩;change t=_ at e;subst e;exact A ⟨{ x' with O3:=0 },c',rfl,⟨h'.sw,h'.dr,h'.mt,h'.ca,h'.sh,i00,h'.nf⟩,hz⟩
def CtP(b:Bldg)(car f:Int)(l:Bool)(d:Int)(k:Bool)(t:Ae6):Prop:=∃x' c',t=Ql b car x' f l d k c'∧Sy b.C0 x'
def CtS(b:Bldg)(car f:Int)(l:Bool)(d:Int)(k:Bool)(s:(Unit×(Ae6×Unit))⊕(Unit×(Ae6×Unit))):Prop:=match s with
 | .inl y=>CtP b car f l d k y.2.1
 | .inr y=>CtP b car f l d k y.2.1
omit hf
theorem Alh(hcode:b.code=0)(hcar:0≤car∧car<b.B0.length)(hu hd:Int)(h:Sx b.C0 x)(h0:x.C1=0)(hm:Mz x):H (DF hu hd b.C0 b.F0 b.H0 b.M0 b.K0 b.L0 b.N0 b.B0 car x.X1 x.I1 x.C1 x.S1 x.J1 x.R1 x.H1 x.T0 x.Z0 x.S0 x.B2 x.B3 x.O3 x.E3 f l d k c) (CtS b car f l d k):=by
 unfold DF;refine C (Bam ..) λy1 hc=>C (Bje ..) λy2 hn=>?_;refine B (λ_=>?_) λ_=>?_
 ·refine C (To hb (x:={ x with X1:=y2.2.1.1,I1:=y2.2.1.2.1,B3:=y1.2.1.2.2.1,O3:=0 }) l d k c hcar) λy3 _=>C (Aaj ..) λy4 hd=>A ?_;exact⟨{ x with X1:=y2.2.1.1,I1:=y2.2.1.2.1,B3:=y1.2.1.2.2.1,O3:=0,C1:=y4.2.1.1,S1:=y4.2.1.2.1,J1:=y4.2.1.2.2.1,R1:=y4.2.1.2.2.2.1,H1:=y4.2.1.2.2.2.2.1 },_,rfl,⟨hn,hd,h.mt,h.ca,hc.2,i00,h.nf⟩,.inr hm⟩
 have st:∀(w i:Int),(0≤i∧i≤1000000)→H (BL w b.C0 b.F0 b.H0 b.M0 b.K0 b.L0 b.N0 b.B0 car y2.2.1.1 y2.2.1.2.1 x.C1 x.S1 x.J1 x.R1 x.H1 x.T0 x.Z0 x.S0 x.B2 x.B3 i x.E3 f l d k c) λy=>CtP b car f l d k y.2.1:=λw i hi=>by refine(Ac8 hb (x:={ x with X1:=y2.2.1.1,I1:=y2.2.1.2.1,O3:=i }) l d k c w).mono ?_;rintro⟨u,t,w⟩ ⟨c',t',f',cm,e,hm,_⟩;change t=_ at e;subst e;exact⟨_,cm,rfl,⟨hn,h.dr,hm,h.ca,h.sh,hi,h.nf⟩,.inl h0⟩
 refine B (λ_=>C (st _ _ i00) λ_ h=>A h) λ_=>B (λ_=>C (st _ _ i00) λ_ h=>A h) λ_=>?_;have hv:AJ b.C0 b.F0 b.H0 b.M0 b.K0 b.L0 b.N0 b.B0=some ((b.code,()),()):=AR ..;refine C (Ao6 hcode hv ..) λy7 _=>B (λ_=>C (st _ _ h.idle) λ_ h=>A h) λ_=>A ?_;exact⟨{ x with X1:=y2.2.1.1,I1:=y2.2.1.2.1,O3:=up1 x.O3 },0,rfl,⟨hn,h.dr,h.mt,h.ca,h.sh,KF h.idle,h.nf⟩,.inl h0⟩
omit hb in
theorem Bpy:∀(o:Fin 8),0≤I.wrap (stk ((o.val:Nat):Int) 1 (aC ((O (IntKind.bits I) ((o.val:Nat):Int))|||(O (IntKind.bits I) 1))))∧I.wrap (stk ((o.val:Nat):Int) 1 (aC ((O (IntKind.bits I) ((o.val:Nat):Int))|||(O (IntKind.bits I) 1))))≤7:=by decide
include hf
theorem Aym(hcode:b.code=0)(hcar:0≤car∧car<b.B0.length)(p hu hd:Int)(h:Sy b.C0 x):H (EH p hu hd b.C0 b.F0 b.H0 b.M0 b.K0 b.L0 b.N0 b.B0 car x.X1 x.I1 x.C1 x.S1 x.J1 x.R1 x.H1 x.T0 x.Z0 x.S0 x.B2 x.B3 x.O3 x.E3 f l d k c) (CtS b car f l d k):=by
 unfold EH;refine C (Aow hb hf l d k c p h.1) ?_;rintro⟨u,t,w⟩ ⟨n,e,hn⟩;change t=_ at e;subst e;have h1:Sx b.C0 { x with B2:=n }:=⟨h.1.sw,h.1.dr,h.1.mt,hn,h.1.sh,h.1.idle,h.1.nf⟩
 refine C (Q:=λy=>∃x' c',y.2.2.1=Ql b car x' f l d k c'∧Sy b.C0 x'∧(y.1.2.2.1=S→Mz x')) ?_ ?_
 ·refine B (λq=>?_) λq=>A ⟨_,c,rfl,⟨h1,h.2⟩,λ_=>h.2.resolve_left (by simpa using q)⟩;refine C (Ali hb l d k c h1) ?_;rintro⟨u2,t2,w2⟩ ⟨x',c',e,h',hd,hz⟩;change t2=_ at e;subst e;exact A ⟨x',c',rfl,⟨h',.inl (hd.trans (by simpa using q))⟩,λq=>hz (by simpa using q)⟩
 rintro⟨u3,u3b,t3,w3⟩ ⟨x',c',e,h',hz⟩;change t3=_ at e;subst e;refine B (λ_=>A ⟨x',c',rfl,h'⟩) λq=>?_;have hz:=hz q;refine C (Q:=λy=>∃x' c',y.2.2.1=Ql b car x' f l d k c'∧Sx b.C0 x'∧Mz x') ?_ ?_
 ·refine C (Q:=λy=>y.2.2.1=Ql b car x' f l d k c') (B (λ_=>A rfl) λ_=>A rfl) ?_;rintro⟨u4,u4b,t4,w4⟩ e;change t4=_ at e;subst e;refine B (λ_=>A ⟨{ x' with I1:=_,C1:=1,S1:=0,J1:=0,R1:=S,H1:=0,B3:=0 },c',rfl,⟨⟨h'.1.sw.1,?_⟩,D5.one,h'.1.mt,h'.1.ca,dir2.zero,h'.1.idle,h'.1.nf⟩,hz⟩) λ_=>A ⟨x',c',rfl,h'.1,hz⟩;have h5a:=h'.1.sw.2.1;have h5b:=h'.1.sw.2.2
  have:=Bpy ⟨x'.I1.toNat,ω⟩
  simp only[f4_ h5a]at this;exact this
 rintro⟨u5,u5b,t5,w5⟩ ⟨x5,c5,e,h5,hz5⟩;change t5=_ at e;subst e;refine B (λ_=>?_) λq=>?_
 ·refine C (Aov hb hf l d k c5 hcar h5 hz5) ?_;rintro⟨u6,t6,w6⟩ ⟨x6,c6,e,h6,hz6⟩;exact A ⟨x6,c6,e,h6,.inr hz6⟩
 ·refine C (Q:=λ(y:Unit×(Ae6×Unit))=>CtP b car f l d k y.2.1) ?_ λ_ h=>A h;refine C (Alh hb l d k c5 hcode hcar _ _ h5 (by simpa using q) hz5) λy7 h7=>?_;cases y7 with
  |inl _=>exact A h7
  |inr _=>exact A h7
end
def Aoz{a b c:Int}(h:D5 a b c d e):H (NE a b c d e) λy=>letI f:=y.2.1.2;D5 y.2.1.1 f.1 f.2.1 f.2.2.1 f.2.2.2.1∧(a=0→y.2.1.1=0):=by
 by_cases g:a=0
 ·obtain⟨h1,h2,h3,h4,h5⟩:a=0∧b=0∧c=0∧d=S∧e=0:=h.resolve_right λq=>absurd g ω;subst h1 h2 h3 h4 h5;exact⟨_,rfl,D5.zero,λ_=>rfl⟩
 ·exact(Aoy h).mono λ_ q=>⟨q,λq=>absurd q g⟩
def Ajf{c t:Int}(h:M3 fl c t f):H (Lu c t f) λy=>M3 fl y.2.1.1 y.2.1.2.1 y.2.1.2.2.1∧(c=0∧t=0∧f=0→MZ y.2.1):=by
 by_cases g:c=0∧t=0∧f=0
 ·obtain⟨h1,h2,h3⟩:=g;subst h1 h2 h3;exact⟨_,rfl,M3.zero,λ_=>rfl⟩
 ·exact(Aje h).mono λ_ q=>⟨q,λq=>absurd q g⟩
@[reducible] def Bbi(x:R):Are:=(x.X1,x.I1,x.C1,x.S1,x.J1,x.R1,x.H1,x.T0,x.Z0,x.S0,x.B2,x.B3,x.O3,x.E3,())
def Bal(b:Bldg)(t:Are):Prop:=∃x,t=Bbi x∧HK b x=E
def Sy.zero:Sy fl Bw:=⟨⟨S2.zero dir2.zero,D5.zero,M3.zero,C2.zero,dir2.zero,i00,rfl⟩,.inl rfl⟩
def Aaq(b:Bldg):HK b { Bw with E3:=E }=E:=rfl
section
variable{b:Bldg}(hb:b.small)
include hb
theorem Nq:HK b Bw=E:=(VG hb rfl).2 Sy.zero
theorem Aiy(c0 c1 c2 c3 c4 c5 c6 c7 c8:Int)(h:Sy b.C0 x)(n:Int):H (Ii c0 c1 c2 c3 c4 c5 c6 c7 c8 x.X1 x.I1 x.C1 x.S1 x.J1 x.R1 x.H1 x.T0 x.Z0 x.S0 x.B2 x.B3 x.O3 x.E3 n) λy=>Bal b y.2.1:=by unfold Ii;refine C (Aox ..) λy1 _=>B (λ_=>A ⟨{ Bw with E3:=E },rfl,Aaq b⟩) λ_=>?_;exact C (Ajd ..) λy2 _=>B (λ_=>A ⟨{ Bw with E3:=E },rfl,Aaq b⟩) λ_=>A ⟨x,rfl,(VG hb h.1.nf).2 h⟩
variable(hcode:b.code=0)(car:Int)(x:R)
include hcode
theorem Ama:Kd b.C0 b.F0 b.H0 b.M0 b.K0 b.L0 b.N0 b.B0 car x.X1 x.I1 x.C1 x.S1 x.J1 x.R1 x.H1 x.T0 x.Z0 x.S0 x.B2 x.B3 x.O3 x.E3=some ((HK b x&&(decide (0≤car)&&decide (car<(b.B0.length:Int))),()),()):=by unfold Kd;rw[JT hb hcode];simp only[a_];cases HK b x<;>cases decide (0≤car)<;>rfl
theorem Ajh(f:Int)(l:Bool)(d:Int)(k:Bool)(p hu hd:Int):H (NX b.C0 b.F0 b.H0 b.M0 b.K0 b.L0 b.N0 b.B0 car x.X1 x.I1 x.C1 x.S1 x.J1 x.R1 x.H1 x.T0 x.Z0 x.S0 x.B2 x.B3 x.O3 x.E3 f l d k p hu hd) λy=>Bal b y.2.1:=by
 unfold NX;refine L (Ama hb hcode car x) (B (λ_=>A ⟨Bw,rfl,Nq hb⟩) λq=>?_);have q:HK b x=E∧0≤car∧car<(b.B0.length:Int):=by
  have q:(HK b x&&(decide (0≤car)&&decide (car<(b.B0.length:Int))))=E:=by simpa only[g4_]using q
  simpa only[e_,t_]using q
 obtain⟨hx,hcar⟩:=q;refine C (Q:=λy=>y.1.1=E→0≤f∧f<b.C0) ?_ λy2 h2=>?_
 ·unfold LM;refine C (Q:=λy=>y.1.1=E→0≤f∧f<b.C0) ?_ λ_ h=>A h;refine B (λa=>B (λc=>B (λ_=>A λ_=>⟨m_ a,m_ c⟩) λ_=>A λg=>(by cases g)) λ_=>A λg=>(by cases g)) λ_=>A λg=>(by cases g)
 refine B (λ_=>A ⟨Bw,rfl,Nq hb⟩) λq2=>B (λ_=>A ⟨x,rfl,hx⟩) λhf=>?_;have hff:=h2 (by simpa using q2);refine C (Q:=λ(y:(Unit×Unit×Unit×Unit)×(Are×Are×Ae6×Unit))=>CtP b car f l d k y.2.2.2.1) (C (Aym hb hff l d k 0 hcode hcar p hu hd ((VG hb hf).1 hx)) λy3 h3=>?_) ?_
 ·cases y3 with
  |inl _=>exact A h3
  |inr _=>exact A h3
 rintro⟨u,v,w,t,z⟩ ⟨x',c',e,h'⟩;change t=_ at e;subst e;exact C (To hb (x:=x') l d k c' hcar) λy6 _=>C (Aiy hb _ _ _ _ _ _ _ _ _ h' c') λy7 h7=>A h7
theorem Agg:H (MX b.C0 b.F0 b.H0 b.M0 b.K0 b.L0 b.N0 b.B0 car x.X1 x.I1 x.C1 x.S1 x.J1 x.R1 x.H1 x.T0 x.Z0 x.S0 x.B2 x.B3 x.O3 x.E3) λy=>Bal b y.2.1:=by
 unfold MX;refine L (Ama hb hcode car x) (B (λ_=>A ⟨Bw,rfl,Nq hb⟩) λq=>?_);have q:HK b x=E∧0≤car∧car<(b.B0.length:Int):=by
  have q:(HK b x&&(decide (0≤car)&&decide (car<(b.B0.length:Int))))=E:=by simpa only[g4_]using q
  simpa only[e_,t_]using q
 obtain⟨hx,hcar⟩:=q;refine B (λ_=>A ⟨x,rfl,hx⟩) λhf=>?_;have h:=(VG hb hf).1 hx;refine C (Aoz h.1.dr) λy2 h2=>C (Ajf h.1.mt) λy3 h3=>J (Ac hcar.1 hcar.2) ?_;refine C (Aiy hb _ _ _ _ _ _ _ _ _ (x:={ x with C1:=y2.2.1.1,S1:=y2.2.1.2.1,J1:=y2.2.1.2.2.1,R1:=y2.2.1.2.2.2.1,H1:=y2.2.1.2.2.2.2.1,T0:=y3.2.1.1,Z0:=y3.2.1.2.1,S0:=y3.2.1.2.2.1 }) ⟨⟨h.1.sw,h2.1,h3.1,h.1.ca,h.1.sh,h.1.idle,h.1.nf⟩,?_⟩ 0) λy4 h4=>A h4;refine h.2.imp (λg=>h2.2 g) λg=>?_;have e:=h3.2 g;unfold MZ at e;show y3.2.1.1=0∧y3.2.1.2.1=0∧y3.2.1.2.2.1=0;rw[e];exact⟨rfl,rfl,rfl⟩
theorem Agi(f:Int)(l:Bool)(d:Int)(k:Bool):H (Kc b.C0 b.F0 b.H0 b.M0 b.K0 b.L0 b.N0 b.B0 x.X1 x.I1 x.C1 x.S1 x.J1 x.R1 x.H1 x.T0 x.Z0 x.S0 x.B2 x.B3 x.O3 x.E3 f l d k) λy=>y.1.1=E→l=E∧d=2:=by
 unfold Kc;have i:SatT (DX b.C0 b.F0 b.H0 b.M0 b.K0 b.L0 b.N0 b.B0 x.X1 x.I1 x.C1 x.S1 x.J1 x.R1 x.H1 x.T0 x.Z0 x.S0 x.B2 x.B3 x.O3 x.E3):=⟨⟨_,JT hb hcode x,trivial⟩⟩;have no:∀{p:Prop},S=E→p:=λq=>by cases q
 refine C (Q:=λy=>y.1.1=E→l=E∧d=2) (C i.out λ_ _=>?_) λ_ h=>A h;exact B (λ_=>B (λ_=>B (λ_=>B (λ_=>B (λ_=>B (λq=>A λq2=>⟨q,eq_of_beq q2⟩) λ_=>A no) λ_=>A no) λ_=>A no) λ_=>A no) λ_=>A no) λ_=>A no
end
def U2(a c:Int):Prop:=(0≤a∧a<4294967296)∧0≤c∧c<4294967296
def U2.zero:U2 0 0:=by unfold U2;decide
def U2.fst:U2 (P aA n) 0:=⟨HQ n,τ⟩
def U2.snd:U2 0 (P aA n):=⟨τ,HQ n⟩
instance isFloors_ti(n:Int):SatT (Fs n):=⟨by unfold Fs;exact Sat.go⟩
instance isObs_ti(n a c d:Int):SatT (FL n a c d):=⟨by unfold FL;exact Sat.go⟩
def NC(n a c d:Int):H (FM n a c d) λy=>U2 y.2.1.1 y.2.1.2.1:=by
 unfold FM;refine C (isObs_ti n a c d).out λ_ _=>B (λ_=>A U2.zero) λ_=>B (λ_=>A U2.zero) λ_=>B (λ_=>A U2.zero) λh=>?_;have h0:0≤a:=by have:=D_ h;omega
 refine C (Q:=λy=>y.2.1.1=a) (B (λ_=>A rfl) λ_=>A rfl) λy2 h2=>?_;refine B (λ_=>J (b_ (h2▸h0)) (A U2.fst)) λ_=>?_;refine C (Q:=λy=>y.2.1.1=a) (B (λ_=>A h2) λ_=>A h2) λy3 h3=>?_;exact B (λ_=>J (b_ (h3▸h0)) (A U2.snd)) λ_=>A U2.zero
def Agh(hb:b.small)(hcode:b.code=0)(x:R)(f:Int)(l:Bool)(d:Int)(k:Bool):H (MY b.C0 b.F0 b.H0 b.M0 b.K0 b.L0 b.N0 b.B0 x.X1 x.I1 x.C1 x.S1 x.J1 x.R1 x.H1 x.T0 x.Z0 x.S0 x.B2 x.B3 x.O3 x.E3 f l d k) λy=>U2 y.2.1.1 y.2.1.2.1:=by unfold MY;refine L (JT hb hcode x) (B (λ_=>A U2.zero) λ_=>B (λ_=>A U2.zero) λ_=>B (λ_=>A U2.zero) λ_=>B (λ_=>A U2.zero) λ_=>?_);exact C (NC ..) λ_ h=>A h
instance pair_ti(a c:Bool):SatT (Ic a c 0 1 2 3):=⟨by cases a<;>cases c<;>exact⟨_,rfl,trivial⟩⟩
def Bp2(a c:Bool):H (Ic a c 0 1 2 3) λy=>0≤y.1.1∧y.1.1≤3:=by cases a<;>cases c<;>exact⟨_,rfl,τ⟩
def dK(e:Duty):Int:=4*e.E0+e.I0
structure DutOK(b:Bldg)(D:Int)(l:List Duty):Prop where
 each:∀e∈l,Ap b e.E0 e.I0=true∧0≤e.C4∧e.C4≤D
 sort:l.Pairwise λa c=>dK a<dK c
def DutOK.nil:DutOK b D []:=⟨λ_ h=>(by cases h),List.Pairwise.nil⟩
def Fj(hb:b.small){d:Int}(h:Ap b f d=E):(0≤f∧f<8)∧(1≤d∧d≤2):=by have lo:=hb.lo;have hi:=hb.hi;unfold Ap Oj inR at h;simp only[e_,R_,U_,t_]at h;omega
def YD{a c:Duty}(ha:1≤a.I0∧a.I0≤2)(hc:1≤c.I0∧c.I0≤2):Ux a c=E↔dK a<dK c:=by unfold Ux dK;simp only[e_,R_,U_,t_];omega
def XE{l:List Duty}(h:∀i,i+1<l.length→dK (l.getD i HD)<dK (l.getD (i+1) HD)):∀i k:Nat,i+1+k<l.length→dK (l.getD i HD)<dK (l.getD (i+1+k) HD)
 |i,0,hk=>h i hk
 |i,k+1,hk=>Int.lt_trans (XE h i k ω) (h (i+1+k) ω)
def gD{i:Nat}(h:i<l.length):l.getD i HD=l[i]:=by simp only[k_,i_ h,Option.getD_some]
def Bhn(hb:b.small)(x:Belief):XT (Alo b car x) x.X0.length 0=E↔DutOK b (Kt b car).K1 x.X0:=by
 constructor
 ·intro h;have h:=Tc _ _ h;have hp:∀i,i<x.X0.length→Ap b (x.X0.getD i HD).E0 (x.X0.getD i HD).I0=E∧(0≤(x.X0.getD i HD).C4∧(x.X0.getD i HD).C4≤(Kt b car).K1)∧(i=0∨Ux (x.X0.getD (i-1) HD) (x.X0.getD i HD)=E):=λi hi=>by
   have h:=h i ω ω;unfold Alo Asu inR at h;simpa only[e_,R_,U_,t_]using h
  refine⟨λe he=>?_,?_⟩
  ·obtain⟨i,hi,rfl⟩:=List.mem_iff_getElem.1 he
   have:=hp i hi
   rw[gD hi]at this;exact⟨this.1,this.2.1⟩
  ·rw[b3_];intro i j hi hj hij
   have:=XE (l:=x.X0) (λi hi=>by have h1:=hp (i+1) hi;have h0:=hp i ω;have h2:=h1.2.2.resolve_left ω;exact(YD (Fj hb h0.1).2 (Fj hb h1.1).2).1 h2) i (j-i-1) ω
   rw[show i+1+(j-i-1)=j by omega,gD hi,gD hj]at this;exact this
 ·intro h;refine Ua _ _ λk _ hk=>?_;have hk:k<x.X0.length:=ω;have h1:=h.each _ (b1_ hk);unfold Alo Asu inR;simp only[e_,R_,U_,t_,gD hk];refine⟨h1.1,h1.2,?_⟩;by_cases k0:k=0
  ·exact .inl k0
  ·have hj:k-1<x.X0.length:=ω;rw[gD hj];have h0:=h.each _ (b1_ hj);exact .inr ((YD (Fj hb h0.1).2 (Fj hb h1.1).2).2 (b3_.1 h.sort _ _ hj hk ω))
def DutOK.len(hb:b.small)(h:DutOK b D l):l.length≤30:=by
 have key:∀i (hi:i<l.length),(i:Int)+1≤dK l[i]:=λi=>by
  induction i with
  |zero=>
   intro hi
   have:=Fj hb (h.each _ (b1_ hi)).1
   unfold dK;omega
  |succ i ih=>intro hi;have h1:=ih ω;have h2:=b3_.1 h.sort i (i+1) ω hi ω;omega
 rcases Nat.eq_zero_or_pos l.length with g | g
 ·omega
 ·have hi:l.length-1<l.length:=ω;have h1:=key _ hi
  have:=Fj hb (h.each _ (b1_ hi)).1
  unfold dK at h1;omega
def DutOK.push{e:Duty}(h:DutOK b D l)(h1:Ap b e.E0 e.I0=E∧0≤e.C4∧e.C4≤D)(h2:∀a∈l,dK a<dK e):DutOK b D (l++[e]):=by
 refine⟨λx hx=>?_,g0_.2 ⟨h.sort,List.pairwise_singleton ..,λa ha c hc=>?_⟩⟩
 ·rcases n_.1 hx with g | g
  ·exact h.each x g
  ·rw[E_.1 g];exact h1
 ·rw[E_.1 hc];exact h2 a ha
def Axu(hb:b.small)(hD:D≤1000000000)(h:DutOK b D l)(u d:Int):H (Lq l D u d) λy=>DutOK b D y.1.1∧(y.1.2.1=E→y.1.1=[]):=by
 have hl:=h.len hb;unfold Lq Me;refine C (Q:=λy=>match y with | .inl z=>DutOK b D z.1.1 | .inr z=>z.1.1=[]) (Sat.loop (λk x=>∃(out:List Duty) (i:Nat),x=((D,(),out,l,(l.length:Int),(i:Int),()),((u,d,()),()))∧i+k=l.length∧DutOK b D out∧∀a∈out,∀j (hj:j<l.length),i≤j→dK a<dK l[j]) ?_ l.length ⟨[],0,rfl,ω,.nil,λa ha=>by cases ha⟩ ω) ?_
 ·rintro k x ⟨out,i,rfl,hk,ho,ha⟩;show H (Pn D out l (l.length:Int) (i:Int) u d) _;unfold Pn;refine B (λq=>?_) λ_=>A ho;have hi:i<l.length:=by have:=m_ q;omega
  have he:=h.each _ (b1_ hi);have hc:=Fj hb he.1;have g:List.getD l (N (i:Int)) (Duty.mk 0 0 0)=l[i]:=gD hi;have w:I.wrap (l[i].C4+1)=l[i].C4+1:=Aa ω ω;refine J (Ac ω ω) ?_;simp only[g,w,Hn hi (show l.length≤Bs by unfold Bs;omega)];refine B (λ_=>A rfl) λq2=>?_;have q2:=D_ q2;refine L (PA (u,d) (F:=l[i].E0) (D:=l[i].I0) ⟨ω,ω⟩ ω) ?_;refine B (λ_=>?_) λ_=>A ⟨k-1,ω,out,i+1,rfl,ω,ho,λa m j hj hij=>ha a m j hj ω⟩;have hp:DutOK b D (out++[Duty.mk l[i].E0 l[i].I0 (l[i].C4+1)]):=ho.push ⟨he.1,by show 0≤l[i].C4+1;omega,by show l[i].C4+1≤D;omega⟩ λa m=>ha a m i hi (y_ _);have hlen:=ho.len hb;refine J (f8_ (by simp only[B_,d7_];omega)) (A ⟨k-1,ω,_,i+1,rfl,ω,hp,λa m j hj hij=>?_⟩);rcases n_.1 m with m | m
  ·exact ha a m j hj ω
  ·rw[E_.1 m];exact b3_.1 h.sort i j hi hj ω
 ·intro y hy;cases y with
  |inl z=>exact A ⟨hy,λq=>by cases q⟩
  |inr z=>exact A ⟨by show DutOK b D z.1.1;rw[show z.1.1=[]from hy];exact .nil,λ_=>hy⟩
structure BelOK(b:Bldg)(car:Nat)(x:Belief):Prop where
 fl:-1≤x.E0∧x.E0≤b.C0-1
 dir:0≤x.I0∧x.I0≤3
 door:0≤x.F3∧x.F3≤3
 still:0≤x.A3∧x.A3≤1000000
 late:x.R3=true→x.X0=[]
 dut:DutOK b (Kt b car).K1 x.X0
abbrev Akl:=Int×Int×Int×List Duty×Int×Bool×Unit
@[reducible] def Ars(x:Belief):Akl:=(x.E0,x.I0,x.F3,x.X0,x.A3,x.R3,())
def Bak(b:Bldg)(car:Nat)(t:Akl):Prop:=∃x,t=Ars x∧BelOK b car x
section
variable{b:Bldg}(hb:b.small)
include hb
theorem Ag1{x:Belief}:Acu b car x=E↔BelOK b car x:=by
 unfold Acu inR;simp only[e_,t_,Bhn hb,a2_,Bool.and_eq_false_imp,decide_eq_false_iff_not];constructor
 ·rintro⟨h1,h2,h3,h4,h5,h6⟩;exact⟨h1,h2,h3,h4,λq=>List.length_eq_zero_iff.1 (by have:=h5 q;omega),h6⟩
 ·intro h;exact⟨h.fl,h.dir,h.door,h.still,λq=>(by rw[h.late q];decide),h.dut⟩
theorem BelOK.zero:BelOK b car ⟨0,0,0,[],0,S⟩:=by
 have:=hb.lo
 exact⟨⟨τ,show(0:Int)≤b.C0-1 by omega⟩,τ,τ,τ,λ_=>rfl,.nil⟩
variable(hcode:b.code=0){car:Nat}(hcar:car<b.B0.length){x:Belief}(h:BelOK b car x)
include hcode hcar h
theorem IR:Co b.C0 b.F0 b.H0 b.M0 b.K0 b.L0 b.N0 b.B0 (car:Int) x.E0 x.I0 x.F3 x.X0 x.A3 x.R3=some ((E,()),()):=by exact RL hb hcode hcar (c4_ (h.dut.len hb) τ) ((Ag1 hb).2 h)
theorem Akw:(Kt b car).K1≤1000000000:=by
 have:=Ag6 hcode (c:=Kt b car) (by unfold Kt;rw[k_,i_ hcar];exact b1_ hcar)
 omega
theorem Ae9:H (MO b.C0 b.F0 b.H0 b.M0 b.K0 b.L0 b.N0 b.B0 (car:Int) x.E0 x.I0 x.F3 x.X0 x.A3 x.R3) λy=>Bak b car y.2.1:=by unfold MO;refine L (IR hb hcode hcar h) (Sat.bifF rfl (J (Ac ω ω) ?_));refine C (Axu hb (Akw hb hcode hcar h) h.dut 0 0) λy2 h2=>A ⟨⟨x.E0,x.I0,x.F3,y2.1.1,0,y2.1.2.1⟩,rfl,⟨h.fl,h.dir,h.door,?_,h2.2,h2.1⟩⟩;exact show(0:Int)≤0∧(0:Int)≤1000000 from by decide
theorem Acv:H (IW b.C0 b.F0 b.H0 b.M0 b.K0 b.L0 b.N0 b.B0 (car:Int) x.E0 x.I0 x.F3 x.X0 x.A3 x.R3) λy=>Bak b car y.2.1:=by unfold IW;refine L (IR hb hcode hcar h) (Sat.bifF rfl (A ⟨⟨x.E0,x.I0,x.F3,[],0,S⟩,rfl,⟨h.fl,h.dir,h.door,?_,λ_=>rfl,.nil⟩⟩));exact show(0:Int)≤0∧(0:Int)≤1000000 from by decide
theorem Afa:H (MP b.C0 b.F0 b.H0 b.M0 b.K0 b.L0 b.N0 b.B0 (car:Int) x.E0 x.I0 x.F3 x.X0 x.A3 x.R3) λy=>y.1.1=E→x.F3=2:=by unfold MP;refine C (Q:=λy=>y.1.1=E→x.F3=2) (L (IR hb hcode hcar h) (J rfl ?_)) λ_ h=>A h;exact B (λ_=>B (λq=>J (Ac ω ω) (A λ_=>eq_of_beq q)) λ_=>A λq=>by cases q) λ_=>A λq=>by cases q
theorem Aa0(o p q:Int):H (KM b.C0 b.F0 b.H0 b.M0 b.K0 b.L0 b.N0 b.B0 (car:Int) x.E0 x.I0 x.F3 x.X0 x.A3 x.R3 o p q) λy=>∃v,y.2.1=Ars v∧BelOK b car v∧(v.F3=2→q=2):=by
 unfold KM;refine L (IR hb hcode hcar h) (Sat.bifF rfl ?_);refine C (Q:=λy=>y.1.1=E→(-1≤o∧o≤b.C0-1)∧(0≤p∧p≤3)∧0≤q∧q≤3) ?_ λy2 h2=>?_
 ·unfold FL;refine C (Q:=λy=>y.1.1=E→(-1≤o∧o≤b.C0-1)∧(0≤p∧p≤3)∧0≤q∧q≤3) ?_ λ_ h=>A h;refine C (isFloors_ti _).out λ_ _=>B (λ_=>?_) λ_=>A λg=>(by cases g)
  refine B (λg1=>?_) λ_=>A λg=>(by cases g)
  refine B (λg2=>?_) λ_=>A λg=>(by cases g)
  refine B (λg3=>?_) λ_=>A λg=>(by cases g)
  refine B (λg4=>?_) λ_=>A λg=>(by cases g)
  refine B (λg5=>A λg6=>?_) λ_=>A λg=>(by cases g)
  have g2:=m_ g2;exact⟨⟨m_ g1,ω⟩,⟨m_ g3,m_ g4⟩,m_ g5,m_ g6⟩
 refine B (λ_=>A ⟨⟨0,0,0,[],0,S⟩,rfl,BelOK.zero hb,λe=>absurd e (show ¬(0:Int)=2 by decide)⟩) λk=>J (Ac ω ω) ?_;obtain⟨ho,hp,hq⟩:=h2 (by simpa using k);refine C (NC ..) λy3 _=>C (Axu hb (Akw hb hcode hcar h) h.dut _ _) λy4 h4=>?_;have i0:(0:Int)≤0∧(0:Int)≤1000000:=by decide
 refine C (Q:=λ(y:(Unit×Unit×Unit×Int×Unit)×(Akl×(Int×Int×Int×Unit)×Akl×Unit))=>(y.2.1=Ars ⟨x.E0,x.I0,x.F3,y4.1.1,x.A3,y4.1.2.1⟩∧y.2.2.1=(o,p,q,()))∧0≤y.1.2.2.2.1∧y.1.2.2.2.1≤1000000) ?_ ?_
 ·refine C (Q:=λy=>(y.2.1=Ars ⟨x.E0,x.I0,x.F3,y4.1.1,x.A3,y4.1.2.1⟩∧y.2.2.1=(o,p,q,()))∧y.1.2.2.2.1=0) ?_ ?_
  ·exact B (λ_=>B (λ_=>A ⟨⟨rfl,rfl⟩,rfl⟩) λ_=>A ⟨⟨rfl,rfl⟩,rfl⟩) λ_=>A ⟨⟨rfl,rfl⟩,rfl⟩
  ·intro y5 h5;refine B (λ_=>A ⟨h5.1,?_⟩) λ_=>A ⟨h5.1,?_⟩
   ·rw[h5.1.1];exact KF h.still
   ·show 0≤y5.1.2.2.2.1∧y5.1.2.2.2.1≤1000000;rw[h5.2];exact i0
 rintro⟨⟨a1,a2,a3,n,a4⟩,t,v,w,z⟩ ⟨⟨e1,e2⟩,hn⟩;change t=_ at e1;change v=_ at e2;subst e1 e2;exact Sat.bindC (λ_=>aB (A ⟨⟨o,p,q,y4.1.1,n,y4.1.2.1⟩,rfl,⟨ho,hp,hq,hn,h4.2,h4.1⟩,id⟩)) λ_=>aB (A ⟨⟨x.E0,p,q,y4.1.1,n,y4.1.2.1⟩,rfl,⟨h.fl,hp,hq,hn,h4.2,h4.1⟩,id⟩)
end
end Go.Ovl
