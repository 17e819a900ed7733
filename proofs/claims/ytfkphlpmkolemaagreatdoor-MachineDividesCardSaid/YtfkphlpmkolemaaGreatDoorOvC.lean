/- An answer with a property: the way through functions of which only that they answer is asked. -/
import Derived.Test.YtfkphlpmkolemaaGreatDoorOvA
import Derived.Test.YtfkphlpmkolemaaGreatDoorOvB
import Derived.Test.YtfkphlpmkolemaaGreatDoorDefs4
set_option linter.all false
open Bool renaming false->A,true->C
open Option renaming some->B,bind->U
open Go.IntKind renaming u32->E,wrap->H,u8->aC,i64->aE
open List renaming range'->J,replicate->S
open Go.Ovl renaming Record->L,Entry->O
open BitVec renaming ofInt->N,toNat->aB,getLsbD_or->aF,eq_of_getLsbD_eq->aG,eq_of_toNat_eq->aH
open Int renaming toNat->aA
open Nat renaming ble->aD
namespace Go.Ovl
open Go Go.Ab
set_option maxRecDepth 100000
variable{c:Bool}
def Sat{α:Type}(o:Option α)(P:α→Prop):Prop:=∃a,o=B a∧P a
section
variable{α β:Type}{P:α→Prop}{Q:β→Prop}
def Sat.ret{a:α}(h:P a):Sat (B a) P:=⟨a,rfl,h⟩
def Sat.bindE{o:Option β}{b:β}{f:β→Option α}(h:o=B b)(h2:Sat (f b) P):Sat (U o f) P:=by
 subst h;exact h2
def Sat.bindS{o:Option β}{f:β→Option α}(h:Sat o Q)(h2:∀b,Q b→Sat (f b) P):Sat (U o f) P:=by
 obtain⟨b,h,hq⟩:=h;subst h;exact h2 b hq
def Sat.bic{x y:Option α}(h1:c=C→Sat x P)(h2:c=A→Sat y P):Sat (bif c then x else y) P:=by
 cases c with
 |true=>exact h1 rfl
 |false=>exact h2 rfl
def Sat.bifT{x y:Option α}(h:c=C)(h1:Sat x P):Sat (bif c then x else y) P:=by subst h;exact h1
def Sat.bifF{x y:Option α}(h:c=A)(h1:Sat y P):Sat (bif c then x else y) P:=by subst h;exact h1
def Sat.bindC{x y:Option β}{f:β→Option α}(h1:c=C→Sat (U x f) P)(h2:c=A→Sat (U y f) P):Sat (U (bif c then x else y) f) P:=by
 cases c with
 |true=>exact h1 rfl
 |false=>exact h2 rfl
def Sat.bindCT{x y:Option β}{f:β→Option α}(h:c=C)(h1:Sat (U x f) P):Sat (U (bif c then x else y) f) P:=by subst h;exact h1
def Sat.bindCF{x y:Option β}{f:β→Option α}(h:c=A)(h1:Sat (U y f) P):Sat (U (bif c then x else y) f) P:=by subst h;exact h1
def Sat.bindR{b:β}{f:β→Option α}(h2:Sat (f b) P):Sat (U (B b) f) P:=h2
def Sat.bindA{γ:Type}{o:Option γ}{g:γ→Option β}{f:β→Option α}(h:Sat (U o λx=>U (g x) f) P):Sat (U (U o g) f) P:=by
 cases o with
 |none=>exact h
 |some a=>exact h
def Sat.mono{R:α→Prop}{o:Option α}(h:Sat o P)(h2:∀a,P a→R a):Sat o R:=by
 obtain⟨a,h,hp⟩:=h;exact⟨a,h,h2 a hp⟩
def Sat.any{o:Option α}(h:Sat o P):Sat o λ_=>True:=h.mono λ_ _=>trivial
def Sat.val{a:α}{o:Option α}(h:o=B a)(hp:P a):Sat o P:=⟨a,h,hp⟩
def Sat.ex{o:Option α}(h:Sat o P):∃a,o=B a∧P a:=h
end
def Sat.iterN{X Y:Type}{step:X→Option (Sum X Y)}(I:Nat→X→Prop)(P:Y→Prop)(hs:∀k x,I k x→Sat (step x) λr=>match r with | .inl x'=>∃k',k=k'+1∧I k' x' | .inr y=>P y):∀(k:Nat) (x:X),I k x→Sat (Bz step (k+1) x) P
 |k,x,hi=>by
  obtain⟨r,h1,h2⟩:=hs k x hi
  match r,h1,h2 with
  | .inr y,h1,h2=>exact⟨y,Au h1,h2⟩
  | .inl x',h1,⟨k',hk,hi'⟩=>
   subst hk;rw[Bk h1];exact Sat.iterN I P hs k' x' hi'
def Sat.loop{X Y:Type}{step:X→Option (Sum X Y)}(I:Nat→X→Prop){P:Y→Prop}(hs:∀k x,I k x→Sat (step x) λr=>match r with | .inl x'=>∃k',k=k'+1∧I k' x' | .inr y=>P y)(k:Nat){x:X}(hi:I k x)(hk:k<18446744073709551616):Sat (Bz step DO x) P:=by
 obtain⟨y,h1,h2⟩:=Sat.iterN I P hs k x hi;exact⟨y,Ah h1 ω,h2⟩
def Aea(n:Int):decide ((0:Int)≤IntKind.u64.wrap n)=C:=by
 simp only[H,IntKind.signed,IntKind.bits];simp;exact Int.emod_nonneg _ (by decide)
class SatT {α:Type}(o:Option α):Prop where
 out:Sat o λ_=>True
section
variable{α β:Type}{P:α→Prop}
def Sat.bT{x y:Option α}(h1:Sat x P)(h:c=true:=by with_reducible first | exact Eq.refl true | exact Aea _ | assumption):Sat (bif c then x else y) P:=Sat.bifT h h1
def Sat.bF{x y:Option α}(h1:Sat y P)(h:c=false:=by with_reducible first | exact Eq.refl false | assumption):Sat (bif c then x else y) P:=Sat.bifF h h1
def Sat.cT{x y:Option β}{f:β→Option α}(h1:Sat (Option.bind x f) P)(h:c=true:=by with_reducible first | exact Eq.refl true | exact Aea _ | assumption):Sat (Option.bind (bif c then x else y) f) P:=Sat.bindCT h h1
def Sat.cF{x y:Option β}{f:β→Option α}(h1:Sat (Option.bind y f) P)(h:c=false:=by with_reducible first | exact Eq.refl false | assumption):Sat (Option.bind (bif c then x else y) f) P:=Sat.bindCF h h1
def Sat.sT{o:Option β}{f:β→Option α}(h2:∀b,True→Sat (f b) P)(h:Sat o (λ_=>True):=by with_reducible first | assumption | exact SatT.out):Sat (Option.bind o f) P:=Sat.bindS h h2
def Sat.go{o:Option α}(h:Sat o P:=by repeat' with_reducible first | refine Sat.bindR ?_ | refine Sat.bindA ?_ | refine Sat.cT ?_ | refine Sat.cF ?_ | refine Sat.bindC (λ_=>?_) (λ_=>?_) | refine Sat.bT ?_ | refine Sat.bF ?_ | refine Sat.bic (λ_=>?_) (λ_=>?_) | refine Sat.sT λ_ _=>?_ | exact Sat.ret trivial):Sat o P:=h
end
end Go.Ovl
namespace Go.Ovl
open Go Go.Ab
variable{i:Nat}{f:Int}
def bv(f:Int):BitVec 32:=N 32 f
def vb(b:BitVec 32):Int:=(b.toNat:Int)
def Ky(b:BitVec 32):0≤vb b∧vb b<4294967296:=by
 have:=b.isLt
 unfold vb;omega
def Aq4(b:BitVec 32):bv (vb b)=b:=by
 apply aH
 have:=b.isLt
 simp only[bv,vb,W_];omega
def Atz(h:0≤f∧f<4294967296):vb (bv f)=f:=by
 simp only[bv,vb,W_];omega
def SD(b:BitVec 32):E.wrap ((b.toNat:Nat):Int)=vb b:=by
 have:=b.isLt
 simp only[H,IntKind.signed,IntKind.bits,vb];simp;omega
def Aj9:IntKind.bits .u32=32:=rfl
def Bgo(f:Int):bv (H E f)=bv f:=by
 apply aH;simp only[bv,W_,H,IntKind.signed,IntKind.bits];simp
def Akc(i:Nat):bv (H E (1*2^min i (IntKind.bits .u32)))=if i<32 then BitVec.twoPow 32 i else 0#32:=by
 rw[Bgo,Int.one_mul];apply aH;simp only[bv,W_,Aj9];by_cases h:i<32
 ·rw[if_pos h,c4_ ω,BitVec.toNat_twoPow]
  have:((2:Int)^i)=((2^i:Nat):Int):=by simp
  rw[this]
  norm_cast
 ·rw[if_neg h,Nat.min_eq_right ω]
  rfl
def DX(f:Int)(i:Nat):Bool:=(bv f).getLsbD i
def Bat(h:0≤f∧f<4294967296)(hi:i<32):
  (H E ((aB (N (IntKind.bits .u32) (Int.fdiv f (2^min i (IntKind.bits .u32)))&&&N (IntKind.bits .u32) 1):Nat):Int)==1)=DX f i:=by
 have e:Int.fdiv f (2^min i (IntKind.bits .u32))=((f.toNat/2^i:Nat):Int):=by
  rw[Aj9,c4_ ω,a2_ _ (by exact Int.le_of_lt (Int.pow_pos ω))]
  have:f=((f.toNat:Nat):Int):=ω
  rw[this];simp
 rw[e];show(H E (((bv ((f.toNat/2^i:Nat):Int)&&&bv 1).toNat:Nat):Int)==1)=_;rw[SD]
 have hb:(bv ((f.toNat/2^i:Nat):Int)&&&bv 1)=if DX f i then 1#32 else 0#32:=by
  apply aG;intro j hj
  have h1:(bv ((f.toNat/2^i:Nat):Int)).getLsbD j=(f.toNat/2^i).testBit j:=by
   simp only[bv,BitVec.getLsbD,W_]
   have:(((f.toNat/2^i:Nat):Int)%((2^32:Nat):Int)).toNat=(f.toNat/2^i)%2^32:=by norm_cast
   rw[this,Nat.testBit_mod_two_pow];simp[hj]
  have h2:DX f i=f.toNat.testBit i:=by
   simp only[DX,bv,BitVec.getLsbD,W_]
   have:(f%((2^32:Nat):Int)).toNat=f.toNat:=by simp;omega
   rw[this]
  have h3:(bv 1).getLsbD j=decide (j=0):=by
   have:bv 1=1#32:=rfl
   rw[this];simp[BitVec.getLsbD_one]
  rw[f8_,h1,h3,h2];by_cases hj0:j=0
  ·subst hj0
   rw[Nat.testBit_div_two_pow];simp only[p_,decide_true,c5_];cases f.toNat.testBit i<;>simp
  ·simp only[hj0,decide_false,b7_]
   cases f.toNat.testBit i<;>simp[BitVec.getLsbD_one,hj0]
 rw[hb];cases DX f i<;>rfl
def WI(f:Int)(i:Nat)(on:Bool):Int:=vb (if on then bv f|||BitVec.twoPow 32 i else bv f&&& ~~~ BitVec.twoPow 32 i)
def Atc(f:Int)(i:Nat)(on:Bool):0≤WI f i on∧WI f i on<4294967296:=Ky _
def Ao0{g:Int}(hf:0≤f∧f<4294967296)(hg:0≤g∧g<4294967296)(h:∀i,i<32→DX f i=DX g i):f=g:=by
 rw[← Atz hf,← Atz hg];congr 1;apply aG;intro i hi;exact h i hi
def Bpt(f:Int)(hi:i<32):E.wrap ((aB (N (IntKind.bits .u32) f|||BitVec.ofInt (IntKind.bits .u32) (H E (1*2^min i (IntKind.bits .u32)))):Nat):Int)=WI f i C:=by
 show E.wrap (((bv f|||bv (H E (1*2^min i (IntKind.bits .u32)))).toNat:Nat):Int)=_
 rw[SD,Akc,if_pos hi];rfl
def Axc(f:Int)(hi:i<32):E.wrap ((aB (N (IntKind.bits .u32) f&&& ~~~ N (IntKind.bits .u32) (H E (1*2^min i (IntKind.bits .u32)))):Nat):Int)=WI f i A:=by
 show E.wrap (((bv f&&& ~~~ bv (H E (1*2^min i (IntKind.bits .u32)))).toNat:Nat):Int)=_;rw[SD,Akc,if_pos hi];rfl
def Azm(f:Int)(i:Nat):WI (WI f i A) i C=WI f i C:=by
 unfold WI;simp only[g2_,e7_,f7_,Aq4];congr 1;apply aG;intro j hj;simp only[aF,f8_,BitVec.getLsbD_not];cases(bv f).getLsbD j<;>cases(BitVec.twoPow 32 i).getLsbD j<;>simp[hj]
end Go.Ovl
namespace Go.Ovl
open Go Go.Ab
variable{b:Bldg}{c p:Int×Int}{out:List L}{m:Img}{r f k:Nat}{s:ByteArray}{d:Int}
def At0(x y:Int):E.wrap (stk x y (aB (N (IntKind.bits .u32) x|||BitVec.ofInt (IntKind.bits .u32) y)))=vb (bv x|||bv y):=by
 rw[JP];exact SD _
def YY(x y:Int):E.wrap (stk x y (aB (N (IntKind.bits .u32) x&&&N (IntKind.bits .u32) y)))=vb (bv x&&&bv y):=by
 rw[JP];exact SD _
def NR(x y:Int):E.wrap (stk x y (aB (N (IntKind.bits .u32) x&&& ~~~ N (IntKind.bits .u32) y)))=vb (bv x&&& ~~~ bv y):=by
 rw[JP];exact SD _
def SX(b:BitVec 32)(i:Nat):DX (vb b) i=b.getLsbD i:=by unfold DX;rw[Aq4]
def Ao1(h:k<32)(i:Nat):DX (H E (1*2^min k (IntKind.bits .u32))) i=decide (i=k):=by
 unfold DX;rw[Akc,if_pos h,BitVec.getLsbD_twoPow];by_cases e:i=k
 ·subst e;simp[h]
 ·simp[e,f1_ e]
def Tp(on:Bool):Int:=bif on then 1 else 0
def WW(on:Bool):Jn on=B ((Tp on,()),()):=by unfold Jn Tp;cases on<;>rfl
def Adp(on:Bool):NT on=B ((Tp on,()),()):=by unfold NT Tp;cases on<;>rfl
def Nz(m:Img)(i:Nat):List L:=[⟨4,0,0,i,m.D0.getD i 0⟩,⟨5,0,0,i,Tp (m.L0.getD i A)⟩,⟨6,0,0,i,Tp (m.H0.getD i A)⟩]
def NA(e:O):List L:=[⟨1,e.E0,e.J0,0,0⟩,⟨3,e.E0,e.J0,e.S0,0⟩,⟨7,e.E0,e.J0,Tp e.S1,e.B1⟩]
def CH(m:Img):List L:=(J 0 m.D0.length).flatMap (Nz m)++m.A0.flatMap NA
def Hk{α:Type}(f:Nat→List α):∀(k i:Nat) (s:List α),BC (λi s=>s++f i) k i s=s++(J i k).flatMap f
 |0,i,s=>by simp[BC]
 |k+1,i,s=>by
  simp only[BC];rw[Hk f k (i+1),e8_,a1_,L_]
def MD{α β:Type}(f:α→List β)(d:α):∀(l:List α) (i k:Nat),i+k=l.length→(J i k).flatMap (λi=>f (l.getD i d))=(l.drop i).flatMap f
 |l,i,0,h=>by
  obtain rfl:i=l.length:=ω
  simp
 |l,i,k+1,h=>by
  rw[e8_,a1_,MD f d l (i+1) k ω,Bw d (ω:i<l.length),a1_]
def Aci(l:List O):(J 0 l.length).flatMap (λi=>NA (l.getD i noE))=l.flatMap NA:=by
 rw[MD NA noE l 0 l.length ω,R_]
section
variable{m:Img}(hf:m.fit)
include hf
theorem Yh(ho:out.length≤300000):Ki (((),out,(0:Int),()),(m.tup,()))=B ((out++m.A0.flatMap NA,()),()):=by
 have hl:=hf.e
 have h:=AR (step:=λx=>Gi x.1.2.1 x.1.2.2.1 x.2.1.1 x.2.1.2.1 x.2.1.2.2.1 x.2.1.2.2.2.1) m.A0.length (λi s=>(((),s,(i:Int),()),(m.tup,()))) (λi s=>s++NA (m.A0.getD i noE)) (λi s=>s.length=out.length+3*i) (λs=>((s,()),())) (λi s hi hs=>by
  refine⟨?_,by rw[h_,hs];show _+3=_;omega⟩
  have b1:∀r r' r'':L,aD (s.length+[r,r',r''].length) 2147483648=C:=λr r' r''=>At (by show s.length+3≤_;omega)
  show Gi s (i:Int) m.D0 m.L0 m.H0 m.A0=_;unfold Gi;simp only[b_ (ω:(i:Int)<(m.A0.length:Int)),Aa (ω:(0:Int)≤(i:Int)) (ω:(i:Int)<(m.A0.length:Int)),d_,j_,Adp,a_,b1,CD hi (show m.A0.length≤AA by unfold AA;omega)]
  rfl) (λs _=>by
  show Gi s (m.A0.length:Int) m.D0 m.L0 m.H0 m.A0=_;unfold Gi;simp only[e_ (C_ (m.A0.length:Int)),c_]) m.A0.length 0 out ω rfl
 have h':=Ah h.1 ω
 rw[Hk,Aci]at h';exact h'
theorem Yg(h1:m.L0.length=m.D0.length)(h2:m.H0.length=m.D0.length):Kh (((),[],(0:Int),()),(m.tup,()))=B (((),(J 0 m.D0.length).flatMap (Nz m),()),(m.tup,())):=by
 have hl:=hf.p
 have h:=AR (step:=λx=>Gh x.1.2.1 x.1.2.2.1 x.2.1.1 x.2.1.2.1 x.2.1.2.2.1 x.2.1.2.2.2.1) m.D0.length (λi s=>(((),s,(i:Int),()),(m.tup,()))) (λi s=>s++Nz m i) (λi s=>s.length=3*i) (λs=>(((),s,()),(m.tup,()))) (λi s hi hs=>by
  refine⟨?_,by rw[h_,hs];show _+3=_;omega⟩
  have b1:∀r r' r'':L,aD (s.length+[r,r',r''].length) 2147483648=C:=λr r' r''=>At (by show s.length+3≤_;omega)
  show Gh s (i:Int) m.D0 m.L0 m.H0 m.A0=_;unfold Gh;simp only[b_ (ω:(i:Int)<(m.D0.length:Int)),Aa (ω:(0:Int)≤(i:Int)) (ω:(i:Int)<(m.D0.length:Int)),Aa (ω:(0:Int)≤(i:Int)) (ω:(i:Int)<(m.L0.length:Int)),Aa (ω:(0:Int)≤(i:Int)) (ω:(i:Int)<(m.H0.length:Int)),d_,j_,Adp,a_,b1,CD hi (show m.D0.length≤AA by unfold AA;omega)]
  rfl) (λs _=>by
  show Gh s (m.D0.length:Int) m.D0 m.L0 m.H0 m.A0=_;unfold Gh;simp only[e_ (C_ (m.D0.length:Int)),c_];rfl) m.D0.length 0 [] ω rfl
 have h':=Ah h.1 ω
 rw[Hk,a0_]at h';exact h'
theorem XS(ho:out.length≤300000):Kg (((),m.A0,(m.A0.length:Int),(0:Int),()),((out,()),()))=B (((),()),((out++m.A0.flatMap NA,()),())):=by
 have hl:=hf.e
 have h:=AR (step:=λx=>Gg x.1.2.1 x.1.2.2.1 x.1.2.2.2.1 x.2.1.1) m.A0.length (λi s=>(((),m.A0,(m.A0.length:Int),(i:Int),()),((s,()),()))) (λi s=>s++NA (m.A0.getD i noE)) (λi s=>s.length=out.length+3*i) (λs=>(((),()),((s,()),()))) (λi s hi hs=>by
  refine⟨?_,by rw[h_,hs];show _+3=_;omega⟩
  show Gg m.A0 (m.A0.length:Int) (i:Int) s=_;have b1:∀r:L,aD (s.length+[r].length) 2147483648=C:=λr=>At (by rw[H_];omega)
  have b2:∀r r':L,aD ((s++[r]).length+[r'].length) 2147483648=C:=λr r'=>At (by rw[h_,H_,H_];omega)
  have b3:∀r r' r'':L,aD ((s++[r]++[r']).length+[r''].length) 2147483648=C:=λr r' r''=>At (by rw[h_,h_,H_,H_,H_];omega)
  unfold Gg Hx;simp only[b_ (ω:(i:Int)<(m.A0.length:Int)),Aa (ω:(0:Int)≤(i:Int)) (ω:(i:Int)<(m.A0.length:Int)),d_,j_,WW,a_,b1,b2,b3,CD hi (show m.A0.length≤AA by unfold AA;omega)]
  simp only[L_]
  rfl) (λs _=>by
  show Gg m.A0 (m.A0.length:Int) (m.A0.length:Int) s=_;unfold Gg;simp only[e_ (C_ (m.A0.length:Int)),c_]) m.A0.length 0 out ω rfl
 have h':=Ah h.1 ω
 rw[Hk,Aci]at h';exact h'
theorem XR(h1:m.L0.length=m.D0.length)(h2:m.H0.length=m.D0.length):Kf (((),(),(m.D0.length:Int),(0:Int),()),(m.tup,(([]:List L),()),()))=B (((),(),()),(m.tup,((J 0 m.D0.length).flatMap (Nz m),()),())):=by
 have hl:=hf.p
 have h:=AR (step:=λx=>Gf x.1.2.2.1 x.1.2.2.2.1 x.2.1.1 x.2.1.2.1 x.2.1.2.2.1 x.2.1.2.2.2.1 x.2.2.1.1) m.D0.length (λi s=>(((),(),(m.D0.length:Int),(i:Int),()),(m.tup,(s,()),()))) (λi s=>s++Nz m i) (λi s=>s.length=3*i) (λs=>(((),(),()),(m.tup,(s,()),()))) (λi s hi hs=>by
  refine⟨?_,by rw[h_,hs];show _+3=_;omega⟩
  show Gf (m.D0.length:Int) (i:Int) m.D0 m.L0 m.H0 m.A0 s=_;have b1:∀r:L,aD (s.length+[r].length) 2147483648=C:=λr=>At (by rw[H_];omega)
  have b2:∀r r':L,aD ((s++[r]).length+[r'].length) 2147483648=C:=λr r'=>At (by rw[h_,H_,H_];omega)
  have b3:∀r r' r'':L,aD ((s++[r]++[r']).length+[r''].length) 2147483648=C:=λr r' r''=>At (by rw[h_,h_,H_,H_,H_];omega)
  unfold Gf Hw;simp only[b_ (ω:(i:Int)<(m.D0.length:Int)),Aa (ω:(0:Int)≤(i:Int)) (ω:(i:Int)<(m.D0.length:Int)),Aa (ω:(0:Int)≤(i:Int)) (ω:(i:Int)<(m.L0.length:Int)),Aa (ω:(0:Int)≤(i:Int)) (ω:(i:Int)<(m.H0.length:Int)),d_,j_,WW,a_,b1,b2,b3,CD hi (show m.D0.length≤AA by unfold AA;omega)]
  simp only[L_]
  rfl) (λs _=>by
  show Gf (m.D0.length:Int) (m.D0.length:Int) m.D0 m.L0 m.H0 m.A0 s=_;unfold Gf;simp only[e_ (C_ (m.D0.length:Int)),c_];rfl) m.D0.length 0 [] ω rfl
 have h':=Ah h.1 ω
 rw[Hk,a0_]at h';exact h'
end
def Th{α β:Type}(f:α→List β)(hf:∀x,(f x).length=3):∀l:List α,(l.flatMap f).length=3*l.length
 |[]=>rfl
 |a::t=>by rw[a1_,h_,hf,Th f hf t,x_];omega
def Yp(m:Img)(n:Nat):((J 0 n).flatMap (Nz m)).length=3*n:=by rw[Th _ λ_=>rfl,List.length_range']
def Yq(m:Img):(CH m).length=3*(m.D0.length+m.A0.length):=by
 unfold CH;rw[h_,Yp,Th _ λ_=>rfl];omega
def Ux(b:Bldg)(m:Img):List L:=bif m.ok b then CH m else []
section
variable{b:Bldg}(hb:b.small){m:Img}(hf:m.fit)
include hb hf
theorem Adc:Mj b.C0 b.F0 b.I0 b.N0 b.K0 b.M0 b.O0 b.B0 m.D0 m.L0 m.H0 m.A0=B ((Ux b m,()),()):=by
 have hmx:100000≤maxLen:=by decide
 have hp:=hf.p;have he:=hf.e;unfold Mj Ux;rw[CL hb m ω ω]
 simp only[a_];cases hok:m.ok b with
 |false=>rfl
 |true=>
  have hm:=Img.ok_iff.1 hok;have l0:=XR hf (by rw[hm.lf,hm.lp]) (by rw[hm.ll,hm.lp])
  have l1:=XS hf (out:=(J 0 m.D0.length).flatMap (Nz m)) (by rw[Yp];omega)
  simp only[Img.tup]at l0;simp only[m_,c_,d_,l0,l1,a_];rfl
theorem Ado:Mo b.C0 b.F0 b.I0 b.N0 b.K0 b.M0 b.O0 b.B0 m.D0 m.L0 m.H0 m.A0=B ((Ux b m,()),()):=by
 have hmx:100000≤maxLen:=by decide
 have hp:=hf.p;have he:=hf.e;unfold Mo Ux;rw[Qc hb m ω ω]
 simp only[a_];cases hok:m.ok b with
 |false=>rfl
 |true=>
  have hm:=Img.ok_iff.1 hok;have l0:=Yg hf (by rw[hm.lf,hm.lp]) (by rw[hm.ll,hm.lp])
  have l1:=Yh hf (out:=(J 0 m.D0.length).flatMap (Nz m)) (by rw[Yp];omega)
  simp only[Img.tup]at l0 l1;simp only[m_,c_,d_,l0,l1,a_];rfl
end
def Ew(m:Img):∀(a c:List L),AK m (a++c)=AK (AK m a) c
 |[],_=>rfl
 |r::t,c=>by
  show AK (AD m r) (t++c)=AK (AK (AD m r) t) c;exact Ew (AD m r) t c
def Agc{α:Type}(l:List α)(z d:α){n:Nat}(hk:k<n)(hl:l.length=n):(l.take k++S (n-k) z).set k (l.getD k d)=l.take (k+1)++S (n-(k+1)) z:=by
 have h1:(l.take k).length=k:=by rw[r_];omega
 rw[List.set_append_right _ _ ω,h1,Nat.sub_self,show n-k=(n-(k+1))+1 by omega,List.replicate_succ,List.set_cons_zero]
 have h2:k<l.length:=ω
 rw[show l.getD k d=l[k]by simp[h2]]
 rw[List.take_succ_eq_append_getElem h2,L_];rfl
def Aox(m:Img)(a c d:L):AK m [a,c,d]=AD (AD (AD m a) c) d:=rfl
def Apy(on:Bool):(Tp on==1)=on:=by cases on<;>rfl
def Aon{n:Nat}(hk:k<n)(h1:m.D0.length=n)(h2:m.L0.length=n)(h3:m.H0.length=n):
  AK ⟨m.D0.take k++S (n-k) 0,m.L0.take k++S (n-k) A,m.H0.take k++S (n-k) A,[]⟩ (Nz m k)=⟨m.D0.take (k+1)++S (n-(k+1)) 0,m.L0.take (k+1)++S (n-(k+1)) A,m.H0.take (k+1)++S (n-(k+1)) A,[]⟩:=by
 have e1:=Agc m.D0 0 0 hk h1;have e2:=Agc m.L0 A A hk h2;have e3:=Agc m.H0 A A hk h3;unfold Nz;rw[Aox];unfold AD;simp only[show((4:Int)==4)=C from rfl,show((5:Int)==4)=A from rfl,show((5:Int)==5)=C from rfl,show((6:Int)==4)=A from rfl,show((6:Int)==5)=A from rfl,show((6:Int)==6)=C from rfl,d_,c_,j_,Apy,e1,e2,e3]
def Ah1{m:Img}{n:Nat}(h1:m.D0.length=n)(h2:m.L0.length=n)(h3:m.H0.length=n):∀j k:Nat,k+j=n→
  AK ⟨m.D0.take k++S (n-k) 0,m.L0.take k++S (n-k) A,m.H0.take k++S (n-k) A,[]⟩ ((J k j).flatMap (Nz m))=⟨m.D0,m.L0,m.H0,[]⟩
 |0,k,h=>by
  obtain rfl:k=n:=ω
  rw[Nat.sub_self];simp only[List.replicate_zero,a8_];rw[b2_ ω,b2_ ω,b2_ ω]
  rfl
 |j+1,k,h=>by
  rw[e8_,a1_,Ew,Aon ω h1 h2 h3]
  exact Ah1 h1 h2 h3 j (k+1) ω
def Ag1{F D:Int}{x:O}(hx:isC F D x=C):∀(l:List O) (i:Nat),(∀e∈l,isC F D e=A)→DD F D (l++[x]) i=((i+l.length:Nat):Int)
 |[],i,_=>by simp[DD,hx]
 |e::t,i,h=>by
  rw[List.cons_append];simp only[DD];rw[h e (M_ ..),c_,Ag1 hx t (i+1) λy hy=>h y (O_ _ hy),x_]
  congr 1;omega
def Alc{x:O}:∀{l:List O},(∀e∈l,Bi x e=A)→Hh x A l=l++[x]
 |[],_=>rfl
 |e::t,h=>by
  simp only[Hh];rw[h e (M_ ..),c_,Alc λy hy=>h y (O_ _ hy)]
  rfl
def Aoo{e:O}(h:∀x∈m.A0,Bi x e=C):AK m (NA e)=m.put (m.A0++[e]):=by
 have hn:∀x∈m.A0,isC e.E0 e.J0 x=A:=λx hx=>by
  cases hq:isC e.E0 e.J0 x with
  |false=>rfl
  |true=>
   have:=(Wv (c:=e) hq).1
   rw[h x hx]at this;cases this
 have e0:∀(c k:Int) (q:Bool),isC e.E0 e.J0 ⟨e.E0,e.J0,c,k,q⟩=C:=λc k q=>by unfold isC;simp
 have f0:DD e.E0 e.J0 m.A0 0=-1:=We hn;have f1:∀(c k:Int) (q:Bool),DD e.E0 e.J0 (m.A0++[⟨e.E0,e.J0,c,k,q⟩]) 0=(m.A0.length:Int):=λc k q=>by rw[Ag1 (e0 c k q) _ _ hn,p_]
 have g1:∀x:O,(m.A0++[x]).getD m.A0.length noE=x:=λx=>by simp
 have s1:∀x y:O,(m.A0++[x]).set m.A0.length y=m.A0++[y]:=λx y=>by
  rw[List.set_append_right _ _ (z_ _),Nat.sub_self];rfl
 have a1:AD m ⟨1,e.E0,e.J0,0,0⟩=m.put (m.A0++[⟨e.E0,e.J0,-1,0,A⟩]):=by
  unfold AD;rw[f0];simp only[show((1:Int)==4)=A from rfl,show((1:Int)==5)=A from rfl,show((1:Int)==6)=A from rfl,c_,d_,k_]
  rw[Alc (x:=⟨e.E0,e.J0,-1,0,A⟩) λx hx=>Ahi (show Bi x ⟨e.E0,e.J0,-1,0,A⟩=C from h x hx)]
 have ne:(((m.A0.length:Int))==-1)=A:=Ar ω
 have a2:AD (m.put (m.A0++[⟨e.E0,e.J0,-1,0,A⟩])) ⟨3,e.E0,e.J0,e.S0,0⟩=m.put (m.A0++[⟨e.E0,e.J0,e.S0,0,A⟩]):=by
  unfold AD;simp only[Img.put,f1,ne,show((3:Int)==4)=A from rfl,show((3:Int)==5)=A from rfl,show((3:Int)==6)=A from rfl,show((3:Int)==2)=A from rfl,c_,d_,k_,j_,g1,s1,Ady]
 have a3:AD (m.put (m.A0++[⟨e.E0,e.J0,e.S0,0,A⟩])) ⟨7,e.E0,e.J0,Tp e.S1,e.B1⟩=m.put (m.A0++[⟨e.E0,e.J0,e.S0,e.B1,e.S1⟩]):=by
  unfold AD;simp only[Img.put,f1,ne,show((7:Int)==4)=A from rfl,show((7:Int)==5)=A from rfl,show((7:Int)==6)=A from rfl,show((7:Int)==2)=A from rfl,show((7:Int)==3)=A from rfl,c_,d_,k_,j_,g1,s1,Tz,Apy]
 unfold NA;rw[Aox,a1,a2,a3]
def Ah2:∀(l:List O) (m:Img),Bp (m.A0++l)→AK m (l.flatMap NA)=m.put (m.A0++l)
 |[],m,_=>by simp[AK,Img.put]
 |e::t,m,h=>by
  have hp:=Ea.1 h;have hlt:∀x∈m.A0,Bi x e=C:=λx hx=>(List.pairwise_append.1 hp).2.2 x hx e (M_ ..)
  rw[a1_,Ew,Aoo hlt]
  have h2:Bp ((m.put (m.A0++[e])).A0++t):=by
   show Bp (m.A0++[e]++t);rw[L_];exact h
  rw[Ah2 t _ h2];show m.put (m.A0++[e]++t)=_;rw[L_];rfl
def Ad0(h:ImgOK b m):AK (Gt b) (CH m)=m:=by
 unfold CH;rw[Ew];have h0:=Ah1 (m:=m) h.lp h.lf h.ll b.B0.length 0 ω
 simp only[List.take_zero,a0_,Nat.sub_zero]at h0;rw[h.lp];rw[show Gt b=⟨S b.B0.length 0,S b.B0.length A,S b.B0.length A,[]⟩from rfl,h0,Ah2 _ _ (by show Bp ([]++m.A0);exact h.so)]
 rfl
def WA(on:Bool):0≤Tp on∧Tp on≤1:=by cases on<;>exact⟨by decide,by decide⟩
def Sj(h:ImgOK b m):∀r∈CH m,Ay b r=C:=by
 have hcode:=h.code;intro r hr;unfold CH at hr;rcases q_.1 hr with hr | hr
 ·obtain⟨i,hi,hr⟩:=c6_.1 hr
  have hi':i<m.D0.length:=by
   have:=List.mem_range'_1.1 hi
   omega
  have hp:=h.ph _ (CB 0 hi');have hlp:=h.lp
  have hcar:∀k v:Int,Tb b ⟨k,0,0,i,v⟩=C:=λk v=>by
   unfold Tb;rw[Am.2 ⟨show(0:Int)≤(i:Int)by omega,show(i:Int)≤(b.B0.length:Int)-1 by omega⟩];rfl
  unfold Nz at hr;simp only[y_,List.not_mem_nil,or_false]at hr;rcases hr with rfl | rfl | rfl
  ·unfold Ay
   rw[hcode,hcar,Am.2 hp];rfl
  ·unfold Ay
   rw[hcode,hcar,Am.2 (WA _)];rfl
  ·unfold Ay
   rw[hcode,hcar,Am.2 (WA _)];rfl
 ·obtain⟨e,he,hr⟩:=c6_.1 hr
  obtain⟨h1,h2,h3⟩:=FC.1 (h.en e he);unfold NA at hr;simp only[y_,List.not_mem_nil,or_false]at hr;rcases hr with rfl | rfl | rfl
  ·unfold Ay
   rw[hcode,h1];rfl
  ·unfold Ay
   rw[hcode,h1,Am.2 ⟨h2.1,show e.S0≤(b.B0.length:Int)-1 by omega⟩];rfl
  ·unfold Ay
   rw[hcode,h1,Am.2 (WA _),Am.2 h3];rfl
def UR(floor:Int):Int:=E.wrap (1*2^min (aA floor) (IntKind.bits .u32))
def JL(floor dir:Int):Int×Int:=
 bif inR 0 31 floor then(bif dir==1 then(UR floor,0)else bif dir==2 then(0,UR floor)else(0,0))else(0,0)
def orC(a c:Int):Int:=vb (bv a|||bv c)
def Bci(a c:Int):Int:=vb (bv a&&& ~~~ bv c)
def FQ(a c:Int×Int):Int×Int:=(orC a.1 c.1,orC a.2 c.2)
def Cm(a c:Int×Int):Int×Int:=(Bci a.1 c.1,Bci a.2 c.2)
def BQ(c:Int×Int)(f:Nat)(d:Int):Bool:=bif d==1 then DX c.1 f else bif d==2 then DX c.2 f else A
def Kx(c:Int×Int):Prop:=(0≤c.1∧c.1<4294967296)∧(0≤c.2∧c.2<4294967296)
def Azu(a c:Int×Int):Kx (FQ a c):=⟨Ky _,Ky _⟩
def Ayt(a c:Int×Int):Kx (Cm a c):=⟨Ky _,Ky _⟩
def TJ:Kx (0,0):=⟨⟨by decide,by decide⟩,⟨by decide,by decide⟩⟩
def Xm(i:Nat):DX 0 i=A:=by
 unfold DX bv;simp
def TU(f:Nat)(d:Int):BQ (0,0) f d=A:=by
 unfold BQ;simp only[Xm];cases d==1<;>cases d==2<;>rfl
def Aqw(a c:Int×Int)(f:Nat)(d:Int):BQ (FQ a c) f d=(BQ a f d||BQ c f d):=by
 unfold BQ FQ orC;simp only[SX,aF];cases d==1<;>cases d==2<;>rfl
def Ab0(a c:Int×Int)(hf:f<32)(d:Int):BQ (Cm a c) f d=(BQ a f d&&!BQ c f d):=by
 unfold BQ Cm Bci;simp only[SX,f8_,BitVec.getLsbD_not,hf,decide_true,o_];cases d==1<;>cases d==2<;>rfl
def Aj8{F D:Int}(hF:0≤F∧F<32)(hD:D=1∨D=2)(f:Nat)(hd:d=1∨d=2):BQ (JL F D) f d=decide (((f:Int),d)=(F,D)):=by
 have hp:DX (UR F) f=decide (f=F.toNat):=Ao1 (k:=F.toNat) ω f
 have e:decide (((f:Int),d)=(F,D))=(decide (f=F.toNat)&&decide (d=D)):=by
  rw[Bool.eq_iff_iff,f_,A_,A_,A_,Prod.mk.injEq];constructor
  ·rintro⟨h1,h2⟩;exact⟨ω,h2⟩
  ·rintro⟨h1,h2⟩;exact⟨ω,h2⟩
 rw[e];unfold JL BQ;rw[Am.2 ⟨hF.1,show F≤31 by omega⟩]
 rcases hD with rfl | rfl<;>rcases hd with rfl | rfl
 ·simp[hp]
 ·simp[Xm]
 ·simp[Xm]
 ·simp[hp]
def Agk{a:Int×Int}(ha:Kx a)(hc:Kx c)(h:∀f:Nat,f<32→∀d:Int,(d=1∨d=2)→BQ a f d=BQ c f d):a=c:=by
 have h1:a.1=c.1:=Ao0 ha.1 hc.1 λi hi=>h i hi 1 (.inl rfl)
 have h2:a.2=c.2:=Ao0 ha.2 hc.2 λi hi=>h i hi 2 (.inr rfl)
 exact Prod.ext h1 h2
def Bfu(e:O):Prop:=(0≤e.E0∧e.E0<32)∧(e.J0=1∨e.J0=2)
def ofC:List O→Int×Int→Int×Int
 |[],c=>c
 |e::t,c=>ofC t (FQ c (JL e.E0 e.J0))
def MT(c:Int×Int)(f:Nat):List O:=(bif BQ c f 1 then [⟨(f:Int),1,-1,0,A⟩]else [])++(bif BQ c f 2 then [⟨(f:Int),2,-1,0,A⟩]else [])
def Acf(c:Int×Int)(f:Nat):(MT c f).length≤2:=by
 unfold MT;cases BQ c f 1<;>cases BQ c f 2<;>simp
def Hi(c:Int×Int):List O:=(J 0 32).flatMap (MT c)
def Adh:p∈(MT c f).map HD↔p.1=(f:Int)∧(p.2=1∨p.2=2)∧BQ c f p.2=C:=by
 obtain⟨a,d⟩:=p;unfold MT;rw[List.map_append,q_]
 have h:∀D:Int,(a,d)∈(bif BQ c f D then [Entry.mk (f:Int) D (-1) 0 A]else []).map HD↔a=(f:Int)∧d=D∧BQ c f D=C:=λD=>by
  cases BQ c f D<;>simp[HD]
 rw[h,h];constructor
 ·rintro(⟨h1,rfl,h3⟩ | ⟨h1,rfl,h3⟩)
  ·exact⟨h1,.inl rfl,h3⟩
  ·exact⟨h1,.inr rfl,h3⟩
 ·rintro⟨h1,h2,h3⟩
  simp only at h1 h2 h3;rcases h2 with rfl | rfl
  ·exact .inl ⟨h1,rfl,h3⟩
  ·exact .inr ⟨h1,rfl,h3⟩
def mem_range{i:Nat}:p∈((J i k).flatMap (MT c)).map HD↔∃f:Nat,(i≤f∧f<i+k)∧p.1=(f:Int)∧(p.2=1∨p.2=2)∧BQ c f p.2=C:=by
 constructor
 ·intro h
  obtain⟨e,he,rfl⟩:=c1_.1 h;obtain⟨f,hf,he⟩:=c6_.1 he;exact⟨f,List.mem_range'_1.1 hf,Adh.1 (c1_.2 ⟨e,he,rfl⟩)⟩
 ·rintro⟨f,hf,h⟩
  obtain⟨e,he,h2⟩:=c1_.1 (Adh.2 h);exact c1_.2 ⟨e,c6_.2 ⟨f,List.mem_range'_1.2 hf,he⟩,h2⟩
def JI(floor dir:Int):DR floor dir=B (((),()),(((JL floor dir).1,(JL floor dir).2,()),())):=by
 unfold DR JL inR;by_cases g:0≤floor
 ·by_cases g':floor<32
  ·rw[b_ g,b_ g',b_ (ω:floor≤31)]
   simp only[d_,a_,S_,b_ g];cases dir==1<;>cases dir==2<;>rfl
  ·rw[b_ g,e_ g',e_ (ω:¬floor≤31)];rfl
 ·rw[e_ g];rfl
def Gl(a c:Int×Int):CI a.1 a.2 c.1 c.2=B (((),()),(((FQ a c).1,(FQ a c).2,()),())):=by
 unfold CI;rw[At0,At0];rfl
def PT(a c:Int×Int):HV a.1 a.2 c.1 c.2=B (((),()),(((Cm a c).1,(Cm a c).2,()),())):=by
 unfold HV;rw[NR,NR];rfl
def EA(a c:Int×Int):Int×Int:=(vb (bv a.1&&&bv c.1),vb (bv a.2&&&bv c.2))
def Akb(a c:Int×Int):Kx (EA a c):=⟨Ky _,Ky _⟩
def KM(a c:Int×Int):DI a.1 a.2 c.1 c.2=B (((),()),(((EA a c).1,(EA a c).2,()),())):=by
 unfold DI;rw[YY,YY];rfl
def TT(a c:Int×Int)(f:Nat)(d:Int):BQ (EA a c) f d=(BQ a f d&&BQ c f d):=by
 unfold BQ EA;simp only[SX,f8_];cases d==1<;>cases d==2<;>rfl
def isZ(c:Int×Int):Bool:=(c.1==0)&&((c.2==0)&&C)
def Aff(hc:Kx c):isZ c=C↔∀f:Nat,f<32→∀d:Int,(d=1∨d=2)→BQ c f d=A:=by
 constructor
 ·intro h f _ d _
  unfold isZ at h;simp only[f_,Z_]at h;obtain⟨h1,h2,_⟩:=h;rw[show c=(0,0)from Prod.ext h1 h2,TU]
 ·intro h
  have:c=(0,0):=Agk hc TJ λf hf d hd=>by rw[h f hf d hd,TU]
  rw[this];rfl
def Ph(c:Int×Int){F D:Int}(hF:0≤F∧F<32)(hD:D=1∨D=2):Df c.1 c.2 F D=B ((BQ c F.toNat D,()),()):=by
 unfold Df;rw[JI];simp only[a_];rw[KM c (JL F D)];simp only[a_];show B ((!(isZ (EA c (JL F D))),()),())=_
 have e:isZ (EA c (JL F D))=!BQ c F.toNat D:=by
  cases h:BQ c F.toNat D with
  |false=>
   refine(Aff (Akb _ _)).2 λf hf d hd=>?_
   rw[TT,Aj8 hF hD f hd];by_cases g:((f:Int),d)=(F,D)
   ·obtain⟨h1,h2⟩:=Prod.mk.inj g
    rw[show f=F.toNat by omega,h2,h];rfl
   ·rw[e_ g,b7_]
  |true=>
   cases hz:isZ (EA c (JL F D))with
   |false=>rfl
   |true=>
    have:=(Aff (Akb _ _)).1 hz F.toNat ω D hD
    rw[TT,Aj8 hF hD F.toNat hD,h,b_ (show(((F.toNat:Nat):Int),D)=(F,D)by rw[f4_ hF.1])]at this
    cases this
 rw[e,Bool.not_not]
def Bv(b:Bldg):Int×Int:=(H E (H E (1*2^min (aA (b.C0-1)) (IntKind.bits .u32))-1),E.wrap (H E (H E (1*2^min (aA (b.C0-1)) (IntKind.bits .u32))-1)*2^min (aA (1:Int)) (IntKind.bits .u32)))
def Km(hb:b.small)(hcode:b.code=0):EX b.C0 b.F0 b.I0 b.N0 b.K0 b.M0 b.O0 b.B0=B (((),()),(((Bv b).1,(Bv b).2,()),())):=by
 have lo:=hb.lo;have hi:=hb.hi;unfold EX Bv;rw[Be,hcode];simp only[a_,N_,c_,Ac (n:=b.C0-1) ω ω,b_ (ω:0≤b.C0-1),d_]
def Aje(n:Nat):Int:=E.wrap (H E (1*2^min n (IntKind.bits .u32))-1)
def Bbv:((List.range 9).all λn=>(List.range 32).all λi=>(DX (Aje n) i==decide (i<n))&&(DX (H E (Aje n*2^min (aA 1) (IntKind.bits .u32))) i==(decide (1≤i)&&decide (i≤n))))=C:=κ
def Bbw(b:Bldg):Kx (Bv b):=by
 have k:∀n:Int,0≤E.wrap n∧E.wrap n<4294967296:=λn=>by
  simp only[H,IntKind.signed,IntKind.bits];simp;omega
 exact⟨k _,k _⟩
def Wo(hb:b.small)(hcode:b.code=0)(hf:f<32)(hd:d=1∨d=2):BQ (Bv b) f d=Aj b (f:Int) d:=by
 have lo:=hb.lo;have hi:=hb.hi;have t:=F_.1 (F_.1 Bbv (b.C0-1).toNat (List.mem_range.2 ω)) f (List.mem_range.2 hf)
 rw[f_,Z_,Z_]at t;unfold Aj Pg;rw[hcode];rcases hd with rfl | rfl
 ·have e:BQ (Bv b) f 1=DX (Aje (b.C0-1).toNat) f:=rfl
  rw[e,t.1];unfold inR;rw[b_ (ω:(0:Int)≤(f:Int))]
  by_cases g:f<(b.C0-1).toNat
  ·rw[b_ g,b_ (ω:(f:Int)≤b.C0-2)];rfl
  ·rw[e_ g,e_ (ω:¬(f:Int)≤b.C0-2)];rfl
 ·have e:BQ (Bv b) f 2=DX (H E (Aje (b.C0-1).toNat*2^min (aA 1) (IntKind.bits .u32))) f:=rfl
  rw[e,t.2];unfold inR;by_cases g:1≤f
  ·rw[b_ g,b_ (ω:(1:Int)≤(f:Int))]
   by_cases g':f≤(b.C0-1).toNat
   ·rw[b_ g',b_ (ω:(f:Int)≤b.C0-1)];rfl
   ·rw[e_ g',e_ (ω:¬(f:Int)≤b.C0-1)];rfl
  ·rw[e_ g,e_ (ω:¬(1:Int)≤(f:Int))];rfl
def Wn(b:Bldg)(i:Nat)(s:Int×Int):Int×Int:=(bif Aj b (i:Int) 1 then orC s.1 (UR (i:Int))else s.1,bif Aj b (i:Int) 2 then orC s.2 (UR (i:Int))else s.2)
def An9(hb:b.small)(hcode:b.code=0):RI b.C0 b.F0 b.I0 b.N0 b.K0 b.M0 b.O0 b.B0=B (((),()),(((Bv b).1,(Bv b).2,()),())):=by
 have h:=AR (step:=λx=>letI a:=x.2.1.2.2;letI c:=a.2.2;Jz x.1.2.2.2.1 x.2.1.1 x.2.1.2.1 a.1 a.2.1 c.1 c.2.1 c.2.2.1 c.2.2.2.1 x.2.2.1.1 x.2.2.1.2.1 x.2.2.2.1.1 x.2.2.2.1.2.1) 32 (λi (s:Int×Int)=>(((),(),(),(i:Int),()),(b.tup,((0:Int),(0:Int),()),(s.1,s.2,()),()))) (Wn b)
  (λi s=>Kx s∧∀f:Nat,f<32→∀d:Int,(d=1∨d=2)→BQ s f d=(decide (f<i)&&Aj b (f:Int) d)) (λs=>(((),(),()),(((0:Int),(0:Int),()),(s.1,s.2,()),()))) (λi s hi hs=>by
  have w:IntKind.u64.wrap (i:Int)=(i:Int):=Eg ω ω
  have hp:∀j,DX (UR (i:Int)) j=decide (j=i):=λj=>Ao1 (k:=i) hi j
  refine⟨?_,⟨?_,?_⟩,λf hf d hd=>?_⟩
  ·show Jz (i:Int) b.C0 b.F0 b.I0 b.N0 b.K0 b.M0 b.O0 b.B0 0 0 s.1 s.2=_
   unfold Jz Wn;rw[KP hb,b_ (ω:(i:Int)<32)]
   simp only[a_,d_,w,b_ (ω:(0:Int)≤(i:Int)),At0]
   cases Aj b (i:Int) 1 with
   |true=>
    simp only[d_,a_,KP hb,w,b_ (ω:(0:Int)≤(i:Int)),Ac (n:=(i:Int)+1) ω ω]
    cases Aj b (i:Int) 2<;>rfl
   |false=>
    simp only[c_,a_,KP hb,w,b_ (ω:(0:Int)≤(i:Int)),d_,Ac (n:=(i:Int)+1) ω ω]
    cases Aj b (i:Int) 2<;>rfl
  ·unfold Wn
   cases Aj b (i:Int) 1
   ·exact hs.1.1
   ·exact Ky _
  ·unfold Wn
   cases Aj b (i:Int) 2
   ·exact hs.1.2
   ·exact Ky _
  ·have hk:=hs.2 f hf d hd
   have dk:decide (f<i+1)=(decide (f<i)||decide (f=i)):=by
    rw[Bool.eq_iff_iff,b4_,A_,A_,A_];omega
   rw[dk];rcases hd with rfl | rfl
   ·have e:BQ (Wn b i s) f 1=DX (bif Aj b (i:Int) 1 then orC s.1 (UR (i:Int))else s.1) f:=rfl
    have hk':DX s.1 f=_:=hk;rw[e];cases hc:Aj b (i:Int) 1 with
    |true=>
     rw[d_];unfold orC;rw[SX,aF];show(DX s.1 f||DX (UR (i:Int)) f)=_
     rw[hk',hp];by_cases g:f=i
     ·subst g;rw[hc];simp
     ·rw[e_ g];simp
    |false=>
     rw[c_,hk'];by_cases g:f=i
     ·subst g;rw[hc];simp
     ·rw[e_ g];simp
   ·have e:BQ (Wn b i s) f 2=DX (bif Aj b (i:Int) 2 then orC s.2 (UR (i:Int))else s.2) f:=rfl
    have hk':DX s.2 f=_:=hk;rw[e];cases hc:Aj b (i:Int) 2 with
    |true=>
     rw[d_];unfold orC;rw[SX,aF];show(DX s.2 f||DX (UR (i:Int)) f)=_
     rw[hk',hp];by_cases g:f=i
     ·subst g;rw[hc];simp
     ·rw[e_ g];simp
    |false=>
     rw[c_,hk'];by_cases g:f=i
     ·subst g;rw[hc];simp
     ·rw[e_ g];simp) (λs _=>by
  show Jz 32 b.C0 b.F0 b.I0 b.N0 b.K0 b.M0 b.O0 b.B0 0 0 s.1 s.2=_;unfold Jz;rw[show decide ((32:Int)<32)=A from rfl];rfl) 32 0 (0,0) ω ⟨TJ,λf _ d _=>by rw[TU];simp⟩
 have h':=Ah h.1 ω
 have hall:BC (Wn b) 32 0 (0,0)=Bv b:=Agk h.2.1 (Bbw b) λf hf d hd=>by
  rw[h.2.2 f hf d hd,Wo hb hcode hf hd,b_ hf,o_]
 rw[hall]at h';unfold RI;simp only[Bldg.tup]at h';rw[show OD (((),(),(),(0:Int),()),((b.C0,b.F0,b.I0,b.N0,b.K0,b.M0,b.O0,b.B0,()),((0:Int),(0:Int),()),((0:Int),(0:Int),()),()))=_ from h']
 rfl
def Dw(b:Bldg)(v:View):Int×Int:=bif v.B3 then EA (v.F3,v.V2) (Bv b)else(0,0)
def RB(hb:b.small)(hcode:b.code=0)(v:View):Hv b.C0 b.F0 b.I0 b.N0 b.K0 b.M0 b.O0 b.B0 v.J3 v.B3 v.C3 v.U3 v.E0 v.J0 v.D3 v.F3 v.V2 v.R2 v.Y1 v.Q1=B (((),()),(((Dw b v).1,(Dw b v).2,()),())):=by
 unfold Hv Dw;cases v.B3 with
 |false=>rfl
 |true=>
  rw[Km hb hcode];simp only[m_,c_,a_,d_];rw[KM (v.F3,v.V2) (Bv b)];rfl
def Ab5{c:Int×Int}(h:Int→Int→Option ((Bool×Unit)×Unit))(hh:∀f:Nat,f<32→∀d:Int,(d=1∨d=2)→h (f:Int) d=B ((BQ c f d,()),())):∀k i:Nat,i+k≤32→VP h (λf d=>Entry.mk f d (-1) 0 A) ((J i k).flatMap λf:Nat=>[((f:Int),1),((f:Int),2)])=B ((J i k).flatMap (MT c))
 |0,_,_=>rfl
 |k+1,i,hk=>by
  rw[e8_,a1_,a1_];show VP h _ (((i:Int),1)::((i:Int),2)::((J (i+1) k).flatMap λf:Nat=>[((f:Int),1),((f:Int),2)]))=_
  simp only[VP];rw[hh i ω 1 (.inl rfl),hh i ω 2 (.inr rfl),Ab5 h hh k (i+1) ω]
  unfold MT;cases BQ c i 1<;>cases BQ c i 2<;>rfl
def WR(c:Int×Int):LD c.1 c.2=B ((Hi c,()),()):=by
 unfold LD Alu
 have e:pairs64=(J 0 32).flatMap λf:Nat=>[((f:Int),1),((f:Int),2)]:=by
  unfold pairs64;rw[List.range_eq_range']
 have h:=Ab5 (c:=c) (λf d=>Df c.1 c.2 f d) (λf hf d hd=>by
  have h:=Ph c (F:=(f:Int)) (D:=d) ⟨ω,ω⟩ hd
  rw[j_]at h;exact h) 32 0 ω
 rw[e,h];rfl
def bl(s:ByteArray):List UInt8:=s.data.toList
def Pe{a c:ByteArray}(h:bl a=bl c):a=c:=by
 apply ByteArray.ext;unfold bl at h;exact Array.toList_inj.1 h
def KL(a c:ByteArray):bl (a++c)=bl a++bl c:=by simp[bl]
def SY(a:ByteArray)(i j:Nat):bl (a.extract i j)=((bl a).drop i).take (j-i):=by simp[bl]
def GD(a:ByteArray):(bl a).length=a.size:=by simp[bl]
def Bq7(l:List UInt8):bl ⟨l.toArray⟩=l:=by simp[bl]
def LR(s:ByteArray)(i:Nat):Bo s i=(((bl s).getD i 0).toNat:Int):=by
 unfold Bo bl;simp[u_,l_]
def PB(r:Nat):Nat:=if 128≤r then(r*2%256)^^^7 else r*2%256
def it8:Nat→Nat→Nat
 |0,r=>r
 |k+1,r=>it8 k (PB r)
def TW(r x:Nat):Nat:=it8 8 (r^^^x)
def Sl(l:List UInt8):Nat:=l.foldl (λr x=>TW r x.toNat) 0
def Abd(_h:r<256):PB r<256:=by
 unfold PB;split
 ·exact d3_ (n:=8) ω (by decide)
 ·omega
def Ax9:∀(k:Nat) {r:Nat},r<256→it8 k r<256
 |0,_,h=>h
 |k+1,_,h=>Ax9 k (Abd h)
def ZW{x:Nat}(h:r<256)(h':x<256):TW r x<256:=Ax9 8 (d3_ (n:=8) h h')
def Bhn(l:List UInt8):∀r:Nat,r<256→l.foldl (λr x=>TW r x.toNat) r<256:=by
 induction l with
 |nil=>exact λr h=>h
 |cons x t ih=>
  intro r h;rw[List.foldl_cons];have hx:x.toNat<256:=UInt8.toNat_lt x;exact ih _ (ZW h hx)
def Aqc(l:List UInt8):Sl l<256:=Bhn l 0 ω
def Qh{n:Int}(h:0≤n)(h':n<256):aC.wrap n=n:=by
 simp only[H,IntKind.signed,IntKind.bits];simp;omega
def Bqa{a c:Nat}(ha:a<256)(hc:c<256):aC.wrap (stk (a:Int) (c:Int) (aB ((N (IntKind.bits .u8) (a:Int))^^^(N (IntKind.bits .u8) (c:Int)))))=((a^^^c:Nat):Int):=by
 have h:=d3_ (n:=8) ha hc;rw[JP,BitVec.toNat_xor,W_,W_];rw[show(((a:Int))%((2^IntKind.bits .u8:Nat):Int)).toNat=a by simp only[IntKind.bits];omega,show(((c:Int))%((2^IntKind.bits .u8:Nat):Int)).toNat=c by simp only[IntKind.bits];omega]
 exact Qh ω ω
def Bgg{a c:Nat}(ha:a<256)(hc:c<256):aE.wrap (stk (a:Int) (c:Int) (aB ((N (IntKind.bits .i64) (a:Int))^^^(N (IntKind.bits .i64) (c:Int)))))=((a^^^c:Nat):Int):=by
 have h:=d3_ (n:=8) ha hc;rw[JP,BitVec.toNat_xor,W_,W_];rw[show(((a:Int))%((2^IntKind.bits .i64:Nat):Int)).toNat=a by simp only[IntKind.bits];omega,show(((c:Int))%((2^IntKind.bits .i64:Nat):Int)).toNat=c by simp only[IntKind.bits];omega]
 exact Ac ω ω
def Asg:∀(k i r:Nat),BC (λ_ r=>PB r) k i r=it8 k r
 |0,_,_=>rfl
 |k+1,i,r=>Asg k (i+1) (PB r)
def Axu(s:ByteArray)(s7 s8:Int)(hr:r<256)(hk:k<8):OV s (r:Int) s7 s8 (k:Int)=B (Sum.inl ((s,((PB r:Nat):Int),s7,s8,((k+1:Nat):Int),()),())):=by
 unfold OV;have w:aE.wrap ((k:Int)+1)=((k+1:Nat):Int):=by rw[Ac ω ω];omega
 have h0:aC.wrap ((r:Int)*((2:Int)^(Min.min (aA (1:Int)) (IntKind.bits aC))))=((r*2%256:Nat):Int):=by
  rw[show((2:Int)^(Min.min (aA (1:Int)) (IntKind.bits aC)))=2 from rfl]
  simp only[H,IntKind.signed,IntKind.bits];simp
 have h1:aC.wrap ((Int.fdiv (r:Int) ((2:Int)^(Min.min (aA (7:Int)) (IntKind.bits aC))))*(7:Int))=(((if 128≤r then 7 else 0):Nat):Int):=by
  rw[show((2:Int)^(Min.min (aA (7:Int)) (IntKind.bits aC)))=128 from rfl,a2_ _ ω]
  split
  ·rw[show(r:Int)/128=1 by omega];rfl
  ·rw[show(r:Int)/128=0 by omega];rfl
 simp only[b_ (ω:(k:Int)<8),d_,h0,h1,w]
 rw[Bqa ω (by split<;>omega)]
 unfold PB;split
 ·rfl
 ·rw[Nat.xor_zero]
def Aza(s:ByteArray)(i:Int)(hr:r<256)(hk:k<8):OX s (r:Int) i (k:Int)=B (Sum.inl ((s,((PB r:Nat):Int),i,((k+1:Nat):Int),()),())):=by
 unfold OX;have w:aE.wrap ((k:Int)+1)=((k+1:Nat):Int):=by rw[Ac ω ω];omega
 have h0:Int.tmod (H aE ((r:Int)*2)) 256=((r*2%256:Nat):Int):=by
  rw[Ac ω ω,e2_ ω];omega
 simp only[b_ (ω:(k:Int)<8),d_,h0,w]
 unfold PB;by_cases h:128≤r
 ·rw[b_ (ω:(128:Int)≤(r:Int)),if_pos h,d_]
  have hx:=Bgg (a:=r*2%256) (c:=7) ω ω
  rw[show((7:Nat):Int)=7 from rfl]at hx
  rw[hx]
 ·rw[e_ (ω:¬(128:Int)≤(r:Int)),if_neg h];rfl
def Axt(s:ByteArray)(s7 s8:Int)(hr:r<256):OC ((s,(r:Int),s7,s8,(0:Int),()),())=B ((s,((it8 8 r:Nat):Int),s7,s8,()),()):=by
 have h:=AR (step:=λx=>OV x.1.1 x.1.2.1 x.1.2.2.1 x.1.2.2.2.1 x.1.2.2.2.2.1) 8 (λk r=>((s,((r:Nat):Int),s7,s8,(k:Int),()),())) (λ_ r=>PB r) (λ_ r=>r<256) (λr=>((s,((r:Nat):Int),s7,s8,()),())) (λk r hk hr=>⟨Axu s s7 s8 hr hk,Abd hr⟩) (λr _=>rfl) 8 0 r rfl hr
 have h':=h.1;rw[Asg]at h';exact Ah h' ω
def Ay9(s:ByteArray)(i:Int)(hr:r<256):OF ((s,(r:Int),i,(0:Int),()),())=B ((s,((it8 8 r:Nat):Int),i,()),()):=by
 have h:=AR (step:=λx=>OX x.1.1 x.1.2.1 x.1.2.2.1 x.1.2.2.2.1) 8 (λk r=>((s,((r:Nat):Int),i,(k:Int),()),())) (λ_ r=>PB r) (λ_ r=>r<256) (λr=>((s,((r:Nat):Int),i,()),())) (λk r hk hr=>⟨Aza s i hr hk,Abd hr⟩) (λr _=>rfl) 8 0 r rfl hr
 have h':=h.1;rw[Asg]at h';exact Ah h' ω
def UM{α β:Type}(f:β→α→β)(d:α):∀(l:List α) (k i:Nat) (s:β),i+k=l.length→BC (λi s=>f s (l.getD i d)) k i s=(l.drop i).foldl f s
 |l,0,i,s,h=>by
  obtain rfl:i=l.length:=ω
  simp[BC]
 |l,k+1,i,s,h=>by
  have hi:i<l.length:=ω
  simp only[BC];rw[UM f d l k (i+1) _ ω,List.drop_eq_getElem_cons hi,List.foldl_cons]
  simp[hi]
def Anv(hs:s.size≤1000000):RG s=B ((((Sl (bl s):Nat):Int),()),()):=by
 have h:=AR (step:=λx=>Jy x.1.1 x.1.2.1 x.1.2.2.1 x.1.2.2.2.1) s.size (λi r=>((s,((r:Nat):Int),(s.size:Int),(i:Int),()),())) (λi r=>TW r ((bl s).getD i 0).toNat) (λ_ r=>r<256) (λr=>((((r:Nat):Int),()),())) (λi r hi hr=>by
  have hx:=UInt8.toNat_lt ((bl s).getD i 0);refine⟨?_,ZW hr hx⟩;show Jy s ((r:Nat):Int) (s.size:Int) (i:Int)=_;have w:aE.wrap ((i:Int)+1)=((i+1:Nat):Int):=by rw[Ac ω ω];omega
  unfold Jy;simp only[b_ (ω:(i:Int)<(s.size:Int)),Aa (ω:(0:Int)≤(i:Int)) (ω:(i:Int)<(s.size:Int)),d_,j_,LR]
  rw[Bqa hr hx,Axt s _ _ (d3_ (n:=8) hr hx),a_,w]
  rfl) (λr _=>by
  show Jy s ((r:Nat):Int) (s.size:Int) (s.size:Int)=_;unfold Jy;simp only[e_ (C_ (s.size:Int)),c_]) s.size 0 0 ω ω
 have h':=Ah h.1 ω
 rw[UM (λr (x:UInt8)=>TW r x.toNat) 0 (bl s) s.size 0 0 (by rw[GD];omega),R_]at h'
 unfold RG;rw[show OB ((s,(0:Int),(s.size:Int),(0:Int),()),())=_ from h']
 rfl
def Aob(hs:s.size≤1000000):On s=B ((((Sl (bl s):Nat):Int),()),()):=by
 have h:=AR (step:=λx=>JA x.1.1 x.1.2.1 x.1.2.2.1) s.size (λi r=>((s,((r:Nat):Int),(i:Int),()),())) (λi r=>TW r ((bl s).getD i 0).toNat) (λ_ r=>r<256) (λr=>((((r:Nat):Int),()),())) (λi r hi hr=>by
  have hx:=UInt8.toNat_lt ((bl s).getD i 0);refine⟨?_,ZW hr hx⟩;show JA s ((r:Nat):Int) (i:Int)=_;have w:aE.wrap ((i:Int)+1)=((i+1:Nat):Int):=by rw[Ac ω ω];omega
  unfold JA;simp only[b_ (ω:(i:Int)<(s.size:Int)),Aa (ω:(0:Int)≤(i:Int)) (ω:(i:Int)<(s.size:Int)),d_,j_,LR,Ac (n:=(((bl s).getD i 0).toNat:Int)) ω ω]
  rw[Bgg hr hx,Ay9 s _ (d3_ (n:=8) hr hx),a_,w]
  rfl) (λr _=>by
  show JA s ((r:Nat):Int) (s.size:Int)=_;unfold JA;simp only[e_ (C_ (s.size:Int)),c_]) s.size 0 0 ω ω
 have h':=Ah h.1 ω
 rw[UM (λr (x:UInt8)=>TW r x.toNat) 0 (bl s) s.size 0 0 (by rw[GD];omega),R_]at h'
 have hl:=Aqc (bl s);unfold On;rw[show OE ((s,(0:Int),(0:Int),()),())=_ from h']
 simp only[a_];rw[show((bl s).foldl (λr (x:UInt8)=>TW r x.toNat) 0)=Sl (bl s)from rfl,Qh ω ω]
end Go.Ovl
