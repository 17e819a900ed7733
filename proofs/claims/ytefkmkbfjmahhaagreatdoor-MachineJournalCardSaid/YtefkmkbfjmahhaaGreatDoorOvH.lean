import Derived.Test.YtefkmkbfjmahhaaGreatDoorOvG
import Derived.Test.YtefkmkbfjmahhaaGreatDoorOvF
set_option linter.all false
open Go.IntKind renaming wrap->A,u64->B,i64->E,u32->U
open Go.Ovl renaming bv->C,byN->H,nmB->I,Ae->R,vb->V,CarInput->W,leV->Z
open Bool renaming false->J,true->O,and_eq_true_iff->aJ
open Int renaming toNat->S,tmod->Y,fdiv->aG,emod_lt_of_pos->aM
open Go.Ovl.Sat renaming ret->X,bifT->aB,bic->aD,bindS->aF
open Option renaming some->aA
open Min renaming min->aC
open Nat renaming blt->aE,ble->aH
open Go.Ovl.CarInput renaming mk->aI
open ByteArray renaming mk->aK,size_extract->aL
namespace Go.Ovl
open Go Go.Ab
set_option maxRecDepth 100000
variable{s:ByteArray}{b:Bldg}{n:Int}{l:List Int}{x:Inp}{k:Nat}
def Ap1(x:Inp)(hx:x.cars.length≤1000)(hs:s.size≤1000):Pr (((),s,(0:Int),()),(x.tup,()))=aA ((x.cars.foldl Ov s,()),()):=by
 have h:=AP (step:=λx=>letI a:=x.2.1.2;MS x.1.2.1 x.1.2.2.1 x.2.1.1 a.1 a.2.1 a.2.2.1 a.2.2.2.1) x.cars.length (λi s=>(((),s,(i:Int),()),(x.tup,()))) (λi s=>Ov s (x.cars.getD i Ud)) (λi s=>s.size≤1000+19*i) (λs=>((s,()),()))
  (λi s hi hs=>by refine⟨?_,by rw[Ah4];omega⟩;show MS s (i:Int) x.press.1 x.press.2 x.kind x.car x.cars=_;unfold MS;rw[show aI 0 J J J J 0 J 0 J 0 0=Ud from rfl];simp only[c_ (ω:(i:Int)<(x.cars.length:Int)),Ac (ω:(0:Int)≤(i:Int)) (ω:(i:Int)<(x.cars.length:Int)),d_,i_,DF (ω:i<1000000000)];generalize x.cars.getD i Ud=c;refine R (EO (A B c.V0) (k:=4) ω) ?_;have e1:=BF (A B c.V0) 4;unfold Ov;generalize I (A B c.V0) 4=a1 at e1⊢;show(bif aH (s.size+a1.size) 4611686018427387904 then _ else _)=_;rw[Ap ω,d_];refine R (Ap3 (l:=[c.Y1,c.K1,c.L1,c.E1,c.D2,c.E2]) (by show 6≤100;omega)) ?_;have e2:=SH [c.Y1,c.K1,c.L1,c.E1,c.D2,c.E2];generalize Wy [c.Y1,c.K1,c.L1,c.E1,c.D2,c.E2]=a2 at e2⊢;show(bif aH ((s++a1).size+a2.size) 4611686018427387904 then _ else _)=_;rw[Ap (by rw[R_];omega),d_];refine R (EO (A B c.M1) (k:=1) ω) ?_;have e3:=BF (A B c.M1) 1;generalize I (A B c.M1) 1=a3 at e3⊢;show(bif aH ((s++a1++a2).size+a3.size) 4611686018427387904 then _ else _)=_;rw[Ap (by simp only[R_];omega),d_];refine R (EO (A B c.T1) (k:=1) ω) ?_;have e4:=BF (A B c.T1) 1;generalize I (A B c.T1) 1=a4 at e4⊢;show(bif aH ((s++a1++a2++a3).size+a4.size) 4611686018427387904 then _ else _)=_;rw[Ap (by simp only[R_];omega),d_];refine R (EO (A B c.V1) (k:=4) ω) ?_;have e5:=BF (A B c.V1) 4;generalize I (A B c.V1) 4=a5 at e5⊢;show(bif aH ((s++a1++a2++a3++a4).size+a5.size) 4611686018427387904 then _ else _)=_;rw[Ap (by simp only[R_];omega),d_];refine R (EO ((c.E3:Nat):Int) (k:=8) ω) ?_;have e6:=BF ((c.E3:Nat):Int) 8;generalize I ((c.E3:Nat):Int) 8=a6 at e6⊢;show(bif aH ((s++a1++a2++a3++a4++a5).size+a6.size) 4611686018427387904 then _ else _)=_;rw[Ap (by simp only[R_];omega)];rfl)
  (λs _=>by show MS s (x.cars.length:Int) x.press.1 x.press.2 x.kind x.car x.cars=_;unfold MS;rw[f_ (J_ _)];rfl) x.cars.length 0 s ω ω
 have h2:Pr (((),s,(0:Int),()),(x.tup,()))=_:=Aj h.1 ω;rw[h2];have e:∀(l:List W) (k i:Nat) (s:ByteArray),i+k=l.length→BL (λi s=>Ov s (l.getD i Ud)) k i s=(l.drop i).foldl Ov s:=by
  intro l k;induction k with
  |zero=>intro i s hi;rw[List.drop_eq_nil_of_le ω];rfl
  |succ k ih=>intro i s hi;rw[BN Ud (ω:i<l.length),e9_];exact ih (i+1) _ ω
 rw[e x.cars x.cars.length 0 s ω,P_]
section
variable{b:Bldg}(hb:b.small)(hcode:b.code=0)
include hb hcode
theorem Ba3(x:Inp)(hx:x.cars.length≤1000):Qq b.D0 b.G0 b.I0 b.M0 b.L0 b.N0 b.O0 b.B0 x.press.1 x.press.2 x.kind x.car x.cars=aA (bif NZ b x then((inV b x,0,()),())else((noB,1,()),())):=by
 have hc:=An hcode;unfold Qq;refine R (Ap2 hb hcode x hx) ?_;show(bif !NZ b x then _ else _)=_;cases NZ b x with
 |false=>rfl
 |true=>
 rw[m_,b_,d_];refine R (EO 165 (k:=1) ω) ?_;refine R (EO (A B (b.B0.length:Int)) (k:=1) ω) ?_;have hh:=Aea b x;unfold inV;have e1:=BF 165 1;have e2:=BF (A B (b.B0.length:Int)) 1;have e3:=Aar x.press;have e4:=BF (A B x.kind) 1;have e5:=BF (A B x.car) 1;have hd:UT b x=I 165 1++I (A B (b.B0.length:Int)) 1++TN x.press++I (A B x.kind) 1++I (A B x.car) 1:=rfl;rw[hd]at hh⊢;generalize I 165 1=a1 at e1 hh⊢;generalize I (A B (b.B0.length:Int)) 1=a2 at e2 hh⊢;show(bif aH (a1.size+a2.size) 4611686018427387904 then _ else _)=_;rw[Ap ω,d_];refine R (An4 x.press) ?_;generalize TN x.press=a3 at e3 hh⊢;show(bif aH ((a1++a2).size+a3.size) 4611686018427387904 then _ else _)=_;rw[Ap (by simp only[R_];omega),d_];refine R (EO (A B x.kind) (k:=1) ω) ?_;generalize I (A B x.kind) 1=a4 at e4 hh⊢;show(bif aH ((a1++a2++a3).size+a4.size) 4611686018427387904 then _ else _)=_;rw[Ap (by simp only[R_];omega),d_];refine R (EO (A B x.car) (k:=1) ω) ?_;generalize I (A B x.car) 1=a5 at e5 hh⊢;show(bif aH ((a1++a2++a3++a4).size+a5.size) 4611686018427387904 then _ else _)=_;rw[Ap (by simp only[R_];omega),d_];refine R (Ap1 x hx (s:=a1++a2++a3++a4++a5) ω) ?_;refine R (Apz (s:=x.cars.foldl Ov (a1++a2++a3++a4++a5)) (by rw[Ad2];omega)) ?_;rfl
end
def HZ(b:Bldg)(s:ByteArray):Int:=bif(s.size:Int) !=14+19*(b.B0.length:Int)then 4 else bif E.wrap (By s 0) !=165 then 30 else bif E.wrap (By s 1) !=(b.B0.length:Int)then 30 else(KO s).2
section
variable{b:Bldg}(hb:b.small)(hcode:b.code=0)
include hb hcode
end
def Ben(h:(KO s).2=0):2≤s.size∧(KO s).1=s.extract 0 (s.size-2):=by
 unfold KO at h⊢;cases q:decide ((s.size:Int)<2)with
 |true=>rw[q]at h;cases h
 |false=>
  rw[q]at h;have q:=H_ q;refine⟨ω,?_⟩;cases q2:eqB (Jz (s.extract 0 (s.size-2))) s with
  |true=>rfl
  |false=>rw[q2]at h;cases h
def Yz(hcode:b.code=0)(s:ByteArray)(hs:s.size≤1000000):Sat (OQ b.D0 b.G0 b.I0 b.M0 b.L0 b.N0 b.O0 b.B0 s (14+19*(b.B0.length:Int)) 165) λy=>match y with
  | .inl z=>z.1.2.1=HZ b s∧HZ b s≠0
  | .inr z=>HZ b s=0∧z.1.2.1=0∧z.2.1=((s.extract 0 (s.size-2)).extract 2 (s.size-2),b.D0,b.G0,b.I0,b.M0,b.L0,b.N0,b.O0,b.B0,()):=by
 have hcc:=An hcode;unfold OQ HZ;refine Sat.bindE (Bk b) (Sat.bifF (show(b.code !=0)=J by rw[hcode];rfl) ?_);refine aD (λq=>X ?_) λq=>?_
 ·rw[q];exact⟨rfl,show(4:Int)≠0 by decide⟩
 rw[q];have hsz:(s.size:Int)=14+19*(b.B0.length:Int):=by simpa using q
 have w:∀i,E.wrap (By s i)=By s i:=λi=>by
  rw[Km]
  have:=RL s i
  unfold H at this;exact Aa ω ω
 rw[w 0];refine aB (Ac ω ω) (aD (λq=>X ?_) λq=>aB (Ac ω ω) (aD (λq2=>X ?_) λq2=>?_))
 ·rw[show(By s 0 !=165)=O from q];exact⟨rfl,show(30:Int)≠0 by decide⟩
 ·rw[show(By s 0 !=165)=J from q,show(A E (By s 1) !=(b.B0.length:Int))=O from q2];exact⟨rfl,show(30:Int)≠0 by decide⟩
 rw[show(By s 0 !=165)=J from q,show(A E (By s 1) !=(b.B0.length:Int))=J from q2];refine Sat.bindE (Api hs) (aD (λq3=>X ⟨rfl,?_⟩) λq3=>?_)
 ·show(KO s).2≠0;simpa using q3
 have q3:(KO s).2=0:=by simpa using q3
 obtain⟨h2,h3⟩:=Ben q3;have hz:(KO s).1.size=s.size-2:=by rw[h3,Abs s ω]
 refine aB (c_ (ω:(2:Int)≤(((KO s).1.size:Nat):Int))) (X ⟨q3,rfl,?_⟩);show((KO s).1.extract 2 (KO s).1.size,_)=_;rw[hz,h3]
def Ber{n:Nat}(h:n<18446744073709551616):orL 0 (n:Int)=(n:Int):=by unfold orL;rw[Kh,BitVec.toNat_or,Z_,Z_];rw[show((0:Int)%((2^IntKind.bits .u64:Nat):Int)).toNat=0 from rfl,Nat.zero_or,show(((n:Nat):Int)%((2^IntKind.bits .u64:Nat):Int)).toNat=n by simp only[IntKind.bits];omega];exact En ω ω
def Bjc(s:ByteArray):Z s 1=((H s 0:Nat):Int):=by have hb:=RL s 0;show orL 0 (A B (A B (By s 0)*1))=_;rw[Km,Int.mul_one];show orL 0 (A B (A B ((H s 0:Nat):Int)))=_;rw[En (n:=((H s 0:Nat):Int)) ω ω,En ω ω];exact Ber ω
def IU(b:Bldg)(hs:1≤s.size){most:Int}(h:((H s 0:Nat):Int)≤most):Bv most s b.D0 b.G0 b.I0 b.M0 b.L0 b.N0 b.O0 b.B0=aA ((((H s 0:Nat):Int),()),((s.extract 1 s.size,b.D0,b.G0,b.I0,b.M0,b.L0,b.N0,b.O0,b.B0,()),())):=by have hb:=RL s 0;unfold Bv;refine R (Mq b (k:=1) τ hs) ?_;simp only[Bjc];rw[Aa (n:=((H s 0:Nat):Int)) ω ω,c_ h];rfl
def XN(hb:b.small)(hs:4≤s.size)(h:C2 b.D0 (A U (Z s 4))):Dw s b.D0 b.G0 b.I0 b.M0 b.L0 b.N0 b.O0 b.B0=aA ((A U (Z s 4),()),((s.extract 4 s.size,b.D0,b.G0,b.I0,b.M0,b.L0,b.N0,b.O0,b.B0,()),())):=by have lo:=hb.lo;have hi:=hb.hi;have hmin:aC (S b.D0) (IntKind.bits U)=S b.D0:=d0_ (by show _≤32;omega);unfold Dw;refine R (Mq b (k:=4) τ hs) ?_;show(bif decide ((0:Int)≤b.D0)then _ else _)=_;rw[c_ (ω:(0:Int)≤b.D0),d_];rw[hmin,Alc.2 h];rfl
section
variable{b:Bldg}(hb:b.small)(hcode:b.code=0)
include hb hcode
theorem Abv{u d:Int}(h1:V (C u&&& ~~~ C (BM b).1)=0)(h2:V (C d&&& ~~~ C (BM b).2)=0):LG b.D0 b.G0 b.I0 b.M0 b.L0 b.N0 b.O0 b.B0 u d=aA ((O,()),()):=by unfold LG;refine R (KI hb hcode) ?_;simp only[KU,h1,h2];rfl
theorem Agt(hs:8≤s.size)(h1:V (C (A U (Z s 4))&&& ~~~ C (BM b).1)=0)(h2:V (C (A U (Z (s.extract 4 s.size) 4))&&& ~~~ C (BM b).2)=0):ED s b.D0 b.G0 b.I0 b.M0 b.L0 b.N0 b.O0 b.B0=aA (((),()),((A U (Z s 4),U.wrap (Z (s.extract 4 s.size) 4),()),((s.extract 4 s.size).extract 4 (s.extract 4 s.size).size,b.D0,b.G0,b.I0,b.M0,b.L0,b.N0,b.O0,b.B0,()),())):=by
 have e:(s.extract 4 s.size).size=s.size-4:=by rw[aL];omega
 unfold ED;refine R (Mq b (k:=4) τ ω) ?_;refine R (Mq b (k:=4) (s:=s.extract 4 s.size) τ (by rw[e];omega)) ?_;exact R (Abv hb hcode h1 h2) rfl
end
def Boi(n:Int)(i:Nat):Bool:=E.wrap (stk (aG n ((2:Int)^(aC i (IntKind.bits E)))) (1:Int) (BitVec.toNat ((BitVec.ofInt (IntKind.bits E) (aG n ((2:Int)^(aC i (IntKind.bits E)))))&&&(BitVec.ofInt (IntKind.bits E) (1:Int)))))==(1:Int)
def flL(n:Int):List Bool:=(List.range 6).map (Boi n)
def Agu(b:Bldg)(hs:1≤s.size)(h:H s 0≤63):EE 6 s b.D0 b.G0 b.I0 b.M0 b.L0 b.N0 b.O0 b.B0=aA ((flL ((H s 0:Nat):Int),()),((s.extract 1 s.size,b.D0,b.G0,b.I0,b.M0,b.L0,b.N0,b.O0,b.B0,()),())):=by
 have h1:=AP (step:=λx=>letI a:=x.2.1.2.2.2;letI c:=a.2.2;CA x.1.1 x.1.2.1 x.1.2.2.1 x.1.2.2.2.1 x.2.1.1 x.2.1.2.1 x.2.1.2.2.1 a.1 a.2.1 c.1 c.2.1 c.2.2.1 c.2.2.2.1) 6 (λi l=>((((H s 0:Nat):Int),l,6,(i:Int),()),((s.extract 1 s.size,b.D0,b.G0,b.I0,b.M0,b.L0,b.N0,b.O0,b.B0,()),()))) (KQ J (λi _=>Boi ((H s 0:Nat):Int) i)) (λ_ l=>l.length=6) (λl=>((l,()),((s.extract 1 s.size,b.D0,b.G0,b.I0,b.M0,b.L0,b.N0,b.O0,b.B0,()),())))
  (λi l hi hl=>by refine⟨?_,by rw[KQ,r_,hl]⟩;show CA ((H s 0:Nat):Int) l 6 (i:Int) (s.extract 1 s.size) b.D0 b.G0 b.I0 b.M0 b.L0 b.N0 b.O0 b.B0=_;unfold CA;simp only[c_ (ω:(i:Int)<6),c_ (ω:(0:Int)≤(i:Int)),Ac (ω:(0:Int)≤(i:Int)) (ω:(i:Int)<(l.length:Int)),d_,i_,DF (ω:i<1000000000)];rfl)
  (λl _=>by show CA ((H s 0:Nat):Int) l 6 6 (s.extract 1 s.size) b.D0 b.G0 b.I0 b.M0 b.L0 b.N0 b.O0 b.B0=_;unfold CA;rw[f_ (J_ (6:Int))];rfl) 6 0 ((List.range 6).map λ_=>J) rfl rfl
 have h2:=Aj h1.1 ω;rw[Qc]at h2;unfold EE;exact R (IU b hs (by show((H s 0:Nat):Int)≤63;omega)) (R h2 rfl)
def XM(hcode:b.code=0):OP b.D0 b.G0 b.I0 b.M0 b.L0 b.N0 b.O0 b.B0=aA ((14+19*(b.B0.length:Int),23+19*(b.B0.length:Int),()),()):=by have hcc:=An hcode;unfold OP;refine R (Bk b) ?_;show(bif b.code !=0 then _ else _)=_;rw[hcode,show((0:Int) !=0)=J from rfl,b_];rw[Aa (n:=19*(b.B0.length:Int)) ω ω,Aa ω ω,Aa ω ω]
def Abu(hcode:b.code=0)(hs:s.size≤1000000)(h:HZ b s≠0):FW b.D0 b.G0 b.I0 b.M0 b.L0 b.N0 b.O0 b.B0 s=aA (((),HZ b s,()),(Inp.none.tup,())):=by
 obtain⟨y,h1,hy⟩:=Yz hcode s hs;unfold FW;refine R (XM hcode) (R h1 ?_);cases y with
 |inl z=>
  show(bif z.1.2.1 !=0 then aA (((),z.1.2.1,()),(Inp.none.tup,()))else none)=_;have hz:(HZ b s !=0)=O:=by simpa using h
  rw[hy.1,hz,d_]
 |inr z=>exact absurd hy.1 h
def tl(k:Nat)(s:ByteArray):ByteArray:=s.extract k s.size
def DY(k:Nat)(s:ByteArray):(tl k s).size=s.size-k:=by unfold tl;rw[aL];omega
structure Ck(b:Bldg)(s:ByteArray):Prop where
 size:19≤s.size
 c1:C2 b.D0 (IntKind.u32.wrap (leV s 4))
 fg:byN (tl 4 s) 0≤63
 fl:((byN (tl 1 (tl 4 s)) 0:Nat):Int)≤b.D0-1
 dr:((byN (tl 1 (tl 1 (tl 4 s))) 0:Nat):Int)≤2
 c2:C2 b.D0 (IntKind.u32.wrap (leV (tl 1 (tl 1 (tl 1 (tl 4 s)))) 4))
def rest(s:ByteArray):ByteArray:=tl 8 (tl 4 (tl 1 (tl 1 (tl 1 (tl 4 s)))))
def As1(s:ByteArray):W:=aI (A U (Z s 4)) ((flL ((H (tl 4 s) 0:Nat):Int)).getD (S (0:Int)) J) ((flL ((H (tl 4 s) 0:Nat):Int)).getD (S (1:Int)) J) ((flL ((H (tl 4 s) 0:Nat):Int)).getD (S (2:Int)) J) ((flL ((H (tl 4 s) 0:Nat):Int)).getD (S (3:Int)) J) ((H (tl 1 (tl 4 s)) 0:Nat):Int) ((flL ((H (tl 4 s) 0:Nat):Int)).getD (S (4:Int)) J) ((H (tl 1 (tl 1 (tl 4 s))) 0:Nat):Int) ((flL ((H (tl 4 s) 0:Nat):Int)).getD (S (5:Int)) J) (A U (Z (tl 1 (tl 1 (tl 1 (tl 4 s)))) 4)) (S (Z (tl 4 (tl 1 (tl 1 (tl 1 (tl 4 s))))) 8))
def Agy(hb:b.small)(h:Ck b s){N i:Nat}(hi:i<N)(hN:N≤8)(u d k c:Int){cs:List W}(hcs:cs.length≤1000)(e:Int):Co (N:Int) (i:Int) u d k c cs e s b.D0 b.G0 b.I0 b.M0 b.L0 b.N0 b.O0 b.B0=aA (.inl (((),(),(),(N:Int),((i+1:Nat):Int),()),((u,d,k,c,cs++[As1 s],()),(e,()),(rest s,b.D0,b.G0,b.I0,b.M0,b.L0,b.N0,b.O0,b.B0,()),()))):=by have lo:=hb.lo;have hi8:=hb.hi;have hz:=h.size;unfold Co;rw[c_ (ω:(i:Int)<(N:Int)),d_];refine R (XN hb ω h.c1) ?_;refine R (Agu b (s:=tl 4 s) (by rw[DY];omega) h.fg) ?_;have hin:∀j:Nat,j<6→inB (j:Int) (flL ((H (tl 4 s) 0:Nat):Int)).length=O:=λj hj=>Ac ω (by rw[show(flL ((H (tl 4 s) 0:Nat):Int)).length=6 by simp[flL]];omega);refine Yg (hin 0 τ) (Yg (hin 1 τ) (Yg (hin 2 τ) (Yg (hin 3 τ) (Yg (hin 4 τ) (Yg (hin 5 τ) ?_)))));refine R (IU b (s:=tl 1 (tl 4 s)) (by rw[DY,DY];omega) (by show _≤E.wrap (b.D0-1);rw[Aa ω ω];exact h.fl)) ?_;refine R (IU b (s:=tl 1 (tl 1 (tl 4 s))) (by rw[DY,DY,DY];omega) h.dr) ?_;refine R (XN hb (s:=tl 1 (tl 1 (tl 1 (tl 4 s)))) (by rw[DY,DY,DY,DY];omega) h.c2) ?_;refine R (Mq b (k:=8) (s:=tl 4 (tl 1 (tl 1 (tl 1 (tl 4 s))))) τ (by rw[DY,DY,DY,DY,DY];omega)) ?_;refine Yg (Ap (by simp only[E_,d6_];omega)) ?_;unfold As1 rest tl;rw[DF (ω:i<1000000000)]
def Ta:Nat→ByteArray→ByteArray
 |0,s=>s
 |n+1,s=>Ta n (rest s)
def UL:Nat→ByteArray→List W
 |0,_=>[]
 |n+1,s=>As1 s::UL n (rest s)
def Ah6:∀(n:Nat) (s:ByteArray),(UL n s).length=n
 |0,_=>rfl
 |n+1,s=>by show(UL n (rest s)).length+1=_;rw[Ah6 n]
def Aax{b:Bldg}(hb:b.small){N:Nat}(hN:N≤8)(u d k c e:Int):∀(m i:Nat) (s:ByteArray) (cs:List W),i+m=N→cs.length=i→(∀j,j<m→Ck b (Ta j s))→BJ (λx=>letI a:=x.2.2.2.1.2.2;letI f:=a.2.2;letI g:=x.2.1.2;Co x.1.2.2.2.1 x.1.2.2.2.2.1 x.2.1.1 g.1 g.2.1 g.2.2.1 g.2.2.2.1 x.2.2.1.1 x.2.2.2.1.1 x.2.2.2.1.2.1 a.1 a.2.1 f.1 f.2.1 f.2.2.1 f.2.2.2.1 f.2.2.2.2.1) (m+1) (((),(),(),(N:Int),(i:Int),()),((u,d,k,c,cs,()),(e,()),(s,b.D0,b.G0,b.I0,b.M0,b.L0,b.N0,b.O0,b.B0,()),()))=aA (((),(),()),((u,d,k,c,cs++UL m s,()),(e,()),(Ta m s,b.D0,b.G0,b.I0,b.M0,b.L0,b.N0,b.O0,b.B0,()),()))
 |0,i,s,cs,hm,_,_=>by refine AA ?_;show Co (N:Int) (i:Int) u d k c cs e s b.D0 b.G0 b.I0 b.M0 b.L0 b.N0 b.O0 b.B0=_;unfold Co;rw[f_ (ω:¬(i:Int)<(N:Int)),b_,show cs++UL 0 s=cs from a0_ cs];rfl
 |m+1,i,s,cs,hm,hl,h=>by have h1:=Agy hb (h 0 ω) (i:=i) (N:=N) ω hN u d k c (cs:=cs) ω e;have h2:=Aax hb hN u d k c e m (i+1) (rest s) (cs++[As1 s]) ω (by rw[h_,D_,hl]) λj hj=>h (j+1) ω;rw[F_,c5_]at h2;exact(Bt h1).trans h2
def Agx(hb:b.small){N:Nat}(hN:N≤8)(h:∀j,j<N→Ck b (Ta j s))(u d k c e:Int):DV (((),(),(),(N:Int),0,()),((u,d,k,c,[],()),(e,()),(s,b.D0,b.G0,b.I0,b.M0,b.L0,b.N0,b.O0,b.B0,()),()))=aA (((),(),()),((u,d,k,c,UL N s,()),(e,()),(Ta N s,b.D0,b.G0,b.I0,b.M0,b.L0,b.N0,b.O0,b.B0,()),())):=Aj (Aax hb hN u d k c e N 0 s [] (p_ _) rfl h) ω
structure Hd(b:Bldg)(s:ByteArray):Prop where
 size:10≤s.size
 u:vb (bv (IntKind.u32.wrap (leV s 4))&&& ~~~ bv (BM b).1)=0
 d:vb (bv (IntKind.u32.wrap (leV (tl 4 s) 4))&&& ~~~ bv (BM b).2)=0
 kind:((byN (tl 4 (tl 4 s)) 0:Nat):Int)≤8
 car:((byN (tl 1 (tl 4 (tl 4 s))) 0:Nat):Int)≤(b.B0.length:Int)-1
 none:byN (tl 4 (tl 4 s)) 0=0→byN (tl 1 (tl 4 (tl 4 s))) 0=0
 cars:∀j,j<b.B0.length→Ck b (Ta j (tl 1 (tl 1 (tl 4 (tl 4 s)))))
def hdP(n:Nat)(s:ByteArray):Inp:=⟨(A U (Z s 4),U.wrap (Z (tl 4 s) 4)),((H (tl 4 (tl 4 s)) 0:Nat):Int),((H (tl 1 (tl 4 (tl 4 s))) 0:Nat):Int),UL n (tl 1 (tl 1 (tl 4 (tl 4 s))))⟩
def Ad6(hb:b.small)(hcode:b.code=0)(h:Hd b s):∃z,Ep s b.D0 b.G0 b.I0 b.M0 b.L0 b.N0 b.O0 b.B0=aA (((),(),()),((hdP b.B0.length s).tup,((0:Int),()),z)):=by
 have hcc:=An hcode;have hz:=h.size;refine⟨((Ta b.B0.length (tl 1 (tl 1 (tl 4 (tl 4 s)))),b.D0,b.G0,b.I0,b.M0,b.L0,b.N0,b.O0,b.B0,()),()),?_⟩;unfold Ep;refine R (Agt hb hcode ω h.u h.d) ?_;refine R (IU b (s:=tl 4 (tl 4 s)) (by rw[DY,DY];omega) h.kind) ?_;refine R (IU b (s:=tl 1 (tl 4 (tl 4 s))) (by rw[DY,DY,DY];omega) (by show _≤E.wrap ((b.B0.length:Int)-1);rw[Aa ω ω];exact h.car)) ?_;refine R (a:=(((),(),(),()),((A U (Z s 4),U.wrap (Z (tl 4 s) 4),((H (tl 4 (tl 4 s)) 0:Nat):Int),((H (tl 1 (tl 4 (tl 4 s))) 0:Nat):Int),([]:List W),()),((0:Int),()),(tl 1 (tl 1 (tl 4 (tl 4 s))),b.D0,b.G0,b.I0,b.M0,b.L0,b.N0,b.O0,b.B0,()),()))) ?_ (R (Agx hb hcc.2 h.cars _ _ _ _ 0) rfl);show(bif((H (tl 4 (tl 4 s)) 0:Nat):Int) !=(0:Int)then(GC O).bind _ else(GC (((H (tl 1 (tl 4 (tl 4 s))) 0:Nat):Int)==0)).bind _)=_;cases q:(((H (tl 4 (tl 4 s)) 0:Nat):Int) !=(0:Int))with
 |true=>rfl
 |false=>
  have q:((H (tl 4 (tl 4 s)) 0:Nat):Int)=0:=by simpa using q
  rw[h.none ω];rfl
def Aaj(hb:b.small)(hcode:b.code=0)(hs:s.size≤1000000)(h:HZ b s=0)(hd:Hd b ((s.extract 0 (s.size-2)).extract 2 (s.size-2))):FW b.D0 b.G0 b.I0 b.M0 b.L0 b.N0 b.O0 b.B0 s=aA (((),(0:Int),()),((hdP b.B0.length ((s.extract 0 (s.size-2)).extract 2 (s.size-2))).tup,())):=by
 obtain⟨y,h1,hy⟩:=Yz hcode s hs;obtain⟨z,h2⟩:=Ad6 hb hcode hd;unfold FW;refine R (XM hcode) (R h1 ?_);cases y with
 |inl z=>exact absurd h hy.2
 |inr w=>obtain⟨_,e1,e2⟩:=hy;show(bif w.1.2.1 !=0 then _ else _)=_;rw[e1];show Option.bind _ _=_;rw[e2];exact R h2 rfl
def Bjj{a c i:Nat}(ha:a<2^i)(hc:c<256)(hi:i+8≤64):orL (a:Int) (A B (A B (c:Int)*((2^i:Nat):Int)))=((a+c*2^i:Nat):Int):=by
 have h1:c*2^i<2^(i+8):=by rw[Nat.pow_add,f6_];exact Nat.mul_lt_mul_of_pos_left hc (Nat.two_pow_pos i)
 have h2:(2:Nat)^(i+8)≤2^64:=Nat.pow_le_pow_right τ hi;have h3:(2:Nat)^i≤2^64:=Nat.pow_le_pow_right τ ω;have h4:(2:Nat)^64=18446744073709551616:=by decide
 have h5:=Nat.or_lt_two_pow (n:=64) (x:=a) (y:=c*2^i) ω ω;have h6:a|||c*2^i=a+c*2^i:=by rw[Nat.or_comm,← Nat.shiftLeft_eq,← Nat.shiftLeft_add_eq_or_of_lt ha,e2_]
 unfold orL;rw[En (n:=(c:Int)) ω ω,show(c:Int)*((2^i:Nat):Int)=((c*2^i:Nat):Int)by rw[Int.natCast_mul],← h6];generalize c*2^i=p at*;rw[En (n:=(p:Int)) ω ω];rw[Kh,BitVec.toNat_or,Z_,Z_];rw[show((a:Int)%((2^IntKind.bits .u64:Nat):Int)).toNat=a by simp only[IntKind.bits];omega,show((p:Int)%((2^IntKind.bits .u64:Nat):Int)).toNat=p by simp only[IntKind.bits];omega];exact En ω ω
def leN(s:ByteArray):Nat→Nat
 |0=>0
 |i+1=>leN s i+H s i*2^(8*i)
def Az9(s:ByteArray):∀i,leN s i<2^(8*i)
 |0=>by show 0<1;decide
 |i+1=>by
  have h:=Az9 s i;have hb:=RL s i;show leN s i+H s i*2^(8*i)<2^(8*i+8);rw[Nat.pow_add]
  have:H s i*2^(8*i)≤255*2^(8*i):=I_ _ ω
  omega
def Ari(s:ByteArray):∀i,i≤8→Z s i=((leN s i:Nat):Int)
 |0,_=>rfl
 |i+1,h=>by show orL (Z s i) (A B (A B (By s i)*((2:Int)^(aC (S (8*(i:Int))) (IntKind.bits B)))))=_;rw[Ari s i ω,Km,show((2:Int)^(aC (S (8*(i:Int))) (IntKind.bits B)))=((2^(8*i):Nat):Int)by rw[show aC (S (8*(i:Int))) (IntKind.bits B)=8*i by show min (S (8*(i:Int))) 64=8*i;omega];norm_cast];exact Bjj (Az9 s i) (RL s i) ω
def Bcn(l:List Int):bl (GW l)=l.map λn=>UInt8.ofNat n.toNat:=by simp[bl,GW]
def Ay9{n:Nat}{i:Nat}(hi:i<k)(hk:k≤8)(r:ByteArray):H (I (n:Int) k++r) i=n/2^(8*i)%256:=by
 have hl:(Aha (n:Int) k).length=k:=by simp[Aha]
 have hg:(Aha (n:Int) k)[i]?=aA ((n/2^(8*i)%256:Nat):Int):=by unfold Aha;rw[b7_,List.getElem?_range hi];show aA (A IntKind.u8 (aG (n:Int) ((2:Int)^(aC (8*i) (IntKind.bits .u64)))))=_;rw[show aC (8*i) (IntKind.bits .u64)=8*i by show min (8*i) 64=8*i;omega,a9_ _ (Int.le_of_lt (Int.pow_pos τ)),show(2:Int)^(8*i)=((2^(8*i):Nat):Int)by norm_cast,← Int.natCast_ediv];simp only[A,IntKind.signed,IntKind.bits];simp
 unfold H I;rw[Lg,Bcn,k_,b9_ (by rw[d1_,hl];exact hi),b7_,hg];show n/2^(8*i)%256%256=_;omega
def Baa{n k:Nat}(hk:k≤8)(r:ByteArray):∀i,i≤k→leN (I (n:Int) k++r) i=n%2^(8*i)
 |0,_=>by show 0=n%1;omega
 |i+1,h=>by show leN _ i+H _ i*2^(8*i)=n%2^(8*i+8);rw[Baa hk r i ω,Ay9 ω hk,Nat.pow_add,Nat.mod_mul,f6_ (2^(8*i))]
def Bab(n:Int)(hk:k≤8)(hn:0≤n)(r:ByteArray):Z (I n k++r) k=((n.toNat%2^(8*k):Nat):Int):=by obtain⟨m,rfl⟩:=e7_ hn;rw[Ari _ _ hk,Baa hk r k (A_ k),i_]
def Mt{a:ByteArray}(h:a.size=k)(r:ByteArray):tl k (a++r)=r:=by subst h;unfold tl;apply PS;rw[PQ,Lg,List.drop_left' (DW a),R_,← DW r];exact a5_ ω
def Bd4(h:0≤n∧n<4294967296)(r:ByteArray):U.wrap (Z (I n 4++r) 4)=n:=by rw[Bab n τ h.1,show n.toNat%2^(8*4)=n.toNat by show n.toNat%4294967296=_;omega,g0_ h.1];simp only[A,IntKind.signed,IntKind.bits];simp;omega
def VU(h:0≤n∧n<256)(r:ByteArray):((H (I n 1++r) 0:Nat):Int)=n:=by obtain⟨m,rfl⟩:=e7_ h.1;rw[Ay9 τ τ];show((m/1%256:Nat):Int)=m;omega
def Of:List W→ByteArray
 |[]=>noB
 |c::l=>I (A B c.V0) 4++(Wy [c.Y1,c.K1,c.L1,c.E1,c.D2,c.E2]++(I (A B c.M1) 1++(I (A B c.T1) 1++(I (A B c.V1) 4++(I ((c.E3:Nat):Int) 8++Of l)))))
def Ajo(c:W)(l:List W):Of (c::l)=I (A B c.V0) 4++(Wy [c.Y1,c.K1,c.L1,c.E1,c.D2,c.E2]++(I (A B c.M1) 1++(I (A B c.T1) 1++(I (A B c.V1) 4++(I ((c.E3:Nat):Int) 8++Of l))))):=rfl
def Bik(s:ByteArray):s++noB=s:=PS (by rw[Lg,show bl noB=[]from rfl,a0_])
def Ad4:∀(l:List W) (s:ByteArray),l.foldl Ov s=s++Of l
 |[],s=>(Bik s).symm
 |c::l,s=>by rw[e9_,Ad4 l,Ajo];unfold Ov;simp only[ByteArray.append_assoc]
def Xj(x:Inp):ByteArray:=I (A B x.press.1) 4++(I (A B x.press.2) 4++(I (A B x.kind) 1++(I (A B x.car) 1++Of x.cars)))
def Ara(b:Bldg)(x:Inp):((inV b x).extract 0 ((inV b x).size-2)).extract 2 ((inV b x).size-2)=Xj x:=by
 have e:x.cars.foldl Ov (UT b x)=(I 165 1++I (A B (b.B0.length:Int)) 1)++Xj x:=by rw[Ad4];unfold UT TN Xj;simp only[ByteArray.append_assoc]
 have h2:(I 165 1++I (A B (b.B0.length:Int)) 1).size=2:=by rw[R_,BF,BF]
 unfold inV;rw[Qm,Nat.add_sub_cancel];generalize x.cars.foldl Ov (UT b x)=t at e;have e1:(Jz t).extract 0 t.size=t:=by unfold Jz;apply PS;rw[PQ,Lg,P_,Nat.sub_zero];exact e8_ (DW t)
 rw[e1,e];exact Mt h2 (Xj x)
def Bbm(n:Int):0≤B.wrap n∧B.wrap n<18446744073709551616:=by simp only[A,IntKind.signed,IntKind.bits];simp;exact⟨Int.emod_nonneg _ τ,aM _ τ⟩
def Bi6(a b c d e f:Bool)(r:ByteArray):H (Wy [a,b,c,d,e,f]++r) 0≤63:=by
 have h:∀n:Int,0≤n∧n<64→H (I n 1++r) 0≤63:=λn h=>by
  have:=VU (n:=n) ω r
  omega
 refine h _ ?_;cases a<;>cases b<;>cases c<;>cases d<;>cases e<;>cases f<;>decide
section
variable{b:Bldg}(hb:b.small)
include hb
theorem Bbk:4≤2^b.D0.toNat∧2^b.D0.toNat≤(256:Nat):=by have lo:=hb.lo;have hi:=hb.hi;have h:b.D0.toNat=2∨b.D0.toNat=3∨b.D0.toNat=4∨b.D0.toNat=5∨b.D0.toNat=6∨b.D0.toNat=7∨b.D0.toNat=8:=ω;rcases h with h | h | h | h | h | h | h<;>rw[h]<;>decide
theorem Arq(h:flV b n=O)(r:ByteArray):C2 b.D0 (A U (Z (I (A B n) 4++r) 4)):=by have h1:C2 b.D0 (A B n):=Alc.1 h;have h2:=Bbk hb;obtain⟨h3,h4⟩:=h1;rw[Bd4 ω];exact⟨h3,h4⟩
theorem Aqj{c:W}(h:Lj b c=O)(l:List W):Ck b (Of (c::l))∧rest (Of (c::l))=Of l:=by
 have lo:=hb.lo;have hi:=hb.hi;unfold Lj at h;simp only[e_]at h;obtain⟨h1,h2,h3,h4⟩:=h;have h3:=Ar.1 h3;have h4:=Ar.1 h4;have u:∀n:Int,0≤n∧n<256→B.wrap n=n:=λn h=>En h.1 ω;rw[Ajo];have t1:=λr=>Mt (BF (A B c.V0) 4) r;have t2:=λr=>Mt (SH [c.Y1,c.K1,c.L1,c.E1,c.D2,c.E2]) r;have t3:=λr=>Mt (BF (A B c.M1) 1) r;have t4:=λr=>Mt (BF (A B c.T1) 1) r;have t5:=λr=>Mt (BF (A B c.V1) 4) r;have t6:=λr=>Mt (BF ((c.E3:Nat):Int) 8) r;refine⟨⟨?_,?_,?_,?_,?_,?_⟩,?_⟩
 ·simp only[R_,BF,SH];omega
 ·exact Arq hb h1 _
 ·rw[t1];exact Bi6 ..
 ·rw[t1,t2,u _ ω,VU ω];exact h3.2
 ·rw[t1,t2,t3,u _ ω,VU ω];exact h4.2
 ·rw[t1,t2,t3,t4];exact Arq hb h2 _
 ·unfold rest;rw[t1,t2,t3,t4,t5,t6]
theorem Ae2:∀(l:List W),(∀c∈l,Lj b c=O)→∀j,j<l.length→Ck b (Ta j (Of l))
 |[],_,_,hj=>absurd hj (Nat.not_lt_zero _)
 |c::l,h,0,_=>(Aqj hb (h c (s_ ..)) l).1
 |c::l,h,j+1,hj=>by show Ck b (Ta j (rest (Of (c::l))));rw[(Aqj hb (h c (s_ ..)) l).2];exact Ae2 l (λa ha=>h a (u_ _ ha)) j (by rw[E_]at hj;omega)
end
def ZZ(n:Int)(r:ByteArray):U.wrap (Z (I (A B n) 4++r) 4)=U.wrap n:=by
 have h:=Bbm n;rw[Bab _ τ h.1];have e:B.wrap n=n%18446744073709551616:=by simp only[A,IntKind.signed,IntKind.bits];simp
 show U.wrap (((A B n).toNat%4294967296:Nat):Int)=_;generalize B.wrap n=m at*;simp only[A,IntKind.signed,IntKind.bits];simp;omega
def Ay8(n:Int):C (A U n)=C n:=by unfold C;apply BitVec.eq_of_toNat_eq;simp only[Z_,A,IntKind.signed,IntKind.bits];simp
def Bj4(hb:b.small)(hcode:b.code=0)(h:NZ b x=O):Hd b (Xj x)∧(hdP b.B0.length (Xj x)).press=(A U x.press.1,U.wrap x.press.2)∧(hdP b.B0.length (Xj x)).kind=x.kind∧(hdP b.B0.length (Xj x)).car=x.car:=by
 have hc:=An hcode;unfold NZ at h;simp only[e_,U_]at h;obtain⟨h1,h2,h3,h4,h5,h6⟩:=h;have h2:=Ar.1 h2;have h3:=Ar.1 h3;have u:∀n:Int,0≤n∧n<256→B.wrap n=n:=λn h=>En h.1 ω;have t1:=λr=>Mt (BF (A B x.press.1) 4) r;have t2:=λr=>Mt (BF (A B x.press.2) 4) r;have t3:=λr=>Mt (BF (A B x.kind) 1) r;have t4:=λr=>Mt (BF (A B x.car) 1) r;have hw:V (C x.press.1&&& ~~~ C (BM b).1)=0∧V (C x.press.2&&& ~~~ C (BM b).2)=0:=by
  unfold Ix isZ at h1;have h1:(AU x.press (BM b)).1=0∧(AU x.press (BM b)).2=0:=by simpa using h1
  exact h1
 have k1:∀r,((H (I (A B x.kind) 1++r) 0:Nat):Int)=x.kind:=λr=>by rw[u _ ω,VU ω]
 have k2:∀r,((H (I (A B x.car) 1++r) 0:Nat):Int)=x.car:=λr=>by rw[u _ ω,VU ω]
 unfold Xj;refine⟨⟨?_,?_,?_,?_,?_,?_,?_⟩,?_,?_,?_⟩
 ·simp only[R_,BF];omega
 ·rw[ZZ,Ay8];exact hw.1
 ·rw[t1,ZZ,Ay8];exact hw.2
 ·rw[t1,t2,k1];exact h2.2
 ·rw[t1,t2,t3,k2];exact h3.2
 ·rw[t1,t2,t3];intro q;have q1:=k1 (I (A B x.car) 1++Of x.cars);have q2:=k2 (Of x.cars);rw[q]at q1
  have:x.car=0:=by rw[← q1]at h4;simpa using h4
  omega
 ·rw[t1,t2,t3,t4];intro j hj;exact Ae2 hb x.cars (λc hc=>M_.1 h6 c hc) j ω
 ·unfold hdP;rw[t1,ZZ,ZZ]
 ·unfold hdP;rw[t1,t2];exact k1 _
 ·unfold hdP;rw[t1,t2,t3];exact k2 _
def Bbz(b:Bldg)(x:Inp):Prop:=NZ b x=O∧Gt x.press
def Bia(v:BitVec 32):0≤V v∧V v<4294967296:=by
 have:=v.isLt
 unfold V;omega
def FrX(b:Bldg)(x:Inp)(s:ByteArray):Prop:=s.size=(inV b x).size∧s.extract 0 (s.size-2)=(inV b x).extract 0 (s.size-2)
def Fr(b:Bldg)(s:ByteArray):Prop:=∃x,Bbz b x∧FrX b x s
def FrX.spoilt(h:FrX b x s)(r:ByteArray)(hr:r.size=1)(hs:1≤s.size):FrX b x (s.extract 0 (s.size-1)++r):=by
 have hz:(s.extract 0 (s.size-1)++r).size=s.size:=by rw[R_,hr,aL];omega
 refine⟨hz.trans h.1,?_⟩;rw[hz,← h.2];apply PS;have hl:=DW s;rw[PQ,PQ,Lg,PQ];simp only[P_,Nat.sub_zero];rw[d3_ (by rw[w_,hl];omega),List.take_take];congr 1;omega
def Ee(b:Bldg):Int:=U.wrap (A U (1*2^min (S (A B b.D0)) (IntKind.bits .u32))-1)
def Aep(hb:b.small):0≤Ee b∧Ee b<2^b.D0.toNat∧2^b.D0.toNat≤(256:Int)∧(∀f:Nat,f<32→Dl (Ee b) f=O→(f:Int)<b.D0)∧(∀f:Nat,f<32→Dl (aG (Ee b) ((2:Int)^(aC (S (1:Int)) (IntKind.bits U)))) f=O→(f:Int)<b.D0-1):=by
 have lo:=hb.lo;have hi:=hb.hi;unfold Ee
 have:b.D0=2∨b.D0=3∨b.D0=4∨b.D0=5∨b.D0=6∨b.D0=7∨b.D0=8:=ω
 rcases this with h | h | h | h | h | h | h<;>rw[h]<;>refine⟨τ,τ,τ,τ,τ⟩
def Bmh(a:Int){c:Int}(hc:0≤c∧c<4294967296):0≤V (C a&&&C c)∧V (C a&&&C c)≤c:=by
 have h2:=Avr hc;unfold V at*;rw[BitVec.toNat_and]
 have:=Nat.and_le_right (n:=(C a).toNat) (m:=(C c).toNat)
 omega
section
variable{b:Bldg}(hb:b.small)(hcode:b.code=0)
include hb in
theorem Bdn(a:Int):flV b (V (C a&&&C (Ee b)))=O:=by
 obtain⟨m0,m1,m2,_⟩:=Aep hb;have h:=Bmh a (c:=Ee b) ω;unfold flV;rw[En ω ω];generalize V (C a&&&C (Ee b))=n at h
 have:n.fdiv (2^b.D0.toNat)=0:=by rw[a9_ _ ω];exact Int.ediv_eq_zero_of_lt h.1 ω
 rw[this];rfl
include hb hcode in
theorem Avs(u d:Int):Ix b (V (C (V (C u&&&C (Ee b)))&&&C (aG (Ee b) ((2:Int)^(aC (S (1:Int)) (IntKind.bits U))))),V (C (V (C d&&&C (Ee b)))&&& ~~~ C 1))=O:=by
 obtain⟨_,_,_,m3,m4⟩:=Aep hb;unfold Ix;rw[Lw (Hs _ _)];intro f hf D hD;rw[CT _ _ hf,Xg hb hcode hf hD];rcases hD with rfl | rfl
 ·cases hq:Az (V (C (V (C u&&&C (Ee b)))&&&C (aG (Ee b) ((2:Int)^(aC (S (1:Int)) (IntKind.bits U))))),V (C (V (C d&&&C (Ee b)))&&& ~~~ C 1)) f 1 with
  |false=>rfl
  |true=>
   have h1:Dl (V (C (V (C u&&&C (Ee b)))&&&C (aG (Ee b) ((2:Int)^(aC (S (1:Int)) (IntKind.bits U)))))) f=O:=hq;rw[TK,f4_,aJ]at h1;have h2:=m4 f hf h1.2;have h5:Ao b (f:Int) 1=O:=by unfold Ao NW;rw[hcode,show inR 0 (b.D0-2) (f:Int)=O from Ar.2 ⟨ω,ω⟩];rfl
   rw[h5];rfl
 ·cases hq:Az (V (C (V (C u&&&C (Ee b)))&&&C (aG (Ee b) ((2:Int)^(aC (S (1:Int)) (IntKind.bits U))))),V (C (V (C d&&&C (Ee b)))&&& ~~~ C 1)) f 2 with
  |false=>rfl
  |true=>
   have h1:Dl (V (C (V (C d&&&C (Ee b)))&&& ~~~ C 1)) f=O:=hq;rw[TK,f4_,Asw,f4_,BitVec.getLsbD_not,aJ,aJ,aJ]at h1;have h2:=m3 f hf h1.1.2;have h3:f≠0:=λh=>by subst h;exact absurd h1.2.2 τ
   have h5:Ao b (f:Int) 2=O:=by unfold Ao NW;rw[hcode,show inR 1 (b.D0-1) (f:Int)=O from Ar.2 ⟨ω,ω⟩];rfl
   rw[h5];rfl
end
def DJ{α:Type}{l:List α}{i j:Nat}(d x:α)(h:i≠j):(l.set i x).getD j d=l.getD j d:=by rw[k_,List.getElem?_set_ne h,← k_]
section
variable{b:Bldg}(hb:b.small)(hcode:b.code=0)
include hb hcode
theorem Bbv(u d kd car:Int){cs:List W}(hcs:cs.length=b.B0.length):Sat (JF b.D0 b.G0 b.I0 b.M0 b.L0 b.N0 b.O0 b.B0 u d kd car cs) λy=>∃x:Inp,y=(((),()),(x.tup,()))∧Bbz b x:=by
 have hc:=An hcode;have lo:=hb.lo;have hi:=hb.hi;have hw:=Avs hb hcode u d;unfold JF;refine aB (Afo _) ?_;have z8:B.wrap (b.B0.length:Int)=(b.B0.length:Int):=En ω ω;refine aB (by show(A B (b.B0.length:Int) !=0)=O;rw[z8];exact Gx ω) ?_;have u64n:∀n:Int,0≤B.wrap n∧B.wrap n<18446744073709551616:=λn=>by simp only[A,IntKind.signed,IntKind.bits];simp;exact⟨Int.emod_nonneg _ τ,aM _ τ⟩
 have md:∀(n:Int) (m:Int),0<m→m≤9→0≤E.wrap (Y (A B n) m)∧E.wrap (Y (A B n) m)<m:=λn m h0 h1=>by have h2:=(u64n n).1;rw[c9_ h2];have h3:=Int.emod_nonneg (A B n) (ω:m≠0);have h4:=aM (A B n) h0;rw[Aa ω ω];exact⟨h3,h4⟩
 refine aF (Q:=λy=>∃(k c:Int),y=(((),(),(),Ee b,()),(b.tup,(V (C (V (C u&&&C (Ee b)))&&&C (aG (Ee b) ((2:Int)^(aC (S (1:Int)) (IntKind.bits U))))),V (C (V (C d&&&C (Ee b)))&&& ~~~ C 1),k,c,cs,()),((0:Int),(0:Int),(0:Int),(0:Int),([]:List W),()),()))∧inR 0 8 k=O∧inR 0 ((b.B0.length:Int)-1) c=O∧(k==0&&c !=0)=J) ?_ λy hy=>?_
 ·have hk:=md kd 9 τ τ;have hkr:inR 0 8 (A E (Y (A B kd) 9))=O:=Ar.2 ⟨hk.1,ω⟩;simp only[Vo,KU];refine aD (λh=>X ⟨_,_,rfl,hkr,Ar.2 ⟨e0_ 0,ω⟩,by rw[h];rfl⟩) λh=>X ⟨_,_,rfl,hkr,?_,by rw[h];rfl⟩;have hcr:=md car (b.B0.length:Int) ω ω;rw[z8];exact Ar.2 ⟨hcr.1,ω⟩
 obtain⟨k,c,rfl,hk,hcr,hkc⟩:=hy;have hcap:((decide ((0:Int)≤(b.B0.length:Int))&&decide ((b.B0.length:Int)≤(b.B0.length:Int)))&&decide ((b.B0.length:Int)≤2147483648))=O:=by simp only[c_ (ω:(0:Int)≤(b.B0.length:Int)),c_ (e0_ (b.B0.length:Int)),c_ (ω:(b.B0.length:Int)≤2147483648),S_]
 refine aB hcap ?_;generalize hP:(V (C (V (C u&&&C (Ee b)))&&&C (aG (Ee b) ((2:Int)^(aC (S (1:Int)) (IntKind.bits U))))),V (C (V (C d&&&C (Ee b)))&&& ~~~ C 1))=P at hw;have hP1:=f2_ Prod.fst hP;have hP2:=f2_ Prod.snd hP;simp only at hP1 hP2;rw[hP1,hP2];refine aF (Q:=λy=>∃l:List W,y=(((),(),l,()),((P.1,P.2,k,c,cs,()),((0:Int),(0:Int),(0:Int),(0:Int),([]:List W),()),()))∧l.length=b.B0.length∧∀j,j<b.B0.length→Lj b (l.getD j Ud)=O) ?_ λy hy=>?_
 ·refine Sat.loop (λ(kk:Nat) z=>∃(l:List W) (i:Nat),z=(((),(),(),Ee b,l,(i:Int),()),(b.tup,(P.1,P.2,k,c,cs,()),((0:Int),(0:Int),(0:Int),(0:Int),([]:List W),()),()))∧l.length=b.B0.length∧(∀j,j<i→Lj b (l.getD j Ud)=O)∧i+kk=b.B0.length) (λkk z hz=>?_) b.B0.length ⟨_,0,rfl,?_,λj hj=>absurd hj (Nat.not_lt_zero j),p_ _⟩ ω
  ·obtain⟨l,i,rfl,hl,hj,hkk⟩:=hz;unfold VM;refine aD (λgg=>?_) λgg=>X ⟨l,rfl,hl,?_⟩
   ·have gg:(i:Int)<(l.length:Int):=n_ gg;have hin:i<l.length:=ω;have w:=DF (n:=i) ω;have z7:B.wrap b.D0=b.D0:=En ω ω;refine aB (Ac (ω:(0:Int)≤(i:Int)) gg) ?_;refine aB (by show(A B b.D0 !=0)=O;rw[z7];exact Gx ω) ?_;simp only[Vo,i_];refine X ⟨kk-1,ω,_,i+1,by first | (rw[← w];rfl) | rw[← w],?_,?_,ω⟩
    ·simp only[r_];exact hl
    ·intro j hjj;by_cases he:j=i
     ·subst he;rw[Bx _ _ (by simp only[r_];exact hin),Bx _ _ (by simp only[r_];exact hin),Bx _ _ (by simp only[r_];exact hin),Bx _ _ hin];unfold Lj;have f1:=md (l.getD j (aI 0 J J J J 0 J 0 J 0 0)).M1 b.D0 ω ω;have f2:=md (l.getD j (aI 0 J J J J 0 J 0 J 0 0)).T1 3 τ τ;simp only[Bdn hb,q_];rw[show B.wrap b.tup.1=b.D0 from z7,Ar.2 ⟨f1.1,show _≤b.D0-1 by omega⟩,Ar.2 ⟨f2.1,show _≤(2:Int)by omega⟩];rfl
     ·rw[DJ _ _ (f0_ he),DJ _ _ (f0_ he),DJ _ _ (f0_ he),DJ _ _ (f0_ he)];exact hj j ω
   ·have gg:¬(i:Int)<(l.length:Int):=H_ gg;intro j hjj;exact hj j ω
  ·show(KK (List.replicate (S (b.B0.length:Int)) (aI 0 J J J J 0 J 0 J 0 0)) cs).length=b.B0.length;unfold KK;simp only[h_,w_,Y_,V_,i_];omega
 obtain⟨l,rfl,hl,hall⟩:=hy;refine X ⟨⟨P,k,c,l⟩,rfl,?_,by show Gt P;rw[← hP];exact⟨Bia _,Bia _⟩⟩;unfold NZ;rw[hw,hk,hcr,hkc,show((l.length:Int)==(b.B0.length:Int))=O by rw[hl];exact l_ _];simp only[q_,c1_];refine M_.2 λe he=>?_;obtain⟨j,hj,rfl⟩:=List.getElem_of_mem he
 have:=hall j ω
 rwa [k_,j_ hj]at this
end
def Buk:∀k:Fin 16,(arF .quo .f64 (Aet .f64 ((k.val:Nat):Int)) 4622945017495814144).isSome=O:=by decide
def Bul(h:0≤n∧n<256):Sat (arF .quo .f64 (Aet .f64 (Y n 16)) 4622945017495814144) λ_=>True:=by obtain⟨k,rfl⟩:=e7_ h.1;have e:Y ((k:Nat):Int) 16=((k%16:Nat):Int):=Mu k 16;have h2:=Buk ⟨k%16,f8_ _ τ⟩;rw[e];obtain⟨a,ha⟩:=Option.isSome_iff_exists.1 h2;exact⟨a,ha,trivial⟩
def Ar3(h:∀e∈l,u8r e)(n:Nat):u8r (l.getD n 0):=by
 by_cases hn:n<l.length
 ·exact Amx h hn
 ·rw[k_,List.getElem?_eq_none ω];exact Br4
section
variable{b:Bldg}(hb:b.small)(hcode:b.code=0)
include hb hcode
theorem Bbx{x0 x1 x2 x3 x4 x5:Int}(h:∀e∈[x0,x1,x2,x3,x4,x5],u8r e):Sat (OS b.D0 b.G0 b.I0 b.M0 b.L0 b.N0 b.O0 b.B0 x0 x1 x2 x3 x4 x5) λy=>∃x:Inp,y=(((),()),(x.tup,()))∧Bbz b x:=by
 have hc:=An hcode;unfold OS;refine aF (Q:=λy=>∃u d:Int,y=(((),(),(),(),()),(b.tup,(x0,x1,x2,x3,x4,x5,()),((0:Int),(0:Int),(0:Int),(0:Int),([]:List W),()),(u,d,(0:Int),(0:Int),([]:List W),()),()))) (aD (λ_=>X ⟨_,_,rfl⟩) λ_=>X ⟨_,_,rfl⟩) λy hy=>?_;obtain⟨u,d,rfl⟩:=hy;refine aF (Q:=λy=>∃k c:Int,y=(((),(),(),(),()),(b.tup,(x0,x1,x2,x3,x4,x5,()),((0:Int),(0:Int),(0:Int),(0:Int),([]:List W),()),(u,d,k,c,([]:List W),()),()))) (aD (λ_=>X ⟨_,_,rfl⟩) λ_=>X ⟨_,_,rfl⟩) λy hy=>?_;obtain⟨k,c,rfl⟩:=hy;refine aF (Q:=λy=>∃cs:List W,y=(((),(),(),()),(b.tup,((0:Int),(0:Int),(0:Int),(0:Int),([]:List W),()),(u,d,k,c,cs,()),()))∧cs.length=b.B0.length) ?_ λy hy=>?_
 ·refine Sat.loop (λ(kk:Nat) z=>∃(cs:List W) (i:Nat),z=(((),(),(),(),(i:Int),()),(b.tup,(x0,x1,x2,x3,x4,x5,()),((0:Int),(0:Int),(0:Int),(0:Int),([]:List W),()),(u,d,k,c,cs,()),()))∧cs.length=i∧i+kk=b.B0.length) (λkk z hz=>?_) b.B0.length ⟨[],0,rfl,rfl,p_ _⟩ ω;obtain⟨cs,i,rfl,hcs,hkk⟩:=hz;unfold VP;refine aD (λgg=>?_) λgg=>X ⟨cs,rfl,?_⟩
  ·have gg:(i:Int)<(b.B0.length:Int):=n_ gg;have w:=DF (n:=i) ω;have e3:Y (i:Int) 3=((i%3:Nat):Int):=Mu i 3;have e4:Y (i:Int) 4=((i%4:Nat):Int):=Mu i 4;have w3:E.wrap (3+Y (i:Int) 3)=3+((i%3:Nat):Int):=by rw[e3,Aa ω ω]
   have w4:E.wrap (2+Y (i:Int) 4)=2+((i%4:Nat):Int):=by rw[e4,Aa ω ω]
   refine aB (Ac (ω:0≤E.wrap (3+Y (i:Int) 3)) (ω:E.wrap (3+Y (i:Int) 3)<((6:Nat):Int))) ?_;refine aB (Ac (ω:0≤E.wrap (2+Y (i:Int) 4)) (ω:E.wrap (2+Y (i:Int) 4)<((6:Nat):Int))) ?_;refine aF (Bul (Ar3 h _)) λld _=>aB (Afo _) ?_;refine aF (Q:=λy=>∃(z:Int) (ci:W),y=(((),(),(),(),(i:Int),z,(),()),(b.tup,(x0,x1,x2,x3,x4,x5,()),((0:Int),(0:Int),(0:Int),(0:Int),([]:List W),()),(u,d,k,c,cs,()),(ci.V0,ci.Y1,ci.K1,ci.L1,ci.E1,ci.M1,ci.D2,ci.T1,ci.E2,ci.V1,ci.E3,()),()))) ?_ λy hy=>?_
   ·refine aD (λ_=>X ⟨_,aI _ _ _ _ _ _ _ _ _ _ _,rfl⟩) λ_=>X ⟨_,aI _ _ _ _ _ _ _ _ _ _ _,rfl⟩
   obtain⟨z,ci,rfl⟩:=hy;refine aB (Ap (ω:cs.length+1≤_)) (X ⟨kk-1,ω,cs++[aI ci.V0 ci.Y1 ci.K1 ci.L1 ci.E1 (A E (Y z 8)) (decide ((0:Int)<Y z 5)) (A E (Y (A IntKind.u8 (Int.tdiv z 8)) 3)) (Y z 7==0) ci.V1 ci.E3],i+1,by first | (rw[← w];rfl) | rw[← w],by rw[h_,hcs];rfl,ω⟩)
  ·have gg:¬(i:Int)<(b.B0.length:Int):=H_ gg;omega
 obtain⟨cs,rfl,hcs⟩:=hy;refine aF (Bbv hb hcode u d k c hcs) λy hy=>?_;obtain⟨x,rfl,hx⟩:=hy;exact X ⟨x,rfl,hx⟩
theorem Bbw(h:∀e∈l,u8r e)(_hl:l.length≤maxLen){most:Nat}(hm:most≤1000):Sat (Md b.D0 b.G0 b.I0 b.M0 b.L0 b.N0 b.O0 b.B0 l (most:Int)) λy=>y.1.1.length≤most∧∀s∈y.1.1,Fr b s:=by
 have hc:=An hcode;have hmx:maxLen≤9223372036854775807:=by decide
 unfold Md;refine aF (Q:=λy=>y.1.1.length≤most∧∀s∈y.1.1,Fr b s) ?_ λy hy=>X hy;refine Sat.loop (λ(k:Nat) z=>∃(out:List ByteArray) (i:Nat),z=((l,(most:Int),(),out,(i:Int),()),(b.tup,()))∧i≤out.length∧out.length≤most∧(∀s∈out,Fr b s)∧i+k=most) (λk z hz=>?_) most ⟨[],0,rfl,A_ 0,a6_ _,λs hs=>(by cases hs),p_ _⟩ ω;obtain⟨out,i,rfl,h1,h2,h3,hk⟩:=hz;unfold VN;have w6:E.wrap (6*(i:Int))=6*(i:Int):=Aa ω ω;refine aD (λg1=>aD (λg2=>?_) λ_=>X ⟨h2,h3⟩) λ_=>X ⟨h2,h3⟩;have g1:E.wrap (6*(i:Int))<(l.length:Int):=n_ g1;have g2:(out.length:Int)<(most:Int):=n_ g2;refine aB (by show(decide ((0:Int)≤E.wrap (6*(i:Int)))&&decide (A E (6*(i:Int))≤(l.length:Int)))=O;rw[c_ (ω:(0:Int)≤E.wrap (6*(i:Int))),c_ (ω:E.wrap (6*(i:Int))≤(l.length:Int))];rfl) ?_;have hz1:∀e∈List.drop (S (A E (6*(i:Int)))) (List.take (List.length l) l),u8r e:=λe he=>h e (by
  have:=d9_ he
  exact T_ this)
 generalize List.drop (S (A E (6*(i:Int)))) (List.take (List.length l) l)=L at hz1;dsimp only;have pick:∀n:Nat,u8r (bif aE n L.length then L.getD n 0 else 0):=λn=>by
  cases aE n L.length with
  |true=>exact Ar3 hz1 n
  |false=>exact Br4
 have hall:∀e∈[(bif aE 0 L.length then L.getD 0 0 else 0),(bif aE 1 L.length then L.getD 1 0 else 0),(bif aE 2 L.length then L.getD 2 0 else 0),(bif aE 3 L.length then L.getD 3 0 else 0),(bif aE 4 L.length then L.getD 4 0 else 0),(bif aE 5 L.length then L.getD 5 0 else 0)],u8r e:=λe he=>by simp only[t_,h2_,or_false]at he;rcases he with rfl | rfl | rfl | rfl | rfl | rfl<;>exact pick _
 have h5:=pick 5;have hin:=Bbx hb hcode hall;generalize(bif aE 0 L.length then L.getD 0 0 else 0)=q0 at hin;generalize(bif aE 1 L.length then L.getD 1 0 else 0)=q1 at hin;generalize(bif aE 2 L.length then L.getD 2 0 else 0)=q2 at hin;generalize(bif aE 3 L.length then L.getD 3 0 else 0)=q3 at hin;generalize(bif aE 4 L.length then L.getD 4 0 else 0)=q4 at hin;generalize(bif aE 5 L.length then L.getD 5 0 else 0)=q5 at hin h5;refine aF hin λy hy=>?_;obtain⟨x,rfl,hx⟩:=hy;have hxl:x.cars.length=b.B0.length:=by have hx:=hx.1;unfold NZ at hx;simp only[e_,U_]at hx;omega
 have hin2:=Ba3 hb hcode x ω;rw[hx.1,d_]at hin2;refine Sat.bindE hin2 ?_;have hsz:=Abz b x;have h5':0≤Y q5 4∧Y q5 4≤3:=by have h50:0≤q5:=h5.1;rw[c9_ h50];omega
 have w5:E.wrap (Y q5 4)=Y q5 4:=Aa ω ω;refine aF (Q:=λy=>∃o:List ByteArray,y=((l,(most:Int),(),o,(i:Int),()),(b.tup,()))∧i+1≤o.length∧o.length≤most∧∀s∈o,Fr b s) ?_ λy hy=>?_
 ·refine Sat.loop (λ(kk:Nat) z=>∃(o:List ByteArray) (s:ByteArray) (j:Nat),z=((l,(most:Int),(),o,(i:Int),(),s,(j:Int),()),(b.tup,(q0,q1,q2,q3,q4,q5,()),()))∧o.length=out.length+j∧o.length≤most∧(∀s∈o,Fr b s)∧FrX b x s∧j+kk=4) (λkk z hz=>?_) 4 ⟨out,inV b x,0,rfl,rfl,h2,h3,⟨rfl,rfl⟩,rfl⟩ τ;obtain⟨o,s,j,rfl,o1,o2,o3,s1,hkk⟩:=hz;have s2:=s1.1;unfold VO;have w:=DF (n:=j) ω;refine aD (λc1=>aD (λc2=>?_) λc2=>X ⟨o,rfl,?_,o2,o3⟩) λc1=>X ⟨o,rfl,?_,o2,o3⟩
  ·have c1:(j:Int)≤E.wrap (Y q5 4):=n_ c1;have c2:(o.length:Int)<(most:Int):=n_ c2;refine aD (λ_=>?_) λ_=>?_
   ·have ws:E.wrap ((s.size:Int)-1)=(s.size:Int)-1:=Aa ω ω;refine aB (by
     show(decide ((0:Int)≤E.wrap ((s.size:Int)-1))&&decide (A E ((s.size:Int)-1)≤(s.size:Int)))=O;rw[c_ (ω:(0:Int)≤E.wrap ((s.size:Int)-1)),c_ (ω:E.wrap ((s.size:Int)-1)≤(s.size:Int))];rfl) ?_
    have ex:(s.extract 0 (S (A E ((s.size:Int)-1)))).size=s.size-1:=by rw[aL,ws];omega
    have sz:(s.extract 0 (S (A E ((s.size:Int)-1)))++aK (Array.mk [63])).size=s.size:=by rw[R_,ex];show s.size-1+1=_;omega
    have sp:FrX b x (s.extract 0 (S (A E ((s.size:Int)-1)))++aK (Array.mk [63])):=by rw[ws,show S ((s.size:Int)-1)=s.size-1 by omega];exact s1.spoilt _ rfl ω
    refine aB (Ap (by show(s.extract 0 (S (A E ((s.size:Int)-1)))).size+1≤_;omega)) ?_;refine aB (Ap (ω:o.length+1≤_)) (X ⟨kk-1,ω,o++[s.extract 0 (S (A E ((s.size:Int)-1)))++aK (Array.mk [63])],s.extract 0 (S (A E ((s.size:Int)-1)))++aK (Array.mk [63]),j+1,by first | (rw[← w];rfl) | rw[← w],by rw[h_,o1];rfl,by rw[h_];show o.length+1≤_;omega,λu hu=>?_,sp,ω⟩);rcases o_.1 hu with hu | hu
    ·exact o3 u hu
    ·rw[C_]at hu;subst hu;exact⟨x,hx,sp⟩
   ·refine aB (Ap (ω:o.length+1≤_)) (X ⟨kk-1,ω,o++[s],s,j+1,by first | (rw[← w];rfl) | rw[← w],by rw[h_,o1];rfl,by rw[h_];show o.length+1≤_;omega,λu hu=>?_,s1,ω⟩);rcases o_.1 hu with hu | hu
    ·exact o3 u hu
    ·rw[C_]at hu;subst hu;exact⟨x,hx,s1⟩
  ·have c2:¬(o.length:Int)<(most:Int):=H_ c2;omega
  ·have c1:¬(j:Int)≤E.wrap (Y q5 4):=H_ c1;omega
 obtain⟨o,rfl,o1,o2,o3⟩:=hy;have w:=DF (n:=i) ω;exact X ⟨k-1,ω,o,i+1,by first | (rw[← w];rfl) | rw[← w],o1,o2,o3,ω⟩
end
structure InOK(b:Bldg)(x:Inp):Prop where
 press:Ix b x.press=true
 pu:Gt x.press
 kind:0≤x.kind∧x.kind≤8
 car:0≤x.car∧x.car<(b.B0.length:Int)
 len:x.cars.length=b.B0.length
 flo:∀c∈x.cars,0≤c.V0∧c.V0<4294967296
def Ah5:∀(n:Nat) (s:ByteArray),∀c∈UL n s,0≤c.V0∧c.V0<4294967296
 |0,_,_,h=>by cases h
 |n+1,s,c,h=>by
  rcases t_.1 h with rfl | h
  ·exact Hu _
  ·exact Ah5 n (rest s) c h
def Fr.good(h:FrX b x s)(ho:HZ b s=0):s=inV b x:=by
 obtain⟨h1,h2⟩:=h;have h3:(KO s).2=0:=by
  unfold HZ at ho;cases q1:((s.size:Int) !=14+19*(b.B0.length:Int))with
  |true=>rw[q1]at ho;cases ho
  |false=>
  rw[q1]at ho;cases q2:(A E (By s 0) !=165)with
  |true=>rw[q2]at ho;cases ho
  |false=>
  rw[q2]at ho;cases q3:(A E (By s 1) !=(b.B0.length:Int))with
  |true=>rw[q3]at ho;cases ho
  |false=>rw[q3]at ho;exact ho
 have hi:=Abz b x;unfold KO at h3;rw[f_ (ω:¬(s.size:Int)<2),b_,h2]at h3;cases q:eqB (Jz ((inV b x).extract 0 (s.size-2))) s with
 |false=>rw[q]at h3;cases h3
 |true=>have q:Jz ((inV b x).extract 0 (s.size-2))=s:=Aq0.1 q;rw[← q,h1];unfold inV;rw[Qm,Nat.add_sub_cancel];generalize x.cars.foldl Ov (UT b x)=t;congr 1;unfold Jz;apply PS;rw[PQ,Lg,P_,Nat.sub_zero];exact(e8_ (DW t))
def Afn(h:0≤n∧n<4294967296):U.wrap n=n:=by simp only[A,IntKind.signed,IntKind.bits];simp;omega
def Ad5(hb:b.small)(hcode:b.code=0)(hs:Fr b s):∃x:Inp,FW b.D0 b.G0 b.I0 b.M0 b.L0 b.N0 b.O0 b.B0 s=aA (((),HZ b s,()),(x.tup,()))∧(HZ b s≠0→x=Inp.none)∧(HZ b s=0→InOK b x):=by
 have hc:=An hcode;obtain⟨x,⟨hx,hu⟩,hf⟩:=hs;have hxl:x.cars.length=b.B0.length:=by unfold NZ at hx;simp only[e_,U_]at hx;omega
 have hz:s.size≤1000000:=by rw[hf.1,Abz];omega
 by_cases ho:HZ b s=0
 ·have e:=Fr.good hf ho;subst e;obtain⟨hd,e1,e2,e3⟩:=Bj4 hb hcode hx;have h:=Aaj hb hcode hz ho (by rw[Ara];exact hd);rw[Ara]at h;refine⟨_,by rw[ho];exact h,λg=>absurd ho g,λ_=>?_⟩;unfold NZ at hx;simp only[e_,U_]at hx;obtain⟨g1,g2,g3,_⟩:=hx;have g2:=Ar.1 g2;have g3:=Ar.1 g3;refine⟨?_,?_,?_,?_,Ah6 _ _,Ah5 _ _⟩
  ·rw[e1,Afn hu.1,Afn hu.2];exact g1
  ·rw[e1,Afn hu.1,Afn hu.2];exact hu
  ·rw[e2];exact g2
  ·rw[e3];omega
 ·exact⟨Inp.none,Abu hcode hz ho,λ_=>rfl,λg=>absurd g ho⟩
end Go.Ovl
