import Derived.Test.YtefkhaccplcieaaGreatDoorOvG
import Derived.Test.YtefkhaccplcieaaGreatDoorOvF
set_option linter.all false
open Go.IntKind renaming wrap->A,u64->B,i64->E,u32->U
open Go.Ovl renaming bv->C,byN->H,nmB->I,Ae->R,vb->V,CarInput->W,leV->Z
open Bool renaming false->J,true->O,and_eq_true_iff->aJ
open Int renaming toNat->S,tmod->Y,fdiv->aG,emod_lt_of_pos->aM
open Go.Ovl.Sat renaming ret->X,bifT->aB,bic->aD,bindS->aF
open Option renaming some->aA
open Min renaming min->aC
open Nat renaming blt->aE,ble->aH
open Go.Ovl.CarInput renaming mk->aI
open ByteArray renaming mk->aK,size_extract->aL
namespace Go.Ovl
open Go Go.Ab
set_option maxRecDepth 100000
variable{s:ByteArray}{b:Bldg}{n:Int}{l:List Int}{x:Inp}{k:Nat}
def Aqq(x:Inp)(hx:x.cars.length≤1000)(hs:s.size≤1000):PQ (((),s,(0:Int),()),(x.tup,()))=aA ((x.cars.foldl OR s,()),()):=by
 have h:=AQ (step:=λx=>letI a:=x.2.1.2;Nx x.1.2.1 x.1.2.2.1 x.2.1.1 a.1 a.2.1 a.2.2.1 a.2.2.2.1) x.cars.length (λi s=>(((),s,(i:Int),()),(x.tup,()))) (λi s=>OR s (x.cars.getD i OW)) (λi s=>s.size≤1000+19*i) (λs=>((s,()),()))
  (λi s hi hs=>by refine⟨?_,by rw[Aih];omega⟩;show Nx s (i:Int) x.press.1 x.press.2 x.kind x.car x.cars=_;unfold Nx;rw[show aI 0 J J J J 0 J 0 J 0 0=OW from rfl];simp only[b_ (ω:(i:Int)<(x.cars.length:Int)),Ac (ω:(0:Int)≤(i:Int)) (ω:(i:Int)<(x.cars.length:Int)),d_,h_,Dn (ω:i<1000000000)];generalize x.cars.getD i OW=c;refine R (Fc (A B c.V0) (k:=4) ω) ?_;have e1:=Bv (A B c.V0) 4;unfold OR;generalize I (A B c.V0) 4=a1 at e1⊢;show(bif aH (s.size+a1.size) 4611686018427387904 then _ else _)=_;rw[Az ω,d_];refine R (Aqs (l:=[c.I2,c.T1,c.U1,c.D1,c.Y1,c.H2]) (by show 6≤100;omega)) ?_;have e2:=SS [c.I2,c.T1,c.U1,c.D1,c.Y1,c.H2];generalize WJ [c.I2,c.T1,c.U1,c.D1,c.Y1,c.H2]=a2 at e2⊢;show(bif aH ((s++a1).size+a2.size) 4611686018427387904 then _ else _)=_;rw[Az (by rw[R_];omega),d_];refine R (Fc (A B c.M1) (k:=1) ω) ?_;have e3:=Bv (A B c.M1) 1;generalize I (A B c.M1) 1=a3 at e3⊢;show(bif aH ((s++a1++a2).size+a3.size) 4611686018427387904 then _ else _)=_;rw[Az (by simp only[R_];omega),d_];refine R (Fc (A B c.L1) (k:=1) ω) ?_;have e4:=Bv (A B c.L1) 1;generalize I (A B c.L1) 1=a4 at e4⊢;show(bif aH ((s++a1++a2++a3).size+a4.size) 4611686018427387904 then _ else _)=_;rw[Az (by simp only[R_];omega),d_];refine R (Fc (A B c.E2) (k:=4) ω) ?_;have e5:=Bv (A B c.E2) 4;generalize I (A B c.E2) 4=a5 at e5⊢;show(bif aH ((s++a1++a2++a3++a4).size+a5.size) 4611686018427387904 then _ else _)=_;rw[Az (by simp only[R_];omega),d_];refine R (Fc ((c.I3:Nat):Int) (k:=8) ω) ?_;have e6:=Bv ((c.I3:Nat):Int) 8;generalize I ((c.I3:Nat):Int) 8=a6 at e6⊢;show(bif aH ((s++a1++a2++a3++a4++a5).size+a6.size) 4611686018427387904 then _ else _)=_;rw[Az (by simp only[R_];omega)];rfl)
  (λs _=>by show Nx s (x.cars.length:Int) x.press.1 x.press.2 x.kind x.car x.cars=_;unfold Nx;rw[f_ (M_ _)];rfl) x.cars.length 0 s ω ω
 have h2:PQ (((),s,(0:Int),()),(x.tup,()))=_:=Ak h.1 ω;rw[h2];have e:∀(l:List W) (k i:Nat) (s:ByteArray),i+k=l.length→Bo (λi s=>OR s (l.getD i OW)) k i s=(l.drop i).foldl OR s:=by
  intro l k;induction k with
  |zero=>intro i s hi;rw[List.drop_eq_nil_of_le ω];rfl
  |succ k ih=>intro i s hi;rw[BT OW (ω:i<l.length),g7_];exact ih (i+1) _ ω
 rw[e x.cars x.cars.length 0 s ω,P_]
section
variable{b:Bldg}(hb:b.small)(hcode:b.code=0)
include hb hcode
theorem Bcc(x:Inp)(hx:x.cars.length≤1000):WC b.C0 b.F0 b.H0 b.M0 b.K0 b.L0 b.N0 b.B0 x.press.1 x.press.2 x.kind x.car x.cars=aA (bif OE b x then((inV b x,0,()),())else((noB,1,()),())):=by
 have hc:=Aj hcode;unfold WC;refine R (Aqr hb hcode x hx) ?_;show(bif !OE b x then _ else _)=_;cases OE b x with
 |false=>rfl
 |true=>
 rw[o_,c_,d_];refine R (Fc 165 (k:=1) ω) ?_;refine R (Fc (A B (b.B0.length:Int)) (k:=1) ω) ?_;have hh:=Aey b x;unfold inV;have e1:=Bv 165 1;have e2:=Bv (A B (b.B0.length:Int)) 1;have e3:=Abb x.press;have e4:=Bv (A B x.kind) 1;have e5:=Bv (A B x.car) 1;have hd:Vi b x=I 165 1++I (A B (b.B0.length:Int)) 1++Ua x.press++I (A B x.kind) 1++I (A B x.car) 1:=rfl;rw[hd]at hh⊢;generalize I 165 1=a1 at e1 hh⊢;generalize I (A B (b.B0.length:Int)) 1=a2 at e2 hh⊢;show(bif aH (a1.size+a2.size) 4611686018427387904 then _ else _)=_;rw[Az ω,d_];refine R (Aor x.press) ?_;generalize Ua x.press=a3 at e3 hh⊢;show(bif aH ((a1++a2).size+a3.size) 4611686018427387904 then _ else _)=_;rw[Az (by simp only[R_];omega),d_];refine R (Fc (A B x.kind) (k:=1) ω) ?_;generalize I (A B x.kind) 1=a4 at e4 hh⊢;show(bif aH ((a1++a2++a3).size+a4.size) 4611686018427387904 then _ else _)=_;rw[Az (by simp only[R_];omega),d_];refine R (Fc (A B x.car) (k:=1) ω) ?_;generalize I (A B x.car) 1=a5 at e5 hh⊢;show(bif aH ((a1++a2++a3++a4).size+a5.size) 4611686018427387904 then _ else _)=_;rw[Az (by simp only[R_];omega),d_];refine R (Aqq x hx (s:=a1++a2++a3++a4++a5) ω) ?_;refine R (Aqn (s:=x.cars.foldl OR (a1++a2++a3++a4++a5)) (by rw[Aeq];omega)) ?_;rfl
end
def Ee(b:Bldg)(s:ByteArray):Int:=bif(s.size:Int) !=14+19*(b.B0.length:Int)then 4 else bif E.wrap (Bs s 0) !=165 then 30 else bif E.wrap (Bs s 1) !=(b.B0.length:Int)then 30 else(Lu s).2
section
variable{b:Bldg}(hb:b.small)(hcode:b.code=0)
include hb hcode
end
def Bf1(h:(Lu s).2=0):2≤s.size∧(Lu s).1=s.extract 0 (s.size-2):=by
 unfold Lu at h⊢;cases q:decide ((s.size:Int)<2)with
 |true=>rw[q]at h;cases h
 |false=>
  rw[q]at h;have q:=D_ q;refine⟨ω,?_⟩;cases q2:eqB (JZ (s.extract 0 (s.size-2))) s with
  |true=>rfl
  |false=>rw[q2]at h;cases h
def YP(hcode:b.code=0)(s:ByteArray)(hs:s.size≤1000000):Sat (Pp b.C0 b.F0 b.H0 b.M0 b.K0 b.L0 b.N0 b.B0 s (14+19*(b.B0.length:Int)) 165) λy=>match y with
  | .inl z=>z.1.2.1=Ee b s∧Ee b s≠0
  | .inr z=>Ee b s=0∧z.1.2.1=0∧z.2.1=((s.extract 0 (s.size-2)).extract 2 (s.size-2),b.C0,b.F0,b.H0,b.M0,b.K0,b.L0,b.N0,b.B0,()):=by
 have hcc:=Aj hcode;unfold Pp Ee;refine Sat.bindE (AR b) (Sat.bifF (show(b.code !=0)=J by rw[hcode];rfl) ?_);refine aD (λq=>X ?_) λq=>?_
 ·rw[q];exact⟨rfl,show(4:Int)≠0 by decide⟩
 rw[q];have hsz:(s.size:Int)=14+19*(b.B0.length:Int):=by simpa using q
 have w:∀i,E.wrap (Bs s i)=Bs s i:=λi=>by
  rw[KN]
  have:=RY s i
  unfold H at this;exact Aa ω ω
 rw[w 0];refine aB (Ac ω ω) (aD (λq=>X ?_) λq=>aB (Ac ω ω) (aD (λq2=>X ?_) λq2=>?_))
 ·rw[show(Bs s 0 !=165)=O from q];exact⟨rfl,show(30:Int)≠0 by decide⟩
 ·rw[show(Bs s 0 !=165)=J from q,show(A E (Bs s 1) !=(b.B0.length:Int))=O from q2];exact⟨rfl,show(30:Int)≠0 by decide⟩
 rw[show(Bs s 0 !=165)=J from q,show(A E (Bs s 1) !=(b.B0.length:Int))=J from q2];refine Sat.bindE (Ap6 hs) (aD (λq3=>X ⟨rfl,?_⟩) λq3=>?_)
 ·show(Lu s).2≠0;simpa using q3
 have q3:(Lu s).2=0:=by simpa using q3
 obtain⟨h2,h3⟩:=Bf1 q3;have hz:(Lu s).1.size=s.size-2:=by rw[h3,Aca s ω]
 refine aB (b_ (ω:(2:Int)≤(((Lu s).1.size:Nat):Int))) (X ⟨q3,rfl,?_⟩);show((Lu s).1.extract 2 (Lu s).1.size,_)=_;rw[hz,h3]
def Bf5{n:Nat}(h:n<18446744073709551616):orL 0 (n:Int)=(n:Int):=by unfold orL;rw[KH,BitVec.toNat_or,X_,X_];rw[show((0:Int)%((2^IntKind.bits .u64:Nat):Int)).toNat=0 from rfl,Nat.zero_or,show(((n:Nat):Int)%((2^IntKind.bits .u64:Nat):Int)).toNat=n by simp only[IntKind.bits];omega];exact EG ω ω
def Bku(s:ByteArray):Z s 1=((H s 0:Nat):Int):=by have hb:=RY s 0;show orL 0 (A B (A B (Bs s 0)*1))=_;rw[KN,Int.mul_one];show orL 0 (A B (A B ((H s 0:Nat):Int)))=_;rw[EG (n:=((H s 0:Nat):Int)) ω ω,EG ω ω];exact Bf5 ω
def JB(b:Bldg)(hs:1≤s.size){most:Int}(h:((H s 0:Nat):Int)≤most):Br most s b.C0 b.F0 b.H0 b.M0 b.K0 b.L0 b.N0 b.B0=aA ((((H s 0:Nat):Int),()),((s.extract 1 s.size,b.C0,b.F0,b.H0,b.M0,b.K0,b.L0,b.N0,b.B0,()),())):=by have hb:=RY s 0;unfold Br;refine R (MX b (k:=1) τ hs) ?_;simp only[Bku];rw[Aa (n:=((H s 0:Nat):Int)) ω ω,b_ h];rfl
def Yc(hb:b.small)(hs:4≤s.size)(h:C2 b.C0 (A U (Z s 4))):Do s b.C0 b.F0 b.H0 b.M0 b.K0 b.L0 b.N0 b.B0=aA ((A U (Z s 4),()),((s.extract 4 s.size,b.C0,b.F0,b.H0,b.M0,b.K0,b.L0,b.N0,b.B0,()),())):=by have lo:=hb.lo;have hi:=hb.hi;have hmin:aC (S b.C0) (IntKind.bits U)=S b.C0:=c8_ (by show _≤32;omega);unfold Do;refine R (MX b (k:=4) τ hs) ?_;show(bif decide ((0:Int)≤b.C0)then _ else _)=_;rw[b_ (ω:(0:Int)≤b.C0),d_];rw[hmin,Alw.2 h];rfl
section
variable{b:Bldg}(hb:b.small)(hcode:b.code=0)
include hb hcode
theorem Acd{u d:Int}(h1:V (C u&&& ~~~ C (Bz b).1)=0)(h2:V (C d&&& ~~~ C (Bz b).2)=0):Mj b.C0 b.F0 b.H0 b.M0 b.K0 b.L0 b.N0 b.B0 u d=aA ((O,()),()):=by unfold Mj;refine R (Lm hb hcode) ?_;simp only[OX,h1,h2];rfl
theorem Ag9(hs:8≤s.size)(h1:V (C (A U (Z s 4))&&& ~~~ C (Bz b).1)=0)(h2:V (C (A U (Z (s.extract 4 s.size) 4))&&& ~~~ C (Bz b).2)=0):EI s b.C0 b.F0 b.H0 b.M0 b.K0 b.L0 b.N0 b.B0=aA (((),()),((A U (Z s 4),U.wrap (Z (s.extract 4 s.size) 4),()),((s.extract 4 s.size).extract 4 (s.extract 4 s.size).size,b.C0,b.F0,b.H0,b.M0,b.K0,b.L0,b.N0,b.B0,()),())):=by
 have e:(s.extract 4 s.size).size=s.size-4:=by rw[aL];omega
 unfold EI;refine R (MX b (k:=4) τ ω) ?_;refine R (MX b (k:=4) (s:=s.extract 4 s.size) τ (by rw[e];omega)) ?_;exact R (Acd hb hcode h1 h2) rfl
end
def Bqb(n:Int)(i:Nat):Bool:=E.wrap (stk (aG n ((2:Int)^(aC i (IntKind.bits E)))) (1:Int) (BitVec.toNat ((BitVec.ofInt (IntKind.bits E) (aG n ((2:Int)^(aC i (IntKind.bits E)))))&&&(BitVec.ofInt (IntKind.bits E) (1:Int)))))==(1:Int)
def flL(n:Int):List Bool:=(List.range 6).map (Bqb n)
def Aha(b:Bldg)(hs:1≤s.size)(h:H s 0≤63):EJ 6 s b.C0 b.F0 b.H0 b.M0 b.K0 b.L0 b.N0 b.B0=aA ((flL ((H s 0:Nat):Int),()),((s.extract 1 s.size,b.C0,b.F0,b.H0,b.M0,b.K0,b.L0,b.N0,b.B0,()),())):=by
 have h1:=AQ (step:=λx=>letI a:=x.2.1.2.2.2;letI c:=a.2.2;Cf x.1.1 x.1.2.1 x.1.2.2.1 x.1.2.2.2.1 x.2.1.1 x.2.1.2.1 x.2.1.2.2.1 a.1 a.2.1 c.1 c.2.1 c.2.2.1 c.2.2.2.1) 6 (λi l=>((((H s 0:Nat):Int),l,6,(i:Int),()),((s.extract 1 s.size,b.C0,b.F0,b.H0,b.M0,b.K0,b.L0,b.N0,b.B0,()),()))) (Lv J (λi _=>Bqb ((H s 0:Nat):Int) i)) (λ_ l=>l.length=6) (λl=>((l,()),((s.extract 1 s.size,b.C0,b.F0,b.H0,b.M0,b.K0,b.L0,b.N0,b.B0,()),())))
  (λi l hi hl=>by refine⟨?_,by rw[Lv,y_,hl]⟩;show Cf ((H s 0:Nat):Int) l 6 (i:Int) (s.extract 1 s.size) b.C0 b.F0 b.H0 b.M0 b.K0 b.L0 b.N0 b.B0=_;unfold Cf;simp only[b_ (ω:(i:Int)<6),b_ (ω:(0:Int)≤(i:Int)),Ac (ω:(0:Int)≤(i:Int)) (ω:(i:Int)<(l.length:Int)),d_,h_,Dn (ω:i<1000000000)];rfl)
  (λl _=>by show Cf ((H s 0:Nat):Int) l 6 6 (s.extract 1 s.size) b.C0 b.F0 b.H0 b.M0 b.K0 b.L0 b.N0 b.B0=_;unfold Cf;rw[f_ (M_ (6:Int))];rfl) 6 0 ((List.range 6).map λ_=>J) rfl rfl
 have h2:=Ak h1.1 ω;rw[Qn]at h2;unfold EJ;exact R (JB b hs (by show((H s 0:Nat):Int)≤63;omega)) (R h2 rfl)
def Yb(hcode:b.code=0):Po b.C0 b.F0 b.H0 b.M0 b.K0 b.L0 b.N0 b.B0=aA ((14+19*(b.B0.length:Int),23+19*(b.B0.length:Int),()),()):=by have hcc:=Aj hcode;unfold Po;refine R (AR b) ?_;show(bif b.code !=0 then _ else _)=_;rw[hcode,show((0:Int) !=0)=J from rfl,c_];rw[Aa (n:=19*(b.B0.length:Int)) ω ω,Aa ω ω,Aa ω ω]
def Acc(hcode:b.code=0)(hs:s.size≤1000000)(h:Ee b s≠0):Eo b.C0 b.F0 b.H0 b.M0 b.K0 b.L0 b.N0 b.B0 s=aA (((),Ee b s,()),(Inp.none.tup,())):=by
 obtain⟨y,h1,hy⟩:=YP hcode s hs;unfold Eo;refine R (Yb hcode) (R h1 ?_);cases y with
 |inl z=>
  show(bif z.1.2.1 !=0 then aA (((),z.1.2.1,()),(Inp.none.tup,()))else none)=_;have hz:(Ee b s !=0)=O:=by simpa using h
  rw[hy.1,hz,d_]
 |inr z=>exact absurd hy.1 h
def tl(k:Nat)(s:ByteArray):ByteArray:=s.extract k s.size
def DV(k:Nat)(s:ByteArray):(tl k s).size=s.size-k:=by unfold tl;rw[aL];omega
structure Ck(b:Bldg)(s:ByteArray):Prop where
 size:19≤s.size
 c1:C2 b.C0 (IntKind.u32.wrap (leV s 4))
 fg:byN (tl 4 s) 0≤63
 fl:((byN (tl 1 (tl 4 s)) 0:Nat):Int)≤b.C0-1
 dr:((byN (tl 1 (tl 1 (tl 4 s))) 0:Nat):Int)≤2
 c2:C2 b.C0 (IntKind.u32.wrap (leV (tl 1 (tl 1 (tl 1 (tl 4 s)))) 4))
def rest(s:ByteArray):ByteArray:=tl 8 (tl 4 (tl 1 (tl 1 (tl 1 (tl 4 s)))))
def Atu(s:ByteArray):W:=aI (A U (Z s 4)) ((flL ((H (tl 4 s) 0:Nat):Int)).getD (S (0:Int)) J) ((flL ((H (tl 4 s) 0:Nat):Int)).getD (S (1:Int)) J) ((flL ((H (tl 4 s) 0:Nat):Int)).getD (S (2:Int)) J) ((flL ((H (tl 4 s) 0:Nat):Int)).getD (S (3:Int)) J) ((H (tl 1 (tl 4 s)) 0:Nat):Int) ((flL ((H (tl 4 s) 0:Nat):Int)).getD (S (4:Int)) J) ((H (tl 1 (tl 1 (tl 4 s))) 0:Nat):Int) ((flL ((H (tl 4 s) 0:Nat):Int)).getD (S (5:Int)) J) (A U (Z (tl 1 (tl 1 (tl 1 (tl 4 s)))) 4)) (S (Z (tl 4 (tl 1 (tl 1 (tl 1 (tl 4 s))))) 8))
def Ahf(hb:b.small)(h:Ck b s){N i:Nat}(hi:i<N)(hN:N≤8)(u d k c:Int){cs:List W}(hcs:cs.length≤1000)(e:Int):BZ (N:Int) (i:Int) u d k c cs e s b.C0 b.F0 b.H0 b.M0 b.K0 b.L0 b.N0 b.B0=aA (.inl (((),(),(),(N:Int),((i+1:Nat):Int),()),((u,d,k,c,cs++[Atu s],()),(e,()),(rest s,b.C0,b.F0,b.H0,b.M0,b.K0,b.L0,b.N0,b.B0,()),()))):=by have lo:=hb.lo;have hi8:=hb.hi;have hz:=h.size;unfold BZ;rw[b_ (ω:(i:Int)<(N:Int)),d_];refine R (Yc hb ω h.c1) ?_;refine R (Aha b (s:=tl 4 s) (by rw[DV];omega) h.fg) ?_;have hin:∀j:Nat,j<6→inB (j:Int) (flL ((H (tl 4 s) 0:Nat):Int)).length=O:=λj hj=>Ac ω (by rw[show(flL ((H (tl 4 s) 0:Nat):Int)).length=6 by simp[flL]];omega);refine Yy (hin 0 τ) (Yy (hin 1 τ) (Yy (hin 2 τ) (Yy (hin 3 τ) (Yy (hin 4 τ) (Yy (hin 5 τ) ?_)))));refine R (JB b (s:=tl 1 (tl 4 s)) (by rw[DV,DV];omega) (by show _≤E.wrap (b.C0-1);rw[Aa ω ω];exact h.fl)) ?_;refine R (JB b (s:=tl 1 (tl 1 (tl 4 s))) (by rw[DV,DV,DV];omega) h.dr) ?_;refine R (Yc hb (s:=tl 1 (tl 1 (tl 1 (tl 4 s)))) (by rw[DV,DV,DV,DV];omega) h.c2) ?_;refine R (MX b (k:=8) (s:=tl 4 (tl 1 (tl 1 (tl 1 (tl 4 s))))) τ (by rw[DV,DV,DV,DV,DV];omega)) ?_;refine Yy (Az (by simp only[C_,d6_];omega)) ?_;unfold Atu rest tl;rw[Dn (ω:i<1000000000)]
def Tq:Nat→ByteArray→ByteArray
 |0,s=>s
 |n+1,s=>Tq n (rest s)
def UZ:Nat→ByteArray→List W
 |0,_=>[]
 |n+1,s=>Atu s::UZ n (rest s)
def Aij:∀(n:Nat) (s:ByteArray),(UZ n s).length=n
 |0,_=>rfl
 |n+1,s=>by show(UZ n (rest s)).length+1=_;rw[Aij n]
def Abi{b:Bldg}(hb:b.small){N:Nat}(hN:N≤8)(u d k c e:Int):∀(m i:Nat) (s:ByteArray) (cs:List W),i+m=N→cs.length=i→(∀j,j<m→Ck b (Tq j s))→BX (λx=>letI a:=x.2.2.2.1.2.2;letI f:=a.2.2;letI g:=x.2.1.2;BZ x.1.2.2.2.1 x.1.2.2.2.2.1 x.2.1.1 g.1 g.2.1 g.2.2.1 g.2.2.2.1 x.2.2.1.1 x.2.2.2.1.1 x.2.2.2.1.2.1 a.1 a.2.1 f.1 f.2.1 f.2.2.1 f.2.2.2.1 f.2.2.2.2.1) (m+1) (((),(),(),(N:Int),(i:Int),()),((u,d,k,c,cs,()),(e,()),(s,b.C0,b.F0,b.H0,b.M0,b.K0,b.L0,b.N0,b.B0,()),()))=aA (((),(),()),((u,d,k,c,cs++UZ m s,()),(e,()),(Tq m s,b.C0,b.F0,b.H0,b.M0,b.K0,b.L0,b.N0,b.B0,()),()))
 |0,i,s,cs,hm,_,_=>by refine AE ?_;show BZ (N:Int) (i:Int) u d k c cs e s b.C0 b.F0 b.H0 b.M0 b.K0 b.L0 b.N0 b.B0=_;unfold BZ;rw[f_ (ω:¬(i:Int)<(N:Int)),c_,show cs++UZ 0 s=cs from a2_ cs];rfl
 |m+1,i,s,cs,hm,hl,h=>by have h1:=Ahf hb (h 0 ω) (i:=i) (N:=N) ω hN u d k c (cs:=cs) ω e;have h2:=Abi hb hN u d k c e m (i+1) (rest s) (cs++[Atu s]) ω (by rw[i_,G_,hl]) λj hj=>h (j+1) ω;rw[O_,e5_]at h2;exact(BO h1).trans h2
def Ahe(hb:b.small){N:Nat}(hN:N≤8)(h:∀j,j<N→Ck b (Tq j s))(u d k c e:Int):DL (((),(),(),(N:Int),0,()),((u,d,k,c,[],()),(e,()),(s,b.C0,b.F0,b.H0,b.M0,b.K0,b.L0,b.N0,b.B0,()),()))=aA (((),(),()),((u,d,k,c,UZ N s,()),(e,()),(Tq N s,b.C0,b.F0,b.H0,b.M0,b.K0,b.L0,b.N0,b.B0,()),())):=Ak (Abi hb hN u d k c e N 0 s [] (p_ _) rfl h) ω
structure Hd(b:Bldg)(s:ByteArray):Prop where
 size:10≤s.size
 u:vb (bv (IntKind.u32.wrap (leV s 4))&&& ~~~ bv (Bz b).1)=0
 d:vb (bv (IntKind.u32.wrap (leV (tl 4 s) 4))&&& ~~~ bv (Bz b).2)=0
 kind:((byN (tl 4 (tl 4 s)) 0:Nat):Int)≤8
 car:((byN (tl 1 (tl 4 (tl 4 s))) 0:Nat):Int)≤(b.B0.length:Int)-1
 none:byN (tl 4 (tl 4 s)) 0=0→byN (tl 1 (tl 4 (tl 4 s))) 0=0
 cars:∀j,j<b.B0.length→Ck b (Tq j (tl 1 (tl 1 (tl 4 (tl 4 s)))))
def hdP(n:Nat)(s:ByteArray):Inp:=⟨(A U (Z s 4),U.wrap (Z (tl 4 s) 4)),((H (tl 4 (tl 4 s)) 0:Nat):Int),((H (tl 1 (tl 4 (tl 4 s))) 0:Nat):Int),UZ n (tl 1 (tl 1 (tl 4 (tl 4 s))))⟩
def Aeu(hb:b.small)(hcode:b.code=0)(h:Hd b s):∃z,Ep s b.C0 b.F0 b.H0 b.M0 b.K0 b.L0 b.N0 b.B0=aA (((),(),()),((hdP b.B0.length s).tup,((0:Int),()),z)):=by
 have hcc:=Aj hcode;have hz:=h.size;refine⟨((Tq b.B0.length (tl 1 (tl 1 (tl 4 (tl 4 s)))),b.C0,b.F0,b.H0,b.M0,b.K0,b.L0,b.N0,b.B0,()),()),?_⟩;unfold Ep;refine R (Ag9 hb hcode ω h.u h.d) ?_;refine R (JB b (s:=tl 4 (tl 4 s)) (by rw[DV,DV];omega) h.kind) ?_;refine R (JB b (s:=tl 1 (tl 4 (tl 4 s))) (by rw[DV,DV,DV];omega) (by show _≤E.wrap ((b.B0.length:Int)-1);rw[Aa ω ω];exact h.car)) ?_;refine R (a:=(((),(),(),()),((A U (Z s 4),U.wrap (Z (tl 4 s) 4),((H (tl 4 (tl 4 s)) 0:Nat):Int),((H (tl 1 (tl 4 (tl 4 s))) 0:Nat):Int),([]:List W),()),((0:Int),()),(tl 1 (tl 1 (tl 4 (tl 4 s))),b.C0,b.F0,b.H0,b.M0,b.K0,b.L0,b.N0,b.B0,()),()))) ?_ (R (Ahe hb hcc.2 h.cars _ _ _ _ 0) rfl);show(bif((H (tl 4 (tl 4 s)) 0:Nat):Int) !=(0:Int)then(Ha O).bind _ else(Ha (((H (tl 1 (tl 4 (tl 4 s))) 0:Nat):Int)==0)).bind _)=_;cases q:(((H (tl 4 (tl 4 s)) 0:Nat):Int) !=(0:Int))with
 |true=>rfl
 |false=>
  have q:((H (tl 4 (tl 4 s)) 0:Nat):Int)=0:=by simpa using q
  rw[h.none ω];rfl
def Aa0(hb:b.small)(hcode:b.code=0)(hs:s.size≤1000000)(h:Ee b s=0)(hd:Hd b ((s.extract 0 (s.size-2)).extract 2 (s.size-2))):Eo b.C0 b.F0 b.H0 b.M0 b.K0 b.L0 b.N0 b.B0 s=aA (((),(0:Int),()),((hdP b.B0.length ((s.extract 0 (s.size-2)).extract 2 (s.size-2))).tup,())):=by
 obtain⟨y,h1,hy⟩:=YP hcode s hs;obtain⟨z,h2⟩:=Aeu hb hcode hd;unfold Eo;refine R (Yb hcode) (R h1 ?_);cases y with
 |inl z=>exact absurd h hy.2
 |inr w=>obtain⟨_,e1,e2⟩:=hy;show(bif w.1.2.1 !=0 then _ else _)=_;rw[e1];show Option.bind _ _=_;rw[e2];exact R h2 rfl
def Bk1{a c i:Nat}(ha:a<2^i)(hc:c<256)(hi:i+8≤64):orL (a:Int) (A B (A B (c:Int)*((2^i:Nat):Int)))=((a+c*2^i:Nat):Int):=by
 have h1:c*2^i<2^(i+8):=by rw[Nat.pow_add,f8_];exact Nat.mul_lt_mul_of_pos_left hc (Nat.two_pow_pos i)
 have h2:(2:Nat)^(i+8)≤2^64:=Nat.pow_le_pow_right τ hi;have h3:(2:Nat)^i≤2^64:=Nat.pow_le_pow_right τ ω;have h4:(2:Nat)^64=18446744073709551616:=by decide
 have h5:=Nat.or_lt_two_pow (n:=64) (x:=a) (y:=c*2^i) ω ω;have h6:a|||c*2^i=a+c*2^i:=by rw[Nat.or_comm,← Nat.shiftLeft_eq,← Nat.shiftLeft_add_eq_or_of_lt ha,e1_]
 unfold orL;rw[EG (n:=(c:Int)) ω ω,show(c:Int)*((2^i:Nat):Int)=((c*2^i:Nat):Int)by rw[Int.natCast_mul],← h6];generalize c*2^i=p at*;rw[EG (n:=(p:Int)) ω ω];rw[KH,BitVec.toNat_or,X_,X_];rw[show((a:Int)%((2^IntKind.bits .u64:Nat):Int)).toNat=a by simp only[IntKind.bits];omega,show((p:Int)%((2^IntKind.bits .u64:Nat):Int)).toNat=p by simp only[IntKind.bits];omega];exact EG ω ω
def leN(s:ByteArray):Nat→Nat
 |0=>0
 |i+1=>leN s i+H s i*2^(8*i)
def Bbk(s:ByteArray):∀i,leN s i<2^(8*i)
 |0=>by show 0<1;decide
 |i+1=>by
  have h:=Bbk s i;have hb:=RY s i;show leN s i+H s i*2^(8*i)<2^(8*i+8);rw[Nat.pow_add]
  have:H s i*2^(8*i)≤255*2^(8*i):=J_ _ ω
  omega
def Ar7(s:ByteArray):∀i,i≤8→Z s i=((leN s i:Nat):Int)
 |0,_=>rfl
 |i+1,h=>by show orL (Z s i) (A B (A B (Bs s i)*((2:Int)^(aC (S (8*(i:Int))) (IntKind.bits B)))))=_;rw[Ar7 s i ω,KN,show((2:Int)^(aC (S (8*(i:Int))) (IntKind.bits B)))=((2^(8*i):Nat):Int)by rw[show aC (S (8*(i:Int))) (IntKind.bits B)=8*i by show min (S (8*(i:Int))) 64=8*i;omega];norm_cast];exact Bk1 (Bbk s i) (RY s i) ω
def Bdw(l:List Int):bl (Hu l)=l.map λn=>UInt8.ofNat n.toNat:=by simp[bl,Hu]
def Baj{n:Nat}{i:Nat}(hi:i<k)(hk:k≤8)(r:ByteArray):H (I (n:Int) k++r) i=n/2^(8*i)%256:=by
 have hl:(Aht (n:Int) k).length=k:=by simp[Aht]
 have hg:(Aht (n:Int) k)[i]?=aA ((n/2^(8*i)%256:Nat):Int):=by unfold Aht;rw[b7_,List.getElem?_range hi];show aA (A IntKind.u8 (aG (n:Int) ((2:Int)^(aC (8*i) (IntKind.bits .u64)))))=_;rw[show aC (8*i) (IntKind.bits .u64)=8*i by show min (8*i) 64=8*i;omega,a6_ _ (Int.le_of_lt (Int.pow_pos τ)),show(2:Int)^(8*i)=((2^(8*i):Nat):Int)by norm_cast,← Int.natCast_ediv];simp only[A,IntKind.signed,IntKind.bits];simp
 unfold H I;rw[LJ,Bdw,k_,b9_ (by rw[c9_,hl];exact hi),b7_,hg];show n/2^(8*i)%256%256=_;omega
def Bbl{n k:Nat}(hk:k≤8)(r:ByteArray):∀i,i≤k→leN (I (n:Int) k++r) i=n%2^(8*i)
 |0,_=>by show 0=n%1;omega
 |i+1,h=>by show leN _ i+H _ i*2^(8*i)=n%2^(8*i+8);rw[Bbl hk r i ω,Baj ω hk,Nat.pow_add,Nat.mod_mul,f8_ (2^(8*i))]
def Bbm(n:Int)(hk:k≤8)(hn:0≤n)(r:ByteArray):Z (I n k++r) k=((n.toNat%2^(8*k):Nat):Int):=by obtain⟨m,rfl⟩:=e0_ hn;rw[Ar7 _ _ hk,Bbl hk r k (A_ k),h_]
def Nb{a:ByteArray}(h:a.size=k)(r:ByteArray):tl k (a++r)=r:=by subst h;unfold tl;apply Qe;rw[Qd,LJ,List.drop_left' (DP a),R_,← DP r];exact b1_ ω
def Bfh(h:0≤n∧n<4294967296)(r:ByteArray):U.wrap (Z (I n 4++r) 4)=n:=by rw[Bbm n τ h.1,show n.toNat%2^(8*4)=n.toNat by show n.toNat%4294967296=_;omega,f3_ h.1];simp only[A,IntKind.signed,IntKind.bits];simp;omega
def Wi(h:0≤n∧n<256)(r:ByteArray):((H (I n 1++r) 0:Nat):Int)=n:=by obtain⟨m,rfl⟩:=e0_ h.1;rw[Baj τ τ];show((m/1%256:Nat):Int)=m;omega
def OJ:List W→ByteArray
 |[]=>noB
 |c::l=>I (A B c.V0) 4++(WJ [c.I2,c.T1,c.U1,c.D1,c.Y1,c.H2]++(I (A B c.M1) 1++(I (A B c.L1) 1++(I (A B c.E2) 4++(I ((c.I3:Nat):Int) 8++OJ l)))))
def Aj7(c:W)(l:List W):OJ (c::l)=I (A B c.V0) 4++(WJ [c.I2,c.T1,c.U1,c.D1,c.Y1,c.H2]++(I (A B c.M1) 1++(I (A B c.L1) 1++(I (A B c.E2) 4++(I ((c.I3:Nat):Int) 8++OJ l))))):=rfl
def Bjx(s:ByteArray):s++noB=s:=Qe (by rw[LJ,show bl noB=[]from rfl,a2_])
def Aes:∀(l:List W) (s:ByteArray),l.foldl OR s=s++OJ l
 |[],s=>(Bjx s).symm
 |c::l,s=>by rw[g7_,Aes l,Aj7];unfold OR;simp only[ByteArray.append_assoc]
def Xw(x:Inp):ByteArray:=I (A B x.press.1) 4++(I (A B x.press.2) 4++(I (A B x.kind) 1++(I (A B x.car) 1++OJ x.cars)))
def Arz(b:Bldg)(x:Inp):((inV b x).extract 0 ((inV b x).size-2)).extract 2 ((inV b x).size-2)=Xw x:=by
 have e:x.cars.foldl OR (Vi b x)=(I 165 1++I (A B (b.B0.length:Int)) 1)++Xw x:=by rw[Aes];unfold Vi Ua Xw;simp only[ByteArray.append_assoc]
 have h2:(I 165 1++I (A B (b.B0.length:Int)) 1).size=2:=by rw[R_,Bv,Bv]
 unfold inV;rw[Qz,Nat.add_sub_cancel];generalize x.cars.foldl OR (Vi b x)=t at e;have e1:(JZ t).extract 0 t.size=t:=by unfold JZ;apply Qe;rw[Qd,LJ,P_,Nat.sub_zero];exact f2_ (DP t)
 rw[e1,e];exact Nb h2 (Xw x)
def Bct(n:Int):0≤B.wrap n∧B.wrap n<18446744073709551616:=by simp only[A,IntKind.signed,IntKind.bits];simp;exact⟨Int.emod_nonneg _ τ,aM _ τ⟩
def Bkj(a b c d e f:Bool)(r:ByteArray):H (WJ [a,b,c,d,e,f]++r) 0≤63:=by
 have h:∀n:Int,0≤n∧n<64→H (I n 1++r) 0≤63:=λn h=>by
  have:=Wi (n:=n) ω r
  omega
 refine h _ ?_;cases a<;>cases b<;>cases c<;>cases d<;>cases e<;>cases f<;>decide
section
variable{b:Bldg}(hb:b.small)
include hb
theorem Bcr:4≤2^b.C0.toNat∧2^b.C0.toNat≤(256:Nat):=by have lo:=hb.lo;have hi:=hb.hi;have h:b.C0.toNat=2∨b.C0.toNat=3∨b.C0.toNat=4∨b.C0.toNat=5∨b.C0.toNat=6∨b.C0.toNat=7∨b.C0.toNat=8:=ω;rcases h with h | h | h | h | h | h | h<;>rw[h]<;>decide
theorem Asd(h:flV b n=O)(r:ByteArray):C2 b.C0 (A U (Z (I (A B n) 4++r) 4)):=by have h1:C2 b.C0 (A B n):=Alw.1 h;have h2:=Bcr hb;obtain⟨h3,h4⟩:=h1;rw[Bfh ω];exact⟨h3,h4⟩
theorem Aq7{c:W}(h:LN b c=O)(l:List W):Ck b (OJ (c::l))∧rest (OJ (c::l))=OJ l:=by
 have lo:=hb.lo;have hi:=hb.hi;unfold LN at h;simp only[e_]at h;obtain⟨h1,h2,h3,h4⟩:=h;have h3:=As.1 h3;have h4:=As.1 h4;have u:∀n:Int,0≤n∧n<256→B.wrap n=n:=λn h=>EG h.1 ω;rw[Aj7];have t1:=λr=>Nb (Bv (A B c.V0) 4) r;have t2:=λr=>Nb (SS [c.I2,c.T1,c.U1,c.D1,c.Y1,c.H2]) r;have t3:=λr=>Nb (Bv (A B c.M1) 1) r;have t4:=λr=>Nb (Bv (A B c.L1) 1) r;have t5:=λr=>Nb (Bv (A B c.E2) 4) r;have t6:=λr=>Nb (Bv ((c.I3:Nat):Int) 8) r;refine⟨⟨?_,?_,?_,?_,?_,?_⟩,?_⟩
 ·simp only[R_,Bv,SS];omega
 ·exact Asd hb h1 _
 ·rw[t1];exact Bkj ..
 ·rw[t1,t2,u _ ω,Wi ω];exact h3.2
 ·rw[t1,t2,t3,u _ ω,Wi ω];exact h4.2
 ·rw[t1,t2,t3,t4];exact Asd hb h2 _
 ·unfold rest;rw[t1,t2,t3,t4,t5,t6]
theorem Afn:∀(l:List W),(∀c∈l,LN b c=O)→∀j,j<l.length→Ck b (Tq j (OJ l))
 |[],_,_,hj=>absurd hj (e3_ _)
 |c::l,h,0,_=>(Aq7 hb (h c (q_ ..)) l).1
 |c::l,h,j+1,hj=>by show Ck b (Tq j (rest (OJ (c::l))));rw[(Aq7 hb (h c (q_ ..)) l).2];exact Afn l (λa ha=>h a (r_ _ ha)) j (by rw[C_]at hj;omega)
end
def Aao(n:Int)(r:ByteArray):U.wrap (Z (I (A B n) 4++r) 4)=U.wrap n:=by
 have h:=Bct n;rw[Bbm _ τ h.1];have e:B.wrap n=n%18446744073709551616:=by simp only[A,IntKind.signed,IntKind.bits];simp
 show U.wrap (((A B n).toNat%4294967296:Nat):Int)=_;generalize B.wrap n=m at*;simp only[A,IntKind.signed,IntKind.bits];simp;omega
def Bai(n:Int):C (A U n)=C n:=by unfold C;apply BitVec.eq_of_toNat_eq;simp only[X_,A,IntKind.signed,IntKind.bits];simp
def Blm(hb:b.small)(hcode:b.code=0)(h:OE b x=O):Hd b (Xw x)∧(hdP b.B0.length (Xw x)).press=(A U x.press.1,U.wrap x.press.2)∧(hdP b.B0.length (Xw x)).kind=x.kind∧(hdP b.B0.length (Xw x)).car=x.car:=by
 have hc:=Aj hcode;unfold OE at h;simp only[e_,U_]at h;obtain⟨h1,h2,h3,h4,h5,h6⟩:=h;have h2:=As.1 h2;have h3:=As.1 h3;have u:∀n:Int,0≤n∧n<256→B.wrap n=n:=λn h=>EG h.1 ω;have t1:=λr=>Nb (Bv (A B x.press.1) 4) r;have t2:=λr=>Nb (Bv (A B x.press.2) 4) r;have t3:=λr=>Nb (Bv (A B x.kind) 1) r;have t4:=λr=>Nb (Bv (A B x.car) 1) r;have hw:V (C x.press.1&&& ~~~ C (Bz b).1)=0∧V (C x.press.2&&& ~~~ C (Bz b).2)=0:=by
  unfold GN isZ at h1;have h1:(Ay x.press (Bz b)).1=0∧(Ay x.press (Bz b)).2=0:=by simpa using h1
  exact h1
 have k1:∀r,((H (I (A B x.kind) 1++r) 0:Nat):Int)=x.kind:=λr=>by rw[u _ ω,Wi ω]
 have k2:∀r,((H (I (A B x.car) 1++r) 0:Nat):Int)=x.car:=λr=>by rw[u _ ω,Wi ω]
 unfold Xw;refine⟨⟨?_,?_,?_,?_,?_,?_,?_⟩,?_,?_,?_⟩
 ·simp only[R_,Bv];omega
 ·rw[Aao,Bai];exact hw.1
 ·rw[t1,Aao,Bai];exact hw.2
 ·rw[t1,t2,k1];exact h2.2
 ·rw[t1,t2,t3,k2];exact h3.2
 ·rw[t1,t2,t3];intro q;have q1:=k1 (I (A B x.car) 1++OJ x.cars);have q2:=k2 (OJ x.cars);rw[q]at q1
  have:x.car=0:=by rw[← q1]at h4;simpa using h4
  omega
 ·rw[t1,t2,t3,t4];intro j hj;exact Afn hb x.cars (λc hc=>N_.1 h6 c hc) j ω
 ·unfold hdP;rw[t1,Aao,Aao]
 ·unfold hdP;rw[t1,t2];exact k1 _
 ·unfold hdP;rw[t1,t2,t3];exact k2 _
def Bc7(b:Bldg)(x:Inp):Prop:=OE b x=O∧EW x.press
def Bjn(v:BitVec 32):0≤V v∧V v<4294967296:=by
 have:=v.isLt
 unfold V;omega
def FrX(b:Bldg)(x:Inp)(s:ByteArray):Prop:=s.size=(inV b x).size∧s.extract 0 (s.size-2)=(inV b x).extract 0 (s.size-2)
def Fr(b:Bldg)(s:ByteArray):Prop:=∃x,Bc7 b x∧FrX b x s
def FrX.spoilt(h:FrX b x s)(r:ByteArray)(hr:r.size=1)(hs:1≤s.size):FrX b x (s.extract 0 (s.size-1)++r):=by
 have hz:(s.extract 0 (s.size-1)++r).size=s.size:=by rw[R_,hr,aL];omega
 refine⟨hz.trans h.1,?_⟩;rw[hz,← h.2];apply Qe;have hl:=DP s;rw[Qd,Qd,LJ,Qd];simp only[P_,Nat.sub_zero];rw[List.take_append_of_le_length (by rw[v_,hl];omega),List.take_take];congr 1;omega
def Ed(b:Bldg):Int:=U.wrap (A U (1*2^min (S (A B b.C0)) (IntKind.bits .u32))-1)
def Afc(hb:b.small):0≤Ed b∧Ed b<2^b.C0.toNat∧2^b.C0.toNat≤(256:Int)∧(∀f:Nat,f<32→CZ (Ed b) f=O→(f:Int)<b.C0)∧(∀f:Nat,f<32→CZ (aG (Ed b) ((2:Int)^(aC (S (1:Int)) (IntKind.bits U)))) f=O→(f:Int)<b.C0-1):=by
 have lo:=hb.lo;have hi:=hb.hi;unfold Ed
 have:b.C0=2∨b.C0=3∨b.C0=4∨b.C0=5∨b.C0=6∨b.C0=7∨b.C0=8:=ω
 rcases this with h | h | h | h | h | h | h<;>rw[h]<;>refine⟨τ,τ,τ,τ,τ⟩
def Boa(a:Int){c:Int}(hc:0≤c∧c<4294967296):0≤V (C a&&&C c)∧V (C a&&&C c)≤c:=by
 have h2:=Awt hc;unfold V at*;rw[BitVec.toNat_and]
 have:=Nat.and_le_right (n:=(C a).toNat) (m:=(C c).toNat)
 omega
section
variable{b:Bldg}(hb:b.small)(hcode:b.code=0)
include hb in
theorem Bey(a:Int):flV b (V (C a&&&C (Ed b)))=O:=by
 obtain⟨m0,m1,m2,_⟩:=Afc hb;have h:=Boa a (c:=Ed b) ω;unfold flV;rw[EG ω ω];generalize V (C a&&&C (Ed b))=n at h
 have:n.fdiv (2^b.C0.toNat)=0:=by rw[a6_ _ ω];exact Int.ediv_eq_zero_of_lt h.1 ω
 rw[this];rfl
include hb hcode in
theorem Awv(u d:Int):GN b (V (C (V (C u&&&C (Ed b)))&&&C (aG (Ed b) ((2:Int)^(aC (S (1:Int)) (IntKind.bits U))))),V (C (V (C d&&&C (Ed b)))&&& ~~~ C 1))=O:=by
 obtain⟨_,_,_,m3,m4⟩:=Afc hb;unfold GN;rw[KB (Hi _ _)];intro f hf D hD;rw[Bk _ _ hf,Xt hb hcode hf hD];rcases hD with rfl | rfl
 ·cases hq:An (V (C (V (C u&&&C (Ed b)))&&&C (aG (Ed b) ((2:Int)^(aC (S (1:Int)) (IntKind.bits U))))),V (C (V (C d&&&C (Ed b)))&&& ~~~ C 1)) f 1 with
  |false=>rfl
  |true=>
   have h1:CZ (V (C (V (C u&&&C (Ed b)))&&&C (aG (Ed b) ((2:Int)^(aC (S (1:Int)) (IntKind.bits U)))))) f=O:=hq;rw[TV,f6_,aJ]at h1;have h2:=m4 f hf h1.2;have h5:Ap b (f:Int) 1=O:=by unfold Ap OA;rw[hcode,show inR 0 (b.C0-2) (f:Int)=O from As.2 ⟨ω,ω⟩];rfl
   rw[h5];rfl
 ·cases hq:An (V (C (V (C u&&&C (Ed b)))&&&C (aG (Ed b) ((2:Int)^(aC (S (1:Int)) (IntKind.bits U))))),V (C (V (C d&&&C (Ed b)))&&& ~~~ C 1)) f 2 with
  |false=>rfl
  |true=>
   have h1:CZ (V (C (V (C d&&&C (Ed b)))&&& ~~~ C 1)) f=O:=hq;rw[TV,f6_,Ato,f6_,BitVec.getLsbD_not,aJ,aJ,aJ]at h1;have h2:=m3 f hf h1.1.2;have h3:f≠0:=λh=>by subst h;exact absurd h1.2.2 τ
   have h5:Ap b (f:Int) 2=O:=by unfold Ap OA;rw[hcode,show inR 1 (b.C0-1) (f:Int)=O from As.2 ⟨ω,ω⟩];rfl
   rw[h5];rfl
end
def Cb{α:Type}{l:List α}{i j:Nat}(d x:α)(h:i≠j):(l.set i x).getD j d=l.getD j d:=by rw[k_,List.getElem?_set_ne h,← k_]
section
variable{b:Bldg}(hb:b.small)(hcode:b.code=0)
include hb hcode
theorem Bc3(u d kd car:Int){cs:List W}(hcs:cs.length=b.B0.length):Sat (Pq b.C0 b.F0 b.H0 b.M0 b.K0 b.L0 b.N0 b.B0 u d kd car cs) λy=>∃x:Inp,y=(((),()),(x.tup,()))∧Bc7 b x:=by
 have hc:=Aj hcode;have lo:=hb.lo;have hi:=hb.hi;have hw:=Awv hb hcode u d;unfold Pq;refine aB (Af8 _) ?_;have z8:B.wrap (b.B0.length:Int)=(b.B0.length:Int):=EG ω ω;refine aB (by show(A B (b.B0.length:Int) !=0)=O;rw[z8];exact GT ω) ?_;have u64n:∀n:Int,0≤B.wrap n∧B.wrap n<18446744073709551616:=λn=>by simp only[A,IntKind.signed,IntKind.bits];simp;exact⟨Int.emod_nonneg _ τ,aM _ τ⟩
 have md:∀(n:Int) (m:Int),0<m→m≤9→0≤E.wrap (Y (A B n) m)∧E.wrap (Y (A B n) m)<m:=λn m h0 h1=>by have h2:=(u64n n).1;rw[e2_ h2];have h3:=Int.emod_nonneg (A B n) (ω:m≠0);have h4:=aM (A B n) h0;rw[Aa ω ω];exact⟨h3,h4⟩
 refine aF (Q:=λy=>∃(k c:Int),y=(((),(),(),Ed b,()),(b.tup,(V (C (V (C u&&&C (Ed b)))&&&C (aG (Ed b) ((2:Int)^(aC (S (1:Int)) (IntKind.bits U))))),V (C (V (C d&&&C (Ed b)))&&& ~~~ C 1),k,c,cs,()),((0:Int),(0:Int),(0:Int),(0:Int),([]:List W),()),()))∧inR 0 8 k=O∧inR 0 ((b.B0.length:Int)-1) c=O∧(k==0&&c !=0)=J) ?_ λy hy=>?_
 ·have hk:=md kd 9 τ τ;have hkr:inR 0 8 (A E (Y (A B kd) 9))=O:=As.2 ⟨hk.1,ω⟩;simp only[Aap,OX];refine aD (λh=>X ⟨_,_,rfl,hkr,As.2 ⟨c7_ 0,ω⟩,by rw[h];rfl⟩) λh=>X ⟨_,_,rfl,hkr,?_,by rw[h];rfl⟩;have hcr:=md car (b.B0.length:Int) ω ω;rw[z8];exact As.2 ⟨hcr.1,ω⟩
 obtain⟨k,c,rfl,hk,hcr,hkc⟩:=hy;have hcap:((decide ((0:Int)≤(b.B0.length:Int))&&decide ((b.B0.length:Int)≤(b.B0.length:Int)))&&decide ((b.B0.length:Int)≤2147483648))=O:=by simp only[b_ (ω:(0:Int)≤(b.B0.length:Int)),b_ (c7_ (b.B0.length:Int)),b_ (ω:(b.B0.length:Int)≤2147483648),a0_]
 refine aB hcap ?_;generalize hP:(V (C (V (C u&&&C (Ed b)))&&&C (aG (Ed b) ((2:Int)^(aC (S (1:Int)) (IntKind.bits U))))),V (C (V (C d&&&C (Ed b)))&&& ~~~ C 1))=P at hw;have hP1:=f5_ Prod.fst hP;have hP2:=f5_ Prod.snd hP;simp only at hP1 hP2;rw[hP1,hP2];refine aF (Q:=λy=>∃l:List W,y=(((),(),l,()),((P.1,P.2,k,c,cs,()),((0:Int),(0:Int),(0:Int),(0:Int),([]:List W),()),()))∧l.length=b.B0.length∧∀j,j<b.B0.length→LN b (l.getD j OW)=O) ?_ λy hy=>?_
 ·refine Sat.loop (λ(kk:Nat) z=>∃(l:List W) (i:Nat),z=(((),(),(),Ed b,l,(i:Int),()),(b.tup,(P.1,P.2,k,c,cs,()),((0:Int),(0:Int),(0:Int),(0:Int),([]:List W),()),()))∧l.length=b.B0.length∧(∀j,j<i→LN b (l.getD j OW)=O)∧i+kk=b.B0.length) (λkk z hz=>?_) b.B0.length ⟨_,0,rfl,?_,λj hj=>absurd hj (e3_ j),p_ _⟩ ω
  ·obtain⟨l,i,rfl,hl,hj,hkk⟩:=hz;unfold Wb;refine aD (λgg=>?_) λgg=>X ⟨l,rfl,hl,?_⟩
   ·have gg:(i:Int)<(l.length:Int):=m_ gg;have hin:i<l.length:=ω;have w:=Dn (n:=i) ω;have z7:B.wrap b.C0=b.C0:=EG ω ω;refine aB (Ac (ω:(0:Int)≤(i:Int)) gg) ?_;refine aB (by show(A B b.C0 !=0)=O;rw[z7];exact GT ω) ?_;simp only[Aap,h_];refine X ⟨kk-1,ω,_,i+1,by first | (rw[← w];rfl) | rw[← w],?_,?_,ω⟩
    ·simp only[y_];exact hl
    ·intro j hjj;by_cases he:j=i
     ·subst he;rw[Bb _ _ (by simp only[y_];exact hin),Bb _ _ (by simp only[y_];exact hin),Bb _ _ (by simp only[y_];exact hin),Bb _ _ hin];unfold LN;have f1:=md (l.getD j (aI 0 J J J J 0 J 0 J 0 0)).M1 b.C0 ω ω;have f2:=md (l.getD j (aI 0 J J J J 0 J 0 J 0 0)).L1 3 τ τ;simp only[Bey hb,u_];rw[show B.wrap b.tup.1=b.C0 from z7,As.2 ⟨f1.1,show _≤b.C0-1 by omega⟩,As.2 ⟨f2.1,show _≤(2:Int)by omega⟩];rfl
     ·rw[Cb _ _ (e9_ he),Cb _ _ (e9_ he),Cb _ _ (e9_ he),Cb _ _ (e9_ he)];exact hj j ω
   ·have gg:¬(i:Int)<(l.length:Int):=D_ gg;intro j hjj;exact hj j ω
  ·show(Lo (List.replicate (S (b.B0.length:Int)) (aI 0 J J J J 0 J 0 J 0 0)) cs).length=b.B0.length;unfold Lo;simp only[i_,v_,W_,T_,h_];omega
 obtain⟨l,rfl,hl,hall⟩:=hy;refine X ⟨⟨P,k,c,l⟩,rfl,?_,by show EW P;rw[← hP];exact⟨Bjn _,Bjn _⟩⟩;unfold OE;rw[hw,hk,hcr,hkc,show((l.length:Int)==(b.B0.length:Int))=O by rw[hl];exact l_ _];simp only[u_,d4_];refine N_.2 λe he=>?_;obtain⟨j,hj,rfl⟩:=g1_ he
 have:=hall j ω
 rwa [k_,j_ hj]at this
end
def Bwi:∀k:Fin 16,(arF .quo .f64 (Aff .f64 ((k.val:Nat):Int)) 4622945017495814144).isSome=O:=by decide
def Bwj(h:0≤n∧n<256):Sat (arF .quo .f64 (Aff .f64 (Y n 16)) 4622945017495814144) λ_=>True:=by obtain⟨k,rfl⟩:=e0_ h.1;have e:Y ((k:Nat):Int) 16=((k%16:Nat):Int):=Nc k 16;have h2:=Bwi ⟨k%16,g0_ _ τ⟩;rw[e];obtain⟨a,ha⟩:=Option.isSome_iff_exists.1 h2;exact⟨a,ha,trivial⟩
def Asq(h:∀e∈l,u8r e)(n:Nat):u8r (l.getD n 0):=by
 by_cases hn:n<l.length
 ·exact Anh h hn
 ·rw[k_,List.getElem?_eq_none ω];exact Btz
section
variable{b:Bldg}(hb:b.small)(hcode:b.code=0)
include hb hcode
theorem Bc5{x0 x1 x2 x3 x4 x5:Int}(h:∀e∈[x0,x1,x2,x3,x4,x5],u8r e):Sat (Ps b.C0 b.F0 b.H0 b.M0 b.K0 b.L0 b.N0 b.B0 x0 x1 x2 x3 x4 x5) λy=>∃x:Inp,y=(((),()),(x.tup,()))∧Bc7 b x:=by
 have hc:=Aj hcode;unfold Ps;refine aF (Q:=λy=>∃u d:Int,y=(((),(),(),(),()),(b.tup,(x0,x1,x2,x3,x4,x5,()),((0:Int),(0:Int),(0:Int),(0:Int),([]:List W),()),(u,d,(0:Int),(0:Int),([]:List W),()),()))) (aD (λ_=>X ⟨_,_,rfl⟩) λ_=>X ⟨_,_,rfl⟩) λy hy=>?_;obtain⟨u,d,rfl⟩:=hy;refine aF (Q:=λy=>∃k c:Int,y=(((),(),(),(),()),(b.tup,(x0,x1,x2,x3,x4,x5,()),((0:Int),(0:Int),(0:Int),(0:Int),([]:List W),()),(u,d,k,c,([]:List W),()),()))) (aD (λ_=>X ⟨_,_,rfl⟩) λ_=>X ⟨_,_,rfl⟩) λy hy=>?_;obtain⟨k,c,rfl⟩:=hy;refine aF (Q:=λy=>∃cs:List W,y=(((),(),(),()),(b.tup,((0:Int),(0:Int),(0:Int),(0:Int),([]:List W),()),(u,d,k,c,cs,()),()))∧cs.length=b.B0.length) ?_ λy hy=>?_
 ·refine Sat.loop (λ(kk:Nat) z=>∃(cs:List W) (i:Nat),z=(((),(),(),(),(i:Int),()),(b.tup,(x0,x1,x2,x3,x4,x5,()),((0:Int),(0:Int),(0:Int),(0:Int),([]:List W),()),(u,d,k,c,cs,()),()))∧cs.length=i∧i+kk=b.B0.length) (λkk z hz=>?_) b.B0.length ⟨[],0,rfl,rfl,p_ _⟩ ω;obtain⟨cs,i,rfl,hcs,hkk⟩:=hz;unfold We;refine aD (λgg=>?_) λgg=>X ⟨cs,rfl,?_⟩
  ·have gg:(i:Int)<(b.B0.length:Int):=m_ gg;have w:=Dn (n:=i) ω;have e3:Y (i:Int) 3=((i%3:Nat):Int):=Nc i 3;have e4:Y (i:Int) 4=((i%4:Nat):Int):=Nc i 4;have w3:E.wrap (3+Y (i:Int) 3)=3+((i%3:Nat):Int):=by rw[e3,Aa ω ω]
   have w4:E.wrap (2+Y (i:Int) 4)=2+((i%4:Nat):Int):=by rw[e4,Aa ω ω]
   refine aB (Ac (ω:0≤E.wrap (3+Y (i:Int) 3)) (ω:E.wrap (3+Y (i:Int) 3)<((6:Nat):Int))) ?_;refine aB (Ac (ω:0≤E.wrap (2+Y (i:Int) 4)) (ω:E.wrap (2+Y (i:Int) 4)<((6:Nat):Int))) ?_;refine aF (Bwj (Asq h _)) λld _=>aB (Af8 _) ?_;refine aF (Q:=λy=>∃(z:Int) (ci:W),y=(((),(),(),(),(i:Int),z,(),()),(b.tup,(x0,x1,x2,x3,x4,x5,()),((0:Int),(0:Int),(0:Int),(0:Int),([]:List W),()),(u,d,k,c,cs,()),(ci.V0,ci.I2,ci.T1,ci.U1,ci.D1,ci.M1,ci.Y1,ci.L1,ci.H2,ci.E2,ci.I3,()),()))) ?_ λy hy=>?_
   ·refine aD (λ_=>X ⟨_,aI _ _ _ _ _ _ _ _ _ _ _,rfl⟩) λ_=>X ⟨_,aI _ _ _ _ _ _ _ _ _ _ _,rfl⟩
   obtain⟨z,ci,rfl⟩:=hy;refine aB (Az (ω:cs.length+1≤_)) (X ⟨kk-1,ω,cs++[aI ci.V0 ci.I2 ci.T1 ci.U1 ci.D1 (A E (Y z 8)) (decide ((0:Int)<Y z 5)) (A E (Y (A IntKind.u8 (Int.tdiv z 8)) 3)) (Y z 7==0) ci.E2 ci.I3],i+1,by first | (rw[← w];rfl) | rw[← w],by rw[i_,hcs];rfl,ω⟩)
  ·have gg:¬(i:Int)<(b.B0.length:Int):=D_ gg;omega
 obtain⟨cs,rfl,hcs⟩:=hy;refine aF (Bc3 hb hcode u d k c hcs) λy hy=>?_;obtain⟨x,rfl,hx⟩:=hy;exact X ⟨x,rfl,hx⟩
theorem Bc4(h:∀e∈l,u8r e)(_hl:l.length≤maxLen){most:Nat}(hm:most≤1000):Sat (MG b.C0 b.F0 b.H0 b.M0 b.K0 b.L0 b.N0 b.B0 l (most:Int)) λy=>y.1.1.length≤most∧∀s∈y.1.1,Fr b s:=by
 have hc:=Aj hcode;have hmx:maxLen≤9223372036854775807:=by decide
 unfold MG;refine aF (Q:=λy=>y.1.1.length≤most∧∀s∈y.1.1,Fr b s) ?_ λy hy=>X hy;refine Sat.loop (λ(k:Nat) z=>∃(out:List ByteArray) (i:Nat),z=((l,(most:Int),(),out,(i:Int),()),(b.tup,()))∧i≤out.length∧out.length≤most∧(∀s∈out,Fr b s)∧i+k=most) (λk z hz=>?_) most ⟨[],0,rfl,A_ 0,a5_ _,λs hs=>(by cases hs),p_ _⟩ ω;obtain⟨out,i,rfl,h1,h2,h3,hk⟩:=hz;unfold Wc;have w6:E.wrap (6*(i:Int))=6*(i:Int):=Aa ω ω;refine aD (λg1=>aD (λg2=>?_) λ_=>X ⟨h2,h3⟩) λ_=>X ⟨h2,h3⟩;have g1:E.wrap (6*(i:Int))<(l.length:Int):=m_ g1;have g2:(out.length:Int)<(most:Int):=m_ g2;refine aB (by show(decide ((0:Int)≤E.wrap (6*(i:Int)))&&decide (A E (6*(i:Int))≤(l.length:Int)))=O;rw[b_ (ω:(0:Int)≤E.wrap (6*(i:Int))),b_ (ω:E.wrap (6*(i:Int))≤(l.length:Int))];rfl) ?_;have hz1:∀e∈List.drop (S (A E (6*(i:Int)))) (List.take (List.length l) l),u8r e:=λe he=>h e (by
  have:=d9_ he
  exact d8_ this)
 generalize List.drop (S (A E (6*(i:Int)))) (List.take (List.length l) l)=L at hz1;dsimp only;have pick:∀n:Nat,u8r (bif aE n L.length then L.getD n 0 else 0):=λn=>by
  cases aE n L.length with
  |true=>exact Asq hz1 n
  |false=>exact Btz
 have hall:∀e∈[(bif aE 0 L.length then L.getD 0 0 else 0),(bif aE 1 L.length then L.getD 1 0 else 0),(bif aE 2 L.length then L.getD 2 0 else 0),(bif aE 3 L.length then L.getD 3 0 else 0),(bif aE 4 L.length then L.getD 4 0 else 0),(bif aE 5 L.length then L.getD 5 0 else 0)],u8r e:=λe he=>by simp only[s_,h3_,or_false]at he;rcases he with rfl | rfl | rfl | rfl | rfl | rfl<;>exact pick _
 have h5:=pick 5;have hin:=Bc5 hb hcode hall;generalize(bif aE 0 L.length then L.getD 0 0 else 0)=q0 at hin;generalize(bif aE 1 L.length then L.getD 1 0 else 0)=q1 at hin;generalize(bif aE 2 L.length then L.getD 2 0 else 0)=q2 at hin;generalize(bif aE 3 L.length then L.getD 3 0 else 0)=q3 at hin;generalize(bif aE 4 L.length then L.getD 4 0 else 0)=q4 at hin;generalize(bif aE 5 L.length then L.getD 5 0 else 0)=q5 at hin h5;refine aF hin λy hy=>?_;obtain⟨x,rfl,hx⟩:=hy;have hxl:x.cars.length=b.B0.length:=by have hx:=hx.1;unfold OE at hx;simp only[e_,U_]at hx;omega
 have hin2:=Bcc hb hcode x ω;rw[hx.1,d_]at hin2;refine Sat.bindE hin2 ?_;have hsz:=Ach b x;have h5':0≤Y q5 4∧Y q5 4≤3:=by have h50:0≤q5:=h5.1;rw[e2_ h50];omega
 have w5:E.wrap (Y q5 4)=Y q5 4:=Aa ω ω;refine aF (Q:=λy=>∃o:List ByteArray,y=((l,(most:Int),(),o,(i:Int),()),(b.tup,()))∧i+1≤o.length∧o.length≤most∧∀s∈o,Fr b s) ?_ λy hy=>?_
 ·refine Sat.loop (λ(kk:Nat) z=>∃(o:List ByteArray) (s:ByteArray) (j:Nat),z=((l,(most:Int),(),o,(i:Int),(),s,(j:Int),()),(b.tup,(q0,q1,q2,q3,q4,q5,()),()))∧o.length=out.length+j∧o.length≤most∧(∀s∈o,Fr b s)∧FrX b x s∧j+kk=4) (λkk z hz=>?_) 4 ⟨out,inV b x,0,rfl,rfl,h2,h3,⟨rfl,rfl⟩,rfl⟩ τ;obtain⟨o,s,j,rfl,o1,o2,o3,s1,hkk⟩:=hz;have s2:=s1.1;unfold Wd;have w:=Dn (n:=j) ω;refine aD (λc1=>aD (λc2=>?_) λc2=>X ⟨o,rfl,?_,o2,o3⟩) λc1=>X ⟨o,rfl,?_,o2,o3⟩
  ·have c1:(j:Int)≤E.wrap (Y q5 4):=m_ c1;have c2:(o.length:Int)<(most:Int):=m_ c2;refine aD (λ_=>?_) λ_=>?_
   ·have ws:E.wrap ((s.size:Int)-1)=(s.size:Int)-1:=Aa ω ω;refine aB (by
     show(decide ((0:Int)≤E.wrap ((s.size:Int)-1))&&decide (A E ((s.size:Int)-1)≤(s.size:Int)))=O;rw[b_ (ω:(0:Int)≤E.wrap ((s.size:Int)-1)),b_ (ω:E.wrap ((s.size:Int)-1)≤(s.size:Int))];rfl) ?_
    have ex:(s.extract 0 (S (A E ((s.size:Int)-1)))).size=s.size-1:=by rw[aL,ws];omega
    have sz:(s.extract 0 (S (A E ((s.size:Int)-1)))++aK (Array.mk [63])).size=s.size:=by rw[R_,ex];show s.size-1+1=_;omega
    have sp:FrX b x (s.extract 0 (S (A E ((s.size:Int)-1)))++aK (Array.mk [63])):=by rw[ws,show S ((s.size:Int)-1)=s.size-1 by omega];exact s1.spoilt _ rfl ω
    refine aB (Az (by show(s.extract 0 (S (A E ((s.size:Int)-1)))).size+1≤_;omega)) ?_;refine aB (Az (ω:o.length+1≤_)) (X ⟨kk-1,ω,o++[s.extract 0 (S (A E ((s.size:Int)-1)))++aK (Array.mk [63])],s.extract 0 (S (A E ((s.size:Int)-1)))++aK (Array.mk [63]),j+1,by first | (rw[← w];rfl) | rw[← w],by rw[i_,o1];rfl,by rw[i_];show o.length+1≤_;omega,λu hu=>?_,sp,ω⟩);rcases n_.1 hu with hu | hu
    ·exact o3 u hu
    ·rw[E_]at hu;subst hu;exact⟨x,hx,sp⟩
   ·refine aB (Az (ω:o.length+1≤_)) (X ⟨kk-1,ω,o++[s],s,j+1,by first | (rw[← w];rfl) | rw[← w],by rw[i_,o1];rfl,by rw[i_];show o.length+1≤_;omega,λu hu=>?_,s1,ω⟩);rcases n_.1 hu with hu | hu
    ·exact o3 u hu
    ·rw[E_]at hu;subst hu;exact⟨x,hx,s1⟩
  ·have c2:¬(o.length:Int)<(most:Int):=D_ c2;omega
  ·have c1:¬(j:Int)≤E.wrap (Y q5 4):=D_ c1;omega
 obtain⟨o,rfl,o1,o2,o3⟩:=hy;have w:=Dn (n:=i) ω;exact X ⟨k-1,ω,o,i+1,by first | (rw[← w];rfl) | rw[← w],o1,o2,o3,ω⟩
end
structure InOK(b:Bldg)(x:Inp):Prop where
 press:GN b x.press=true
 pu:EW x.press
 kind:0≤x.kind∧x.kind≤8
 car:0≤x.car∧x.car<(b.B0.length:Int)
 len:x.cars.length=b.B0.length
 flo:∀c∈x.cars,0≤c.V0∧c.V0<4294967296
def Aii:∀(n:Nat) (s:ByteArray),∀c∈UZ n s,0≤c.V0∧c.V0<4294967296
 |0,_,_,h=>by cases h
 |n+1,s,c,h=>by
  rcases s_.1 h with rfl | h
  ·exact HV _
  ·exact Aii n (rest s) c h
def Fr.good(h:FrX b x s)(ho:Ee b s=0):s=inV b x:=by
 obtain⟨h1,h2⟩:=h;have h3:(Lu s).2=0:=by
  unfold Ee at ho;cases q1:((s.size:Int) !=14+19*(b.B0.length:Int))with
  |true=>rw[q1]at ho;cases ho
  |false=>
  rw[q1]at ho;cases q2:(A E (Bs s 0) !=165)with
  |true=>rw[q2]at ho;cases ho
  |false=>
  rw[q2]at ho;cases q3:(A E (Bs s 1) !=(b.B0.length:Int))with
  |true=>rw[q3]at ho;cases ho
  |false=>rw[q3]at ho;exact ho
 have hi:=Ach b x;unfold Lu at h3;rw[f_ (ω:¬(s.size:Int)<2),c_,h2]at h3;cases q:eqB (JZ ((inV b x).extract 0 (s.size-2))) s with
 |false=>rw[q]at h3;cases h3
 |true=>have q:JZ ((inV b x).extract 0 (s.size-2))=s:=Bkd.1 q;rw[← q,h1];unfold inV;rw[Qz,Nat.add_sub_cancel];generalize x.cars.foldl OR (Vi b x)=t;congr 1;unfold JZ;apply Qe;rw[Qd,LJ,P_,Nat.sub_zero];exact(f2_ (DP t))
def Af7(h:0≤n∧n<4294967296):U.wrap n=n:=by simp only[A,IntKind.signed,IntKind.bits];simp;omega
def Aet(hb:b.small)(hcode:b.code=0)(hs:Fr b s):∃x:Inp,Eo b.C0 b.F0 b.H0 b.M0 b.K0 b.L0 b.N0 b.B0 s=aA (((),Ee b s,()),(x.tup,()))∧(Ee b s≠0→x=Inp.none)∧(Ee b s=0→InOK b x):=by
 have hc:=Aj hcode;obtain⟨x,⟨hx,hu⟩,hf⟩:=hs;have hxl:x.cars.length=b.B0.length:=by unfold OE at hx;simp only[e_,U_]at hx;omega
 have hz:s.size≤1000000:=by rw[hf.1,Ach];omega
 by_cases ho:Ee b s=0
 ·have e:=Fr.good hf ho;subst e;obtain⟨hd,e1,e2,e3⟩:=Blm hb hcode hx;have h:=Aa0 hb hcode hz ho (by rw[Arz];exact hd);rw[Arz]at h;refine⟨_,by rw[ho];exact h,λg=>absurd ho g,λ_=>?_⟩;unfold OE at hx;simp only[e_,U_]at hx;obtain⟨g1,g2,g3,_⟩:=hx;have g2:=As.1 g2;have g3:=As.1 g3;refine⟨?_,?_,?_,?_,Aij _ _,Aii _ _⟩
  ·rw[e1,Af7 hu.1,Af7 hu.2];exact g1
  ·rw[e1,Af7 hu.1,Af7 hu.2];exact hu
  ·rw[e2];exact g2
  ·rw[e3];omega
 ·exact⟨Inp.none,Acc hcode hz ho,λ_=>rfl,λg=>absurd g ho⟩
end Go.Ovl
