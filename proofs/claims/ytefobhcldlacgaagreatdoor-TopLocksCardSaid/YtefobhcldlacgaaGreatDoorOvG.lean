import Derived.Test.YtefobhcldlacgaaGreatDoorOvF
import Derived.Test.YtefobhcldlacgaaGreatDoorOvC
set_option linter.all false
open Go.IntKind renaming wrap->A,i64->C,u64->D,u16->I,u32->V,u8->W
open Go.Ovl renaming Ae->B,Bldg->Q,inR->R,CarInput->Y
open Option renaming some->E,bind->aD
open Bool renaming false->H
open Go renaming d_->J,b_->O
open Int renaming toNat->L,fdiv->U
open Min renaming min->P
open Nat renaming ble->X
open BitVec renaming ofInt->Z,toNat->aB
open List renaming range->aA
open Go.Ovl.CarInput renaming mk->aC
namespace Go.Ovl
open Go Go.Ab
set_option maxRecDepth 100000
variable{s:ByteArray}{b:Q}{n a r:Nat}
def CK(h:n<1000000000):C.wrap ((n:Int)+1)=((n+1:Nat):Int):=by rw[Aa ω ω];omega
def Bqc(h:n<1000000000):D.wrap (n:Int)=(n:Int):=CN ω ω
def Aex(l:List Int):(ID l).size=l.length:=by simp[ID,ByteArray.size]
def An4(x y:Int):Int:=C.wrap (stk x y (aB ((Z (IntKind.bits C) x)^^^(Z (IntKind.bits C) y))))
def Xp(_:Nat)(r:Int):Int:=bif decide (32768≤r)then An4 (Int.tmod (A C (r*2)) 65536) 4129 else Int.tmod (A C (r*2)) 65536
def Aa3(s:ByteArray)(i:Nat)(r:Int):Int:=AM Xp 8 0 (An4 r (A C (A C (AC s i)*256)))
def Zf(s:ByteArray):Int:=AM (Aa3 s) s.size 0 65535
def Apa(s:ByteArray)(r i:Int):Of ((s,r,i,(0:Int),()),())=E ((s,AM Xp 8 0 r,i,()),()):=by
 have h:=Bc (step:=λx=>IP x.1.1 x.1.2.1 x.1.2.2.1 x.1.2.2.2.1) 8 (λk r=>((s,r,i,(k:Int),()),())) Xp (λ_ _=>True) (λr=>((s,r,i,()),()))
  (λk r hk _=>by refine⟨?_,trivial⟩;show IP s r i (k:Int)=_;unfold IP;simp only[O (ω:(k:Int)<8),J,CK (ω:k<1000000000)];unfold Xp An4;cases decide ((32768:Int)≤r)<;>rfl)
  (λr _=>by show IP s r i 8=_;unfold IP;rw[f_ (Q_ (8:Int))];rfl) 8 0 r ω trivial
 exact As h.1 ω
def Ane(hs:s.size≤1000000):QD s=E ((A I (Zf s),()),()):=by
 have h:=Bc (step:=λx=>IN x.1.1 x.1.2.1 x.1.2.2.1) s.size (λi r=>((s,r,(i:Int),()),())) (Aa3 s) (λ_ _=>True) (λr=>((r,()),()))
  (λi r hi _=>by refine⟨?_,trivial⟩;show IN s r (i:Int)=_;unfold IN;simp only[O (ω:(i:Int)<(s.size:Int)),Ac (ω:(0:Int)≤(i:Int)) (ω:(i:Int)<(s.size:Int)),J,j_];refine B (Apa s _ _) ?_;show E (Sum.inl ((s,_,C.wrap ((i:Int)+1),()),()))=_;rw[CK (ω:i<1000000000)];rfl)
  (λr _=>by show IN s r (s.size:Int)=_;unfold IN;rw[f_ (Q_ (s.size:Int))];rfl) s.size 0 65535 ω trivial
 have h2:Oe ((s,(65535:Int),(0:Int),()),())=_:=As h.1 ω;unfold QD;exact B h2 rfl
def Xl(s:ByteArray):ByteArray:=ID [W.wrap (A I (Int.tdiv (A I (Zf s)) 256)),W.wrap (Int.tmod (A I (Zf s)) 256)]
def Hm(s:ByteArray):ByteArray:=s++Xl s
def PW(s:ByteArray):(Hm s).size=s.size+2:=by unfold Hm Xl;rw[O_,Aex];rfl
def Aar(hs:s.size≤1000000):Pc s=E ((Hm s,()),()):=by
 unfold Pc;refine B (Ane hs) ?_
 have:=PW s
 unfold Hm at this;rw[O_]at this;show(bif X (s.size+(Xl s).size) 4611686018427387904 then E ((s++Xl s,()),())else none)=_;rw[AD ω];rfl
def IB(s:ByteArray):ByteArray×Int:=bif decide ((s.size:Int)<2)then(noB,4)else bif eqB (Hm (s.extract 0 (s.size-2))) s then(s.extract 0 (s.size-2),0)else(noB,5)
def Ao9(hs:s.size≤1000000):RT s=E (((IB s).1,(IB s).2,()),()):=by
 unfold RT IB;by_cases h:(s.size:Int)<2
 ·rw[O h];rfl
 ·rw[f_ h,c_,c_];have w:C.wrap ((s.size:Int)-2)=((s.size-2:Nat):Int):=by rw[Aa ω ω];omega
  simp only[w,j_];rw[O (ω:(0:Int)≤((s.size-2:Nat):Int)),O (ω:((s.size-2:Nat):Int)≤(s.size:Int)),a6_,J];refine B (Aar (s:=s.extract 0 (s.size-2)) (by rw[Wy s ω];omega)) ?_;show(bif eqB (Hm (s.extract 0 (s.size-2))) s then _ else _)=_;cases eqB (Hm (s.extract 0 (s.size-2))) s<;>rfl
def Abz(n:Int)(k:Nat):List Int:=(aA k).map λi=>W.wrap (U n ((2:Int)^(P (8*i) (IntKind.bits .u64))))
def nmB(n:Int)(k:Nat):ByteArray:=ID (Abz n k)
def AB(n:Int)(k:Nat):(nmB n k).size=k:=by unfold nmB;rw[Aex];simp[Abz]
def ET(n:Int){k:Nat}(hk:k≤100):DZ n (k:Int)=E ((nmB n k,()),()):=by
 have h:=Bc (step:=λx=>LG x.1.1 x.1.2.1 x.1.2.2.1 x.1.2.2.2.1) k (λi l=>((n,(k:Int),l,(i:Int),()),())) (Lk 0 (λi _=>W.wrap (U n ((2:Int)^(P (8*i) (IntKind.bits .u64)))))) (λ_ l=>l.length=k) (λl=>((l,()),()))
  (λi l hi hl=>by
   refine⟨?_,by rw[Lk,x_,hl]⟩;show LG n (k:Int) l (i:Int)=_;unfold LG;have e:D.wrap (A C (8*(i:Int)))=((8*i:Nat):Int):=by rw[Aa (n:=8*(i:Int)) ω ω,CN ω ω];norm_cast
   simp only[O (ω:(i:Int)<(k:Int)),Ac (ω:(0:Int)≤(i:Int)) (ω:(i:Int)<(l.length:Int)),J,j_,e,O (ω:(0:Int)≤((8*i:Nat):Int)),CK (ω:i<1000000000)];rfl)
  (λl hl=>by show LG n (k:Int) l (k:Int)=_;unfold LG;rw[f_ (Q_ (k:Int))];rfl) k 0 (List.replicate k 0) ω σ
 have h2:=As h.1 ω;rw[show List.replicate k (0:Int)=(aA k).map (λ_=>0)by simp[List.map_const'],PG]at h2;have h3:QF ((n,(k:Int),(aA k).map (λ_=>(0:Int)),(0:Int),()),())=_:=h2;unfold DZ;rw[O (ω:(0:Int)≤(k:Int)),O (e1_ (k:Int)),O (ω:(k:Int)≤2147483648),a6_,a6_,J,j_,show List.replicate k (0:Int)=(aA k).map (λ_=>0)by simp[List.map_const']];exact B h3 rfl
def Rl(c:Int×Int):ByteArray:=nmB (A D c.1) 4++nmB (A D c.2) 4
def Aaf(c:Int×Int):(Rl c).size=8:=by unfold Rl;rw[O_,AB,AB]
def Anf(c:Int×Int):QE c.1 c.2=E ((Rl c,()),()):=by unfold QE;refine B (ET (A D c.1) (k:=4) ω) ?_;refine B (ET (A D c.2) (k:=4) ω) ?_;show(bif X ((nmB (A D c.1) 4).size+(nmB (A D c.2) 4).size) 4611686018427387904 then _ else _)=_;rw[AB,AB];rfl
def At4(x y:Int):Int:=D.wrap (stk x y (aB ((Z (IntKind.bits D) x)|||(Z (IntKind.bits D) y))))
def Px(l:List Bool)(i:Nat)(n:Int):Int:=bif l.getD i H then At4 n (A D (1*2^min i (IntKind.bits .u64)))else n
def Ue(l:List Bool):ByteArray:=nmB (AM (Px l) l.length 0 0) 1
def Nh(l:List Bool):(Ue l).size=1:=AB _ _
def Apd{l:List Bool}(hl:l.length≤100):RW l=E ((Ue l,()),()):=by
 have h:=Bc (step:=λx=>Ko x.1.1 x.1.2.1 x.1.2.2.1) l.length (λi n=>((l,n,(i:Int),()),())) (Px l) (λ_ _=>True) (λn=>((n,()),()))
  (λi n hi _=>by refine⟨?_,trivial⟩;show Ko l n (i:Int)=_;unfold Ko;simp only[O (ω:(i:Int)<(l.length:Int)),Ac (ω:(0:Int)≤(i:Int)) (ω:(i:Int)<(l.length:Int)),J,j_,Bqc (ω:i<1000000000),O (ω:(0:Int)≤(i:Int)),CK (ω:i<1000000000)];unfold Px At4;cases l.getD i H<;>rfl)
  (λn _=>by show Ko l n (l.length:Int)=_;unfold Ko;rw[f_ (Q_ (l.length:Int))];rfl) l.length 0 0 ω trivial
 have h2:Pm ((l,(0:Int),(0:Int),()),())=_:=As h.1 ω;unfold RW;refine B h2 ?_;exact B (ET _ (k:=1) ω) rfl
structure Inp where
 press:Int×Int
 kind:Int
 car:Int
 cars:List CarInput
def Inp.tup(x:Inp):Int×Int×Int×Int×List Y×Unit:=(x.press.1,x.press.2,x.kind,x.car,x.cars,())
def Inp.none:Inp:=⟨(0,0),0,0,[]⟩
def Ed:Y:=aC 0 H H H H 0 H 0 H 0 0
def flV(b:Q)(n:Int):Bool:=U (A D n) ((2:Int)^b.C0.toNat)==0
def Ec(b:Q)(c:Y):Bool:=flV b c.V0&&(flV b c.B2&&(R 0 (b.C0-1) c.M1&&R 0 2 c.B1))
def GG(b:Q)(c:Int×Int):Bool:=isZ (Az c (Bz b))
def HI(b:Q)(x:Inp):Bool:=GG b x.press&&(R 0 8 x.kind&&(R 0 ((b.B0.length:Int)-1) x.car&&(!(x.kind==0&&x.car !=0)&&((x.cars.length:Int)==(b.B0.length:Int)&&x.cars.all (Ec b)))))
def JE(s:ByteArray)(c:Y):ByteArray:=s++nmB (A D c.V0) 4++Ue [c.T1,c.F1,c.G1,c.W0,c.Y0,c.Q1]++nmB (A D c.M1) 1++nmB (A D c.B1) 1++nmB (A D c.B2) 4++nmB ((c.G3:Nat):Int) 8
def Ag2(s:ByteArray)(c:Y):(JE s c).size=s.size+19:=by unfold JE;simp only[O_,AB,Nh]
def QM(b:Q)(x:Inp):ByteArray:=nmB 165 1++nmB (A D (b.B0.length:Int)) 1++Rl x.press++nmB (A D x.kind) 1++nmB (A D x.car) 1
def Adr(b:Q)(x:Inp):(QM b x).size=12:=by unfold QM;simp only[O_,AB,Aaf]
def inV(b:Q)(x:Inp):ByteArray:=Hm (x.cars.foldl JE (QM b x))
def Adk(l:List Y)(s:ByteArray):(l.foldl JE s).size=s.size+19*l.length:=by
 induction l generalizing s with
 |nil=>simp
 |cons c t ih=>rw[f2_,ih,Ag2,B_];omega
def WN(b:Q)(x:Inp):(inV b x).size=14+19*x.cars.length:=by unfold inV;rw[PW,Adk,Adr];omega
def MK(n lo hi:Int):Ot n lo hi=E ((R lo hi n,()),()):=by unfold Ot R;cases decide (lo≤n)<;>rfl
section
variable{b:Q}(hb:b.small)(hcode:b.code=0)
include hb
theorem XD(n:Int):Pd b.C0 b.F0 b.H0 b.M0 b.K0 b.L0 b.N0 b.B0 n=E ((flV b n,()),()):=by
 have h1:=hb.1;have h2:=hb.2;have e:D.wrap b.C0=b.C0:=CN ω ω;have e2:P b.C0.toNat (IntKind.bits .u64)=b.C0.toNat:=by show min b.C0.toNat 64=_;omega
 unfold Pd flV;simp only[e,O (ω:(0:Int)≤b.C0),J,e2]
theorem Ajj(x:Inp)(hx:x.cars.length≤1000):Mt (((),(),(0:Int),()),(b.tup,x.tup,()))=E (bif x.cars.all (Ec b)then .inl ((),())else .inr ((H,()),())):=by
 have h1:=hb.1;have h2:=hb.2;have h:=As (Ahv (step:=λx=>letI a:=x.2.1.2.2;letI d:=x.2.2.1;letI e:=a.2.2;Kn x.1.2.2.1 x.2.1.1 x.2.1.2.1 a.1 a.2.1 e.1 e.2.1 e.2.2.1 e.2.2.2.1 d.1 d.2.1 d.2.2.1 d.2.2.2.1 d.2.2.2.2.1) x.cars Ed (Ec b) (λi=>(((),(),(i:Int),()),(b.tup,x.tup,()))) (.inl ((),())) (λ_=>.inr ((H,()),())) (λi hi=>by
  show Kn (i:Int) b.C0 b.F0 b.H0 b.M0 b.K0 b.L0 b.N0 b.B0 x.press.1 x.press.2 x.kind x.car x.cars=_;unfold Kn;rw[show aC 0 H H H H 0 H 0 H 0 0=Ed from rfl];have w:C.wrap (b.C0-1)=b.C0-1:=Aa ω ω;simp only[O (ω:(i:Int)<(x.cars.length:Int)),J,Ac (ω:(0:Int)≤(i:Int)) (ω:(i:Int)<(x.cars.length:Int)),j_,CK (ω:i<1000000000),w];generalize x.cars.getD i Ed=c;unfold Ec;refine B (XD hb c.V0) ?_;show(bif !flV b c.V0 then _ else _)=_;cases flV b c.V0 with
  |false=>rfl
  |true=>
  rw[q_,c_,z_];refine B (XD hb c.B2) ?_;show(bif !flV b c.B2 then _ else _)=_;cases flV b c.B2 with
  |false=>rfl
  |true=>
  rw[q_,c_,z_];refine B (MK _ _ _) ?_;show(bif !R 0 (b.C0-1) c.M1 then _ else _)=_;cases R 0 (b.C0-1) c.M1 with
  |false=>rfl
  |true=>
  rw[q_,c_,z_];refine B (MK _ _ _) ?_;show(bif !R 0 2 c.B1 then _ else _)=_;cases R 0 2 c.B1<;>rfl) (by
  show Kn (x.cars.length:Int) b.C0 b.F0 b.H0 b.M0 b.K0 b.L0 b.N0 b.B0 x.press.1 x.press.2 x.kind x.car x.cars=_;unfold Kn;rw[f_ (Q_ _),c_]) x.cars.length 0 ω) ω
 rw[S_,Bce]at h;exact h
include hcode
theorem Oq(c:Int×Int):Pe b.C0 b.F0 b.H0 b.M0 b.K0 b.L0 b.N0 b.B0 c.1 c.2=E ((GG b c,()),()):=by
 unfold Pe;refine B (Ao8 hb hcode) ?_;have e1:=OF c.1 (Bz b).1;have e2:=OF c.2 (Bz b).2;show aD (bif V.wrap _==0 then E ((A V _==0,()),())else _) _=_;rw[e1,e2];unfold GG isZ;show aD (bif(Az c (Bz b)).1==0 then E (((Az c (Bz b)).2==0,()),())else _) _=_;cases(Az c (Bz b)).1==0 with
 |false=>rfl
 |true=>rw[z_,e3_];rfl
theorem Apc(x:Inp)(hx:x.cars.length≤1000):RU b.C0 b.F0 b.H0 b.M0 b.K0 b.L0 b.N0 b.B0 x.press.1 x.press.2 x.kind x.car x.cars=E ((HI b x,()),()):=by
 have hc:=Aj hcode;have w:C.wrap ((b.B0.length:Int)-1)=(b.B0.length:Int)-1:=Aa ω ω;unfold RU HI;rw[w];have fin:∀g:Bool,aD (E (((),(),!g,()),(b.tup,x.tup,()))) (λy5:(Unit×Unit×Bool×Unit)×_=>bif y5.1.2.2.1 then E ((H,()),())else(Mt (((),(),(0:Int),()),(y5.2.1,y5.2.2.1,()))).bind λy6=>(match y6 with | .inl y7=>E ((true,()),()) | .inr y7=>E ((y7.1.1,()),())))=E (((g&&x.cars.all (Ec b)),()),()):=by
  intro g;cases g with
  |false=>rfl
  |true=>refine B rfl ?_;show(bif !true then _ else _)=_;rw[q_,c_,z_];refine B (Ajj hb x hx) ?_;cases x.cars.all (Ec b)<;>rfl
 rw[Na];show aD (aD (E ((b.code,()),())) _) _=_;rw[hcode];cases h1:GG b x.press with
 |false=>refine B (B rfl (show(bif((0:Int) !=0)then _ else _)=E (((),(),!H,()),(b.tup,x.tup,()))from B (Oq hb hcode x.press) (by show(bif !GG b x.press then _ else _)=_;rw[h1];rfl))) ?_;exact fin H
 |true=>
 cases h2:R 0 8 x.kind with
 |false=>refine B (B rfl (show(bif((0:Int) !=0)then _ else _)=E (((),(),!H,()),(b.tup,x.tup,()))from B (Oq hb hcode x.press) (by show(bif !GG b x.press then _ else _)=_;rw[h1,q_,c_];refine B (MK _ _ _) ?_;show(bif !R 0 8 x.kind then _ else _)=_;rw[h2];rfl))) ?_;exact fin H
 |true=>
 cases h3:R 0 ((b.B0.length:Int)-1) x.car with
 |false=>refine B (B rfl (show(bif((0:Int) !=0)then _ else _)=E (((),(),!H,()),(b.tup,x.tup,()))from B (Oq hb hcode x.press) (by show(bif !GG b x.press then _ else _)=_;rw[h1,q_,c_];refine B (MK _ _ _) ?_;show(bif !R 0 8 x.kind then _ else _)=_;rw[h2,q_,c_];refine B (MK _ _ _) ?_;show(bif !R 0 ((b.B0.length:Int)-1) x.car then _ else _)=_;rw[h3];rfl))) ?_;exact fin H
 |true=>refine B (B rfl (show(bif((0:Int) !=0)then _ else _)=E (((),(),!(!(x.kind==0&&x.car !=0)&&((x.cars.length:Int)==(b.B0.length:Int))),()),(b.tup,x.tup,()))from B (Oq hb hcode x.press) (by show(bif !GG b x.press then _ else _)=_;rw[h1,q_,c_];refine B (MK _ _ _) ?_;show(bif !R 0 8 x.kind then _ else _)=_;rw[h2,q_,c_];refine B (MK _ _ _) ?_;show(bif !R 0 ((b.B0.length:Int)-1) x.car then _ else _)=_;rw[h3,q_,c_];have hne:((x.cars.length:Int) !=(b.B0.length:Int))=!((x.cars.length:Int)==(b.B0.length:Int)):=rfl;rw[hne];cases(x.cars.length:Int)==(b.B0.length:Int)<;>cases x.kind==0<;>cases x.car !=0<;>rfl))) ?_;refine Eq.trans (fin (!(x.kind==0&&x.car !=0)&&((x.cars.length:Int)==(b.B0.length:Int)))) ?_;simp only[z_,Bool.and_assoc]
end
def Bgz{c:Nat}(ha:a<65536)(hc:c<65536):I.wrap (stk (a:Int) (c:Int) (aB ((Z (IntKind.bits .u16) (a:Int))^^^(Z (IntKind.bits .u16) (c:Int)))))=((a^^^c:Nat):Int):=by have h:=f5_ (n:=16) ha hc;rw[LC,BitVec.toNat_xor,a0_,a0_];rw[show(((a:Int))%((2^IntKind.bits .u16:Nat):Int)).toNat=a by simp only[IntKind.bits];omega,show(((c:Int))%((2^IntKind.bits .u16:Nat):Int)).toNat=c by simp only[IntKind.bits];omega];generalize a^^^c=n at*;simp only[A,IntKind.signed,IntKind.bits];simp;omega
def An5{c:Nat}(ha:a<65536)(hc:c<65536):An4 (a:Int) (c:Int)=((a^^^c:Nat):Int):=by have h:=f5_ (n:=16) ha hc;unfold An4;rw[LC,BitVec.toNat_xor,a0_,a0_];rw[show(((a:Int))%((2^IntKind.bits .i64:Nat):Int)).toNat=a by simp only[IntKind.bits];omega,show(((c:Int))%((2^IntKind.bits .i64:Nat):Int)).toNat=c by simp only[IntKind.bits];omega];exact Aa ω ω
def Qv(n:Nat):I.wrap (n:Int)=((n%65536:Nat):Int):=by simp only[A,IntKind.signed,IntKind.bits];simp
def n16(_:Nat)(r:Nat):Nat:=if 32768≤r then(2*r%65536)^^^4129 else 2*r%65536
def Azk{i:Nat}:n16 i r<65536:=by
 unfold n16;split
 ·exact f5_ (n:=16) (g1_ _ τ) τ
 ·exact g1_ _ τ
def Bd1{i:Nat}(h:r<65536):Xp i (r:Int)=((n16 i r:Nat):Int):=by
 have w:Int.tmod (A C ((r:Int)*2)) 65536=((2*r%65536:Nat):Int):=by rw[Aa ω ω,f6_ ω];omega
 unfold Xp n16;rw[w];by_cases g:32768≤r
 ·rw[O (ω:(32768:Int)≤(r:Int)),J,if_pos g];exact An5 (g1_ _ τ) τ
 ·rw[f_ (ω:¬(32768:Int)≤(r:Int)),c_,if_neg g]
def Bsl{i:Nat}(h:r<65536):(A I (stk (A I ((r:Int)*((2:Int)^(P (L (1:Int)) (IntKind.bits I))))) (A I ((U (r:Int) ((2:Int)^(P (L (15:Int)) (IntKind.bits I))))*(4129:Int))) (aB ((Z (IntKind.bits I) (A I ((r:Int)*((2:Int)^(P (L (1:Int)) (IntKind.bits I))))))^^^(Z (IntKind.bits I) (A I ((U (r:Int) ((2:Int)^(P (L (15:Int)) (IntKind.bits I))))*(4129:Int))))))))=((n16 i r:Nat):Int):=by
 have w1:I.wrap ((r:Int)*((2:Int)^(P (L (1:Int)) (IntKind.bits I))))=((2*r%65536:Nat):Int):=by rw[show((2:Int)^(P (L (1:Int)) (IntKind.bits I)))=2 from rfl,show(r:Int)*2=((2*r:Nat):Int)by omega];exact Qv _
 have d:U (r:Int) ((2:Int)^(P (L (15:Int)) (IntKind.bits I)))=((r/32768:Nat):Int):=by rw[show((2:Int)^(P (L (15:Int)) (IntKind.bits I)))=32768 from rfl,X_ _ ω];omega
 have w2:I.wrap ((U (r:Int) ((2:Int)^(P (L (15:Int)) (IntKind.bits I))))*(4129:Int))=((r/32768*4129:Nat):Int):=by
  rw[d,show((r/32768:Nat):Int)*4129=((r/32768*4129:Nat):Int)by omega,Qv]
  have:r/32768*4129<65536:=ω
  rw[h2_ this]
 rw[w1,w2,Bgz (g1_ _ τ) ω];unfold n16;by_cases g:32768≤r
 ·rw[if_pos g,show r/32768*4129=4129 by omega]
 ·rw[if_neg g,show r/32768*4129=0 by omega,Nat.xor_zero]
def Adj:∀(k i r:Nat),r<65536→AM Xp k i (r:Int)=((AM n16 k i r:Nat):Int)∧AM n16 k i r<65536
 |0,_,_,h=>⟨rfl,h⟩
 |k+1,i,r,h=>by show AM Xp k (i+1) (Xp i (r:Int))=_∧_;rw[Bd1 (i:=i) h];exact Adj k (i+1) (n16 i r) Azk
def Azu(s:ByteArray)(hr:r<65536)(a c:Int):Ob ((s,(r:Int),a,c,(0:Int),()),())=E ((s,((AM n16 8 0 r:Nat):Int),a,c,()),()):=by
 have h:=Bc (S:=Nat) (step:=λx=>IL x.1.1 x.1.2.1 x.1.2.2.1 x.1.2.2.2.1 x.1.2.2.2.2.1) 8 (λk r=>((s,(r:Int),a,c,(k:Int),()),())) n16 (λ_ r=>r<65536) (λ(r:Nat)=>((s,(r:Int),a,c,()),()))
  (λk r hk hr=>by refine⟨?_,Azk⟩;show IL s (r:Int) a c (k:Int)=_;unfold IL;simp only[O (ω:(k:Int)<8),J,CK (ω:k<1000000000)];rw[Bsl (i:=k) hr])
  (λr _=>by show IL s (r:Int) a c 8=_;unfold IL;rw[f_ (Q_ (8:Int))];rfl) 8 0 r ω hr
 exact As h.1 ω
def byN(s:ByteArray)(i:Nat):Nat:=((bl s).getD i 0).toNat
def Rk(s:ByteArray)(i:Nat):byN s i<256:=UInt8.toNat_lt _
def b16(s:ByteArray)(i:Nat)(r:Nat):Nat:=AM n16 8 0 (r^^^(byN s i*256))
def s16(s:ByteArray):Nat:=AM (b16 s) s.size 0 65535
def Ake{i:Nat}(hr:r<65536):r^^^(byN s i*256)<65536:=f5_ (n:=16) hr (by have:=Rk s i;omega)
def Alg(hs:s.size≤1000000):Qx s=E ((((s16 s:Nat):Int),()),())∧s16 s<65536:=by
 have h:=Bc (S:=Nat) (step:=λx=>IK x.1.1 x.1.2.1 x.1.2.2.1 x.1.2.2.2.1) s.size (λi r=>((s,(r:Int),(s.size:Int),(i:Int),()),())) (b16 s) (λ_ r=>r<65536) (λ(r:Nat)=>(((r:Int),()),()))
  (λi r hi hr=>by
   refine⟨?_,(Adj 8 0 _ (Ake hr)).2⟩;show IK s (r:Int) (s.size:Int) (i:Int)=_;unfold IK;have hb:=Rk s i;have z:I.wrap ((A I (AC s i))*((2:Int)^(P (L (8:Int)) (IntKind.bits I))))=((byN s i*256:Nat):Int):=by rw[FU];show I.wrap (A I ((byN s i:Nat):Int)*256)=_;rw[Qv,h2_ ω,show((byN s i:Nat):Int)*256=((byN s i*256:Nat):Int)by omega,Qv,h2_ ω]
   simp only[O (ω:(i:Int)<(s.size:Int)),Ac (ω:(0:Int)≤(i:Int)) (ω:(i:Int)<(s.size:Int)),J,j_];rw[z,Bgz hr ω];refine B (Azu s (Ake hr) _ _) ?_;show E (Sum.inl ((s,_,_,C.wrap ((i:Int)+1),()),()))=_;rw[CK (ω:i<1000000000)];rfl)
  (λr _=>by show IK s (r:Int) (s.size:Int) (s.size:Int)=_;unfold IK;rw[f_ (Q_ (s.size:Int))];rfl) s.size 0 65535 ω τ
 have h2:Oa ((s,(65535:Int),(s.size:Int),(0:Int),()),())=_:=As h.1 ω;unfold Qx;exact⟨B h2 rfl,h.2⟩
def Bgk:∀(s:ByteArray) (k i r:Nat),r<65536→AM (Aa3 s) k i (r:Int)=((AM (b16 s) k i r:Nat):Int)
 |_,0,_,_,_=>rfl
 |s,k+1,i,r,h=>by
  have hb:=Rk s i;have e:Aa3 s i (r:Int)=((b16 s i r:Nat):Int):=by
   unfold Aa3 b16;have z:C.wrap (A C (AC s i)*256)=((byN s i*256:Nat):Int):=by rw[FU];show C.wrap (A C ((byN s i:Nat):Int)*256)=_;rw[Aa (n:=((byN s i:Nat):Int)) ω ω,Aa ω ω];omega
   rw[z,An5 h ω];exact(Adj 8 0 _ (Ake h)).1
  show AM (Aa3 s) k (i+1) (Aa3 s i (r:Int))=((AM (b16 s) k (i+1) (b16 s i r):Nat):Int);rw[e];exact Bgk s k (i+1) _ (Adj 8 0 _ (Ake h)).2
def Baa(s:ByteArray):Zf s=((s16 s:Nat):Int):=Bgk s s.size 0 65535 τ
def Xu(n:Nat):W.wrap (n:Int)=((n%256:Nat):Int):=by simp only[A,IntKind.signed,IntKind.bits];simp
def Az7(s:ByteArray)(h:s16 s<65536):Xl s=ID [W.wrap (U ((s16 s:Nat):Int) ((2:Int)^(P (L (8:Int)) (IntKind.bits I)))),W.wrap ((s16 s:Nat):Int)]:=by
 have w:I.wrap (Zf s)=((s16 s:Nat):Int):=by rw[Baa,Qv,h2_ h]
 have d1:Int.tdiv ((s16 s:Nat):Int) 256=((s16 s/256:Nat):Int):=by rw[Int.tdiv_eq_ediv_of_nonneg ω];omega
 have d2:U ((s16 s:Nat):Int) ((2:Int)^(P (L (8:Int)) (IntKind.bits I)))=((s16 s/256:Nat):Int):=by rw[show((2:Int)^(P (L (8:Int)) (IntKind.bits I)))=256 from rfl,X_ _ ω];omega
 have d3:Int.tmod ((s16 s:Nat):Int) 256=((s16 s%256:Nat):Int):=by rw[f6_ ω];omega
 unfold Xl;rw[w,d1,d2,d3,Qv,Xu,Xu,Xu,Xu];congr 3
 ·omega
 ·congr 1;omega
def Aou(hs:s.size≤1000000):RR s=E ((Hm s,()),()):=by
 obtain⟨h1,h2⟩:=Alg hs;unfold RR;refine B h1 ?_
 have:=PW s
 unfold Hm at this;rw[O_]at this;show(bif X (s.size+(ID [W.wrap (U ((s16 s:Nat):Int) ((2:Int)^(P (L (8:Int)) (IntKind.bits I)))),W.wrap ((s16 s:Nat):Int)]).size) 4611686018427387904 then E ((s++ID [W.wrap (U ((s16 s:Nat):Int) ((2:Int)^(P (L (8:Int)) (IntKind.bits I)))),W.wrap ((s16 s:Nat):Int)],()),())else none)=_;rw[← Az7 s h2,AD ω];rfl
def Aot(hs:s.size≤1000000):RQ s=E (((IB s).1,(IB s).2,()),()):=by
 unfold RQ IB;by_cases h:(s.size:Int)<2
 ·have w:C.wrap ((s.size:Int)-2)=(s.size:Int)-2:=Aa ω ω;simp only[w];rw[O h,O (ω:(s.size:Int)-2<0)];rfl
 ·rw[f_ h,c_];have w:C.wrap ((s.size:Int)-2)=((s.size-2:Nat):Int):=by rw[Aa ω ω];omega
  simp only[w,j_];rw[f_ (ω:¬((s.size-2:Nat):Int)<0),O (ω:(0:Int)≤((s.size-2:Nat):Int)),O (ω:((s.size-2:Nat):Int)≤(s.size:Int)),a6_,J,c_];refine B (Aou (s:=s.extract 0 (s.size-2)) (by rw[Wy s ω];omega)) ?_;show(bif !eqB (Hm (s.extract 0 (s.size-2))) s then _ else _)=_;cases eqB (Hm (s.extract 0 (s.size-2))) s<;>rfl
def Apb(x:Inp)(hx:x.cars.length≤1000)(hs:s.size≤1000):Pl (((),s,(0:Int),()),(x.tup,()))=E ((x.cars.foldl JE s,()),()):=by
 have h:=Bc (step:=λx=>letI a:=x.2.1.2;Ng x.1.2.1 x.1.2.2.1 x.2.1.1 a.1 a.2.1 a.2.2.1 a.2.2.2.1) x.cars.length (λi s=>(((),s,(i:Int),()),(x.tup,()))) (λi s=>JE s (x.cars.getD i Ed)) (λi s=>s.size≤1000+19*i) (λs=>((s,()),()))
  (λi s hi hs=>by refine⟨?_,by rw[Ag2];omega⟩;show Ng s (i:Int) x.press.1 x.press.2 x.kind x.car x.cars=_;unfold Ng;rw[show aC 0 H H H H 0 H 0 H 0 0=Ed from rfl];simp only[O (ω:(i:Int)<(x.cars.length:Int)),Ac (ω:(0:Int)≤(i:Int)) (ω:(i:Int)<(x.cars.length:Int)),J,j_,CK (ω:i<1000000000)];generalize x.cars.getD i Ed=c;refine B (ET (A D c.V0) (k:=4) ω) ?_;have e1:=AB (A D c.V0) 4;unfold JE;generalize nmB (A D c.V0) 4=a1 at e1⊢;show(bif X (s.size+a1.size) 4611686018427387904 then _ else _)=_;rw[AD ω,J];refine B (Apd (l:=[c.T1,c.F1,c.G1,c.W0,c.Y0,c.Q1]) (by show 6≤100;omega)) ?_;have e2:=Nh [c.T1,c.F1,c.G1,c.W0,c.Y0,c.Q1];generalize Ue [c.T1,c.F1,c.G1,c.W0,c.Y0,c.Q1]=a2 at e2⊢;show(bif X ((s++a1).size+a2.size) 4611686018427387904 then _ else _)=_;rw[AD (by rw[O_];omega),J];refine B (ET (A D c.M1) (k:=1) ω) ?_;have e3:=AB (A D c.M1) 1;generalize nmB (A D c.M1) 1=a3 at e3⊢;show(bif X ((s++a1++a2).size+a3.size) 4611686018427387904 then _ else _)=_;rw[AD (by simp only[O_];omega),J];refine B (ET (A D c.B1) (k:=1) ω) ?_;have e4:=AB (A D c.B1) 1;generalize nmB (A D c.B1) 1=a4 at e4⊢;show(bif X ((s++a1++a2++a3).size+a4.size) 4611686018427387904 then _ else _)=_;rw[AD (by simp only[O_];omega),J];refine B (ET (A D c.B2) (k:=4) ω) ?_;have e5:=AB (A D c.B2) 4;generalize nmB (A D c.B2) 4=a5 at e5⊢;show(bif X ((s++a1++a2++a3++a4).size+a5.size) 4611686018427387904 then _ else _)=_;rw[AD (by simp only[O_];omega),J];refine B (ET ((c.G3:Nat):Int) (k:=8) ω) ?_;have e6:=AB ((c.G3:Nat):Int) 8;generalize nmB ((c.G3:Nat):Int) 8=a6 at e6⊢;show(bif X ((s++a1++a2++a3++a4++a5).size+a6.size) 4611686018427387904 then _ else _)=_;rw[AD (by simp only[O_];omega)];rfl)
  (λs _=>by show Ng s (x.cars.length:Int) x.press.1 x.press.2 x.kind x.car x.cars=_;unfold Ng;rw[f_ (Q_ _)];rfl) x.cars.length 0 s ω ω
 have h2:Pl (((),s,(0:Int),()),(x.tup,()))=_:=As h.1 ω;rw[h2];have e:∀(l:List Y) (k i:Nat) (s:ByteArray),i+k=l.length→AM (λi s=>JE s (l.getD i Ed)) k i s=(l.drop i).foldl JE s:=by
  intro l k;induction k with
  |zero=>intro i s hi;rw[List.drop_eq_nil_of_le ω];rfl
  |succ k ih=>intro i s hi;rw[Cu Ed (ω:i<l.length),f2_];exact ih (i+1) _ ω
 rw[e x.cars x.cars.length 0 s ω,S_]
section
variable{b:Q}(hb:b.small)(hcode:b.code=0)
include hb hcode
theorem Aib(x:Inp)(hx:x.cars.length≤1000):SY b.C0 b.F0 b.H0 b.M0 b.K0 b.L0 b.N0 b.B0 x.press.1 x.press.2 x.kind x.car x.cars=E (bif HI b x then((inV b x,0,()),())else((noB,1,()),())):=by
 have hc:=Aj hcode;unfold SY;refine B (Apc hb hcode x hx) ?_;show(bif !HI b x then _ else _)=_;cases HI b x with
 |false=>rfl
 |true=>
 rw[q_,c_,J];refine B (ET 165 (k:=1) ω) ?_;refine B (ET (A D (b.B0.length:Int)) (k:=1) ω) ?_;have hh:=Adr b x;unfold inV;have e1:=AB 165 1;have e2:=AB (A D (b.B0.length:Int)) 1;have e3:=Aaf x.press;have e4:=AB (A D x.kind) 1;have e5:=AB (A D x.car) 1;have hd:QM b x=nmB 165 1++nmB (A D (b.B0.length:Int)) 1++Rl x.press++nmB (A D x.kind) 1++nmB (A D x.car) 1:=rfl;rw[hd]at hh⊢;generalize nmB 165 1=a1 at e1 hh⊢;generalize nmB (A D (b.B0.length:Int)) 1=a2 at e2 hh⊢;show(bif X (a1.size+a2.size) 4611686018427387904 then _ else _)=_;rw[AD ω,J];refine B (Anf x.press) ?_;generalize Rl x.press=a3 at e3 hh⊢;show(bif X ((a1++a2).size+a3.size) 4611686018427387904 then _ else _)=_;rw[AD (by simp only[O_];omega),J];refine B (ET (A D x.kind) (k:=1) ω) ?_;generalize nmB (A D x.kind) 1=a4 at e4 hh⊢;show(bif X ((a1++a2++a3).size+a4.size) 4611686018427387904 then _ else _)=_;rw[AD (by simp only[O_];omega),J];refine B (ET (A D x.car) (k:=1) ω) ?_;generalize nmB (A D x.car) 1=a5 at e5 hh⊢;show(bif X ((a1++a2++a3++a4).size+a5.size) 4611686018427387904 then _ else _)=_;rw[AD (by simp only[O_];omega),J];refine B (Apb x hx (s:=a1++a2++a3++a4++a5) ω) ?_;refine B (Aar (s:=x.cars.foldl JE (a1++a2++a3++a4++a5)) (by rw[Adk];omega)) ?_;rfl
end
def Bec(s:ByteArray)(at_:Nat)(i:Nat)(n:Int):Int:=At4 n (A D (A D (AC s (at_+i))*2^min (8*i) (IntKind.bits .u64)))
def Zl(s:ByteArray)(at_ k:Nat):Int:=AM (Bec s at_) k 0 0
def ML{k:Nat}(h:a+k≤s.size)(hs:s.size≤1000000):HO s (a:Int) (k:Int)=E ((Zl s a k,()),()):=by
 have h1:=Bc (step:=λx=>IQ x.1.1 x.1.2.1 x.1.2.2.1 x.1.2.2.2.1 x.1.2.2.2.2.1) k (λi n=>((s,(a:Int),(k:Int),n,(i:Int),()),())) (Bec s a) (λ_ _=>True) (λn=>((n,()),()))
  (λi n hi _=>by
   refine⟨?_,trivial⟩;show IQ s (a:Int) (k:Int) n (i:Int)=_;unfold IQ;have e1:C.wrap ((a:Int)+(i:Int))=((a+i:Nat):Int):=by rw[Aa ω ω];norm_cast
   have e2:D.wrap (A C (8*(i:Int)))=((8*i:Nat):Int):=by rw[Aa (n:=8*(i:Int)) ω ω,CN ω ω];norm_cast
   simp only[O (ω:(i:Int)<(k:Int)),e1,e2,Ac (ω:(0:Int)≤((a+i:Nat):Int)) (ω:((a+i:Nat):Int)<(s.size:Int)),J,j_,O (ω:(0:Int)≤((8*i:Nat):Int)),CK (ω:i<1000000000)];rfl)
  (λn _=>by show IQ s (a:Int) (k:Int) n (k:Int)=_;unfold IQ;rw[f_ (Q_ (k:Int))];rfl) k 0 0 ω trivial
 have h2:Og ((s,(a:Int),(k:Int),(0:Int),(0:Int),()),())=_:=As h1.1 ω;unfold HO;exact B h2 rfl
def Aj8(s:ByteArray)(a:Nat):Int×Int:=(A V (Zl s a 4),V.wrap (Zl s (a+4) 4))
def Apf(h:a+8≤s.size)(hs:s.size≤1000000):RY s (a:Int)=E (((),()),(((Aj8 s a).1,(Aj8 s a).2,()),())):=by
 have e:C.wrap ((a:Int)+4)=((a+4:Nat):Int):=by rw[Aa ω ω];norm_cast
 unfold RY;refine B (ML (s:=s) (a:=a) (k:=4) ω hs) ?_;rw[e];exact B (ML (s:=s) (a:=a+4) (k:=4) ω hs) rfl
def VZ(s:ByteArray)(a k:Nat):Bool:=W.wrap (stk (U (AC s a) ((2:Int)^min k (IntKind.bits .u8))) 1 (aB ((Z (IntKind.bits W) (U (AC s a) ((2:Int)^min k (IntKind.bits .u8))))&&&(Z (IntKind.bits W) 1))))==1
def Nr{k:Nat}(h:a<s.size)(hk:k≤1000):TW s (a:Int) (k:Int)=E ((VZ s a k,()),()):=by unfold TW;simp only[Ac (ω:(0:Int)≤(a:Int)) (ω:(a:Int)<(s.size:Int)),J,Bqc (ω:k<1000000000),O (ω:(0:Int)≤(k:Int)),j_];rfl
def Ye(s:ByteArray)(a:Nat):Y:=aC (A V (Zl s a 4)) (VZ s (a+4) 0) (VZ s (a+4) 1) (VZ s (a+4) 2) (VZ s (a+4) 3) (A C (AC s (a+5))) (VZ s (a+4) 4) (A C (AC s (a+6))) (VZ s (a+4) 5) (A V (Zl s (a+7) 4)) (Zl s (a+11) 8).toNat
def RJ(n:Nat)(s:ByteArray):Inp:=⟨Aj8 s 2,C.wrap (AC s 10),C.wrap (AC s 11),(aA n).map λi=>Ye s (12+19*i)⟩
def BX(b:Q)(s:ByteArray):Int:=bif(s.size:Int) !=14+19*(b.B0.length:Int)then 4 else bif C.wrap (AC s 0) !=165 then 30 else bif C.wrap (AC s 1) !=(b.B0.length:Int)then 30 else(IB s).2
def Xe(b:Q)(s:ByteArray):Inp×Int:=bif BX b s !=0 then(Inp.none,BX b s)else bif HI b (RJ b.B0.length s)&&eqB (inV b (RJ b.B0.length s)) s then(RJ b.B0.length s,0)else(Inp.none,31)
def At3(h:BX b s=0):s.size=14+19*b.B0.length:=by
 unfold BX at h;cases hq:((s.size:Int) !=14+19*(b.B0.length:Int))with
 |true=>rw[hq]at h;cases h
 |false=>
  have:(s.size:Int)=14+19*(b.B0.length:Int):=by simpa using hq
  omega
section
variable{b:Q}(hb:b.small)(hcode:b.code=0)
include hb hcode
omit hb in
theorem Ape(s:ByteArray)(hs:s.size≤1000000):RX b.C0 b.F0 b.H0 b.M0 b.K0 b.L0 b.N0 b.B0 s (14+19*(b.B0.length:Int)) 165=E ((BX b s,()),()):=by
 have hc:=Aj hcode;unfold RX BX;rw[Na];refine B rfl ?_;show(bif b.code !=0 then _ else _)=_;rw[hcode];show(bif(s.size:Int) !=14+19*(b.B0.length:Int)then _ else _)=_;cases hq:((s.size:Int) !=14+19*(b.B0.length:Int))with
 |true=>rfl
 |false=>
 have h1:(s.size:Int)=14+19*(b.B0.length:Int):=by simpa using hq
 rw[c_,c_,Ac ω (ω:(0:Int)<(s.size:Int)),J,show L 0=0 from rfl];cases(A C (AC s 0) !=165)with
 |true=>rfl
 |false=>
 rw[c_,c_,Ac ω (ω:(1:Int)<(s.size:Int)),J,show L 1=1 from rfl];cases(A C (AC s 1) !=(b.B0.length:Int))with
 |true=>rfl
 |false=>
 rw[c_,c_];exact B (Ao9 hs) rfl
omit hb in
theorem Aed(hs:s.size=14+19*b.B0.length)(x:Inp):Nf ((s,(),(),(),(0:Int),()),(b.tup,Inp.none.tup,({ x with cars:=[] }:Inp).tup,()))=E ((s,(),(),(),()),(b.tup,Inp.none.tup,({ x with cars:=(aA b.B0.length).map λi=>Ye s (12+19*i) }:Inp).tup,())):=by
 have hc:=Aj hcode;have h:=Bc (step:=λx=>letI c:=x.2.1.2.2;letI d:=x.2.2;letI f:=d.2.1;letI g:=c.2.2;letI j:=d.1.2;HZ x.1.1 x.1.2.2.2.2.1 x.2.1.1 x.2.1.2.1 c.1 c.2.1 g.1 g.2.1 g.2.2.1 g.2.2.2.1 d.1.1 j.1 j.2.1 j.2.2.1 j.2.2.2.1 f.1 f.2.1 f.2.2.1 f.2.2.2.1 f.2.2.2.2.1) b.B0.length
  (λi l=>((s,(),(),(),(i:Int),()),(b.tup,Inp.none.tup,({ x with cars:=l }:Inp).tup,()))) (λi l=>l++[Ye s (12+19*i)]) (λi l=>l.length=i) (λl=>((s,(),(),(),()),(b.tup,Inp.none.tup,({ x with cars:=l }:Inp).tup,())))
  (λi l hi hl=>by
   refine⟨?_,by rw[h_,hl];rfl⟩;show HZ s (i:Int) b.C0 b.F0 b.H0 b.M0 b.K0 b.L0 b.N0 b.B0 Inp.none.press.1 Inp.none.press.2 Inp.none.kind Inp.none.car Inp.none.cars x.press.1 x.press.2 x.kind x.car l=_;unfold HZ;have e0:C.wrap (12+C.wrap (19*(i:Int)))=((12+19*i:Nat):Int):=by rw[Aa (n:=19*(i:Int)) ω ω,Aa ω ω];norm_cast
   have ea:∀k:Nat,k≤100→C.wrap (((12+19*i:Nat):Int)+(k:Int))=((12+19*i+k:Nat):Int):=λk hk=>by rw[Aa ω ω];norm_cast
   have a4:C.wrap (((12+19*i:Nat):Int)+4)=((12+19*i+4:Nat):Int):=ea 4 ω;have a5:C.wrap (((12+19*i:Nat):Int)+5)=((12+19*i+5:Nat):Int):=ea 5 ω;have a6:C.wrap (((12+19*i:Nat):Int)+6)=((12+19*i+6:Nat):Int):=ea 6 ω;have a7:C.wrap (((12+19*i:Nat):Int)+7)=((12+19*i+7:Nat):Int):=ea 7 ω;have a11:C.wrap (((12+19*i:Nat):Int)+11)=((12+19*i+11:Nat):Int):=ea 11 ω;simp only[O (ω:(i:Int)<(b.B0.length:Int)),J,e0,a4,a5,a6,a7,a11,CK (ω:i<1000000000)];have hsz:s.size≤1000000:=ω;refine B (ML (s:=s) (a:=12+19*i) (k:=4) ω hsz) ?_;refine B (Nr (s:=s) (a:=12+19*i+4) (k:=0) ω ω) ?_;refine B (Nr (s:=s) (a:=12+19*i+4) (k:=1) ω ω) ?_;refine B (Nr (s:=s) (a:=12+19*i+4) (k:=2) ω ω) ?_;refine B (Nr (s:=s) (a:=12+19*i+4) (k:=3) ω ω) ?_;rw[Ac (ω:(0:Int)≤((12+19*i+5:Nat):Int)) (ω:((12+19*i+5:Nat):Int)<(s.size:Int)),J];refine B (Nr (s:=s) (a:=12+19*i+4) (k:=4) ω ω) ?_;rw[Ac (ω:(0:Int)≤((12+19*i+6:Nat):Int)) (ω:((12+19*i+6:Nat):Int)<(s.size:Int)),J];refine B (Nr (s:=s) (a:=12+19*i+4) (k:=5) ω ω) ?_;refine B (ML (s:=s) (a:=12+19*i+7) (k:=4) ω hsz) ?_;refine B (ML (s:=s) (a:=12+19*i+11) (k:=8) ω hsz) ?_;show(bif X (l.length+1) 2147483648 then _ else _)=_;rw[AD ω];rfl)
  (λl hl=>by show HZ s (b.B0.length:Int) b.C0 b.F0 b.H0 b.M0 b.K0 b.L0 b.N0 b.B0 Inp.none.press.1 Inp.none.press.2 Inp.none.kind Inp.none.car Inp.none.cars x.press.1 x.press.2 x.kind x.car l=_;unfold HZ;rw[f_ (Q_ _)];rfl) b.B0.length 0 [] ω rfl
 have h2:=As h.1 ω;have e:∀(k i:Nat) (l:List Y),AM (λi l=>l++[Ye s (12+19*i)]) k i l=l++(List.range' i k).map λi=>Ye s (12+19*i):=by
  intro k;induction k with
  |zero=>intro i l;simp[AM]
  |succ k ih=>intro i l;unfold AM;rw[ih,d8_,b8_,M_,d3_]
 rw[e,a5_,← List.range_eq_range']at h2;exact h2
theorem Ajk(s:ByteArray)(hs:s.size≤1000000):Ke b.C0 b.F0 b.H0 b.M0 b.K0 b.L0 b.N0 b.B0 s=E (((),(Xe b s).2,()),((Xe b s).1.tup,())):=by
 have hc:=Aj hcode;have e0:C.wrap (14+C.wrap (19*(b.B0.length:Int)))=14+19*(b.B0.length:Int):=by rw[Aa (n:=19*(b.B0.length:Int)) ω ω,Aa ω ω]
 have hsz:RV b.C0 b.F0 b.H0 b.M0 b.K0 b.L0 b.N0 b.B0=E (((14+19*(b.B0.length:Int)),C.wrap (23+C.wrap (19*(b.B0.length:Int))),()),()):=by unfold RV;rw[Na];refine B rfl ?_;show(bif b.code !=0 then _ else _)=_;rw[hcode,e0];rfl
 unfold Ke Xe;refine B hsz ?_;refine B (Ape hcode s hs) ?_;show(bif BX b s !=0 then _ else _)=_;cases hq:(BX b s !=0)with
 |true=>rfl
 |false=>
 have ho:BX b s=0:=by simpa using hq
 have hsize:=At3 ho;rw[c_,c_];refine B (Apf (s:=s) (a:=2) ω hs) ?_;rw[Ac ω (ω:(10:Int)<(s.size:Int)),Ac ω (ω:(11:Int)<(s.size:Int)),J,J];refine B (Aed hcode hsize (RJ b.B0.length s)) ?_;have hl:(RJ b.B0.length s).cars.length≤1000:=by simp[RJ];omega
 refine B (Aib hb hcode (RJ b.B0.length s) hl) ?_;cases HI b (RJ b.B0.length s)with
 |false=>rfl
 |true=>rw[J,z_];show(bif((0:Int) !=0)then _ else bif !eqB (inV b (RJ b.B0.length s)) s then _ else _)=_;cases eqB (inV b (RJ b.B0.length s)) s<;>rfl
end
def Bdg(h:(IB s).2=0):2≤s.size∧(IB s).1=s.extract 0 (s.size-2):=by
 unfold IB at h⊢;cases q:decide ((s.size:Int)<2)with
 |true=>rw[q]at h;cases h
 |false=>
  rw[q]at h;have q:=D_ q;refine⟨ω,?_⟩;cases q2:eqB (Hm (s.extract 0 (s.size-2))) s with
  |true=>rfl
  |false=>rw[q2]at h;cases h
def Yr(hcode:b.code=0)(s:ByteArray)(hs:s.size≤1000000):Sat (OU b.C0 b.F0 b.H0 b.M0 b.K0 b.L0 b.N0 b.B0 s (14+19*(b.B0.length:Int)) 165) λy=>match y with
  | .inl z=>z.1.2.1=BX b s∧BX b s≠0
  | .inr z=>BX b s=0∧z.1.2.1=0∧z.2.1=((s.extract 0 (s.size-2)).extract 2 (s.size-2),b.C0,b.F0,b.H0,b.M0,b.K0,b.L0,b.N0,b.B0,()):=by
 have hcc:=Aj hcode;unfold OU BX;refine Sat.bindE (AR b) (Sat.bifF (show(b.code !=0)=H by rw[hcode];rfl) ?_);refine Sat.bic (λq=>Sat.ret ?_) λq=>?_
 ·rw[q];exact⟨rfl,show(4:Int)≠0 by decide⟩
 rw[q];have hsz:(s.size:Int)=14+19*(b.B0.length:Int):=by simpa using q
 have w:∀i,C.wrap (AC s i)=AC s i:=λi=>by
  rw[FU]
  have:=Rk s i
  unfold byN at this;exact Aa ω ω
 rw[w 0];refine Sat.bifT (Ac ω ω) (Sat.bic (λq=>Sat.ret ?_) λq=>Sat.bifT (Ac ω ω) (Sat.bic (λq2=>Sat.ret ?_) λq2=>?_))
 ·rw[show(AC s 0 !=165)=true from q];exact⟨rfl,show(30:Int)≠0 by decide⟩
 ·rw[show(AC s 0 !=165)=H from q,show(A C (AC s 1) !=(b.B0.length:Int))=true from q2];exact⟨rfl,show(30:Int)≠0 by decide⟩
 rw[show(AC s 0 !=165)=H from q,show(A C (AC s 1) !=(b.B0.length:Int))=H from q2];refine Sat.bindE (Aot hs) (Sat.bic (λq3=>Sat.ret ⟨rfl,?_⟩) λq3=>?_)
 ·show(IB s).2≠0;simpa using q3
 have q3:(IB s).2=0:=by simpa using q3
 obtain⟨h2,h3⟩:=Bdg q3;have hz:(IB s).1.size=s.size-2:=by rw[h3,Wy s ω]
 refine Sat.bifT (O (ω:(2:Int)≤(((IB s).1.size:Nat):Int))) (Sat.ret ⟨q3,rfl,?_⟩);show((IB s).1.extract 2 (IB s).1.size,_)=_;rw[hz,h3]
def Bdj(h:n<18446744073709551616):orL 0 (n:Int)=(n:Int):=by unfold orL;rw[LC,BitVec.toNat_or,a0_,a0_];rw[show((0:Int)%((2^IntKind.bits .u64:Nat):Int)).toNat=0 from rfl,Nat.zero_or,show(((n:Nat):Int)%((2^IntKind.bits .u64:Nat):Int)).toNat=n by simp only[IntKind.bits];omega];exact CN ω ω
def Bh5(s:ByteArray):leV s 1=((byN s 0:Nat):Int):=by have hb:=Rk s 0;show orL 0 (A D (A D (AC s 0)*1))=_;rw[FU,Int.mul_one];show orL 0 (A D (A D ((byN s 0:Nat):Int)))=_;rw[CN (n:=((byN s 0:Nat):Int)) ω ω,CN ω ω];exact Bdj ω
def Js(b:Q)(hs:1≤s.size){most:Int}(h:((byN s 0:Nat):Int)≤most):Br most s b.C0 b.F0 b.H0 b.M0 b.K0 b.L0 b.N0 b.B0=E ((((byN s 0:Nat):Int),()),((s.extract 1 s.size,b.C0,b.F0,b.H0,b.M0,b.K0,b.L0,b.N0,b.B0,()),())):=by have hb:=Rk s 0;unfold Br;refine B (MI b (k:=1) τ hs) ?_;simp only[Bh5];rw[Aa (n:=((byN s 0:Nat):Int)) ω ω,O h];rfl
def Xz(hb:b.small)(hs:4≤s.size)(h:C2 b.C0 (A V (leV s 4))):Dj s b.C0 b.F0 b.H0 b.M0 b.K0 b.L0 b.N0 b.B0=E ((A V (leV s 4),()),((s.extract 4 s.size,b.C0,b.F0,b.H0,b.M0,b.K0,b.L0,b.N0,b.B0,()),())):=by have lo:=hb.lo;have hi:=hb.hi;have hmin:P (L b.C0) (IntKind.bits V)=L b.C0:=d6_ (by show _≤32;omega);unfold Dj;refine B (MI b (k:=4) τ hs) ?_;show(bif decide ((0:Int)≤b.C0)then _ else _)=_;rw[O (ω:(0:Int)≤b.C0),J];rw[hmin,Acl.2 h];rfl
section
variable{b:Q}(hb:b.small)(hcode:b.code=0)
include hb hcode
theorem Abf{u d:Int}(h1:vb (bv u&&& ~~~ bv (Bz b).1)=0)(h2:vb (bv d&&& ~~~ bv (Bz b).2)=0):LV b.C0 b.F0 b.H0 b.M0 b.K0 b.L0 b.N0 b.B0 u d=E ((true,()),()):=by unfold LV;refine B (Ld hb hcode) ?_;simp only[OF,h1,h2];rfl
theorem Af0(hs:8≤s.size)(h1:vb (bv (A V (leV s 4))&&& ~~~ bv (Bz b).1)=0)(h2:vb (bv (A V (leV (s.extract 4 s.size) 4))&&& ~~~ bv (Bz b).2)=0):EE s b.C0 b.F0 b.H0 b.M0 b.K0 b.L0 b.N0 b.B0=E (((),()),((A V (leV s 4),V.wrap (leV (s.extract 4 s.size) 4),()),((s.extract 4 s.size).extract 4 (s.extract 4 s.size).size,b.C0,b.F0,b.H0,b.M0,b.K0,b.L0,b.N0,b.B0,()),())):=by
 have e:(s.extract 4 s.size).size=s.size-4:=by rw[ByteArray.size_extract];omega
 unfold EE;refine B (MI b (k:=4) τ ω) ?_;refine B (MI b (k:=4) (s:=s.extract 4 s.size) τ (by rw[e];omega)) ?_;exact B (Abf hb hcode h1 h2) rfl
end
def Bmz(n:Int)(i:Nat):Bool:=C.wrap (stk (U n ((2:Int)^(P i (IntKind.bits C)))) (1:Int) (aB ((Z (IntKind.bits C) (U n ((2:Int)^(P i (IntKind.bits C)))))&&&(Z (IntKind.bits C) (1:Int)))))==(1:Int)
def flL(n:Int):List Bool:=(aA 6).map (Bmz n)
def Af1(b:Q)(hs:1≤s.size)(h:byN s 0≤63):EF 6 s b.C0 b.F0 b.H0 b.M0 b.K0 b.L0 b.N0 b.B0=E ((flL ((byN s 0:Nat):Int),()),((s.extract 1 s.size,b.C0,b.F0,b.H0,b.M0,b.K0,b.L0,b.N0,b.B0,()),())):=by
 have h1:=Bc (step:=λx=>letI a:=x.2.1.2.2.2;letI c:=a.2.2;Ce x.1.1 x.1.2.1 x.1.2.2.1 x.1.2.2.2.1 x.2.1.1 x.2.1.2.1 x.2.1.2.2.1 a.1 a.2.1 c.1 c.2.1 c.2.2.1 c.2.2.2.1) 6 (λi l=>((((byN s 0:Nat):Int),l,6,(i:Int),()),((s.extract 1 s.size,b.C0,b.F0,b.H0,b.M0,b.K0,b.L0,b.N0,b.B0,()),()))) (Lk H (λi _=>Bmz ((byN s 0:Nat):Int) i)) (λ_ l=>l.length=6) (λl=>((l,()),((s.extract 1 s.size,b.C0,b.F0,b.H0,b.M0,b.K0,b.L0,b.N0,b.B0,()),())))
  (λi l hi hl=>by refine⟨?_,by rw[Lk,x_,hl]⟩;show Ce ((byN s 0:Nat):Int) l 6 (i:Int) (s.extract 1 s.size) b.C0 b.F0 b.H0 b.M0 b.K0 b.L0 b.N0 b.B0=_;unfold Ce;simp only[O (ω:(i:Int)<6),O (ω:(0:Int)≤(i:Int)),Ac (ω:(0:Int)≤(i:Int)) (ω:(i:Int)<(l.length:Int)),J,j_,CK (ω:i<1000000000)];rfl)
  (λl _=>by show Ce ((byN s 0:Nat):Int) l 6 6 (s.extract 1 s.size) b.C0 b.F0 b.H0 b.M0 b.K0 b.L0 b.N0 b.B0=_;unfold Ce;rw[f_ (Q_ (6:Int))];rfl) 6 0 ((aA 6).map λ_=>H) rfl rfl
 have h2:=As h1.1 ω;rw[PG]at h2;unfold EF;exact B (Js b hs (by show((byN s 0:Nat):Int)≤63;omega)) (B h2 rfl)
def Xy(hcode:b.code=0):OT b.C0 b.F0 b.H0 b.M0 b.K0 b.L0 b.N0 b.B0=E ((14+19*(b.B0.length:Int),23+19*(b.B0.length:Int),()),()):=by have hcc:=Aj hcode;unfold OT;refine B (AR b) ?_;show(bif b.code !=0 then _ else _)=_;rw[hcode,show((0:Int) !=0)=H from rfl,c_];rw[Aa (n:=19*(b.B0.length:Int)) ω ω,Aa ω ω,Aa ω ω]
def Abe(hcode:b.code=0)(hs:s.size≤1000000)(h:BX b s≠0):Ei b.C0 b.F0 b.H0 b.M0 b.K0 b.L0 b.N0 b.B0 s=E (((),BX b s,()),(Inp.none.tup,())):=by
 obtain⟨y,h1,hy⟩:=Yr hcode s hs;unfold Ei;refine B (Xy hcode) (B h1 ?_);cases y with
 |inl z=>
  show(bif z.1.2.1 !=0 then E (((),z.1.2.1,()),(Inp.none.tup,()))else none)=_;have hz:(BX b s !=0)=true:=by simpa using h
  rw[hy.1,hz,J]
 |inr z=>exact absurd hy.1 h
def tl(k:Nat)(s:ByteArray):ByteArray:=s.extract k s.size
def DP(k:Nat)(s:ByteArray):(tl k s).size=s.size-k:=by unfold tl;rw[ByteArray.size_extract];omega
structure Ck(b:Bldg)(s:ByteArray):Prop where
 size:19≤s.size
 c1:C2 b.C0 (IntKind.u32.wrap (leV s 4))
 fg:byN (tl 4 s) 0≤63
 fl:((byN (tl 1 (tl 4 s)) 0:Nat):Int)≤b.C0-1
 dr:((byN (tl 1 (tl 1 (tl 4 s))) 0:Nat):Int)≤2
 c2:C2 b.C0 (IntKind.u32.wrap (leV (tl 1 (tl 1 (tl 1 (tl 4 s)))) 4))
def rest(s:ByteArray):ByteArray:=tl 8 (tl 4 (tl 1 (tl 1 (tl 1 (tl 4 s)))))
def Afg(s:ByteArray):Y:=aC (A V (leV s 4)) ((flL ((byN (tl 4 s) 0:Nat):Int)).getD (L (0:Int)) H) ((flL ((byN (tl 4 s) 0:Nat):Int)).getD (L (1:Int)) H) ((flL ((byN (tl 4 s) 0:Nat):Int)).getD (L (2:Int)) H) ((flL ((byN (tl 4 s) 0:Nat):Int)).getD (L (3:Int)) H) ((byN (tl 1 (tl 4 s)) 0:Nat):Int) ((flL ((byN (tl 4 s) 0:Nat):Int)).getD (L (4:Int)) H) ((byN (tl 1 (tl 1 (tl 4 s))) 0:Nat):Int) ((flL ((byN (tl 4 s) 0:Nat):Int)).getD (L (5:Int)) H) (A V (leV (tl 1 (tl 1 (tl 1 (tl 4 s)))) 4)) (L (leV (tl 4 (tl 1 (tl 1 (tl 1 (tl 4 s))))) 8))
def Af6(hb:b.small)(h:Ck b s){N i:Nat}(hi:i<N)(hN:N≤8)(u d k c:Int){cs:List Y}(hcs:cs.length≤1000)(e:Int):BU (N:Int) (i:Int) u d k c cs e s b.C0 b.F0 b.H0 b.M0 b.K0 b.L0 b.N0 b.B0=E (.inl (((),(),(),(N:Int),((i+1:Nat):Int),()),((u,d,k,c,cs++[Afg s],()),(e,()),(rest s,b.C0,b.F0,b.H0,b.M0,b.K0,b.L0,b.N0,b.B0,()),()))):=by have lo:=hb.lo;have hi8:=hb.hi;have hz:=h.size;unfold BU;rw[O (ω:(i:Int)<(N:Int)),J];refine B (Xz hb ω h.c1) ?_;refine B (Af1 b (s:=tl 4 s) (by rw[DP];omega) h.fg) ?_;have hin:∀j:Nat,j<6→inB (j:Int) (flL ((byN (tl 4 s) 0:Nat):Int)).length=true:=λj hj=>Ac ω (by rw[show(flL ((byN (tl 4 s) 0:Nat):Int)).length=6 by simp[flL]];omega);refine XY (hin 0 τ) (XY (hin 1 τ) (XY (hin 2 τ) (XY (hin 3 τ) (XY (hin 4 τ) (XY (hin 5 τ) ?_)))));refine B (Js b (s:=tl 1 (tl 4 s)) (by rw[DP,DP];omega) (by show _≤C.wrap (b.C0-1);rw[Aa ω ω];exact h.fl)) ?_;refine B (Js b (s:=tl 1 (tl 1 (tl 4 s))) (by rw[DP,DP,DP];omega) h.dr) ?_;refine B (Xz hb (s:=tl 1 (tl 1 (tl 1 (tl 4 s)))) (by rw[DP,DP,DP,DP];omega) h.c2) ?_;refine B (MI b (k:=8) (s:=tl 4 (tl 1 (tl 1 (tl 1 (tl 4 s))))) τ (by rw[DP,DP,DP,DP,DP];omega)) ?_;refine XY (AD (by simp only[B_,d7_];omega)) ?_;unfold Afg rest tl;rw[CK (ω:i<1000000000)]
def SD:Nat→ByteArray→ByteArray
 |0,s=>s
 |n+1,s=>SD n (rest s)
def Ok:Nat→ByteArray→List Y
 |0,_=>[]
 |n+1,s=>Afg s::Ok n (rest s)
def Ag5:∀(n:Nat) (s:ByteArray),(Ok n s).length=n
 |0,_=>rfl
 |n+1,s=>by show(Ok n (rest s)).length+1=_;rw[Ag5 n]
def Aam{b:Q}(hb:b.small){N:Nat}(hN:N≤8)(u d k c e:Int):∀(m i:Nat) (s:ByteArray) (cs:List Y),i+m=N→cs.length=i→(∀j,j<m→Ck b (SD j s))→Cd (λx=>letI a:=x.2.2.2.1.2.2;letI f:=a.2.2;letI g:=x.2.1.2;BU x.1.2.2.2.1 x.1.2.2.2.2.1 x.2.1.1 g.1 g.2.1 g.2.2.1 g.2.2.2.1 x.2.2.1.1 x.2.2.2.1.1 x.2.2.2.1.2.1 a.1 a.2.1 f.1 f.2.1 f.2.2.1 f.2.2.2.1 f.2.2.2.2.1) (m+1) (((),(),(),(N:Int),(i:Int),()),((u,d,k,c,cs,()),(e,()),(s,b.C0,b.F0,b.H0,b.M0,b.K0,b.L0,b.N0,b.B0,()),()))=E (((),(),()),((u,d,k,c,cs++Ok m s,()),(e,()),(SD m s,b.C0,b.F0,b.H0,b.M0,b.K0,b.L0,b.N0,b.B0,()),()))
 |0,i,s,cs,hm,_,_=>by refine AU ?_;show BU (N:Int) (i:Int) u d k c cs e s b.C0 b.F0 b.H0 b.M0 b.K0 b.L0 b.N0 b.B0=_;unfold BU;rw[f_ (ω:¬(i:Int)<(N:Int)),c_,show cs++Ok 0 s=cs from Z_ cs];rfl
 |m+1,i,s,cs,hm,hl,h=>by have h1:=Af6 hb (h 0 ω) (i:=i) (N:=N) ω hN u d k c (cs:=cs) ω e;have h2:=Aam hb hN u d k c e m (i+1) (rest s) (cs++[Afg s]) ω (by rw[h_,H_,hl]) λj hj=>h (j+1) ω;rw[M_,d3_]at h2;exact(Ca h1).trans h2
def Af5(hb:b.small){N:Nat}(hN:N≤8)(h:∀j,j<N→Ck b (SD j s))(u d k c e:Int):DI (((),(),(),(N:Int),0,()),((u,d,k,c,[],()),(e,()),(s,b.C0,b.F0,b.H0,b.M0,b.K0,b.L0,b.N0,b.B0,()),()))=E (((),(),()),((u,d,k,c,Ok N s,()),(e,()),(SD N s,b.C0,b.F0,b.H0,b.M0,b.K0,b.L0,b.N0,b.B0,()),())):=As (Aam hb hN u d k c e N 0 s [] (o_ _) rfl h) ω
end Go.Ovl
