import Derived.Test.YtphhlndnankhiaaGreatDoorOvF
import Derived.Test.YtphhlndnankhiaaGreatDoorOvC
set_option linter.all false
open Go.IntKind renaming wrap->A,u64->C,i64->H,u16->I,u32->O,u8->V
open Go.Ovl renaming Ae->B,leV->P,Bldg->Q,inR->R,CarInput->Y
open Option renaming some->D,bind->aC
open Bool renaming false->E
open Int renaming toNat->J,fdiv->U
open Min renaming min->L
open Nat renaming ble->W
open BitVec renaming ofInt->X,toNat->aA
open List renaming range->aB
open Go.Ovl.CarInput renaming mk->aD
namespace Go.Ovl
open Go Go.Ab
set_option maxRecDepth 100000
variable{s:ByteArray}{b:Q}{n k a r i:Nat}
def CG(h:n<1000000000):H.wrap ((n:Int)+1)=((n+1:Nat):Int):=by rw[Aa ω ω];omega
def Bq8(h:n<1000000000):C.wrap (n:Int)=(n:Int):=Dg ω ω
def Afd(l:List Int):(Hh l).size=l.length:=by simp[Hh,ByteArray.size]
def Aol(x y:Int):Int:=H.wrap (stk x y (aA ((X (IntKind.bits H) x)^^^(X (IntKind.bits H) y))))
def Xr(_:Nat)(r:Int):Int:=bif decide (32768≤r)then Aol (Int.tmod (A H (r*2)) 65536) 4129 else Int.tmod (A H (r*2)) 65536
def Aa6(s:ByteArray)(i:Nat)(r:Int):Int:=AE Xr 8 0 (Aol r (A H (A H (AJ s i)*256)))
def Zk(s:ByteArray):Int:=AE (Aa6 s) s.size 0 65535
def Apq(s:ByteArray)(r i:Int):NT ((s,r,i,(0:Int),()),())=D ((s,AE Xr 8 0 r,i,()),()):=by
 have h:=AP (step:=λx=>Iz x.1.1 x.1.2.1 x.1.2.2.1 x.1.2.2.2.1) 8 (λk r=>((s,r,i,(k:Int),()),())) Xr (λ_ _=>True) (λr=>((s,r,i,()),()))
  (λk r hk _=>by refine⟨?_,trivial⟩;show Iz s r i (k:Int)=_;unfold Iz;simp only[b_ (ω:(k:Int)<8),d_,CG (ω:k<1000000000)];unfold Xr Aol;cases decide ((32768:Int)≤r)<;>rfl)
  (λr _=>by show Iz s r i 8=_;unfold Iz;rw[f_ (Q_ (8:Int))];rfl) 8 0 r ω trivial
 exact Ak h.1 ω
def Ans(hs:s.size≤1000000):QQ s=D ((A I (Zk s),()),()):=by
 have h:=AP (step:=λx=>Iy x.1.1 x.1.2.1 x.1.2.2.1) s.size (λi r=>((s,r,(i:Int),()),())) (Aa6 s) (λ_ _=>True) (λr=>((r,()),()))
  (λi r hi _=>by refine⟨?_,trivial⟩;show Iy s r (i:Int)=_;unfold Iy;simp only[b_ (ω:(i:Int)<(s.size:Int)),Ac (ω:(0:Int)≤(i:Int)) (ω:(i:Int)<(s.size:Int)),d_,j_];refine B (Apq s _ _) ?_;show D (Sum.inl ((s,_,H.wrap ((i:Int)+1),()),()))=_;rw[CG (ω:i<1000000000)];rfl)
  (λr _=>by show Iy s r (s.size:Int)=_;unfold Iy;rw[f_ (Q_ (s.size:Int))];rfl) s.size 0 65535 ω trivial
 have h2:NS ((s,(65535:Int),(0:Int),()),())=_:=Ak h.1 ω;unfold QQ;exact B h2 rfl
def UV(s:ByteArray):ByteArray:=Hh [V.wrap (A I (Int.tdiv (A I (Zk s)) 256)),V.wrap (Int.tmod (A I (Zk s)) 256)]
def FZ(s:ByteArray):ByteArray:=s++UV s
def KQ(s:ByteArray):(FZ s).size=s.size+2:=by unfold FZ UV;rw[y_,Afd];rfl
def Vw(hs:s.size≤1000000):MQ s=D ((FZ s,()),()):=by
 unfold MQ;refine B (Ans hs) ?_
 have:=KQ s
 unfold FZ at this;rw[y_]at this;show(bif W (s.size+(UV s).size) 4611686018427387904 then D ((s++UV s,()),())else none)=_;rw[Av ω];rfl
def Hg(s:ByteArray):ByteArray×Int:=bif decide ((s.size:Int)<2)then(noB,4)else bif eqB (FZ (s.extract 0 (s.size-2))) s then(s.extract 0 (s.size-2),0)else(noB,5)
def Apo(hs:s.size≤1000000):Sl s=D (((Hg s).1,(Hg s).2,()),()):=by
 unfold Sl Hg;by_cases h:(s.size:Int)<2
 ·rw[b_ h];rfl
 ·rw[f_ h,c_,c_];have w:H.wrap ((s.size:Int)-2)=((s.size-2:Nat):Int):=by rw[Aa ω ω];omega
  simp only[w,j_];rw[b_ (ω:(0:Int)≤((s.size-2:Nat):Int)),b_ (ω:((s.size-2:Nat):Int)≤(s.size:Int)),a0_,d_];refine B (Vw (s:=s.extract 0 (s.size-2)) (by rw[WL s ω];omega)) ?_;show(bif eqB (FZ (s.extract 0 (s.size-2))) s then _ else _)=_;cases eqB (FZ (s.extract 0 (s.size-2))) s<;>rfl
def Agy(n:Int)(k:Nat):List Int:=(aB k).map λi=>V.wrap (U n ((2:Int)^(L (8*i) (IntKind.bits .u64))))
def nmB(n:Int)(k:Nat):ByteArray:=Hh (Agy n k)
def AA(n:Int)(k:Nat):(nmB n k).size=k:=by unfold nmB;rw[Afd];simp[Agy]
def CF(n:Int)(hk:k≤100):Cr n (k:Int)=D ((nmB n k,()),()):=by
 have h:=AP (step:=λx=>Lw x.1.1 x.1.2.1 x.1.2.2.1 x.1.2.2.2.1) k (λi l=>((n,(k:Int),l,(i:Int),()),())) (KO 0 (λi _=>V.wrap (U n ((2:Int)^(L (8*i) (IntKind.bits .u64)))))) (λ_ l=>l.length=k) (λl=>((l,()),()))
  (λi l hi hl=>by
   refine⟨?_,by rw[KO,D_,hl]⟩;show Lw n (k:Int) l (i:Int)=_;unfold Lw;have e:C.wrap (A H (8*(i:Int)))=((8*i:Nat):Int):=by rw[Aa (n:=8*(i:Int)) ω ω,Dg ω ω];norm_cast
   simp only[b_ (ω:(i:Int)<(k:Int)),Ac (ω:(0:Int)≤(i:Int)) (ω:(i:Int)<(l.length:Int)),d_,j_,e,b_ (ω:(0:Int)≤((8*i:Nat):Int)),CG (ω:i<1000000000)];rfl)
  (λl hl=>by show Lw n (k:Int) l (k:Int)=_;unfold Lw;rw[f_ (Q_ (k:Int))];rfl) k 0 (List.replicate k 0) ω σ
 have h2:=Ak h.1 ω;rw[show List.replicate k (0:Int)=(aB k).map (λ_=>0)by simp[List.map_const'],PS]at h2;have h3:QV ((n,(k:Int),(aB k).map (λ_=>(0:Int)),(0:Int),()),())=_:=h2;unfold Cr;rw[b_ (ω:(0:Int)≤(k:Int)),b_ (e0_ (k:Int)),b_ (ω:(k:Int)≤2147483648),a0_,a0_,d_,j_,show List.replicate k (0:Int)=(aB k).map (λ_=>0)by simp[List.map_const']];exact B h3 rfl
def EM(c:Int×Int):ByteArray:=nmB (A C c.1) 4++nmB (A C c.2) 4
def CJ(c:Int×Int):(EM c).size=8:=by unfold EM;rw[y_,AA,AA]
def Mx(c:Int×Int):Hz c.1 c.2=D ((EM c,()),()):=by unfold Hz;refine B (CF (A C c.1) (k:=4) ω) ?_;refine B (CF (A C c.2) (k:=4) ω) ?_;show(bif W ((nmB (A C c.1) 4).size+(nmB (A C c.2) 4).size) 4611686018427387904 then _ else _)=_;rw[AA,AA];rfl
def Aun(x y:Int):Int:=C.wrap (stk x y (aA ((X (IntKind.bits C) x)|||(X (IntKind.bits C) y))))
def Mq(l:List Bool)(i:Nat)(n:Int):Int:=bif l.getD i E then Aun n (A C (1*2^min i (IntKind.bits .u64)))else n
def LY(l:List Bool):ByteArray:=nmB (AE (Mq l) l.length 0 0) 1
def ER(l:List Bool):(LY l).size=1:=AA _ _
def Vx{l:List Bool}(hl:l.length≤100):MR l=D ((LY l,()),()):=by
 have h:=AP (step:=λx=>JV x.1.1 x.1.2.1 x.1.2.2.1) l.length (λi n=>((l,n,(i:Int),()),())) (Mq l) (λ_ _=>True) (λn=>((n,()),()))
  (λi n hi _=>by refine⟨?_,trivial⟩;show JV l n (i:Int)=_;unfold JV;simp only[b_ (ω:(i:Int)<(l.length:Int)),Ac (ω:(0:Int)≤(i:Int)) (ω:(i:Int)<(l.length:Int)),d_,j_,Bq8 (ω:i<1000000000),b_ (ω:(0:Int)≤(i:Int)),CG (ω:i<1000000000)];unfold Mq Aun;cases l.getD i E<;>rfl)
  (λn _=>by show JV l n (l.length:Int)=_;unfold JV;rw[f_ (Q_ (l.length:Int))];rfl) l.length 0 0 ω trivial
 have h2:Pr ((l,(0:Int),(0:Int),()),())=_:=Ak h.1 ω;unfold MR;refine B h2 ?_;exact B (CF _ (k:=1) ω) rfl
structure Inp where
 press:Int×Int
 kind:Int
 car:Int
 cars:List CarInput
def Inp.tup(x:Inp):Int×Int×Int×Int×List Y×Unit:=(x.press.1,x.press.2,x.kind,x.car,x.cars,())
def Inp.none:Inp:=⟨(0,0),0,0,[]⟩
def OA:Y:=aD 0 E E E E 0 E 0 E 0 0
def flV(b:Q)(n:Int):Bool:=U (A C n) ((2:Int)^b.C0.toNat)==0
def Lm(b:Q)(c:Y):Bool:=flV b c.V0&&(flV b c.D2&&(R 0 (b.C0-1) c.N1&&R 0 2 c.M1))
def Fa(b:Q)(c:Int×Int):Bool:=isZ (AX c (Bx b))
def Ob(b:Q)(x:Inp):Bool:=Fa b x.press&&(R 0 8 x.kind&&(R 0 ((b.B0.length:Int)-1) x.car&&(!(x.kind==0&&x.car !=0)&&((x.cars.length:Int)==(b.B0.length:Int)&&x.cars.all (Lm b)))))
def Ou(s:ByteArray)(c:Y):ByteArray:=s++nmB (A C c.V0) 4++LY [c.J2,c.S1,c.T1,c.D1,c.Y1,c.I2]++nmB (A C c.N1) 1++nmB (A C c.M1) 1++nmB (A C c.D2) 4++nmB ((c.J3:Nat):Int) 8
def Ahn(s:ByteArray)(c:Y):(Ou s c).size=s.size+19:=by unfold Ou;simp only[y_,AA,ER]
def UG(b:Q)(x:Inp):ByteArray:=nmB 165 1++nmB (A C (b.B0.length:Int)) 1++EM x.press++nmB (A C x.kind) 1++nmB (A C x.car) 1
def Ad5(b:Q)(x:Inp):(UG b x).size=12:=by unfold UG;simp only[y_,AA,CJ]
def inV(b:Q)(x:Inp):ByteArray:=FZ (x.cars.foldl Ou (UG b x))
def Adv(l:List Y)(s:ByteArray):(l.foldl Ou s).size=s.size+19*l.length:=by
 induction l generalizing s with
 |nil=>simp
 |cons c t ih=>rw[e7_,ih,Ahn,x_];omega
def Abm(b:Q)(x:Inp):(inV b x).size=14+19*x.cars.length:=by unfold inV;rw[KQ,Adv,Ad5];omega
def Kk(n lo hi:Int):HR n lo hi=D ((R lo hi n,()),()):=by unfold HR R;cases decide (lo≤n)<;>rfl
section
variable{b:Q}(hb:b.small)(hcode:b.code=0)
include hb
theorem XH(n:Int):Pb b.C0 b.E0 b.H0 b.M0 b.J0 b.L0 b.N0 b.B0 n=D ((flV b n,()),()):=by
 have h1:=hb.1;have h2:=hb.2;have e:C.wrap b.C0=b.C0:=Dg ω ω;have e2:L b.C0.toNat (IntKind.bits .u64)=b.C0.toNat:=by show min b.C0.toNat 64=_;omega
 unfold Pb flV;simp only[e,b_ (ω:(0:Int)≤b.C0),d_,e2]
theorem Aj5(x:Inp)(hx:x.cars.length≤1000):Mj (((),(),(0:Int),()),(b.tup,x.tup,()))=D (bif x.cars.all (Lm b)then .inl ((),())else .inr ((E,()),())):=by
 have h1:=hb.1;have h2:=hb.2;have h:=Ak (Aih (step:=λx=>letI a:=x.2.1.2.2;letI d:=x.2.2.1;letI e:=a.2.2;JU x.1.2.2.1 x.2.1.1 x.2.1.2.1 a.1 a.2.1 e.1 e.2.1 e.2.2.1 e.2.2.2.1 d.1 d.2.1 d.2.2.1 d.2.2.2.1 d.2.2.2.2.1) x.cars OA (Lm b) (λi=>(((),(),(i:Int),()),(b.tup,x.tup,()))) (.inl ((),())) (λ_=>.inr ((E,()),())) (λi hi=>by
  show JU (i:Int) b.C0 b.E0 b.H0 b.M0 b.J0 b.L0 b.N0 b.B0 x.press.1 x.press.2 x.kind x.car x.cars=_;unfold JU;rw[show aD 0 E E E E 0 E 0 E 0 0=OA from rfl];have w:H.wrap (b.C0-1)=b.C0-1:=Aa ω ω;simp only[b_ (ω:(i:Int)<(x.cars.length:Int)),d_,Ac (ω:(0:Int)≤(i:Int)) (ω:(i:Int)<(x.cars.length:Int)),j_,CG (ω:i<1000000000),w];generalize x.cars.getD i OA=c;unfold Lm;refine B (XH hb c.V0) ?_;show(bif !flV b c.V0 then _ else _)=_;cases flV b c.V0 with
  |false=>rfl
  |true=>
  rw[o_,c_,s_];refine B (XH hb c.D2) ?_;show(bif !flV b c.D2 then _ else _)=_;cases flV b c.D2 with
  |false=>rfl
  |true=>
  rw[o_,c_,s_];refine B (Kk _ _ _) ?_;show(bif !R 0 (b.C0-1) c.N1 then _ else _)=_;cases R 0 (b.C0-1) c.N1 with
  |false=>rfl
  |true=>
  rw[o_,c_,s_];refine B (Kk _ _ _) ?_;show(bif !R 0 2 c.M1 then _ else _)=_;cases R 0 2 c.M1<;>rfl) (by
  show JU (x.cars.length:Int) b.C0 b.E0 b.H0 b.M0 b.J0 b.L0 b.N0 b.B0 x.press.1 x.press.2 x.kind x.car x.cars=_;unfold JU;rw[f_ (Q_ _),c_]) x.cars.length 0 ω) ω
 rw[R_,Bcw]at h;exact h
include hcode
theorem Lo(c:Int×Int):HS b.C0 b.E0 b.H0 b.M0 b.J0 b.L0 b.N0 b.B0 c.1 c.2=D ((Fa b c,()),()):=by
 unfold HS;refine B (Apn hb hcode) ?_;have e1:=OC c.1 (Bx b).1;have e2:=OC c.2 (Bx b).2;show aC (bif O.wrap _==0 then D ((A O _==0,()),())else _) _=_;rw[e1,e2];unfold Fa isZ;show aC (bif(AX c (Bx b)).1==0 then D (((AX c (Bx b)).2==0,()),())else _) _=_;cases(AX c (Bx b)).1==0 with
 |false=>rfl
 |true=>rw[s_,d5_];rfl
theorem Aps(x:Inp)(hx:x.cars.length≤1000):Sm b.C0 b.E0 b.H0 b.M0 b.J0 b.L0 b.N0 b.B0 x.press.1 x.press.2 x.kind x.car x.cars=D ((Ob b x,()),()):=by
 have hc:=Am hcode;have w:H.wrap ((b.B0.length:Int)-1)=(b.B0.length:Int)-1:=Aa ω ω;unfold Sm Ob;rw[w];have fin:∀g:Bool,aC (D (((),(),!g,()),(b.tup,x.tup,()))) (λy5:(Unit×Unit×Bool×Unit)×_=>bif y5.1.2.2.1 then D ((E,()),())else(Mj (((),(),(0:Int),()),(y5.2.1,y5.2.2.1,()))).bind λy6=>(match y6 with | .inl y7=>D ((true,()),()) | .inr y7=>D ((y7.1.1,()),())))=D (((g&&x.cars.all (Lm b)),()),()):=by
  intro g;cases g with
  |false=>rfl
  |true=>refine B rfl ?_;show(bif !true then _ else _)=_;rw[o_,c_,s_];refine B (Aj5 hb x hx) ?_;cases x.cars.all (Lm b)<;>rfl
 rw[Em];show aC (aC (D ((b.code,()),())) _) _=_;rw[hcode];cases h1:Fa b x.press with
 |false=>refine B (B rfl (show(bif((0:Int) !=0)then _ else _)=D (((),(),!E,()),(b.tup,x.tup,()))from B (Lo hb hcode x.press) (by show(bif !Fa b x.press then _ else _)=_;rw[h1];rfl))) ?_;exact fin E
 |true=>
 cases h2:R 0 8 x.kind with
 |false=>refine B (B rfl (show(bif((0:Int) !=0)then _ else _)=D (((),(),!E,()),(b.tup,x.tup,()))from B (Lo hb hcode x.press) (by show(bif !Fa b x.press then _ else _)=_;rw[h1,o_,c_];refine B (Kk _ _ _) ?_;show(bif !R 0 8 x.kind then _ else _)=_;rw[h2];rfl))) ?_;exact fin E
 |true=>
 cases h3:R 0 ((b.B0.length:Int)-1) x.car with
 |false=>refine B (B rfl (show(bif((0:Int) !=0)then _ else _)=D (((),(),!E,()),(b.tup,x.tup,()))from B (Lo hb hcode x.press) (by show(bif !Fa b x.press then _ else _)=_;rw[h1,o_,c_];refine B (Kk _ _ _) ?_;show(bif !R 0 8 x.kind then _ else _)=_;rw[h2,o_,c_];refine B (Kk _ _ _) ?_;show(bif !R 0 ((b.B0.length:Int)-1) x.car then _ else _)=_;rw[h3];rfl))) ?_;exact fin E
 |true=>refine B (B rfl (show(bif((0:Int) !=0)then _ else _)=D (((),(),!(!(x.kind==0&&x.car !=0)&&((x.cars.length:Int)==(b.B0.length:Int))),()),(b.tup,x.tup,()))from B (Lo hb hcode x.press) (by show(bif !Fa b x.press then _ else _)=_;rw[h1,o_,c_];refine B (Kk _ _ _) ?_;show(bif !R 0 8 x.kind then _ else _)=_;rw[h2,o_,c_];refine B (Kk _ _ _) ?_;show(bif !R 0 ((b.B0.length:Int)-1) x.car then _ else _)=_;rw[h3,o_,c_];have hne:((x.cars.length:Int) !=(b.B0.length:Int))=!((x.cars.length:Int)==(b.B0.length:Int)):=rfl;rw[hne];cases(x.cars.length:Int)==(b.B0.length:Int)<;>cases x.kind==0<;>cases x.car !=0<;>rfl))) ?_;refine Eq.trans (fin (!(x.kind==0&&x.car !=0)&&((x.cars.length:Int)==(b.B0.length:Int)))) ?_;simp only[s_,Bool.and_assoc]
end
def Bhl{c:Nat}(ha:a<65536)(hc:c<65536):I.wrap (stk (a:Int) (c:Int) (aA ((X (IntKind.bits .u16) (a:Int))^^^(X (IntKind.bits .u16) (c:Int)))))=((a^^^c:Nat):Int):=by have h:=d6_ (n:=16) ha hc;rw[Kf,BitVec.toNat_xor,V_,V_];rw[show(((a:Int))%((2^IntKind.bits .u16:Nat):Int)).toNat=a by simp only[IntKind.bits];omega,show(((c:Int))%((2^IntKind.bits .u16:Nat):Int)).toNat=c by simp only[IntKind.bits];omega];generalize a^^^c=n at*;simp only[A,IntKind.signed,IntKind.bits];simp;omega
def Aom{c:Nat}(ha:a<65536)(hc:c<65536):Aol (a:Int) (c:Int)=((a^^^c:Nat):Int):=by have h:=d6_ (n:=16) ha hc;unfold Aol;rw[Kf,BitVec.toNat_xor,V_,V_];rw[show(((a:Int))%((2^IntKind.bits .i64:Nat):Int)).toNat=a by simp only[IntKind.bits];omega,show(((c:Int))%((2^IntKind.bits .i64:Nat):Int)).toNat=c by simp only[IntKind.bits];omega];exact Aa ω ω
def QH(n:Nat):I.wrap (n:Int)=((n%65536:Nat):Int):=by simp only[A,IntKind.signed,IntKind.bits];simp
def n16(_:Nat)(r:Nat):Nat:=if 32768≤r then(2*r%65536)^^^4129 else 2*r%65536
def Az1:n16 i r<65536:=by
 unfold n16;split
 ·exact d6_ (n:=16) (g1_ _ τ) τ
 ·exact g1_ _ τ
def Bei(h:r<65536):Xr i (r:Int)=((n16 i r:Nat):Int):=by
 have w:Int.tmod (A H ((r:Int)*2)) 65536=((2*r%65536:Nat):Int):=by rw[Aa ω ω,e3_ ω];omega
 unfold Xr n16;rw[w];by_cases g:32768≤r
 ·rw[b_ (ω:(32768:Int)≤(r:Int)),d_,if_pos g];exact Aom (g1_ _ τ) τ
 ·rw[f_ (ω:¬(32768:Int)≤(r:Int)),c_,if_neg g]
def Btq(h:r<65536):(A I (stk (A I ((r:Int)*((2:Int)^(L (J (1:Int)) (IntKind.bits I))))) (A I ((U (r:Int) ((2:Int)^(L (J (15:Int)) (IntKind.bits I))))*(4129:Int))) (aA ((X (IntKind.bits I) (A I ((r:Int)*((2:Int)^(L (J (1:Int)) (IntKind.bits I))))))^^^(X (IntKind.bits I) (A I ((U (r:Int) ((2:Int)^(L (J (15:Int)) (IntKind.bits I))))*(4129:Int))))))))=((n16 i r:Nat):Int):=by
 have w1:I.wrap ((r:Int)*((2:Int)^(L (J (1:Int)) (IntKind.bits I))))=((2*r%65536:Nat):Int):=by rw[show((2:Int)^(L (J (1:Int)) (IntKind.bits I)))=2 from rfl,show(r:Int)*2=((2*r:Nat):Int)by omega];exact QH _
 have d:U (r:Int) ((2:Int)^(L (J (15:Int)) (IntKind.bits I)))=((r/32768:Nat):Int):=by rw[show((2:Int)^(L (J (15:Int)) (IntKind.bits I)))=32768 from rfl,a4_ _ ω];omega
 have w2:I.wrap ((U (r:Int) ((2:Int)^(L (J (15:Int)) (IntKind.bits I))))*(4129:Int))=((r/32768*4129:Nat):Int):=by
  rw[d,show((r/32768:Nat):Int)*4129=((r/32768*4129:Nat):Int)by omega,QH]
  have:r/32768*4129<65536:=ω
  rw[h1_ this]
 rw[w1,w2,Bhl (g1_ _ τ) ω];unfold n16;by_cases g:32768≤r
 ·rw[if_pos g,show r/32768*4129=4129 by omega]
 ·rw[if_neg g,show r/32768*4129=0 by omega,Nat.xor_zero]
def Adu:∀(k i r:Nat),r<65536→AE Xr k i (r:Int)=((AE n16 k i r:Nat):Int)∧AE n16 k i r<65536
 |0,_,_,h=>⟨rfl,h⟩
 |k+1,i,r,h=>by show AE Xr k (i+1) (Xr i (r:Int))=_∧_;rw[Bei (i:=i) h];exact Adu k (i+1) (n16 i r) Az1
def Baa(s:ByteArray)(hr:r<65536)(a c:Int):NP ((s,(r:Int),a,c,(0:Int),()),())=D ((s,((AE n16 8 0 r:Nat):Int),a,c,()),()):=by
 have h:=AP (S:=Nat) (step:=λx=>Iw x.1.1 x.1.2.1 x.1.2.2.1 x.1.2.2.2.1 x.1.2.2.2.2.1) 8 (λk r=>((s,(r:Int),a,c,(k:Int),()),())) n16 (λ_ r=>r<65536) (λ(r:Nat)=>((s,(r:Int),a,c,()),()))
  (λk r hk hr=>by refine⟨?_,Az1⟩;show Iw s (r:Int) a c (k:Int)=_;unfold Iw;simp only[b_ (ω:(k:Int)<8),d_,CG (ω:k<1000000000)];rw[Btq (i:=k) hr])
  (λr _=>by show Iw s (r:Int) a c 8=_;unfold Iw;rw[f_ (Q_ (8:Int))];rfl) 8 0 r ω hr
 exact Ak h.1 ω
def byN(s:ByteArray)(i:Nat):Nat:=((bl s).getD i 0).toNat
def RC(s:ByteArray)(i:Nat):byN s i<256:=UInt8.toNat_lt _
def b16(s:ByteArray)(i:Nat)(r:Nat):Nat:=AE n16 8 0 (r^^^(byN s i*256))
def s16(s:ByteArray):Nat:=AE (b16 s) s.size 0 65535
def Ak0(hr:r<65536):r^^^(byN s i*256)<65536:=d6_ (n:=16) hr (by have:=RC s i;omega)
def Alx(hs:s.size≤1000000):QK s=D ((((s16 s:Nat):Int),()),())∧s16 s<65536:=by
 have h:=AP (S:=Nat) (step:=λx=>Iv x.1.1 x.1.2.1 x.1.2.2.1 x.1.2.2.2.1) s.size (λi r=>((s,(r:Int),(s.size:Int),(i:Int),()),())) (b16 s) (λ_ r=>r<65536) (λ(r:Nat)=>(((r:Int),()),()))
  (λi r hi hr=>by
   refine⟨?_,(Adu 8 0 _ (Ak0 hr)).2⟩;show Iv s (r:Int) (s.size:Int) (i:Int)=_;unfold Iv;have hb:=RC s i;have z:I.wrap ((A I (AJ s i))*((2:Int)^(L (J (8:Int)) (IntKind.bits I))))=((byN s i*256:Nat):Int):=by rw[GR];show I.wrap (A I ((byN s i:Nat):Int)*256)=_;rw[QH,h1_ ω,show((byN s i:Nat):Int)*256=((byN s i*256:Nat):Int)by omega,QH,h1_ ω]
   simp only[b_ (ω:(i:Int)<(s.size:Int)),Ac (ω:(0:Int)≤(i:Int)) (ω:(i:Int)<(s.size:Int)),d_,j_];rw[z,Bhl hr ω];refine B (Baa s (Ak0 hr) _ _) ?_;show D (Sum.inl ((s,_,_,H.wrap ((i:Int)+1),()),()))=_;rw[CG (ω:i<1000000000)];rfl)
  (λr _=>by show Iv s (r:Int) (s.size:Int) (s.size:Int)=_;unfold Iv;rw[f_ (Q_ (s.size:Int))];rfl) s.size 0 65535 ω τ
 have h2:NO ((s,(65535:Int),(s.size:Int),(0:Int),()),())=_:=Ak h.1 ω;unfold QK;exact⟨B h2 rfl,h.2⟩
def Bg5:∀(s:ByteArray) (k i r:Nat),r<65536→AE (Aa6 s) k i (r:Int)=((AE (b16 s) k i r:Nat):Int)
 |_,0,_,_,_=>rfl
 |s,k+1,i,r,h=>by
  have hb:=RC s i;have e:Aa6 s i (r:Int)=((b16 s i r:Nat):Int):=by
   unfold Aa6 b16;have z:H.wrap (A H (AJ s i)*256)=((byN s i*256:Nat):Int):=by rw[GR];show H.wrap (A H ((byN s i:Nat):Int)*256)=_;rw[Aa (n:=((byN s i:Nat):Int)) ω ω,Aa ω ω];omega
   rw[z,Aom h ω];exact(Adu 8 0 _ (Ak0 h)).1
  show AE (Aa6 s) k (i+1) (Aa6 s i (r:Int))=((AE (b16 s) k (i+1) (b16 s i r):Nat):Int);rw[e];exact Bg5 s k (i+1) _ (Adu 8 0 _ (Ak0 h)).2
def Bav(s:ByteArray):Zk s=((s16 s:Nat):Int):=Bg5 s s.size 0 65535 τ
def Xy(n:Nat):V.wrap (n:Int)=((n%256:Nat):Int):=by simp only[A,IntKind.signed,IntKind.bits];simp
def Bas(s:ByteArray)(h:s16 s<65536):UV s=Hh [V.wrap (U ((s16 s:Nat):Int) ((2:Int)^(L (J (8:Int)) (IntKind.bits I)))),V.wrap ((s16 s:Nat):Int)]:=by
 have w:I.wrap (Zk s)=((s16 s:Nat):Int):=by rw[Bav,QH,h1_ h]
 have d1:Int.tdiv ((s16 s:Nat):Int) 256=((s16 s/256:Nat):Int):=by rw[Int.tdiv_eq_ediv_of_nonneg ω];omega
 have d2:U ((s16 s:Nat):Int) ((2:Int)^(L (J (8:Int)) (IntKind.bits I)))=((s16 s/256:Nat):Int):=by rw[show((2:Int)^(L (J (8:Int)) (IntKind.bits I)))=256 from rfl,a4_ _ ω];omega
 have d3:Int.tmod ((s16 s:Nat):Int) 256=((s16 s%256:Nat):Int):=by rw[e3_ ω];omega
 unfold UV;rw[w,d1,d2,d3,QH,Xy,Xy,Xy,Xy];congr 3
 ·omega
 ·congr 1;omega
def Ao7(hs:s.size≤1000000):Sh s=D ((FZ s,()),()):=by
 obtain⟨h1,h2⟩:=Alx hs;unfold Sh;refine B h1 ?_
 have:=KQ s
 unfold FZ at this;rw[y_]at this;show(bif W (s.size+(Hh [V.wrap (U ((s16 s:Nat):Int) ((2:Int)^(L (J (8:Int)) (IntKind.bits I)))),V.wrap ((s16 s:Nat):Int)]).size) 4611686018427387904 then D ((s++Hh [V.wrap (U ((s16 s:Nat):Int) ((2:Int)^(L (J (8:Int)) (IntKind.bits I)))),V.wrap ((s16 s:Nat):Int)],()),())else none)=_;rw[← Bas s h2,Av ω];rfl
def Ao6(hs:s.size≤1000000):Sg s=D (((Hg s).1,(Hg s).2,()),()):=by
 unfold Sg Hg;by_cases h:(s.size:Int)<2
 ·have w:H.wrap ((s.size:Int)-2)=(s.size:Int)-2:=Aa ω ω;simp only[w];rw[b_ h,b_ (ω:(s.size:Int)-2<0)];rfl
 ·rw[f_ h,c_];have w:H.wrap ((s.size:Int)-2)=((s.size-2:Nat):Int):=by rw[Aa ω ω];omega
  simp only[w,j_];rw[f_ (ω:¬((s.size-2:Nat):Int)<0),b_ (ω:(0:Int)≤((s.size-2:Nat):Int)),b_ (ω:((s.size-2:Nat):Int)≤(s.size:Int)),a0_,d_,c_];refine B (Ao7 (s:=s.extract 0 (s.size-2)) (by rw[WL s ω];omega)) ?_;show(bif !eqB (FZ (s.extract 0 (s.size-2))) s then _ else _)=_;cases eqB (FZ (s.extract 0 (s.size-2))) s<;>rfl
def Apr(x:Inp)(hx:x.cars.length≤1000)(hs:s.size≤1000):Pp (((),s,(0:Int),()),(x.tup,()))=D ((x.cars.foldl Ou s,()),()):=by
 have h:=AP (step:=λx=>letI a:=x.2.1.2;MY x.1.2.1 x.1.2.2.1 x.2.1.1 a.1 a.2.1 a.2.2.1 a.2.2.2.1) x.cars.length (λi s=>(((),s,(i:Int),()),(x.tup,()))) (λi s=>Ou s (x.cars.getD i OA)) (λi s=>s.size≤1000+19*i) (λs=>((s,()),()))
  (λi s hi hs=>by refine⟨?_,by rw[Ahn];omega⟩;show MY s (i:Int) x.press.1 x.press.2 x.kind x.car x.cars=_;unfold MY;rw[show aD 0 E E E E 0 E 0 E 0 0=OA from rfl];simp only[b_ (ω:(i:Int)<(x.cars.length:Int)),Ac (ω:(0:Int)≤(i:Int)) (ω:(i:Int)<(x.cars.length:Int)),d_,j_,CG (ω:i<1000000000)];generalize x.cars.getD i OA=c;refine B (CF (A C c.V0) (k:=4) ω) ?_;have e1:=AA (A C c.V0) 4;unfold Ou;generalize nmB (A C c.V0) 4=a1 at e1⊢;show(bif W (s.size+a1.size) 4611686018427387904 then _ else _)=_;rw[Av ω,d_];refine B (Vx (l:=[c.J2,c.S1,c.T1,c.D1,c.Y1,c.I2]) (by show 6≤100;omega)) ?_;have e2:=ER [c.J2,c.S1,c.T1,c.D1,c.Y1,c.I2];generalize LY [c.J2,c.S1,c.T1,c.D1,c.Y1,c.I2]=a2 at e2⊢;show(bif W ((s++a1).size+a2.size) 4611686018427387904 then _ else _)=_;rw[Av (by rw[y_];omega),d_];refine B (CF (A C c.N1) (k:=1) ω) ?_;have e3:=AA (A C c.N1) 1;generalize nmB (A C c.N1) 1=a3 at e3⊢;show(bif W ((s++a1++a2).size+a3.size) 4611686018427387904 then _ else _)=_;rw[Av (by simp only[y_];omega),d_];refine B (CF (A C c.M1) (k:=1) ω) ?_;have e4:=AA (A C c.M1) 1;generalize nmB (A C c.M1) 1=a4 at e4⊢;show(bif W ((s++a1++a2++a3).size+a4.size) 4611686018427387904 then _ else _)=_;rw[Av (by simp only[y_];omega),d_];refine B (CF (A C c.D2) (k:=4) ω) ?_;have e5:=AA (A C c.D2) 4;generalize nmB (A C c.D2) 4=a5 at e5⊢;show(bif W ((s++a1++a2++a3++a4).size+a5.size) 4611686018427387904 then _ else _)=_;rw[Av (by simp only[y_];omega),d_];refine B (CF ((c.J3:Nat):Int) (k:=8) ω) ?_;have e6:=AA ((c.J3:Nat):Int) 8;generalize nmB ((c.J3:Nat):Int) 8=a6 at e6⊢;show(bif W ((s++a1++a2++a3++a4++a5).size+a6.size) 4611686018427387904 then _ else _)=_;rw[Av (by simp only[y_];omega)];rfl)
  (λs _=>by show MY s (x.cars.length:Int) x.press.1 x.press.2 x.kind x.car x.cars=_;unfold MY;rw[f_ (Q_ _)];rfl) x.cars.length 0 s ω ω
 have h2:Pp (((),s,(0:Int),()),(x.tup,()))=_:=Ak h.1 ω;rw[h2];have e:∀(l:List Y) (k i:Nat) (s:ByteArray),i+k=l.length→AE (λi s=>Ou s (l.getD i OA)) k i s=(l.drop i).foldl Ou s:=by
  intro l k;induction k with
  |zero=>intro i s hi;rw[List.drop_eq_nil_of_le ω];rfl
  |succ k ih=>intro i s hi;rw[By OA (ω:i<l.length),e7_];exact ih (i+1) _ ω
 rw[e x.cars x.cars.length 0 s ω,R_]
section
variable{b:Q}(hb:b.small)(hcode:b.code=0)
include hb hcode
theorem Baj(x:Inp)(hx:x.cars.length≤1000):Qf b.C0 b.E0 b.H0 b.M0 b.J0 b.L0 b.N0 b.B0 x.press.1 x.press.2 x.kind x.car x.cars=D (bif Ob b x then((inV b x,0,()),())else((noB,1,()),())):=by
 have hc:=Am hcode;unfold Qf;refine B (Aps hb hcode x hx) ?_;show(bif !Ob b x then _ else _)=_;cases Ob b x with
 |false=>rfl
 |true=>
 rw[o_,c_,d_];refine B (CF 165 (k:=1) ω) ?_;refine B (CF (A C (b.B0.length:Int)) (k:=1) ω) ?_;have hh:=Ad5 b x;unfold inV;have e1:=AA 165 1;have e2:=AA (A C (b.B0.length:Int)) 1;have e3:=CJ x.press;have e4:=AA (A C x.kind) 1;have e5:=AA (A C x.car) 1;have hd:UG b x=nmB 165 1++nmB (A C (b.B0.length:Int)) 1++EM x.press++nmB (A C x.kind) 1++nmB (A C x.car) 1:=rfl;rw[hd]at hh⊢;generalize nmB 165 1=a1 at e1 hh⊢;generalize nmB (A C (b.B0.length:Int)) 1=a2 at e2 hh⊢;show(bif W (a1.size+a2.size) 4611686018427387904 then _ else _)=_;rw[Av ω,d_];refine B (Mx x.press) ?_;generalize EM x.press=a3 at e3 hh⊢;show(bif W ((a1++a2).size+a3.size) 4611686018427387904 then _ else _)=_;rw[Av (by simp only[y_];omega),d_];refine B (CF (A C x.kind) (k:=1) ω) ?_;generalize nmB (A C x.kind) 1=a4 at e4 hh⊢;show(bif W ((a1++a2++a3).size+a4.size) 4611686018427387904 then _ else _)=_;rw[Av (by simp only[y_];omega),d_];refine B (CF (A C x.car) (k:=1) ω) ?_;generalize nmB (A C x.car) 1=a5 at e5 hh⊢;show(bif W ((a1++a2++a3++a4).size+a5.size) 4611686018427387904 then _ else _)=_;rw[Av (by simp only[y_];omega),d_];refine B (Apr x hx (s:=a1++a2++a3++a4++a5) ω) ?_;refine B (Vw (s:=x.cars.foldl Ou (a1++a2++a3++a4++a5)) (by rw[Adv];omega)) ?_;rfl
end
def Ber(s:ByteArray)(at_:Nat)(i:Nat)(n:Int):Int:=Aun n (A C (A C (AJ s (at_+i))*2^min (8*i) (IntKind.bits .u64)))
def Ahh(s:ByteArray)(at_ k:Nat):Int:=AE (Ber s at_) k 0 0
def TR(h:a+k≤s.size)(hs:s.size≤1000000):Ls s (a:Int) (k:Int)=D ((Ahh s a k,()),()):=by
 have h1:=AP (step:=λx=>IA x.1.1 x.1.2.1 x.1.2.2.1 x.1.2.2.2.1 x.1.2.2.2.2.1) k (λi n=>((s,(a:Int),(k:Int),n,(i:Int),()),())) (Ber s a) (λ_ _=>True) (λn=>((n,()),()))
  (λi n hi _=>by
   refine⟨?_,trivial⟩;show IA s (a:Int) (k:Int) n (i:Int)=_;unfold IA;have e1:H.wrap ((a:Int)+(i:Int))=((a+i:Nat):Int):=by rw[Aa ω ω];norm_cast
   have e2:C.wrap (A H (8*(i:Int)))=((8*i:Nat):Int):=by rw[Aa (n:=8*(i:Int)) ω ω,Dg ω ω];norm_cast
   simp only[b_ (ω:(i:Int)<(k:Int)),e1,e2,Ac (ω:(0:Int)≤((a+i:Nat):Int)) (ω:((a+i:Nat):Int)<(s.size:Int)),d_,j_,b_ (ω:(0:Int)≤((8*i:Nat):Int)),CG (ω:i<1000000000)];rfl)
  (λn _=>by show IA s (a:Int) (k:Int) n (k:Int)=_;unfold IA;rw[f_ (Q_ (k:Int))];rfl) k 0 0 ω trivial
 have h2:NV ((s,(a:Int),(k:Int),(0:Int),(0:Int),()),())=_:=Ak h1.1 ω;unfold Ls;exact B h2 rfl
def Akv(s:ByteArray)(a:Nat):Int×Int:=(A O (Ahh s a 4),O.wrap (Ahh s (a+4) 4))
def Rn(h:a+8≤s.size)(hs:s.size≤1000000):Ks s (a:Int)=D (((),()),(((Akv s a).1,(Akv s a).2,()),())):=by
 have e:H.wrap ((a:Int)+4)=((a+4:Nat):Int):=by rw[Aa ω ω];norm_cast
 unfold Ks;refine B (TR (s:=s) (a:=a) (k:=4) ω hs) ?_;rw[e];exact B (TR (s:=s) (a:=a+4) (k:=4) ω hs) rfl
def Bb0(s:ByteArray)(a k:Nat):Bool:=V.wrap (stk (U (AJ s a) ((2:Int)^min k (IntKind.bits .u8))) 1 (aA ((X (IntKind.bits V) (U (AJ s a) ((2:Int)^min k (IntKind.bits .u8))))&&&(X (IntKind.bits V) 1))))==1
def Xm(h:a<s.size)(hk:k≤1000):Mi s (a:Int) (k:Int)=D ((Bb0 s a k,()),()):=by unfold Mi;simp only[Ac (ω:(0:Int)≤(a:Int)) (ω:(a:Int)<(s.size:Int)),d_,Bq8 (ω:k<1000000000),b_ (ω:(0:Int)≤(k:Int)),j_];rfl
def DW(b:Q)(s:ByteArray):Int:=bif(s.size:Int) !=14+19*(b.B0.length:Int)then 4 else bif H.wrap (AJ s 0) !=165 then 30 else bif H.wrap (AJ s 1) !=(b.B0.length:Int)then 30 else(Hg s).2
section
variable{b:Q}(hb:b.small)(hcode:b.code=0)
include hb hcode
end
def Bdz(h:(Hg s).2=0):2≤s.size∧(Hg s).1=s.extract 0 (s.size-2):=by
 unfold Hg at h⊢;cases q:decide ((s.size:Int)<2)with
 |true=>rw[q]at h;cases h
 |false=>
  rw[q]at h;have q:=E_ q;refine⟨ω,?_⟩;cases q2:eqB (FZ (s.extract 0 (s.size-2))) s with
  |true=>rfl
  |false=>rw[q2]at h;cases h
def Yr(hcode:b.code=0)(s:ByteArray)(hs:s.size≤1000000):Sat (OS b.C0 b.E0 b.H0 b.M0 b.J0 b.L0 b.N0 b.B0 s (14+19*(b.B0.length:Int)) 165) λy=>match y with
  | .inl z=>z.1.2.1=DW b s∧DW b s≠0
  | .inr z=>DW b s=0∧z.1.2.1=0∧z.2.1=((s.extract 0 (s.size-2)).extract 2 (s.size-2),b.C0,b.E0,b.H0,b.M0,b.J0,b.L0,b.N0,b.B0,()):=by
 have hcc:=Am hcode;unfold OS DW;refine Sat.bindE (Bg b) (Sat.bifF (show(b.code !=0)=E by rw[hcode];rfl) ?_);refine Sat.bic (λq=>Sat.ret ?_) λq=>?_
 ·rw[q];exact⟨rfl,show(4:Int)≠0 by decide⟩
 rw[q];have hsz:(s.size:Int)=14+19*(b.B0.length:Int):=by simpa using q
 have w:∀i,H.wrap (AJ s i)=AJ s i:=λi=>by
  rw[GR]
  have:=RC s i
  unfold byN at this;exact Aa ω ω
 rw[w 0];refine Sat.bifT (Ac ω ω) (Sat.bic (λq=>Sat.ret ?_) λq=>Sat.bifT (Ac ω ω) (Sat.bic (λq2=>Sat.ret ?_) λq2=>?_))
 ·rw[show(AJ s 0 !=165)=true from q];exact⟨rfl,show(30:Int)≠0 by decide⟩
 ·rw[show(AJ s 0 !=165)=E from q,show(A H (AJ s 1) !=(b.B0.length:Int))=true from q2];exact⟨rfl,show(30:Int)≠0 by decide⟩
 rw[show(AJ s 0 !=165)=E from q,show(A H (AJ s 1) !=(b.B0.length:Int))=E from q2];refine Sat.bindE (Ao6 hs) (Sat.bic (λq3=>Sat.ret ⟨rfl,?_⟩) λq3=>?_)
 ·show(Hg s).2≠0;simpa using q3
 have q3:(Hg s).2=0:=by simpa using q3
 obtain⟨h2,h3⟩:=Bdz q3;have hz:(Hg s).1.size=s.size-2:=by rw[h3,WL s ω]
 refine Sat.bifT (b_ (ω:(2:Int)≤(((Hg s).1.size:Nat):Int))) (Sat.ret ⟨q3,rfl,?_⟩);show((Hg s).1.extract 2 (Hg s).1.size,_)=_;rw[hz,h3]
def Bd3(h:n<18446744073709551616):orL 0 (n:Int)=(n:Int):=by unfold orL;rw[Kf,BitVec.toNat_or,V_,V_];rw[show((0:Int)%((2^IntKind.bits .u64:Nat):Int)).toNat=0 from rfl,Nat.zero_or,show(((n:Nat):Int)%((2^IntKind.bits .u64:Nat):Int)).toNat=n by simp only[IntKind.bits];omega];exact Dg ω ω
def Big(s:ByteArray):P s 1=((byN s 0:Nat):Int):=by have hb:=RC s 0;show orL 0 (A C (A C (AJ s 0)*1))=_;rw[GR,Int.mul_one];show orL 0 (A C (A C ((byN s 0:Nat):Int)))=_;rw[Dg (n:=((byN s 0:Nat):Int)) ω ω,Dg ω ω];exact Bd3 ω
def Jd(b:Q)(hs:1≤s.size){most:Int}(h:((byN s 0:Nat):Int)≤most):Bp most s b.C0 b.E0 b.H0 b.M0 b.J0 b.L0 b.N0 b.B0=D ((((byN s 0:Nat):Int),()),((s.extract 1 s.size,b.C0,b.E0,b.H0,b.M0,b.J0,b.L0,b.N0,b.B0,()),())):=by have hb:=RC s 0;unfold Bp;refine B (Mw b (k:=1) τ hs) ?_;simp only[Big];rw[Aa (n:=((byN s 0:Nat):Int)) ω ω,b_ h];rfl
def XE(hb:b.small)(hs:4≤s.size)(h:C2 b.C0 (A O (P s 4))):Dh s b.C0 b.E0 b.H0 b.M0 b.J0 b.L0 b.N0 b.B0=D ((A O (P s 4),()),((s.extract 4 s.size,b.C0,b.E0,b.H0,b.M0,b.J0,b.L0,b.N0,b.B0,()),())):=by have lo:=hb.lo;have hi:=hb.hi;have hmin:L (J b.C0) (IntKind.bits O)=J b.C0:=c6_ (by show _≤32;omega);unfold Dh;refine B (Mw b (k:=4) τ hs) ?_;show(bif decide ((0:Int)≤b.C0)then _ else _)=_;rw[b_ (ω:(0:Int)≤b.C0),d_];rw[hmin,Ak1.2 h];rfl
section
variable{b:Q}(hb:b.small)(hcode:b.code=0)
include hb hcode
theorem Abi{u d:Int}(h1:vb (bv u&&& ~~~ bv (Bx b).1)=0)(h2:vb (bv d&&& ~~~ bv (Bx b).2)=0):LI b.C0 b.E0 b.H0 b.M0 b.J0 b.L0 b.N0 b.B0 u d=D ((true,()),()):=by unfold LI;refine B (KF hb hcode) ?_;simp only[OC,h1,h2];rfl
theorem Agf(hs:8≤s.size)(h1:vb (bv (A O (P s 4))&&& ~~~ bv (Bx b).1)=0)(h2:vb (bv (A O (P (s.extract 4 s.size) 4))&&& ~~~ bv (Bx b).2)=0):ED s b.C0 b.E0 b.H0 b.M0 b.J0 b.L0 b.N0 b.B0=D (((),()),((A O (P s 4),O.wrap (P (s.extract 4 s.size) 4),()),((s.extract 4 s.size).extract 4 (s.extract 4 s.size).size,b.C0,b.E0,b.H0,b.M0,b.J0,b.L0,b.N0,b.B0,()),())):=by
 have e:(s.extract 4 s.size).size=s.size-4:=by rw[ByteArray.size_extract];omega
 unfold ED;refine B (Mw b (k:=4) τ ω) ?_;refine B (Mw b (k:=4) (s:=s.extract 4 s.size) τ (by rw[e];omega)) ?_;exact B (Abi hb hcode h1 h2) rfl
end
def Bnt(n:Int)(i:Nat):Bool:=H.wrap (stk (U n ((2:Int)^(L i (IntKind.bits H)))) (1:Int) (aA ((X (IntKind.bits H) (U n ((2:Int)^(L i (IntKind.bits H)))))&&&(X (IntKind.bits H) (1:Int)))))==(1:Int)
def flL(n:Int):List Bool:=(aB 6).map (Bnt n)
def Agg(b:Q)(hs:1≤s.size)(h:byN s 0≤63):EE 6 s b.C0 b.E0 b.H0 b.M0 b.J0 b.L0 b.N0 b.B0=D ((flL ((byN s 0:Nat):Int),()),((s.extract 1 s.size,b.C0,b.E0,b.H0,b.M0,b.J0,b.L0,b.N0,b.B0,()),())):=by
 have h1:=AP (step:=λx=>letI a:=x.2.1.2.2.2;letI c:=a.2.2;Cd x.1.1 x.1.2.1 x.1.2.2.1 x.1.2.2.2.1 x.2.1.1 x.2.1.2.1 x.2.1.2.2.1 a.1 a.2.1 c.1 c.2.1 c.2.2.1 c.2.2.2.1) 6 (λi l=>((((byN s 0:Nat):Int),l,6,(i:Int),()),((s.extract 1 s.size,b.C0,b.E0,b.H0,b.M0,b.J0,b.L0,b.N0,b.B0,()),()))) (KO E (λi _=>Bnt ((byN s 0:Nat):Int) i)) (λ_ l=>l.length=6) (λl=>((l,()),((s.extract 1 s.size,b.C0,b.E0,b.H0,b.M0,b.J0,b.L0,b.N0,b.B0,()),())))
  (λi l hi hl=>by refine⟨?_,by rw[KO,D_,hl]⟩;show Cd ((byN s 0:Nat):Int) l 6 (i:Int) (s.extract 1 s.size) b.C0 b.E0 b.H0 b.M0 b.J0 b.L0 b.N0 b.B0=_;unfold Cd;simp only[b_ (ω:(i:Int)<6),b_ (ω:(0:Int)≤(i:Int)),Ac (ω:(0:Int)≤(i:Int)) (ω:(i:Int)<(l.length:Int)),d_,j_,CG (ω:i<1000000000)];rfl)
  (λl _=>by show Cd ((byN s 0:Nat):Int) l 6 6 (s.extract 1 s.size) b.C0 b.E0 b.H0 b.M0 b.J0 b.L0 b.N0 b.B0=_;unfold Cd;rw[f_ (Q_ (6:Int))];rfl) 6 0 ((aB 6).map λ_=>E) rfl rfl
 have h2:=Ak h1.1 ω;rw[PS]at h2;unfold EE;exact B (Jd b hs (by show((byN s 0:Nat):Int)≤63;omega)) (B h2 rfl)
def XD(hcode:b.code=0):OR b.C0 b.E0 b.H0 b.M0 b.J0 b.L0 b.N0 b.B0=D ((14+19*(b.B0.length:Int),23+19*(b.B0.length:Int),()),()):=by have hcc:=Am hcode;unfold OR;refine B (Bg b) ?_;show(bif b.code !=0 then _ else _)=_;rw[hcode,show((0:Int) !=0)=E from rfl,c_];rw[Aa (n:=19*(b.B0.length:Int)) ω ω,Aa ω ω,Aa ω ω]
def Abh(hcode:b.code=0)(hs:s.size≤1000000)(h:DW b s≠0):Eh b.C0 b.E0 b.H0 b.M0 b.J0 b.L0 b.N0 b.B0 s=D (((),DW b s,()),(Inp.none.tup,())):=by
 obtain⟨y,h1,hy⟩:=Yr hcode s hs;unfold Eh;refine B (XD hcode) (B h1 ?_);cases y with
 |inl z=>
  show(bif z.1.2.1 !=0 then D (((),z.1.2.1,()),(Inp.none.tup,()))else none)=_;have hz:(DW b s !=0)=true:=by simpa using h
  rw[hy.1,hz,d_]
 |inr z=>exact absurd hy.1 h
def tl(k:Nat)(s:ByteArray):ByteArray:=s.extract k s.size
def DN(k:Nat)(s:ByteArray):(tl k s).size=s.size-k:=by unfold tl;rw[ByteArray.size_extract];omega
structure Ck(b:Bldg)(s:ByteArray):Prop where
 size:19≤s.size
 c1:C2 b.C0 (IntKind.u32.wrap (leV s 4))
 fg:byN (tl 4 s) 0≤63
 fl:((byN (tl 1 (tl 4 s)) 0:Nat):Int)≤b.C0-1
 dr:((byN (tl 1 (tl 1 (tl 4 s))) 0:Nat):Int)≤2
 c2:C2 b.C0 (IntKind.u32.wrap (leV (tl 1 (tl 1 (tl 1 (tl 4 s)))) 4))
def rest(s:ByteArray):ByteArray:=tl 8 (tl 4 (tl 1 (tl 1 (tl 1 (tl 4 s)))))
def Ast(s:ByteArray):Y:=aD (A O (P s 4)) ((flL ((byN (tl 4 s) 0:Nat):Int)).getD (J (0:Int)) E) ((flL ((byN (tl 4 s) 0:Nat):Int)).getD (J (1:Int)) E) ((flL ((byN (tl 4 s) 0:Nat):Int)).getD (J (2:Int)) E) ((flL ((byN (tl 4 s) 0:Nat):Int)).getD (J (3:Int)) E) ((byN (tl 1 (tl 4 s)) 0:Nat):Int) ((flL ((byN (tl 4 s) 0:Nat):Int)).getD (J (4:Int)) E) ((byN (tl 1 (tl 1 (tl 4 s))) 0:Nat):Int) ((flL ((byN (tl 4 s) 0:Nat):Int)).getD (J (5:Int)) E) (A O (P (tl 1 (tl 1 (tl 1 (tl 4 s)))) 4)) (J (P (tl 4 (tl 1 (tl 1 (tl 1 (tl 4 s))))) 8))
def Agl(hb:b.small)(h:Ck b s){N:Nat}(hi:i<N)(hN:N≤8)(u d k c:Int){cs:List Y}(hcs:cs.length≤1000)(e:Int):BU (N:Int) (i:Int) u d k c cs e s b.C0 b.E0 b.H0 b.M0 b.J0 b.L0 b.N0 b.B0=D (.inl (((),(),(),(N:Int),((i+1:Nat):Int),()),((u,d,k,c,cs++[Ast s],()),(e,()),(rest s,b.C0,b.E0,b.H0,b.M0,b.J0,b.L0,b.N0,b.B0,()),()))):=by have lo:=hb.lo;have hi8:=hb.hi;have hz:=h.size;unfold BU;rw[b_ (ω:(i:Int)<(N:Int)),d_];refine B (XE hb ω h.c1) ?_;refine B (Agg b (s:=tl 4 s) (by rw[DN];omega) h.fg) ?_;have hin:∀j:Nat,j<6→inB (j:Int) (flL ((byN (tl 4 s) 0:Nat):Int)).length=true:=λj hj=>Ac ω (by rw[show(flL ((byN (tl 4 s) 0:Nat):Int)).length=6 by simp[flL]];omega);refine Wm (hin 0 τ) (Wm (hin 1 τ) (Wm (hin 2 τ) (Wm (hin 3 τ) (Wm (hin 4 τ) (Wm (hin 5 τ) ?_)))));refine B (Jd b (s:=tl 1 (tl 4 s)) (by rw[DN,DN];omega) (by show _≤H.wrap (b.C0-1);rw[Aa ω ω];exact h.fl)) ?_;refine B (Jd b (s:=tl 1 (tl 1 (tl 4 s))) (by rw[DN,DN,DN];omega) h.dr) ?_;refine B (XE hb (s:=tl 1 (tl 1 (tl 1 (tl 4 s)))) (by rw[DN,DN,DN,DN];omega) h.c2) ?_;refine B (Mw b (k:=8) (s:=tl 4 (tl 1 (tl 1 (tl 1 (tl 4 s))))) τ (by rw[DN,DN,DN,DN,DN];omega)) ?_;refine Wm (Av (by simp only[x_,c7_];omega)) ?_;unfold Ast rest tl;rw[CG (ω:i<1000000000)]
def SQ:Nat→ByteArray→ByteArray
 |0,s=>s
 |n+1,s=>SQ n (rest s)
def Uw:Nat→ByteArray→List Y
 |0,_=>[]
 |n+1,s=>Ast s::Uw n (rest s)
def Ahp:∀(n:Nat) (s:ByteArray),(Uw n s).length=n
 |0,_=>rfl
 |n+1,s=>by show(Uw n (rest s)).length+1=_;rw[Ahp n]
def Aao{b:Q}(hb:b.small){N:Nat}(hN:N≤8)(u d k c e:Int):∀(m i:Nat) (s:ByteArray) (cs:List Y),i+m=N→cs.length=i→(∀j,j<m→Ck b (SQ j s))→BY (λx=>letI a:=x.2.2.2.1.2.2;letI f:=a.2.2;letI g:=x.2.1.2;BU x.1.2.2.2.1 x.1.2.2.2.2.1 x.2.1.1 g.1 g.2.1 g.2.2.1 g.2.2.2.1 x.2.2.1.1 x.2.2.2.1.1 x.2.2.2.1.2.1 a.1 a.2.1 f.1 f.2.1 f.2.2.1 f.2.2.2.1 f.2.2.2.2.1) (m+1) (((),(),(),(N:Int),(i:Int),()),((u,d,k,c,cs,()),(e,()),(s,b.C0,b.E0,b.H0,b.M0,b.J0,b.L0,b.N0,b.B0,()),()))=D (((),(),()),((u,d,k,c,cs++Uw m s,()),(e,()),(SQ m s,b.C0,b.E0,b.H0,b.M0,b.J0,b.L0,b.N0,b.B0,()),()))
 |0,i,s,cs,hm,_,_=>by refine AK ?_;show BU (N:Int) (i:Int) u d k c cs e s b.C0 b.E0 b.H0 b.M0 b.J0 b.L0 b.N0 b.B0=_;unfold BU;rw[f_ (ω:¬(i:Int)<(N:Int)),c_,show cs++Uw 0 s=cs from a6_ cs];rfl
 |m+1,i,s,cs,hm,hl,h=>by have h1:=Agl hb (h 0 ω) (i:=i) (N:=N) ω hN u d k c (cs:=cs) ω e;have h2:=Aao hb hN u d k c e m (i+1) (rest s) (cs++[Ast s]) ω (by rw[h_,G_,hl]) λj hj=>h (j+1) ω;rw[M_,d2_]at h2;exact(BS h1).trans h2
def Agk(hb:b.small){N:Nat}(hN:N≤8)(h:∀j,j<N→Ck b (SQ j s))(u d k c e:Int):DG (((),(),(),(N:Int),0,()),((u,d,k,c,[],()),(e,()),(s,b.C0,b.E0,b.H0,b.M0,b.J0,b.L0,b.N0,b.B0,()),()))=D (((),(),()),((u,d,k,c,Uw N s,()),(e,()),(SQ N s,b.C0,b.E0,b.H0,b.M0,b.J0,b.L0,b.N0,b.B0,()),())):=Ak (Aao hb hN u d k c e N 0 s [] (n_ _) rfl h) ω
structure Hd(b:Bldg)(s:ByteArray):Prop where
 size:10≤s.size
 u:vb (bv (IntKind.u32.wrap (leV s 4))&&& ~~~ bv (Bx b).1)=0
 d:vb (bv (IntKind.u32.wrap (leV (tl 4 s) 4))&&& ~~~ bv (Bx b).2)=0
 kind:((byN (tl 4 (tl 4 s)) 0:Nat):Int)≤8
 car:((byN (tl 1 (tl 4 (tl 4 s))) 0:Nat):Int)≤(b.B0.length:Int)-1
 none:byN (tl 4 (tl 4 s)) 0=0→byN (tl 1 (tl 4 (tl 4 s))) 0=0
 cars:∀j,j<b.B0.length→Ck b (SQ j (tl 1 (tl 1 (tl 4 (tl 4 s)))))
def hdP(n:Nat)(s:ByteArray):Inp:=⟨(A O (P s 4),O.wrap (P (tl 4 s) 4)),((byN (tl 4 (tl 4 s)) 0:Nat):Int),((byN (tl 1 (tl 4 (tl 4 s))) 0:Nat):Int),Uw n (tl 1 (tl 1 (tl 4 (tl 4 s))))⟩
def Ad0(hb:b.small)(hcode:b.code=0)(h:Hd b s):∃z,Ei s b.C0 b.E0 b.H0 b.M0 b.J0 b.L0 b.N0 b.B0=D (((),(),()),((hdP b.B0.length s).tup,((0:Int),()),z)):=by
 have hcc:=Am hcode;have hz:=h.size;refine⟨((SQ b.B0.length (tl 1 (tl 1 (tl 4 (tl 4 s)))),b.C0,b.E0,b.H0,b.M0,b.J0,b.L0,b.N0,b.B0,()),()),?_⟩;unfold Ei;refine B (Agf hb hcode ω h.u h.d) ?_;refine B (Jd b (s:=tl 4 (tl 4 s)) (by rw[DN,DN];omega) h.kind) ?_;refine B (Jd b (s:=tl 1 (tl 4 (tl 4 s))) (by rw[DN,DN,DN];omega) (by show _≤H.wrap ((b.B0.length:Int)-1);rw[Aa ω ω];exact h.car)) ?_;refine B (a:=(((),(),(),()),((A O (P s 4),O.wrap (P (tl 4 s) 4),((byN (tl 4 (tl 4 s)) 0:Nat):Int),((byN (tl 1 (tl 4 (tl 4 s))) 0:Nat):Int),([]:List Y),()),((0:Int),()),(tl 1 (tl 1 (tl 4 (tl 4 s))),b.C0,b.E0,b.H0,b.M0,b.J0,b.L0,b.N0,b.B0,()),()))) ?_ (B (Agk hb hcc.2 h.cars _ _ _ _ 0) rfl);show(bif((byN (tl 4 (tl 4 s)) 0:Nat):Int) !=(0:Int)then(GM true).bind _ else(GM (((byN (tl 1 (tl 4 (tl 4 s))) 0:Nat):Int)==0)).bind _)=_;cases q:(((byN (tl 4 (tl 4 s)) 0:Nat):Int) !=(0:Int))with
 |true=>rfl
 |false=>
  have q:((byN (tl 4 (tl 4 s)) 0:Nat):Int)=0:=by simpa using q
  rw[h.none ω];rfl
def ZY(hb:b.small)(hcode:b.code=0)(hs:s.size≤1000000)(h:DW b s=0)(hd:Hd b ((s.extract 0 (s.size-2)).extract 2 (s.size-2))):Eh b.C0 b.E0 b.H0 b.M0 b.J0 b.L0 b.N0 b.B0 s=D (((),(0:Int),()),((hdP b.B0.length ((s.extract 0 (s.size-2)).extract 2 (s.size-2))).tup,())):=by
 obtain⟨y,h1,hy⟩:=Yr hcode s hs;obtain⟨z,h2⟩:=Ad0 hb hcode hd;unfold Eh;refine B (XD hcode) (B h1 ?_);cases y with
 |inl z=>exact absurd h hy.2
 |inr w=>obtain⟨_,e1,e2⟩:=hy;show(bif w.1.2.1 !=0 then _ else _)=_;rw[e1];show aC _ _=_;rw[e2];exact B h2 rfl
def Bin{c:Nat}(ha:a<2^i)(hc:c<256)(hi:i+8≤64):orL (a:Int) (A C (A C (c:Int)*((2^i:Nat):Int)))=((a+c*2^i:Nat):Int):=by
 have h1:c*2^i<2^(i+8):=by rw[Nat.pow_add,f9_];exact Nat.mul_lt_mul_of_pos_left hc (Nat.two_pow_pos i)
 have h2:(2:Nat)^(i+8)≤2^64:=Nat.pow_le_pow_right τ hi;have h3:(2:Nat)^i≤2^64:=Nat.pow_le_pow_right τ ω;have h4:(2:Nat)^64=18446744073709551616:=by decide
 have h5:=Nat.or_lt_two_pow (n:=64) (x:=a) (y:=c*2^i) ω ω;have h6:a|||c*2^i=a+c*2^i:=by rw[Nat.or_comm,← Nat.shiftLeft_eq,← Nat.shiftLeft_add_eq_or_of_lt ha,e2_]
 unfold orL;rw[Dg (n:=(c:Int)) ω ω,show(c:Int)*((2^i:Nat):Int)=((c*2^i:Nat):Int)by rw[Int.natCast_mul],← h6];generalize c*2^i=p at*;rw[Dg (n:=(p:Int)) ω ω];rw[Kf,BitVec.toNat_or,V_,V_];rw[show((a:Int)%((2^IntKind.bits .u64:Nat):Int)).toNat=a by simp only[IntKind.bits];omega,show((p:Int)%((2^IntKind.bits .u64:Nat):Int)).toNat=p by simp only[IntKind.bits];omega];exact Dg ω ω
def leN(s:ByteArray):Nat→Nat
 |0=>0
 |i+1=>leN s i+byN s i*2^(8*i)
def Azs(s:ByteArray):∀i,leN s i<2^(8*i)
 |0=>by show 0<1;decide
 |i+1=>by
  have h:=Azs s i;have hb:=RC s i;show leN s i+byN s i*2^(8*i)<2^(8*i+8);rw[Nat.pow_add]
  have:byN s i*2^(8*i)≤255*2^(8*i):=H_ _ ω
  omega
def Aq8(s:ByteArray):∀i,i≤8→P s i=((leN s i:Nat):Int)
 |0,_=>rfl
 |i+1,h=>by show orL (P s i) (A C (A C (AJ s i)*((2:Int)^(L (J (8*(i:Int))) (IntKind.bits C)))))=_;rw[Aq8 s i ω,GR,show((2:Int)^(L (J (8*(i:Int))) (IntKind.bits C)))=((2^(8*i):Nat):Int)by rw[show L (J (8*(i:Int))) (IntKind.bits C)=8*i by show min (J (8*(i:Int))) 64=8*i;omega];norm_cast];exact Bin (Azs s i) (RC s i) ω
def Bb2(l:List Int):bl (Hh l)=l.map λn=>UInt8.ofNat n.toNat:=by simp[bl,Hh]
def Ayv(hi:i<k)(hk:k≤8)(r:ByteArray):byN (nmB (n:Int) k++r) i=n/2^(8*i)%256:=by
 have hl:(Agy (n:Int) k).length=k:=by simp[Agy]
 have hg:(Agy (n:Int) k)[i]?=D ((n/2^(8*i)%256:Nat):Int):=by unfold Agy;rw[b7_,List.getElem?_range hi];show D (A V (U (n:Int) ((2:Int)^(L (8*i) (IntKind.bits .u64)))))=_;rw[show L (8*i) (IntKind.bits .u64)=8*i by show min (8*i) 64=8*i;omega,a4_ _ (Int.le_of_lt (Int.pow_pos τ)),show(2:Int)^(8*i)=((2^(8*i):Nat):Int)by norm_cast,← Int.natCast_ediv];simp only[A,IntKind.signed,IntKind.bits];simp
 unfold byN nmB;rw[JW,Bb2,k_,b8_ (by rw[c8_,hl];exact hi),b7_,hg];show n/2^(8*i)%256%256=_;omega
def Azt{n k:Nat}(hk:k≤8)(r:ByteArray):∀i,i≤k→leN (nmB (n:Int) k++r) i=n%2^(8*i)
 |0,_=>by show 0=n%1;omega
 |i+1,h=>by show leN _ i+byN _ i*2^(8*i)=n%2^(8*i+8);rw[Azt hk r i ω,Ayv ω hk,Nat.pow_add,Nat.mod_mul,f9_ (2^(8*i))]
def Am1(n:Int)(hk:k≤8)(hn:0≤n)(r:ByteArray):P (nmB n k++r) k=((n.toNat%2^(8*k):Nat):Int):=by obtain⟨m,rfl⟩:=f5_ hn;rw[Aq8 _ _ hk,Azt hk r k (A_ k),j_]
def Hs{a:ByteArray}(h:a.size=k)(r:ByteArray):tl k (a++r)=r:=by subst h;unfold tl;apply Lh;rw[PF,JW,List.drop_left' (FE a),y_,← FE r];exact a3_ ω
def Bdf{n:Int}(h:0≤n∧n<4294967296)(r:ByteArray):O.wrap (P (nmB n 4++r) 4)=n:=by rw[Am1 n τ h.1,show n.toNat%2^(8*4)=n.toNat by show n.toNat%4294967296=_;omega,e5_ h.1];simp only[A,IntKind.signed,IntKind.bits];simp;omega
def Qt{n:Int}(h:0≤n∧n<256)(r:ByteArray):((byN (nmB n 1++r) 0:Nat):Int)=n:=by obtain⟨m,rfl⟩:=f5_ h.1;rw[Ayv τ τ];show((m/1%256:Nat):Int)=m;omega
end Go.Ovl
