/- Layer 3 by the reference: the frame of inputs is written, and read. -/
import Derived.Test.YtdapkmfmgpmnoaaGreatDoorOvG
set_option linter.all false
open Go.IntKind renaming wrap->A,u64->B,i64->H,u32->I
open Go.Ovl renaming Ae->C,byN->D,nmB->E,leV->L,CarInput->P
open Option renaming some->J
open Bool renaming false->O
open Int renaming toNat->Q
open Nat renaming ble->aA
open Min renaming min->aB
open BitVec renaming ofInt->aC
namespace Go.Ovl
open Go Go.Ab
set_option maxRecDepth 100000
variable{s:ByteArray}{b:Bldg}{n:Int}{k:Nat}
def Apg(x:Inp)(hx:x.cars.length≤1000)(hs:s.size≤1000):Pf (((),s,(0:Int),()),(x.tup,()))=J ((x.cars.foldl Jh s,()),()):=by
 have h:=AP (step:=λx=>letI a:=x.2.1.2;MP x.1.2.1 x.1.2.2.1 x.2.1.1 a.1 a.2.1 a.2.2.1 a.2.2.2.1) x.cars.length (λi s=>(((),s,(i:Int),()),(x.tup,()))) (λi s=>Jh s (x.cars.getD i RQ)) (λi s=>s.size≤1000+19*i) (λs=>((s,()),()))
  (λi s hi hs=>by
   refine⟨?_,by rw[Ag9];omega⟩
   show MP s (i:Int) x.press.1 x.press.2 x.kind x.car x.cars=_;unfold MP;rw[show CarInput.mk 0 O O O O 0 O 0 O 0 0=RQ from rfl]
   simp only[b_ (ω:(i:Int)<(x.cars.length:Int)),Ac (ω:(0:Int)≤(i:Int)) (ω:(i:Int)<(x.cars.length:Int)),d_,i_,CW (ω:i<1000000000)]
   generalize x.cars.getD i RQ=c;refine C (EP (A B c.V0) (k:=4) ω) ?_
   have e1:=AR (A B c.V0) 4;unfold Jh;generalize E (A B c.V0) 4=a1 at e1⊢;show(bif aA (s.size+a1.size) 4611686018427387904 then _ else _)=_;rw[Ay ω,d_]
   refine C (Api (l:=[c.T1,c.F1,c.G1,c.C1,c.L1,c.M1]) (by show 6≤100;omega)) ?_
   have e2:=Pw [c.T1,c.F1,c.G1,c.C1,c.L1,c.M1];generalize Wa [c.T1,c.F1,c.G1,c.C1,c.L1,c.M1]=a2 at e2⊢;show(bif aA ((s++a1).size+a2.size) 4611686018427387904 then _ else _)=_;rw[Ay (by rw[O_];omega),d_]
   refine C (EP (A B c.J1) (k:=1) ω) ?_
   have e3:=AR (A B c.J1) 1;generalize E (A B c.J1) 1=a3 at e3⊢;show(bif aA ((s++a1++a2).size+a3.size) 4611686018427387904 then _ else _)=_;rw[Ay (by simp only[O_];omega),d_]
   refine C (EP (A B c.R1) (k:=1) ω) ?_
   have e4:=AR (A B c.R1) 1;generalize E (A B c.R1) 1=a4 at e4⊢;show(bif aA ((s++a1++a2++a3).size+a4.size) 4611686018427387904 then _ else _)=_;rw[Ay (by simp only[O_];omega),d_]
   refine C (EP (A B c.Y1) (k:=4) ω) ?_
   have e5:=AR (A B c.Y1) 4;generalize E (A B c.Y1) 4=a5 at e5⊢;show(bif aA ((s++a1++a2++a3++a4).size+a5.size) 4611686018427387904 then _ else _)=_;rw[Ay (by simp only[O_];omega),d_]
   refine C (EP ((c.C3:Nat):Int) (k:=8) ω) ?_
   have e6:=AR ((c.C3:Nat):Int) 8;generalize E ((c.C3:Nat):Int) 8=a6 at e6⊢;show(bif aA ((s++a1++a2++a3++a4++a5).size+a6.size) 4611686018427387904 then _ else _)=_;rw[Ay (by simp only[O_];omega)]
   rfl)
  (λs _=>by
   show MP s (x.cars.length:Int) x.press.1 x.press.2 x.kind x.car x.cars=_;unfold MP;rw[f_ (H_ _)];rfl) x.cars.length 0 s ω ω
 have h2:Pf (((),s,(0:Int),()),(x.tup,()))=_:=Ai h.1 ω
 rw[h2]
 have e:∀(l:List P) (k i:Nat) (s:ByteArray),i+k=l.length→AK (λi s=>Jh s (l.getD i RQ)) k i s=(l.drop i).foldl Jh s:=by
  intro l k
  induction k with
  |zero=>intro i s hi;rw[List.drop_eq_nil_of_le ω];rfl
  |succ k ih=>
   intro i s hi;rw[BU RQ (ω:i<l.length),f1_]
   exact ih (i+1) _ ω
 rw[e x.cars x.cars.length 0 s ω,Q_]
section
variable{b:Bldg}(hb:b.small)(hcode:b.code=0)
include hb hcode
theorem Aik(x:Inp)(hx:x.cars.length≤1000):NY b.C0 b.E0 b.H0 b.M0 b.J0 b.L0 b.N0 b.B0 x.press.1 x.press.2 x.kind x.car x.cars=J (bif HA b x then((inV b x,0,()),())else((noB,1,()),())):=by
 have hc:=Aj hcode;unfold NY;refine C (Aph hb hcode x hx) ?_;show(bif !HA b x then _ else _)=_;cases HA b x with
 |false=>rfl
 |true=>
 rw[o_,c_,d_];refine C (EP 165 (k:=1) ω) ?_
 refine C (EP (A B (b.B0.length:Int)) (k:=1) ω) ?_
 have hh:=Adr b x;unfold inV;have e1:=AR 165 1;have e2:=AR (A B (b.B0.length:Int)) 1;have e3:=ZX x.press;have e4:=AR (A B x.kind) 1;have e5:=AR (A B x.car) 1;have hd:QV b x=E 165 1++E (A B (b.B0.length:Int)) 1++Ru x.press++E (A B x.kind) 1++E (A B x.car) 1:=rfl;rw[hd]at hh⊢;generalize E 165 1=a1 at e1 hh⊢;generalize E (A B (b.B0.length:Int)) 1=a2 at e2 hh⊢;show(bif aA (a1.size+a2.size) 4611686018427387904 then _ else _)=_;rw[Ay ω,d_]
 refine C (Anh x.press) ?_;generalize Ru x.press=a3 at e3 hh⊢;show(bif aA ((a1++a2).size+a3.size) 4611686018427387904 then _ else _)=_;rw[Ay (by simp only[O_];omega),d_]
 refine C (EP (A B x.kind) (k:=1) ω) ?_
 generalize E (A B x.kind) 1=a4 at e4 hh⊢;show(bif aA ((a1++a2++a3).size+a4.size) 4611686018427387904 then _ else _)=_;rw[Ay (by simp only[O_];omega),d_]
 refine C (EP (A B x.car) (k:=1) ω) ?_
 generalize E (A B x.car) 1=a5 at e5 hh⊢;show(bif aA ((a1++a2++a3++a4).size+a5.size) 4611686018427387904 then _ else _)=_;rw[Ay (by simp only[O_];omega),d_]
 refine C (Apg x hx (s:=a1++a2++a3++a4++a5) ω) ?_
 refine C (Aai (s:=x.cars.foldl Jh (a1++a2++a3++a4++a5)) (by rw[Adk];omega)) ?_
 rfl
end
def Bd2(s:ByteArray)(at_:Nat)(i:Nat)(n:Int):Int:=At7 n (A B (A B (AF s (at_+i))*2^min (8*i) (IntKind.bits .u64)))
def Zg(s:ByteArray)(at_ k:Nat):Int:=AK (Bd2 s at_) k 0 0
def Mo{a:Nat}(h:a+k≤s.size)(hs:s.size≤1000000):HC s (a:Int) (k:Int)=J ((Zg s a k,()),()):=by
 have h1:=AP (step:=λx=>IB x.1.1 x.1.2.1 x.1.2.2.1 x.1.2.2.2.1 x.1.2.2.2.2.1) k (λi n=>((s,(a:Int),(k:Int),n,(i:Int),()),())) (Bd2 s a) (λ_ _=>True) (λn=>((n,()),()))
  (λi n hi _=>by
   refine⟨?_,trivial⟩;show IB s (a:Int) (k:Int) n (i:Int)=_;unfold IB;have e1:H.wrap ((a:Int)+(i:Int))=((a+i:Nat):Int):=by rw[Aa ω ω];norm_cast
   have e2:B.wrap (A H (8*(i:Int)))=((8*i:Nat):Int):=by
    rw[Aa (n:=8*(i:Int)) ω ω,CI ω ω];norm_cast
   simp only[b_ (ω:(i:Int)<(k:Int)),e1,e2,Ac (ω:(0:Int)≤((a+i:Nat):Int)) (ω:((a+i:Nat):Int)<(s.size:Int)),d_,i_,b_ (ω:(0:Int)≤((8*i:Nat):Int)),CW (ω:i<1000000000)]
   rfl)
  (λn _=>by
   show IB s (a:Int) (k:Int) n (k:Int)=_;unfold IB;rw[f_ (H_ (k:Int))];rfl) k 0 0 ω trivial
 have h2:NN ((s,(a:Int),(k:Int),(0:Int),(0:Int),()),())=_:=Ai h1.1 ω
 unfold HC;exact C h2 rfl
def Akl(s:ByteArray)(a:Nat):Int×Int:=(A I (Zg s a 4),I.wrap (Zg s (a+4) 4))
def Apk{a:Nat}(h:a+8≤s.size)(hs:s.size≤1000000):Sm s (a:Int)=J (((),()),(((Akl s a).1,(Akl s a).2,()),())):=by
 have e:H.wrap ((a:Int)+4)=((a+4:Nat):Int):=by rw[Aa ω ω];norm_cast
 unfold Sm;refine C (Mo (s:=s) (a:=a) (k:=4) ω hs) ?_
 rw[e];exact C (Mo (s:=s) (a:=a+4) (k:=4) ω hs) rfl
def VZ(s:ByteArray)(a k:Nat):Bool:=IntKind.u8.wrap (stk (Int.fdiv (AF s a) ((2:Int)^min k (IntKind.bits .u8))) 1 (BitVec.toNat ((aC (IntKind.bits IntKind.u8) (Int.fdiv (AF s a) ((2:Int)^min k (IntKind.bits .u8))))&&&(aC (IntKind.bits IntKind.u8) 1))))==1
def MX{a:Nat}(h:a<s.size)(hk:k≤1000):Ue s (a:Int) (k:Int)=J ((VZ s a k,()),()):=by
 unfold Ue;simp only[Ac (ω:(0:Int)≤(a:Int)) (ω:(a:Int)<(s.size:Int)),d_,Bp8 (ω:k<1000000000),b_ (ω:(0:Int)≤(k:Int)),i_]
 rfl
def XS(s:ByteArray)(a:Nat):P:=CarInput.mk (A I (Zg s a 4)) (VZ s (a+4) 0) (VZ s (a+4) 1) (VZ s (a+4) 2) (VZ s (a+4) 3) (A H (AF s (a+5))) (VZ s (a+4) 4) (A H (AF s (a+6))) (VZ s (a+4) 5) (A I (Zg s (a+7) 4)) (Zg s (a+11) 8).toNat
def RU(n:Nat)(s:ByteArray):Inp:=⟨Akl s 2,H.wrap (AF s 10),H.wrap (AF s 11),(List.range n).map λi=>XS s (12+19*i)⟩
def BM(b:Bldg)(s:ByteArray):Int:=bif(s.size:Int) !=14+19*(b.B0.length:Int)then 4 else bif H.wrap (AF s 0) !=165 then 30 else bif H.wrap (AF s 1) !=(b.B0.length:Int)then 30 else(Im s).2
def WZ(b:Bldg)(s:ByteArray):Inp×Int:=bif BM b s !=0 then(Inp.none,BM b s)else bif HA b (RU b.B0.length s)&&eqB (inV b (RU b.B0.length s)) s then(RU b.B0.length s,0)else(Inp.none,31)
def At6(h:BM b s=0):s.size=14+19*b.B0.length:=by
 unfold BM at h;cases hq:((s.size:Int) !=14+19*(b.B0.length:Int))with
 |true=>rw[hq]at h;cases h
 |false=>
  have:(s.size:Int)=14+19*(b.B0.length:Int):=by simpa using hq
  omega
section
variable{b:Bldg}(hb:b.small)(hcode:b.code=0)
include hb hcode
omit hb in
theorem Apj(s:ByteArray)(hs:s.size≤1000000):Sl b.C0 b.E0 b.H0 b.M0 b.J0 b.L0 b.N0 b.B0 s (14+19*(b.B0.length:Int)) 165=J ((BM b s,()),()):=by
 have hc:=Aj hcode;unfold Sl BM;rw[EW];refine C rfl ?_;show(bif b.code !=0 then _ else _)=_;rw[hcode];show(bif(s.size:Int) !=14+19*(b.B0.length:Int)then _ else _)=_;cases hq:((s.size:Int) !=14+19*(b.B0.length:Int))with
 |true=>rfl
 |false=>
 have h1:(s.size:Int)=14+19*(b.B0.length:Int):=by simpa using hq
 rw[c_,c_,Ac ω (ω:(0:Int)<(s.size:Int)),d_,show Q 0=0 from rfl]
 cases(A H (AF s 0) !=165)with
 |true=>rfl
 |false=>
 rw[c_,c_,Ac ω (ω:(1:Int)<(s.size:Int)),d_,show Q 1=1 from rfl]
 cases(A H (AF s 1) !=(b.B0.length:Int))with
 |true=>rfl
 |false=>
 rw[c_,c_];exact C (Apd hs) rfl
omit hb in
theorem Aec(hs:s.size=14+19*b.B0.length)(x:Inp):MN ((s,(),(),(),(0:Int),()),(b.tup,Inp.none.tup,({ x with cars:=[] }:Inp).tup,()))=J ((s,(),(),(),()),(b.tup,Inp.none.tup,({ x with cars:=(List.range b.B0.length).map λi=>XS s (12+19*i) }:Inp).tup,())):=by
 have hc:=Aj hcode
 have h:=AP (step:=λx=>letI c:=x.2.1.2.2;letI d:=x.2.2;letI f:=d.2.1;letI g:=c.2.2;letI j:=d.1.2;HM x.1.1 x.1.2.2.2.2.1 x.2.1.1 x.2.1.2.1 c.1 c.2.1 g.1 g.2.1 g.2.2.1 g.2.2.2.1 d.1.1 j.1 j.2.1 j.2.2.1 j.2.2.2.1 f.1 f.2.1 f.2.2.1 f.2.2.2.1 f.2.2.2.2.1) b.B0.length
  (λi l=>((s,(),(),(),(i:Int),()),(b.tup,Inp.none.tup,({ x with cars:=l }:Inp).tup,()))) (λi l=>l++[XS s (12+19*i)]) (λi l=>l.length=i) (λl=>((s,(),(),(),()),(b.tup,Inp.none.tup,({ x with cars:=l }:Inp).tup,())))
  (λi l hi hl=>by
   refine⟨?_,by rw[h_,hl];rfl⟩
   show HM s (i:Int) b.C0 b.E0 b.H0 b.M0 b.J0 b.L0 b.N0 b.B0 Inp.none.press.1 Inp.none.press.2 Inp.none.kind Inp.none.car Inp.none.cars x.press.1 x.press.2 x.kind x.car l=_;unfold HM
   have e0:H.wrap (12+H.wrap (19*(i:Int)))=((12+19*i:Nat):Int):=by
    rw[Aa (n:=19*(i:Int)) ω ω,Aa ω ω];norm_cast
   have ea:∀k:Nat,k≤100→H.wrap (((12+19*i:Nat):Int)+(k:Int))=((12+19*i+k:Nat):Int):=λk hk=>by rw[Aa ω ω];norm_cast
   have a4:H.wrap (((12+19*i:Nat):Int)+4)=((12+19*i+4:Nat):Int):=ea 4 ω
   have a5:H.wrap (((12+19*i:Nat):Int)+5)=((12+19*i+5:Nat):Int):=ea 5 ω
   have a6:H.wrap (((12+19*i:Nat):Int)+6)=((12+19*i+6:Nat):Int):=ea 6 ω
   have a7:H.wrap (((12+19*i:Nat):Int)+7)=((12+19*i+7:Nat):Int):=ea 7 ω
   have a11:H.wrap (((12+19*i:Nat):Int)+11)=((12+19*i+11:Nat):Int):=ea 11 ω
   simp only[b_ (ω:(i:Int)<(b.B0.length:Int)),d_,e0,a4,a5,a6,a7,a11,CW (ω:i<1000000000)]
   have hsz:s.size≤1000000:=ω
   refine C (Mo (s:=s) (a:=12+19*i) (k:=4) ω hsz) ?_
   refine C (MX (s:=s) (a:=12+19*i+4) (k:=0) ω ω) ?_
   refine C (MX (s:=s) (a:=12+19*i+4) (k:=1) ω ω) ?_
   refine C (MX (s:=s) (a:=12+19*i+4) (k:=2) ω ω) ?_
   refine C (MX (s:=s) (a:=12+19*i+4) (k:=3) ω ω) ?_
   rw[Ac (ω:(0:Int)≤((12+19*i+5:Nat):Int)) (ω:((12+19*i+5:Nat):Int)<(s.size:Int)),d_]
   refine C (MX (s:=s) (a:=12+19*i+4) (k:=4) ω ω) ?_
   rw[Ac (ω:(0:Int)≤((12+19*i+6:Nat):Int)) (ω:((12+19*i+6:Nat):Int)<(s.size:Int)),d_]
   refine C (MX (s:=s) (a:=12+19*i+4) (k:=5) ω ω) ?_
   refine C (Mo (s:=s) (a:=12+19*i+7) (k:=4) ω hsz) ?_
   refine C (Mo (s:=s) (a:=12+19*i+11) (k:=8) ω hsz) ?_
   show(bif aA (l.length+1) 2147483648 then _ else _)=_;rw[Ay ω]
   rfl)
  (λl hl=>by
   show HM s (b.B0.length:Int) b.C0 b.E0 b.H0 b.M0 b.J0 b.L0 b.N0 b.B0 Inp.none.press.1 Inp.none.press.2 Inp.none.kind Inp.none.car Inp.none.cars x.press.1 x.press.2 x.kind x.car l=_;unfold HM;rw[f_ (H_ _)];rfl) b.B0.length 0 [] ω rfl
 have h2:=Ai h.1 ω
 have e:∀(k i:Nat) (l:List P),AK (λi l=>l++[XS s (12+19*i)]) k i l=l++(List.range' i k).map λi=>XS s (12+19*i):=by
  intro k
  induction k with
  |zero=>intro i l;simp[AK]
  |succ k ih=>intro i l;unfold AK;rw[ih,d8_,c1_,M_,d4_]
 rw[e,a2_,← List.range_eq_range']at h2;exact h2
theorem Ajt(s:ByteArray)(hs:s.size≤1000000):JJ b.C0 b.E0 b.H0 b.M0 b.J0 b.L0 b.N0 b.B0 s=J (((),(WZ b s).2,()),((WZ b s).1.tup,())):=by
 have hc:=Aj hcode
 have e0:H.wrap (14+H.wrap (19*(b.B0.length:Int)))=14+19*(b.B0.length:Int):=by
  rw[Aa (n:=19*(b.B0.length:Int)) ω ω,Aa ω ω]
 have hsz:Si b.C0 b.E0 b.H0 b.M0 b.J0 b.L0 b.N0 b.B0=J (((14+19*(b.B0.length:Int)),H.wrap (23+H.wrap (19*(b.B0.length:Int))),()),()):=by
  unfold Si;rw[EW];refine C rfl ?_;show(bif b.code !=0 then _ else _)=_;rw[hcode,e0];rfl
 unfold JJ WZ;refine C hsz ?_;refine C (Apj hcode s hs) ?_;show(bif BM b s !=0 then _ else _)=_;cases hq:(BM b s !=0)with
 |true=>rfl
 |false=>
 have ho:BM b s=0:=by simpa using hq
 have hsize:=At6 ho;rw[c_,c_];refine C (Apk (s:=s) (a:=2) ω hs) ?_
 rw[Ac ω (ω:(10:Int)<(s.size:Int)),Ac ω (ω:(11:Int)<(s.size:Int)),d_,d_]
 refine C (Aec hcode hsize (RU b.B0.length s)) ?_;have hl:(RU b.B0.length s).cars.length≤1000:=by simp[RU];omega
 refine C (Aik hb hcode (RU b.B0.length s) hl) ?_;cases HA b (RU b.B0.length s)with
 |false=>rfl
 |true=>
  rw[d_,n_];show(bif((0:Int) !=0)then _ else bif !eqB (inV b (RU b.B0.length s)) s then _ else _)=_;cases eqB (inV b (RU b.B0.length s)) s<;>rfl
end
def Bda(h:(Im s).2=0):2≤s.size∧(Im s).1=s.extract 0 (s.size-2):=by
 unfold Im at h⊢;cases q:decide ((s.size:Int)<2)with
 |true=>rw[q]at h;cases h
 |false=>
  rw[q]at h;have q:=F_ q;refine⟨ω,?_⟩
  cases q2:eqB (Hf (s.extract 0 (s.size-2))) s with
  |true=>rfl
  |false=>rw[q2]at h;cases h
def Yf(hcode:b.code=0)(s:ByteArray)(hs:s.size≤1000000):Sat (OI b.C0 b.E0 b.H0 b.M0 b.J0 b.L0 b.N0 b.B0 s (14+19*(b.B0.length:Int)) 165) λy=>match y with
  | .inl z=>z.1.2.1=BM b s∧BM b s≠0
  | .inr z=>BM b s=0∧z.1.2.1=0∧z.2.1=((s.extract 0 (s.size-2)).extract 2 (s.size-2),b.C0,b.E0,b.H0,b.M0,b.J0,b.L0,b.N0,b.B0,()):=by
 have hcc:=Aj hcode;unfold OI BM;refine Sat.bindE (Bi b) (Sat.bifF (show(b.code !=0)=O by rw[hcode];rfl) ?_)
 refine Sat.bic (λq=>Sat.ret ?_) λq=>?_
 ·rw[q];exact⟨rfl,show(4:Int)≠0 by decide⟩
 rw[q];have hsz:(s.size:Int)=14+19*(b.B0.length:Int):=by simpa using q
 have w:∀i,H.wrap (AF s i)=AF s i:=λi=>by
  rw[FR]
  have:=Rt s i
  unfold D at this;exact Aa ω ω
 rw[w 0];refine Sat.bifT (Ac ω ω) (Sat.bic (λq=>Sat.ret ?_) λq=>Sat.bifT (Ac ω ω) (Sat.bic (λq2=>Sat.ret ?_) λq2=>?_))
 ·rw[show(AF s 0 !=165)=true from q];exact⟨rfl,show(30:Int)≠0 by decide⟩
 ·rw[show(AF s 0 !=165)=O from q,show(A H (AF s 1) !=(b.B0.length:Int))=true from q2];exact⟨rfl,show(30:Int)≠0 by decide⟩
 rw[show(AF s 0 !=165)=O from q,show(A H (AF s 1) !=(b.B0.length:Int))=O from q2]
 refine Sat.bindE (Aow hs) (Sat.bic (λq3=>Sat.ret ⟨rfl,?_⟩) λq3=>?_)
 ·show(Im s).2≠0
  simpa using q3
 have q3:(Im s).2=0:=by simpa using q3
 obtain⟨h2,h3⟩:=Bda q3;have hz:(Im s).1.size=s.size-2:=by rw[h3,Wx s ω]
 refine Sat.bifT (b_ (ω:(2:Int)≤(((Im s).1.size:Nat):Int))) (Sat.ret ⟨q3,rfl,?_⟩)
 show((Im s).1.extract 2 (Im s).1.size,_)=_;rw[hz,h3]
def Bde{n:Nat}(h:n<18446744073709551616):orL 0 (n:Int)=(n:Int):=by
 unfold orL;rw[Kf,BitVec.toNat_or,W_,W_];rw[show((0:Int)%((2^IntKind.bits .u64:Nat):Int)).toNat=0 from rfl,Nat.zero_or,show(((n:Nat):Int)%((2^IntKind.bits .u64:Nat):Int)).toNat=n by simp only[IntKind.bits];omega]
 exact CI ω ω
def Bhu(s:ByteArray):L s 1=((D s 0:Nat):Int):=by
 have hb:=Rt s 0;show orL 0 (A B (A B (AF s 0)*1))=_;rw[FR,Int.mul_one];show orL 0 (A B (A B ((D s 0:Nat):Int)))=_;rw[CI (n:=((D s 0:Nat):Int)) ω ω,CI ω ω]
 exact Bde ω
def Ja(b:Bldg)(hs:1≤s.size){most:Int}(h:((D s 0:Nat):Int)≤most):Br most s b.C0 b.E0 b.H0 b.M0 b.J0 b.L0 b.N0 b.B0=J ((((D s 0:Nat):Int),()),((s.extract 1 s.size,b.C0,b.E0,b.H0,b.M0,b.J0,b.L0,b.N0,b.B0,()),())):=by
 have hb:=Rt s 0;unfold Br;refine C (Mk b (k:=1) (by decide) hs) ?_
 simp only[Bhu];rw[Aa (n:=((D s 0:Nat):Int)) ω ω,b_ h]
 rfl
def Xt(hb:b.small)(hs:4≤s.size)(h:C2 b.C0 (A I (L s 4))):Df s b.C0 b.E0 b.H0 b.M0 b.J0 b.L0 b.N0 b.B0=J ((A I (L s 4),()),((s.extract 4 s.size,b.C0,b.E0,b.H0,b.M0,b.J0,b.L0,b.N0,b.B0,()),())):=by
 have lo:=hb.lo;have hi:=hb.hi;have hmin:aB (Q b.C0) (IntKind.bits I)=Q b.C0:=d0_ (by show _≤32;omega)
 unfold Df;refine C (Mk b (k:=4) (by decide) hs) ?_
 show(bif decide ((0:Int)≤b.C0)then _ else _)=_;rw[b_ (ω:(0:Int)≤b.C0),d_]
 rw[hmin,Acd.2 h];rfl
section
variable{b:Bldg}(hb:b.small)(hcode:b.code=0)
include hb hcode
theorem Aa8{u d:Int}(h1:vb (bv u&&& ~~~ bv (Bx b).1)=0)(h2:vb (bv d&&& ~~~ bv (Bx b).2)=0):LB b.C0 b.E0 b.H0 b.M0 b.J0 b.L0 b.N0 b.B0 u d=J ((true,()),()):=by
 unfold LB;refine C (KE hb hcode) ?_;simp only[KQ,h1,h2];rfl
theorem Af3(hs:8≤s.size)(h1:vb (bv (A I (L s 4))&&& ~~~ bv (Bx b).1)=0)(h2:vb (bv (A I (L (s.extract 4 s.size) 4))&&& ~~~ bv (Bx b).2)=0):EA s b.C0 b.E0 b.H0 b.M0 b.J0 b.L0 b.N0 b.B0=J (((),()),((A I (L s 4),I.wrap (L (s.extract 4 s.size) 4),()),((s.extract 4 s.size).extract 4 (s.extract 4 s.size).size,b.C0,b.E0,b.H0,b.M0,b.J0,b.L0,b.N0,b.B0,()),())):=by
 have e:(s.extract 4 s.size).size=s.size-4:=by rw[ByteArray.size_extract];omega
 unfold EA;refine C (Mk b (k:=4) (by decide) ω) ?_
 refine C (Mk b (k:=4) (s:=s.extract 4 s.size) (by decide) (by rw[e];omega)) ?_
 exact C (Aa8 hb hcode h1 h2) rfl
end
def Bmz(n:Int)(i:Nat):Bool:=H.wrap (stk (Int.fdiv n ((2:Int)^(aB i (IntKind.bits H)))) (1:Int) (BitVec.toNat ((aC (IntKind.bits H) (Int.fdiv n ((2:Int)^(aB i (IntKind.bits H)))))&&&(aC (IntKind.bits H) (1:Int)))))==(1:Int)
def flL(n:Int):List Bool:=(List.range 6).map (Bmz n)
def Af4(b:Bldg)(hs:1≤s.size)(h:D s 0≤63):EB 6 s b.C0 b.E0 b.H0 b.M0 b.J0 b.L0 b.N0 b.B0=J ((flL ((D s 0:Nat):Int),()),((s.extract 1 s.size,b.C0,b.E0,b.H0,b.M0,b.J0,b.L0,b.N0,b.B0,()),())):=by
 have h1:=AP (step:=λx=>letI a:=x.2.1.2.2.2;letI c:=a.2.2;Cf x.1.1 x.1.2.1 x.1.2.2.1 x.1.2.2.2.1 x.2.1.1 x.2.1.2.1 x.2.1.2.2.1 a.1 a.2.1 c.1 c.2.1 c.2.2.1 c.2.2.2.1) 6 (λi l=>((((D s 0:Nat):Int),l,6,(i:Int),()),((s.extract 1 s.size,b.C0,b.E0,b.H0,b.M0,b.J0,b.L0,b.N0,b.B0,()),()))) (KL O (λi _=>Bmz ((D s 0:Nat):Int) i)) (λ_ l=>l.length=6) (λl=>((l,()),((s.extract 1 s.size,b.C0,b.E0,b.H0,b.M0,b.J0,b.L0,b.N0,b.B0,()),())))
  (λi l hi hl=>by
   refine⟨?_,by rw[KL,A_,hl]⟩
   show Cf ((D s 0:Nat):Int) l 6 (i:Int) (s.extract 1 s.size) b.C0 b.E0 b.H0 b.M0 b.J0 b.L0 b.N0 b.B0=_;unfold Cf;simp only[b_ (ω:(i:Int)<6),b_ (ω:(0:Int)≤(i:Int)),Ac (ω:(0:Int)≤(i:Int)) (ω:(i:Int)<(l.length:Int)),d_,i_,CW (ω:i<1000000000)]
   rfl)
  (λl _=>by
   show Cf ((D s 0:Nat):Int) l 6 6 (s.extract 1 s.size) b.C0 b.E0 b.H0 b.M0 b.J0 b.L0 b.N0 b.B0=_;unfold Cf;rw[f_ (H_ (6:Int))];rfl) 6 0 ((List.range 6).map λ_=>O) rfl rfl
 have h2:=Ai h1.1 ω
 rw[PJ]at h2;unfold EB;exact C (Ja b hs (by show((D s 0:Nat):Int)≤63;omega)) (C h2 rfl)
def Xs(hcode:b.code=0):OH b.C0 b.E0 b.H0 b.M0 b.J0 b.L0 b.N0 b.B0=J ((14+19*(b.B0.length:Int),23+19*(b.B0.length:Int),()),()):=by
 have hcc:=Aj hcode;unfold OH;refine C (Bi b) ?_;show(bif b.code !=0 then _ else _)=_;rw[hcode,show((0:Int) !=0)=O from rfl,c_]
 rw[Aa (n:=19*(b.B0.length:Int)) ω ω,Aa ω ω,Aa ω ω]
def Aa7(hcode:b.code=0)(hs:s.size≤1000000)(h:BM b s≠0):Ec b.C0 b.E0 b.H0 b.M0 b.J0 b.L0 b.N0 b.B0 s=J (((),BM b s,()),(Inp.none.tup,())):=by
 obtain⟨y,h1,hy⟩:=Yf hcode s hs;unfold Ec;refine C (Xs hcode) (C h1 ?_);cases y with
 |inl z=>
  show(bif z.1.2.1 !=0 then J (((),z.1.2.1,()),(Inp.none.tup,()))else none)=_;have hz:(BM b s !=0)=true:=by simpa using h
  rw[hy.1,hz,d_]
 |inr z=>exact absurd hy.1 h
def tl(k:Nat)(s:ByteArray):ByteArray:=s.extract k s.size
def DJ(k:Nat)(s:ByteArray):(tl k s).size=s.size-k:=by unfold tl;rw[ByteArray.size_extract];omega
structure Ck(b:Bldg)(s:ByteArray):Prop where
 size:19≤s.size
 c1:C2 b.C0 (IntKind.u32.wrap (leV s 4))
 fg:byN (tl 4 s) 0≤63
 fl:((byN (tl 1 (tl 4 s)) 0:Nat):Int)≤b.C0-1
 dr:((byN (tl 1 (tl 1 (tl 4 s))) 0:Nat):Int)≤2
 c2:C2 b.C0 (IntKind.u32.wrap (leV (tl 1 (tl 1 (tl 1 (tl 4 s)))) 4))
def rest(s:ByteArray):ByteArray:=tl 8 (tl 4 (tl 1 (tl 1 (tl 1 (tl 4 s)))))
def Ash(s:ByteArray):P:=
 CarInput.mk (A I (L s 4)) ((flL ((D (tl 4 s) 0:Nat):Int)).getD (Q (0:Int)) O) ((flL ((D (tl 4 s) 0:Nat):Int)).getD (Q (1:Int)) O) ((flL ((D (tl 4 s) 0:Nat):Int)).getD (Q (2:Int)) O) ((flL ((D (tl 4 s) 0:Nat):Int)).getD (Q (3:Int)) O) ((D (tl 1 (tl 4 s)) 0:Nat):Int) ((flL ((D (tl 4 s) 0:Nat):Int)).getD (Q (4:Int)) O) ((D (tl 1 (tl 1 (tl 4 s))) 0:Nat):Int) ((flL ((D (tl 4 s) 0:Nat):Int)).getD (Q (5:Int)) O) (A I (L (tl 1 (tl 1 (tl 1 (tl 4 s)))) 4)) (Q (L (tl 4 (tl 1 (tl 1 (tl 1 (tl 4 s))))) 8))
def Af8(hb:b.small)(h:Ck b s){N i:Nat}(hi:i<N)(hN:N≤8)(u d k c:Int){cs:List P}(hcs:cs.length≤1000)(e:Int):BX (N:Int) (i:Int) u d k c cs e s b.C0 b.E0 b.H0 b.M0 b.J0 b.L0 b.N0 b.B0=J (.inl (((),(),(),(N:Int),((i+1:Nat):Int),()),((u,d,k,c,cs++[Ash s],()),(e,()),(rest s,b.C0,b.E0,b.H0,b.M0,b.J0,b.L0,b.N0,b.B0,()),()))):=by
 have lo:=hb.lo;have hi8:=hb.hi;have hz:=h.size;unfold BX;rw[b_ (ω:(i:Int)<(N:Int)),d_]
 refine C (Xt hb ω h.c1) ?_
 refine C (Af4 b (s:=tl 4 s) (by rw[DJ];omega) h.fg) ?_
 have hin:∀j:Nat,j<6→inB (j:Int) (flL ((D (tl 4 s) 0:Nat):Int)).length=true:=λj hj=>Ac ω (by rw[show(flL ((D (tl 4 s) 0:Nat):Int)).length=6 by simp[flL]];omega)
 refine XM (hin 0 (by decide)) (XM (hin 1 (by decide)) (XM (hin 2 (by decide)) (XM (hin 3 (by decide)) (XM (hin 4 (by decide)) (XM (hin 5 (by decide)) ?_)))))
 refine C (Ja b (s:=tl 1 (tl 4 s)) (by rw[DJ,DJ];omega) (by show _≤H.wrap (b.C0-1);rw[Aa ω ω];exact h.fl)) ?_
 refine C (Ja b (s:=tl 1 (tl 1 (tl 4 s))) (by rw[DJ,DJ,DJ];omega) h.dr) ?_
 refine C (Xt hb (s:=tl 1 (tl 1 (tl 1 (tl 4 s)))) (by rw[DJ,DJ,DJ,DJ];omega) h.c2) ?_
 refine C (Mk b (k:=8) (s:=tl 4 (tl 1 (tl 1 (tl 1 (tl 4 s))))) (by decide) (by rw[DJ,DJ,DJ,DJ,DJ];omega)) ?_
 refine XM (Ay (by simp only[C_,d5_];omega)) ?_
 unfold Ash rest tl;rw[CW (ω:i<1000000000)]
def SP:Nat→ByteArray→ByteArray
 |0,s=>s
 |n+1,s=>SP n (rest s)
def Us:Nat→ByteArray→List P
 |0,_=>[]
 |n+1,s=>Ash s::Us n (rest s)
def Ahc:∀(n:Nat) (s:ByteArray),(Us n s).length=n
 |0,_=>rfl
 |n+1,s=>by show(Us n (rest s)).length+1=_;rw[Ahc n]
def Aad{b:Bldg}(hb:b.small){N:Nat}(hN:N≤8)(u d k c e:Int):∀(m i:Nat) (s:ByteArray) (cs:List P),i+m=N→cs.length=i→(∀j,j<m→Ck b (SP j s))→BQ (λx=>letI a:=x.2.2.2.1.2.2;letI f:=a.2.2;letI g:=x.2.1.2;BX x.1.2.2.2.1 x.1.2.2.2.2.1 x.2.1.1 g.1 g.2.1 g.2.2.1 g.2.2.2.1 x.2.2.1.1 x.2.2.2.1.1 x.2.2.2.1.2.1 a.1 a.2.1 f.1 f.2.1 f.2.2.1 f.2.2.2.1 f.2.2.2.2.1) (m+1) (((),(),(),(N:Int),(i:Int),()),((u,d,k,c,cs,()),(e,()),(s,b.C0,b.E0,b.H0,b.M0,b.J0,b.L0,b.N0,b.B0,()),()))=J (((),(),()),((u,d,k,c,cs++Us m s,()),(e,()),(SP m s,b.C0,b.E0,b.H0,b.M0,b.J0,b.L0,b.N0,b.B0,()),()))
 |0,i,s,cs,hm,_,_=>by
  refine Az ?_;show BX (N:Int) (i:Int) u d k c cs e s b.C0 b.E0 b.H0 b.M0 b.J0 b.L0 b.N0 b.B0=_;unfold BX;rw[f_ (ω:¬(i:Int)<(N:Int)),c_,show cs++Us 0 s=cs from a9_ cs]
  rfl
 |m+1,i,s,cs,hm,hl,h=>by
  have h1:=Af8 hb (h 0 ω) (i:=i) (N:=N) ω hN u d k c (cs:=cs) ω e
  have h2:=Aad hb hN u d k c e m (i+1) (rest s) (cs++[Ash s]) ω (by rw[h_,J_,hl]) λj hj=>h (j+1) ω
  rw[M_,d4_]at h2;exact(Bu h1).trans h2
def Af7(hb:b.small){N:Nat}(hN:N≤8)(h:∀j,j<N→Ck b (SP j s))(u d k c e:Int):DE (((),(),(),(N:Int),0,()),((u,d,k,c,[],()),(e,()),(s,b.C0,b.E0,b.H0,b.M0,b.J0,b.L0,b.N0,b.B0,()),()))=J (((),(),()),((u,d,k,c,Us N s,()),(e,()),(SP N s,b.C0,b.E0,b.H0,b.M0,b.J0,b.L0,b.N0,b.B0,()),())):=
 Ai (Aad hb hN u d k c e N 0 s [] (p_ _) rfl h) ω
structure Hd(b:Bldg)(s:ByteArray):Prop where
 size:10≤s.size
 u:vb (bv (IntKind.u32.wrap (leV s 4))&&& ~~~ bv (Bx b).1)=0
 d:vb (bv (IntKind.u32.wrap (leV (tl 4 s) 4))&&& ~~~ bv (Bx b).2)=0
 kind:((byN (tl 4 (tl 4 s)) 0:Nat):Int)≤8
 car:((byN (tl 1 (tl 4 (tl 4 s))) 0:Nat):Int)≤(b.B0.length:Int)-1
 none:byN (tl 4 (tl 4 s)) 0=0→byN (tl 1 (tl 4 (tl 4 s))) 0=0
 cars:∀j,j<b.B0.length→Ck b (SP j (tl 1 (tl 1 (tl 4 (tl 4 s)))))
def hdP(n:Nat)(s:ByteArray):Inp:=⟨(A I (L s 4),I.wrap (L (tl 4 s) 4)),((D (tl 4 (tl 4 s)) 0:Nat):Int),((D (tl 1 (tl 4 (tl 4 s))) 0:Nat):Int),Us n (tl 1 (tl 1 (tl 4 (tl 4 s))))⟩
def Adn(hb:b.small)(hcode:b.code=0)(h:Hd b s):∃z,Ed s b.C0 b.E0 b.H0 b.M0 b.J0 b.L0 b.N0 b.B0=J (((),(),()),((hdP b.B0.length s).tup,((0:Int),()),z)):=by
 have hcc:=Aj hcode;have hz:=h.size;refine⟨((SP b.B0.length (tl 1 (tl 1 (tl 4 (tl 4 s)))),b.C0,b.E0,b.H0,b.M0,b.J0,b.L0,b.N0,b.B0,()),()),?_⟩;unfold Ed;refine C (Af3 hb hcode ω h.u h.d) ?_
 refine C (Ja b (s:=tl 4 (tl 4 s)) (by rw[DJ,DJ];omega) h.kind) ?_
 refine C (Ja b (s:=tl 1 (tl 4 (tl 4 s))) (by rw[DJ,DJ,DJ];omega) (by show _≤H.wrap ((b.B0.length:Int)-1);rw[Aa ω ω];exact h.car)) ?_
 refine C (a:=(((),(),(),()),((A I (L s 4),I.wrap (L (tl 4 s) 4),((D (tl 4 (tl 4 s)) 0:Nat):Int),((D (tl 1 (tl 4 (tl 4 s))) 0:Nat):Int),([]:List P),()),((0:Int),()),(tl 1 (tl 1 (tl 4 (tl 4 s))),b.C0,b.E0,b.H0,b.M0,b.J0,b.L0,b.N0,b.B0,()),()))) ?_ (C (Af7 hb hcc.2 h.cars _ _ _ _ 0) rfl);show(bif((D (tl 4 (tl 4 s)) 0:Nat):Int) !=(0:Int)then(GL true).bind _ else(GL (((D (tl 1 (tl 4 (tl 4 s))) 0:Nat):Int)==0)).bind _)=_;cases q:(((D (tl 4 (tl 4 s)) 0:Nat):Int) !=(0:Int))with
 |true=>rfl
 |false=>
  have q:((D (tl 4 (tl 4 s)) 0:Nat):Int)=0:=by simpa using q
  rw[h.none ω]
  rfl
def RY(hb:b.small)(hcode:b.code=0)(hs:s.size≤1000000)(h:BM b s=0)(hd:Hd b ((s.extract 0 (s.size-2)).extract 2 (s.size-2))):Ec b.C0 b.E0 b.H0 b.M0 b.J0 b.L0 b.N0 b.B0 s=J (((),(0:Int),()),((hdP b.B0.length ((s.extract 0 (s.size-2)).extract 2 (s.size-2))).tup,())):=by
 obtain⟨y,h1,hy⟩:=Yf hcode s hs;obtain⟨z,h2⟩:=Adn hb hcode hd;unfold Ec;refine C (Xs hcode) (C h1 ?_);cases y with
 |inl z=>exact absurd h hy.2
 |inr w=>
  obtain⟨_,e1,e2⟩:=hy;show(bif w.1.2.1 !=0 then _ else _)=_;rw[e1];show Option.bind _ _=_;rw[e2];exact C h2 rfl
def Bh2{a c i:Nat}(ha:a<2^i)(hc:c<256)(hi:i+8≤64):orL (a:Int) (A B (A B (c:Int)*((2^i:Nat):Int)))=((a+c*2^i:Nat):Int):=by
 have h1:c*2^i<2^(i+8):=by
  rw[Nat.pow_add,f8_];exact Nat.mul_lt_mul_of_pos_left hc (Nat.two_pow_pos i)
 have h2:(2:Nat)^(i+8)≤2^64:=Nat.pow_le_pow_right (by decide) hi
 have h3:(2:Nat)^i≤2^64:=Nat.pow_le_pow_right (by decide) ω
 have h4:(2:Nat)^64=18446744073709551616:=by decide
 have h5:=Nat.or_lt_two_pow (n:=64) (x:=a) (y:=c*2^i) ω ω
 have h6:a|||c*2^i=a+c*2^i:=by
  rw[Nat.or_comm,← Nat.shiftLeft_eq,← Nat.shiftLeft_add_eq_or_of_lt ha,e3_]
 unfold orL;rw[CI (n:=(c:Int)) ω ω,show(c:Int)*((2^i:Nat):Int)=((c*2^i:Nat):Int)by rw[Int.natCast_mul],← h6]
 generalize c*2^i=p at*;rw[CI (n:=(p:Int)) ω ω]
 rw[Kf,BitVec.toNat_or,W_,W_];rw[show((a:Int)%((2^IntKind.bits .u64:Nat):Int)).toNat=a by simp only[IntKind.bits];omega,show((p:Int)%((2^IntKind.bits .u64:Nat):Int)).toNat=p by simp only[IntKind.bits];omega]
 exact CI ω ω
def leN(s:ByteArray):Nat→Nat
 |0=>0
 |i+1=>leN s i+D s i*2^(8*i)
def Ay8(s:ByteArray):∀i,leN s i<2^(8*i)
 |0=>by show 0<1;decide
 |i+1=>by
  have h:=Ay8 s i;have hb:=Rt s i;show leN s i+D s i*2^(8*i)<2^(8*i+8);rw[Nat.pow_add]
  have:D s i*2^(8*i)≤255*2^(8*i):=G_ _ ω
  omega
def Aqz(s:ByteArray):∀i,i≤8→L s i=((leN s i:Nat):Int)
 |0,_=>rfl
 |i+1,h=>by
  show orL (L s i) (A B (A B (AF s i)*((2:Int)^(aB (Q (8*(i:Int))) (IntKind.bits B)))))=_
  rw[Aqz s i ω,FR,show((2:Int)^(aB (Q (8*(i:Int))) (IntKind.bits B)))=((2^(8*i):Nat):Int)by
   rw[show aB (Q (8*(i:Int))) (IntKind.bits B)=8*i by show min (Q (8*(i:Int))) 64=8*i;omega];norm_cast]
  exact Bh2 (Ay8 s i) (Rt s i) ω
def Bbf(l:List Int):bl (Hg l)=l.map λn=>UInt8.ofNat n.toNat:=by simp[bl,Hg]
def Ax9{n:Nat}{i:Nat}(hi:i<k)(hk:k≤8)(r:ByteArray):D (E (n:Int) k++r) i=n/2^(8*i)%256:=by
 have hl:(Abs (n:Int) k).length=k:=by simp[Abs]
 have hg:(Abs (n:Int) k)[i]?=J ((n/2^(8*i)%256:Nat):Int):=by
  unfold Abs;rw[b9_,List.getElem?_range hi];show J (A IntKind.u8 (Int.fdiv (n:Int) ((2:Int)^(aB (8*i) (IntKind.bits .u64)))))=_;rw[show aB (8*i) (IntKind.bits .u64)=8*i by show min (8*i) 64=8*i;omega,V_ _ (Int.le_of_lt (Int.pow_pos (by decide))),show(2:Int)^(8*i)=((2^(8*i):Nat):Int)by norm_cast,← Int.natCast_ediv]
  simp only[A,IntKind.signed,IntKind.bits];simp
 unfold D E;rw[Lc,Bbf,k_,c3_ (by rw[b5_,hl];exact hi),b9_,hg]
 show n/2^(8*i)%256%256=_;omega
def Ay9{n k:Nat}(hk:k≤8)(r:ByteArray):∀i,i≤k→leN (E (n:Int) k++r) i=n%2^(8*i)
 |0,_=>by show 0=n%1;omega
 |i+1,h=>by
  show leN _ i+D _ i*2^(8*i)=n%2^(8*i+8);rw[Ay9 hk r i ω,Ax9 ω hk,Nat.pow_add,Nat.mod_mul,f8_ (2^(8*i))]
def Amp(n:Int)(hk:k≤8)(hn:0≤n)(r:ByteArray):L (E n k++r) k=((n.toNat%2^(8*k):Nat):Int):=by
 obtain⟨m,rfl⟩:=e9_ hn;rw[Aqz _ _ hk,Ay9 hk r k (z_ k),i_]
def Er{a:ByteArray}(h:a.size=k)(r:ByteArray):tl k (a++r)=r:=by
 subst h;unfold tl;apply Nq;rw[Rr,Lc,List.drop_left' (Gg a),O_,← Gg r];exact b1_ ω
def Bcq(h:0≤n∧n<4294967296)(r:ByteArray):I.wrap (L (E n 4++r) 4)=n:=by
 rw[Amp n (by decide) h.1,show n.toNat%2^(8*4)=n.toNat by show n.toNat%4294967296=_;omega,f3_ h.1]
 simp only[A,IntKind.signed,IntKind.bits];simp;omega
def Ot(h:0≤n∧n<256)(r:ByteArray):((D (E n 1++r) 0:Nat):Int)=n:=by
 obtain⟨m,rfl⟩:=e9_ h.1;rw[Ax9 (by decide) (by decide)]
 show((m/1%256:Nat):Int)=m;omega
def KN:List P→ByteArray
 |[]=>noB
 |c::l=>E (A B c.V0) 4++(Wa [c.T1,c.F1,c.G1,c.C1,c.L1,c.M1]++(E (A B c.J1) 1++(E (A B c.R1) 1++(E (A B c.Y1) 4++(E ((c.C3:Nat):Int) 8++KN l)))))
def Zb(c:P)(l:List P):KN (c::l)=E (A B c.V0) 4++(Wa [c.T1,c.F1,c.G1,c.C1,c.L1,c.M1]++(E (A B c.J1) 1++(E (A B c.R1) 1++(E (A B c.Y1) 4++(E ((c.C3:Nat):Int) 8++KN l))))):=rfl
def Bg6(s:ByteArray):s++noB=s:=Nq (by rw[Lc,show bl noB=[]from rfl,a9_])
def WD:∀(l:List P) (s:ByteArray),l.foldl Jh s=s++KN l
 |[],s=>(Bg6 s).symm
 |c::l,s=>by
  rw[f1_,WD l,Zb];unfold Jh;simp only[f4_]
def Qo(x:Inp):ByteArray:=E (A B x.press.1) 4++(E (A B x.press.2) 4++(E (A B x.kind) 1++(E (A B x.car) 1++KN x.cars)))
def Zw(b:Bldg)(x:Inp):((inV b x).extract 0 ((inV b x).size-2)).extract 2 ((inV b x).size-2)=Qo x:=by
 have e:x.cars.foldl Jh (QV b x)=(E 165 1++E (A B (b.B0.length:Int)) 1)++Qo x:=by
  rw[WD];unfold QV Ru Qo;simp only[f4_]
 have h2:(E 165 1++E (A B (b.B0.length:Int)) 1).size=2:=by rw[O_,AR,AR]
 unfold inV;rw[PS,Nat.add_sub_cancel];generalize x.cars.foldl Jh (QV b x)=t at e
 have e1:(Hf t).extract 0 t.size=t:=by
  unfold Hf;apply Nq;rw[Rr,Lc,Q_,Nat.sub_zero];exact f0_ (Gg t)
 rw[e1,e];exact Er h2 (Qo x)
def Bag(n:Int):0≤B.wrap n∧B.wrap n<18446744073709551616:=by
 simp only[A,IntKind.signed,IntKind.bits];simp;exact⟨Int.emod_nonneg _ (by decide),Int.emod_lt_of_pos _ (by decide)⟩
def Bhp(a b c d e f:Bool)(r:ByteArray):D (Wa [a,b,c,d,e,f]++r) 0≤63:=by
 have h:∀n:Int,0≤n∧n<64→D (E n 1++r) 0≤63:=λn h=>by
  have:=Ot (n:=n) ω r
  omega
 refine h _ ?_;cases a<;>cases b<;>cases c<;>cases d<;>cases e<;>cases f<;>decide
section
variable{b:Bldg}(hb:b.small)
include hb
theorem An5:4≤2^b.C0.toNat∧2^b.C0.toNat≤(256:Nat):=by
 have lo:=hb.lo;have hi:=hb.hi;have h:b.C0.toNat=2∨b.C0.toNat=3∨b.C0.toNat=4∨b.C0.toNat=5∨b.C0.toNat=6∨b.C0.toNat=7∨b.C0.toNat=8:=ω
 rcases h with h | h | h | h | h | h | h<;>rw[h]<;>decide
theorem Aq5(h:flV b n=true)(r:ByteArray):C2 b.C0 (A I (L (E (A B n) 4++r) 4)):=by
 have h1:C2 b.C0 (A B n):=Acd.1 h;have h2:=An5 hb;obtain⟨h3,h4⟩:=h1;rw[Bcq ω]
 exact⟨h3,h4⟩
theorem Apz{c:P}(h:Fa b c=true)(l:List P):Ck b (KN (c::l))∧rest (KN (c::l))=KN l:=by
 have lo:=hb.lo;have hi:=hb.hi;unfold Fa at h;simp only[e_]at h;obtain⟨h1,h2,h3,h4⟩:=h;have h3:=Ao.1 h3;have h4:=Ao.1 h4;have u:∀n:Int,0≤n∧n<256→B.wrap n=n:=λn h=>CI h.1 ω
 rw[Zb];have t1:=λr=>Er (AR (A B c.V0) 4) r
 have t2:=λr=>Er (Pw [c.T1,c.F1,c.G1,c.C1,c.L1,c.M1]) r
 have t3:=λr=>Er (AR (A B c.J1) 1) r
 have t4:=λr=>Er (AR (A B c.R1) 1) r
 have t5:=λr=>Er (AR (A B c.Y1) 4) r
 have t6:=λr=>Er (AR ((c.C3:Nat):Int) 8) r
 refine⟨⟨?_,?_,?_,?_,?_,?_⟩,?_⟩
 ·simp only[O_,AR,Pw];omega
 ·exact Aq5 hb h1 _
 ·rw[t1];exact Bhp ..
 ·rw[t1,t2,u _ ω,Ot ω];exact h3.2
 ·rw[t1,t2,t3,u _ ω,Ot ω];exact h4.2
 ·rw[t1,t2,t3,t4];exact Aq5 hb h2 _
 ·unfold rest
  rw[t1,t2,t3,t4,t5,t6]
theorem Aeg:∀(l:List P),(∀c∈l,Fa b c=true)→∀j,j<l.length→Ck b (SP j (KN l))
 |[],_,_,hj=>absurd hj (Nat.not_lt_zero _)
 |c::l,h,0,_=>(Apz hb (h c (s_ ..)) l).1
 |c::l,h,j+1,hj=>by
  show Ck b (SP j (rest (KN (c::l))));rw[(Apz hb (h c (s_ ..)) l).2];exact Aeg l (λa ha=>h a (x_ _ ha)) j (by rw[C_]at hj;omega)
end
def OC(n:Int)(r:ByteArray):I.wrap (L (E (A B n) 4++r) 4)=I.wrap n:=by
 have h:=Bag n;rw[Amp _ (by decide) h.1]
 have e:B.wrap n=n%18446744073709551616:=by simp only[A,IntKind.signed,IntKind.bits];simp
 show I.wrap (((A B n).toNat%4294967296:Nat):Int)=_;generalize B.wrap n=m at*;simp only[A,IntKind.signed,IntKind.bits];simp;omega
def Ax8(n:Int):bv (A I n)=bv n:=by
 unfold bv;apply BitVec.eq_of_toNat_eq;simp only[W_,A,IntKind.signed,IntKind.bits];simp
def Avd(hb:b.small)(hcode:b.code=0){x:Inp}(h:HA b x=true):Hd b (Qo x)∧(hdP b.B0.length (Qo x)).press=(A I x.press.1,I.wrap x.press.2)∧(hdP b.B0.length (Qo x)).kind=x.kind∧(hdP b.B0.length (Qo x)).car=x.car:=by
 have hc:=Aj hcode;unfold HA at h;simp only[e_,R_]at h;obtain⟨h1,h2,h3,h4,h5,h6⟩:=h;have h2:=Ao.1 h2;have h3:=Ao.1 h3;have u:∀n:Int,0≤n∧n<256→B.wrap n=n:=λn h=>CI h.1 ω
 have t1:=λr=>Er (AR (A B x.press.1) 4) r
 have t2:=λr=>Er (AR (A B x.press.2) 4) r
 have t3:=λr=>Er (AR (A B x.kind) 1) r
 have t4:=λr=>Er (AR (A B x.car) 1) r
 have hw:vb (bv x.press.1&&& ~~~ bv (Bx b).1)=0∧vb (bv x.press.2&&& ~~~ bv (Bx b).2)=0:=by
  unfold Hh isZ at h1;have h1:(Aq x.press (Bx b)).1=0∧(Aq x.press (Bx b)).2=0:=by simpa using h1
  exact h1
 have k1:∀r,((D (E (A B x.kind) 1++r) 0:Nat):Int)=x.kind:=λr=>by rw[u _ ω,Ot ω]
 have k2:∀r,((D (E (A B x.car) 1++r) 0:Nat):Int)=x.car:=λr=>by rw[u _ ω,Ot ω]
 unfold Qo;refine⟨⟨?_,?_,?_,?_,?_,?_,?_⟩,?_,?_,?_⟩
 ·simp only[O_,AR];omega
 ·rw[OC,Ax8];exact hw.1
 ·rw[t1,OC,Ax8];exact hw.2
 ·rw[t1,t2,k1];exact h2.2
 ·rw[t1,t2,t3,k2];exact h3.2
 ·rw[t1,t2,t3]
  intro q;have q1:=k1 (E (A B x.car) 1++KN x.cars);have q2:=k2 (KN x.cars);rw[q]at q1
  have:x.car=0:=by
   rw[← q1]at h4;simpa using h4
  omega
 ·rw[t1,t2,t3,t4]
  intro j hj;exact Aeg hb x.cars (λc hc=>E_.1 h6 c hc) j ω
 ·unfold hdP
  rw[t1,OC,OC]
 ·unfold hdP
  rw[t1,t2];exact k1 _
 ·unfold hdP
  rw[t1,t2,t3];exact k2 _
end Go.Ovl
