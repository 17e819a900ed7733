/- Plain facts: wrapped numbers, loops by rounds, strings. -/
import Derived.Test.YtfkphlpmkolemaaGreatDoorAbE
import Derived.Test.YtfkphlpmkolemaaGreatDoorDefs4
set_option linter.all false
open Option renaming some->A,none->O
open Bool renaming false->B,true->C,and_assoc->aC
open Go renaming a_->E
open Go.Ab renaming lo->H
open Go.Ovl renaming Entry->I
open Go.IntKind renaming i64->J,wrap->aA
open List renaming all_nil->aB
open ByteArray renaming ext->aD
namespace Go.Ovl
open Go Go.Ab
variable{f:Nat}{α:Type}{n:Int}
def Ac(h:-9223372036854775808≤n)(h':n<9223372036854775808):J.wrap n=n:=by
 rw[IntKind.wrap_i64];omega
def Eg(h:0≤n)(h':n<18446744073709551616):IntKind.u64.wrap n=n:=by
 simp only[aA,IntKind.signed,IntKind.bits];simp;omega
def Aa{i:Int}{n:Nat}(h:0≤i)(h':i<n):inB i n=C:=by simp[inB];omega
def At{a b:Nat}(h:a≤b):Nat.ble a b=C:=Nat.ble_eq.symm▸h
def Aor(s:ByteArray):s.toList=s.data.toList:=ByteArray.toList_eq s
def Ape{a b:ByteArray}:eqB a b=C↔a=b:=by
 constructor
 ·intro h
  simp[eqB,Aor]at h;exact aD h
 ·rintro rfl;simp[eqB]
def Bbj(a:ByteArray):eqB a a=C:=Ape.2 rfl
def FK [BEq α][LawfulBEq α]{a b:α}(h:¬a=b):(a !=b)=C:=by simpa using h
def Ar [BEq α][LawfulBEq α]{a b:α}(h:¬a=b):(a==b)=B:=by simpa using h
section
variable{X Y:Type}{step:X→Option (Sum X Y)}
def Bk{x x':X}(h:step x=A (.inl x')):Bz step (f+1) x=Bz step f x':=by simp only[Bz,h,QN]
def Au{x:X}{y:Y}(h:step x=A (.inr y)):Bz step (f+1) x=A y:=by simp only[Bz,h,QN]
def Ahd:∀{f:Nat}{x:X}{y:Y},Bz step f x=A y→∀{g:Nat},f≤g→Bz step g x=A y
 |0,_,_,h,_,_=>by simp[Bz]at h
 |f+1,x,y,h,0,hg=>by omega
 |f+1,x,y,h,g+1,hg=>by
  simp only[Bz]at h⊢;cases hs:step x with
  |none=>rw[hs]at h;simp[QN]at h
  |some z=>
   rw[hs]at h;cases z with
   |inl x'=>exact Ahd (f:=f) (g:=g) h ω
   |inr y'=>exact h
def Ah{x:X}{y:Y}(h:Bz step f x=A y)(hf:f≤18446744073709551616):Bz step DO x=A y:=Ahd h hf
def Apr(Q:X→Y→Prop)(m:X→Nat)(hs:∀x y,Q x y→(∃x',step x=A (.inl x')∧Q x' y∧m x'<m x)∨step x=A (.inr y)):∀(n:Nat) (x:X) (y:Y),Q x y→m x≤n→Bz step (n+1) x=A y
 |n,x,y,hq,hm=>by
  rcases hs x y hq with⟨x',h1,h2,h3⟩ | h1
  ·cases n with
   |zero=>omega
   |succ n=>rw[Bk h1];exact Apr Q m hs n x' y h2 ω
  ·exact Au h1
def Bha(Q:X→Y→Prop)(m:X→Nat)(hs:∀x y,Q x y→(∃x',step x=A (.inl x')∧Q x' y∧m x'<m x)∨step x=A (.inr y)){x:X}{y:Y}(hq:Q x y)(hm:m x<18446744073709551616):Bz step DO x=A y:=
 Ah (Apr Q m hs (m x) x y hq (z_ _)) hm
def BC{S:Type}(h:Nat→S→S):Nat→Nat→S→S
 |0,_,s=>s
 |m+1,i,s=>BC h m (i+1) (h i s)
def AR{S:Type}(N:Nat)(g:Nat→S→X)(h:Nat→S→S)(inv:Nat→S→Prop)(y:S→Y)(h1:∀i s,i<N→inv i s→step (g i s)=A (.inl (g (i+1) (h i s)))∧inv (i+1) (h i s))
  (h2:∀s,inv N s→step (g N s)=A (.inr (y s))):∀(m i:Nat) (s:S),i+m=N→inv i s→Bz step (m+1) (g i s)=A (y (BC h m i s))∧inv N (BC h m i s)
 |0,i,s,hi,hs=>by
  have:i=N:=ω
  subst this;exact⟨Au (h2 s hs),hs⟩
 |m+1,i,s,hi,hs=>by
  obtain⟨q1,q2⟩:=h1 i s ω hs
  rw[Bk q1];exact AR N g h inv y h1 h2 m (i+1) (h i s) ω q2
end
def noB:ByteArray:=⟨#[]⟩
def Aae(d:ByteArray){k:Nat}(h:k≤d.size):(d.extract 0 k).size=k:=by simp;omega
def Ak1(d:ByteArray){a b c:Nat}(h:a≤b)(h':b≤c):d.extract a b++d.extract b c=d.extract a c:=by
 apply aD;simp;rw[c4_ h,Nat.max_eq_right h']
def Abt(a:ByteArray):a++noB=a:=by apply aD;simp[noB]
def Agy(d:ByteArray)(k:Nat):d.extract k k=noB:=by apply aD;simp[noB]
end Go.Ovl
namespace Go.Ovl
open Go Go.Ab
set_option maxRecDepth 100000
structure Bldg where
 C0:Int
 F0:Int
 I0:Int
 N0:Int
 K0:Nat
 M0:Nat
 O0:Nat
 B0:List Car
def Bw{α:Type}{l:List α}{i:Nat}(d:α)(h:i<l.length):l.drop i=l.getD i d::l.drop (i+1):=by
 rw[List.drop_eq_getElem_cons h];simp[h]
def inR(H hi n:Int):Bool:=decide (H≤n)&&decide (n≤hi)
def Am{H hi n:Int}:inR H hi n=C↔H≤n∧n≤hi:=by simp[inR]
def BZ(H hi:Int){l:List Int}(hl:l.length≤maxLen):BN H hi l=A ((l.all (inR H hi),()),()):=by
 have hm:maxLen≤9223372036854775807:=by decide
 have key:∀(m i:Nat),i+m=l.length→Bz (λx=>BT x.1.1 x.1.2.1 x.1.2.2.1 x.1.2.2.2.1 x.1.2.2.2.2.1) (m+1) ((H,hi,l,(l.length:Int),(i:Int),()),())=A (if(l.drop i).all (inR H hi)then .inl ((),())else .inr ((B,()),())):=by
  intro m
  induction m with
  |zero=>
   intro i hi';refine Au ?_;show BT H hi l (l.length:Int) (i:Int)=_;unfold BT;have e:decide ((i:Int)<(l.length:Int))=B:=by simp;omega
   rw[e,show i=l.length by omega];simp
  |succ m ih=>
   intro i hi';have e:decide ((i:Int)<(l.length:Int))=C:=by simp;omega
   have ib:inB (i:Int) l.length=C:=Aa ω ω
   have tn:Int.toNat (i:Int)=i:=ω
   have w:J.wrap ((i:Int)+1)=((i+1:Nat):Int):=by rw[Ac ω ω];omega
   rw[Bw (0:Int) (ω:i<l.length)]
   by_cases h1:l.getD i 0<H
   ·refine(Au (y:=.inr ((B,()),())) ?_).trans ?_
    ·show BT H hi l (l.length:Int) (i:Int)=_
     unfold BT;have d1:decide (l.getD i 0<H)=C:=by simpa using h1
     simp only[e,ib,tn,d1,d_]
    ·have:inR H hi (l.getD i 0)=B:=by rw[inR,show decide (H≤l.getD i 0)=B from e_ ω,a3_]
     rw[X_,this];rfl
   ·have d1:decide (l.getD i 0<H)=B:=by simpa using h1
    by_cases h2:hi<l.getD i 0
    ·refine(Au (y:=.inr ((B,()),())) ?_).trans ?_
     ·show BT H hi l (l.length:Int) (i:Int)=_
      unfold BT;have d2:decide (hi<l.getD i 0)=C:=by simpa using h2
      simp only[e,ib,tn,d1,d2,d_,c_]
     ·have:inR H hi (l.getD i 0)=B:=by rw[inR,show decide (l.getD i 0≤hi)=B from e_ ω,b7_]
      rw[X_,this];rfl
    ·have d2:decide (hi<l.getD i 0)=B:=by simpa using h2
     refine(Bk (x':=((H,hi,l,(l.length:Int),((i+1:Nat):Int),()),())) ?_).trans ?_
     ·show BT H hi l (l.length:Int) (i:Int)=_
      unfold BT;simp only[e,ib,tn,d1,d2,w,d_,c_]
     ·have:inR H hi (l.getD i 0)=C:=Am.2 ⟨ω,ω⟩
      rw[ih (i+1) ω,X_,this];rfl
 unfold BN;have h0:HM ((H,hi,l,(l.length:Int),(0:Int),()),())=_:=Ah (key l.length 0 ω) ω
 rw[h0];rw[R_];cases l.all (inR H hi)<;>rfl
def KT(n H hi:Int):GW n H hi=A ((inR H hi n,()),()):=by
 unfold GW inR;cases h:decide (H≤n)<;>simp
def Ce(fl:Int)(c:Car):Bool:=
 [c.G1,c.I3,c.N3,c.Q3,c.N2,c.K2,c.R3].all (inR 1 10000)&&(inR 0 10000 c.I2&&(decide (c.K2≤c.R3)&&inR 0 (aA J (fl-1)) c.M5))
def Xb(fl:Int)(c:Car):JX c.G1 c.I3 c.N3 c.I2 c.Q3 c.N2 c.K2 c.R3 c.M5 fl=A ((Ce fl c,()),()):=by
 have hm:7≤maxLen:=by decide
 unfold JX Ce;rw[BZ 1 10000 (l:=[c.G1,c.I3,c.N3,c.Q3,c.N2,c.K2,c.R3]) (by simpa using hm)]
 generalize [c.G1,c.I3,c.N3,c.Q3,c.N2,c.K2,c.R3].all (inR 1 10000)=a;rw[BZ 0 10000 (l:=[c.I2]) (by simp;omega),BZ 0 _ (l:=[c.M5]) (by simp;omega)]
 simp only[E,X_,aB,c5_];cases a
 ·rfl
 ·cases inR 0 10000 c.I2
  ·rfl
  ·by_cases h:c.K2≤c.R3
   ·have:decide (c.K2≤c.R3)=C:=by simpa using h
    simp only[this,d_,E,o_]
   ·have:decide (c.K2≤c.R3)=B:=by simpa using h
    simp only[this,d_,c_,E,o_,a3_]
def Bldg.tup(b:Bldg):Int×Int×Int×Int×Nat×Nat×Nat×List Car×Unit:=(b.C0,b.F0,b.I0,b.N0,b.K0,b.M0,b.O0,b.B0,())
def Car.tup(c:Car):Int×Int×Int×Int×Int×Int×Int×Int×Int×Unit:=(c.G1,c.I3,c.N3,c.I2,c.Q3,c.N2,c.K2,c.R3,c.M5,())
def Afv(b:Bldg)(c:Car){L:List Int}(hL:L.length=8) :
  Nn (((),(),L,(0:Int),()),(b.tup,c.tup,()))=A (if(L.take 7).all (inR 1 10000)then .inl (((),(),()),(b.tup,c.tup,()))else .inr ((B,()),())):=by
 have key:∀(m i:Nat),i+m=7→Bz (λx=>letI a:=x.2.2.1.2.2;letI d:=x.2.1.2.2;letI f:=a.2.2;letI g:=d.2.2;FB x.1.2.2.1 x.1.2.2.2.1 x.2.1.1 x.2.1.2.1 d.1 d.2.1 g.1 g.2.1 g.2.2.1 g.2.2.2.1 x.2.2.1.1 x.2.2.1.2.1 a.1 a.2.1 f.1 f.2.1 f.2.2.1 f.2.2.2.1 f.2.2.2.2.1) (m+1) (((),(),L,(i:Int),()),(b.tup,c.tup,()))=A (if((L.take 7).drop i).all (inR 1 10000)then .inl (((),(),()),(b.tup,c.tup,()))else .inr ((B,()),())):=by
  intro m
  induction m with
  |zero=>
   intro i hi';refine Au ?_;show FB L (i:Int) b.C0 b.F0 b.I0 b.N0 b.K0 b.M0 b.O0 b.B0 c.G1 c.I3 c.N3 c.I2 c.Q3 c.N2 c.K2 c.R3 c.M5=_;unfold FB;have e:decide ((i:Int)<7)=B:=by simp;omega
   have hd:(L.take 7).drop i=[]:=List.drop_eq_nil_of_le (by simp;omega)
   rw[e,hd];rfl
  |succ m ih=>
   intro i hi';have e:decide ((i:Int)<7)=C:=by simp;omega
   have ib:inB (i:Int) L.length=C:=Aa ω ω
   have tn:Int.toNat (i:Int)=i:=ω
   have w:J.wrap ((i:Int)+1)=((i+1:Nat):Int):=by rw[Ac ω ω];omega
   have hg:(L.take 7).getD i 0=L.getD i 0:=by
    simp only[l_,List.getElem?_take];rw[if_pos ω]
   rw[Bw (0:Int) (show i<(L.take 7).length by simp;omega),hg,X_]
   cases hr:inR 1 10000 (L.getD i 0)with
   |false=>
    refine(Au (y:=.inr ((B,()),())) ?_).trans rfl;show FB L (i:Int) b.C0 b.F0 b.I0 b.N0 b.K0 b.M0 b.O0 b.B0 c.G1 c.I3 c.N3 c.I2 c.Q3 c.N2 c.K2 c.R3 c.M5=_;unfold FB;simp only[e,ib,tn,KT,hr,d_,E,b6_]
   |true=>
    refine(Bk (x':=(((),(),L,((i+1:Nat):Int),()),(b.tup,c.tup,()))) ?_).trans ?_
    ·show FB L (i:Int) b.C0 b.F0 b.I0 b.N0 b.K0 b.M0 b.O0 b.B0 c.G1 c.I3 c.N3 c.I2 c.Q3 c.N2 c.K2 c.R3 c.M5=_
     unfold FB;simp only[e,ib,tn,w,KT,hr,d_,c_,E,m_];rfl
    ·rw[ih (i+1) ω,o_]
 have h0:=key 7 0 rfl;rw[R_]at h0;exact Ah h0 ω
def Aee(b:Bldg)(c:Car):Qo b.C0 b.F0 b.I0 b.N0 b.K0 b.M0 b.O0 b.B0 c.G1 c.I3 c.N3 c.I2 c.Q3 c.N2 c.K2 c.R3 c.M5=A ((Ce b.C0 c,()),()):=by
 unfold Qo Ce;by_cases h1:c.I2<0
 ·have d1:decide (c.I2<0)=C:=by simpa using h1
  have d2:inR 0 10000 c.I2=B:=by rw[inR,show decide (0≤c.I2)=B from e_ ω,a3_]
  rw[d1,d_,d2,a3_,b7_]
 ·have d1:decide (c.I2<0)=B:=by simpa using h1
  rw[d1,c_];by_cases h2:10000<c.I2
  ·have d1:decide (10000<c.I2)=C:=by simpa using h2
   have d2:inR 0 10000 c.I2=B:=by rw[inR,show decide (c.I2≤10000)=B from e_ ω,b7_]
   rw[d1,d_,d2,a3_,b7_]
  ·have d1:decide (10000<c.I2)=B:=by simpa using h2
   have d2:inR 0 10000 c.I2=C:=Am.2 ⟨ω,ω⟩
   rw[d1,c_,d2,o_];have hl:=Afv b c (L:=[c.G1,c.I3,c.N3,c.Q3,c.N2,c.K2,c.R3,J.wrap (c.I2+1)]) rfl;rw[show([c.G1,c.I3,c.N3,c.Q3,c.N2,c.K2,c.R3,J.wrap (c.I2+1)].take 7)=[c.G1,c.I3,c.N3,c.Q3,c.N2,c.K2,c.R3]from rfl]at hl
   simp only[Bldg.tup,Car.tup]at hl;rw[hl];cases [c.G1,c.I3,c.N3,c.Q3,c.N2,c.K2,c.R3].all (inR 1 10000)with
   |false=>rfl
   |true=>
    simp only[g2_,E,o_,KT];by_cases h:c.K2≤c.R3
    ·have:decide (c.K2≤c.R3)=C:=by simpa using h
     simp only[this,d_,E,o_]
    ·have:decide (c.K2≤c.R3)=B:=by simpa using h
     simp only[this,c_,E,a3_]
def Bldg.loadsOK(b:Bldg):Bool:=((Go.FloatKind.format Go.FloatKind.f64).order 0 b.K0==A Ordering.lt)&&(((Go.FloatKind.format Go.FloatKind.f64).order b.K0 b.M0==A Ordering.lt)&&(((Go.FloatKind.format Go.FloatKind.f64).order b.M0 b.O0==A Ordering.lt)&&((Go.FloatKind.format Go.FloatKind.f64).order b.O0 9218868437227405311==A Ordering.lt||(Go.FloatKind.format Go.FloatKind.f64).order b.O0 9218868437227405311==A Ordering.eq)))
def Bldg.code(b:Bldg):Int:=
 bif !inR 2 32 b.C0 then 10 else bif !inR 1 8 (b.B0.length:Int)then 11 else
 bif !(inR 1 16 b.F0&&inR 1 10000 b.N0&&b.B0.all (Ce b.C0))then 12 else bif !b.loadsOK then 13 else
 bif !inR (18*(b.B0.length:Int)+24) 65536 b.I0 then 14 else 0
def ED:Car:=⟨0,0,0,0,0,0,0,0,0⟩
def Xc(b:Bldg)(hl:b.B0.length≤8)(g:Bool) :
  IA (((),g,b.B0,(b.B0.length:Int),(0:Int),()),(b.tup,()))=A (((),g&&b.B0.all (Ce b.C0),()),(b.tup,())):=by
 have key:∀(m i:Nat) (g:Bool),i+m=b.B0.length→Bz (λx=>letI a:=x.2.1.2.2;letI c:=a.2.2;EM x.1.2.1 x.1.2.2.1 x.1.2.2.2.1 x.1.2.2.2.2.1 x.2.1.1 x.2.1.2.1 a.1 a.2.1 c.1 c.2.1 c.2.2.1 c.2.2.2.1) (m+1) (((),g,b.B0,(b.B0.length:Int),(i:Int),()),(b.tup,()))=A (((),g&&(b.B0.drop i).all (Ce b.C0),()),(b.tup,())):=by
  intro m
  induction m with
  |zero=>
   intro i g hi';refine Au ?_;show EM g b.B0 (b.B0.length:Int) (i:Int) b.C0 b.F0 b.I0 b.N0 b.K0 b.M0 b.O0 b.B0=_;unfold EM;have e:decide ((i:Int)<(b.B0.length:Int))=B:=by simp;omega
   rw[e,show i=b.B0.length by omega,a4_]
   simp only[c_,aB,c5_,Bldg.tup]
  |succ m ih=>
   intro i g hi';have e:decide ((i:Int)<(b.B0.length:Int))=C:=by simp;omega
   have ib:inB (i:Int) b.B0.length=C:=Aa ω ω
   have tn:Int.toNat (i:Int)=i:=ω
   have w:J.wrap ((i:Int)+1)=((i+1:Nat):Int):=by rw[Ac ω ω];omega
   rw[Bw ED (ω:i<b.B0.length),X_]
   refine(Bk (x':=(((),g&&Ce b.C0 (b.B0.getD i ED),b.B0,(b.B0.length:Int),((i+1:Nat):Int),()),(b.tup,()))) ?_).trans ?_
   ·show EM g b.B0 (b.B0.length:Int) (i:Int) b.C0 b.F0 b.I0 b.N0 b.K0 b.M0 b.O0 b.B0=_
    unfold EM;simp only[e,ib,tn,d_];rw[Xb b.C0 (b.B0.getD i ⟨0,0,0,0,0,0,0,0,0⟩)];cases g
    ·simp only[c_,E,a3_,w];rfl
    ·simp only[d_,E,o_,w];rfl
   ·rw[ih (i+1) _ ω,aC]
 have h0:=key b.B0.length 0 g ω
 rw[R_]at h0;exact Ah h0 ω
def Afu(b:Bldg)(hl:b.B0.length≤8)(g:Bool) :
  Nm (((),g,(0:Int),()),(b.tup,()))=A (((),g&&b.B0.all (Ce b.C0),()),(b.tup,())):=by
 have key:∀(m i:Nat) (g:Bool),i+m=b.B0.length→Bz (λx=>letI a:=x.2.1.2.2;letI c:=a.2.2;Ib x.1.2.1 x.1.2.2.1 x.2.1.1 x.2.1.2.1 a.1 a.2.1 c.1 c.2.1 c.2.2.1 c.2.2.2.1) (m+1) (((),g,(i:Int),()),(b.tup,()))=A (((),g&&(b.B0.drop i).all (Ce b.C0),()),(b.tup,())):=by
  intro m
  induction m with
  |zero=>
   intro i g hi';refine Au ?_;show Ib g (i:Int) b.C0 b.F0 b.I0 b.N0 b.K0 b.M0 b.O0 b.B0=_;unfold Ib;have e:decide ((i:Int)<(b.B0.length:Int))=B:=by simp;omega
   rw[e,show i=b.B0.length by omega,a4_]
   simp only[c_,aB,c5_,Bldg.tup]
  |succ m ih=>
   intro i g hi';have e:decide ((i:Int)<(b.B0.length:Int))=C:=by simp;omega
   have ib:inB (i:Int) b.B0.length=C:=Aa ω ω
   have tn:Int.toNat (i:Int)=i:=ω
   have w:J.wrap ((i:Int)+1)=((i+1:Nat):Int):=by rw[Ac ω ω];omega
   rw[Bw ED (ω:i<b.B0.length),X_]
   refine(Bk (x':=(((),g&&Ce b.C0 (b.B0.getD i ED),((i+1:Nat):Int),()),(b.tup,()))) ?_).trans ?_
   ·show Ib g (i:Int) b.C0 b.F0 b.I0 b.N0 b.K0 b.M0 b.O0 b.B0=_
    unfold Ib;simp only[e,ib,tn,d_];rw[Aee b (b.B0.getD i ⟨0,0,0,0,0,0,0,0,0⟩)];cases g
    ·simp only[c_,E,a3_,w];rfl
    ·simp only[d_,E,o_,w];rfl
   ·rw[ih (i+1) _ ω,aC]
 have h0:=key b.B0.length 0 g ω
 rw[R_]at h0;exact Ah h0 ω
def Xa(b:Bldg):JW b.C0 b.F0 b.I0 b.N0 b.K0 b.M0 b.O0 b.B0=A ((b.loadsOK,()),()):=by
 unfold JW Bldg.loadsOK;cases(Go.FloatKind.format Go.FloatKind.f64).order 0 b.K0==A Ordering.lt
 ·rfl
 cases(Go.FloatKind.format Go.FloatKind.f64).order b.K0 b.M0==A Ordering.lt
 ·rfl
 cases(Go.FloatKind.format Go.FloatKind.f64).order b.M0 b.O0==A Ordering.lt
 ·rfl
 rfl
def Be(b:Bldg):AP b.C0 b.F0 b.I0 b.N0 b.K0 b.M0 b.O0 b.B0=A ((b.code,()),()):=by
 have hm:8≤maxLen:=by decide
 unfold AP Bldg.code;rw[BZ 2 32 (l:=[b.C0]) (by simp;omega),BZ 1 8 (l:=[(b.B0.length:Int)]) (by simp;omega),BZ 1 16 (l:=[b.F0]) (by simp;omega),BZ 1 10000 (l:=[b.N0]) (by simp;omega)]
 simp only[E,X_,aB,c5_];cases inR 2 32 b.C0
 ·rfl
 cases hc:inR 1 8 (b.B0.length:Int)
 ·rfl
 have hlen:b.B0.length≤8:=by have:=(Am.1 hc).2;omega
 have hg:(bif inR 1 16 b.F0 then A (((),inR 1 10000 b.N0,()),(b.tup,()))else A (((),B,()),(b.tup,())))=A (((),inR 1 16 b.F0&&inR 1 10000 b.N0,()),(b.tup,())):=by
  cases inR 1 16 b.F0<;>rfl
 simp only[Bldg.tup]at hg;simp only[m_,c_,hg,E];have hl:=Xc b hlen (inR 1 16 b.F0&&inR 1 10000 b.N0);simp only[Bldg.tup]at hl;rw[hl,E];cases inR 1 16 b.F0&&inR 1 10000 b.N0&&b.B0.all (Ce b.C0)
 ·rfl
 simp only[m_,c_];rw[Xa b,E];cases b.loadsOK
 ·rfl
 simp only[m_,c_]
 rw[show J.wrap (aA J (18*(b.B0.length:Int))+24)=18*(b.B0.length:Int)+24 by rw[Ac (n:=18*(b.B0.length:Int)) ω ω,Ac ω ω],
  BZ _ 65536 (l:=[b.I0]) (by simp;omega)]
 simp only[E,X_,aB,c5_];cases inR (18*(b.B0.length:Int)+24) 65536 b.I0<;>rfl
def Hq(b:Bldg):EU b.C0 b.F0 b.I0 b.N0 b.K0 b.M0 b.O0 b.B0=A ((b.code,()),()):=by
 unfold EU Bldg.code;simp only[KT,E];cases inR 2 32 b.C0
 ·rfl
 cases hc:inR 1 8 (b.B0.length:Int)
 ·rfl
 have hlen:b.B0.length≤8:=by have:=(Am.1 hc).2;omega
 have hg:(bif inR 1 16 b.F0 then A (((),inR 1 10000 b.N0,()),(b.tup,()))else A (((),B,()),(b.tup,())))=A (((),inR 1 16 b.F0&&inR 1 10000 b.N0,()),(b.tup,())):=by
  cases inR 1 16 b.F0<;>rfl
 simp only[Bldg.tup]at hg;simp only[m_,c_,hg,E];have hl:=Afu b hlen (inR 1 16 b.F0&&inR 1 10000 b.N0);simp only[Bldg.tup]at hl;rw[hl,E];cases inR 1 16 b.F0&&inR 1 10000 b.N0&&b.B0.all (Ce b.C0)
 ·rfl
 simp only[m_,c_];unfold Bldg.loadsOK;cases(Go.FloatKind.format Go.FloatKind.f64).order 0 b.K0==A Ordering.lt
 ·rfl
 cases(Go.FloatKind.format Go.FloatKind.f64).order b.K0 b.M0==A Ordering.lt
 ·rfl
 cases(Go.FloatKind.format Go.FloatKind.f64).order b.M0 b.O0==A Ordering.lt
 ·rfl
 simp only[d_,o_];cases((Go.FloatKind.format Go.FloatKind.f64).order b.O0 9218868437227405311==A Ordering.lt||(Go.FloatKind.format Go.FloatKind.f64).order b.O0 9218868437227405311==A Ordering.eq)
 ·rfl
 simp only[m_,c_];rw[show J.wrap (aA J (18*(b.B0.length:Int))+24)=18*(b.B0.length:Int)+24 by rw[Ac (n:=18*(b.B0.length:Int)) ω ω,Ac ω ω]]
 cases inR (18*(b.B0.length:Int)+24) 65536 b.I0<;>rfl
def FD(fl i:Nat):Car:=⟨100,2,6,5,4,2,3,10,((i%fl:Nat):Int)⟩
def AI(fl ca:Nat):Bldg:=⟨fl,1,4000,30,4591870180066957722,4605380978949069210,4607632778762754458,(List.range ca).map (FD fl)⟩
def Bldg.none:Bldg:=⟨0,0,0,0,0,0,0,[]⟩
def Abk{fl ca:Nat}(h1:1≤fl)(h2:ca≤8):Oh fl ca=A (((),()),((AI fl ca).tup,())):=by
 have key:∀(m i:Nat),i+m=ca→Bz (λx=>letI a:=x.2.2.1.2.2;letI b:=x.2.1.2.2;letI d:=b.2.2;letI f:=a.2.2;Hr x.1.1 x.1.2.1 x.1.2.2.2.2.1 x.2.1.1 x.2.1.2.1 b.1 b.2.1 d.1 d.2.1 d.2.2.1 d.2.2.2.1 x.2.2.1.1 x.2.2.1.2.1 a.1 a.2.1 f.1 f.2.1 f.2.2.1 f.2.2.2.1) (m+1) (((fl:Int),(ca:Int),(),(),(i:Int),()),(Bldg.none.tup,(AI fl i).tup,()))=A (((),(),()),(Bldg.none.tup,(AI fl ca).tup,())):=by
  intro m
  induction m with
  |zero=>
   intro i hi';refine Au ?_;show Hr (fl:Int) (ca:Int) (i:Int) Bldg.none.C0 Bldg.none.F0 Bldg.none.I0 Bldg.none.N0 Bldg.none.K0 Bldg.none.M0 Bldg.none.O0 Bldg.none.B0 (AI fl i).C0 (AI fl i).F0 (AI fl i).I0 (AI fl i).N0 (AI fl i).K0 (AI fl i).M0 (AI fl i).O0 (AI fl i).B0=_;unfold Hr;have e:decide ((i:Int)<(ca:Int))=B:=by simp;omega
   rw[e,show i=ca by omega];rfl
  |succ m ih=>
   intro i hi';refine(Bk (x':=(((fl:Int),(ca:Int),(),(),((i+1:Nat):Int),()),(Bldg.none.tup,(AI fl (i+1)).tup,()))) ?_).trans (ih (i+1) ω)
   show Hr (fl:Int) (ca:Int) (i:Int) Bldg.none.C0 Bldg.none.F0 Bldg.none.I0 Bldg.none.N0 Bldg.none.K0 Bldg.none.M0 Bldg.none.O0 Bldg.none.B0 (AI fl i).C0 (AI fl i).F0 (AI fl i).I0 (AI fl i).N0 (AI fl i).K0 (AI fl i).M0 (AI fl i).O0 (AI fl i).B0=_;unfold Hr;have e:decide ((i:Int)<(ca:Int))=C:=by simp;omega
   have w:J.wrap ((i:Int)+1)=((i+1:Nat):Int):=by rw[Ac ω ω];omega
   have hz:((fl:Int) !=0)=C:=by simp;omega
   have hc:∀c:Car,Nat.ble ((AI fl i).B0.length+[c].length) 2147483648=C:=λc=>At (by simp[AI];omega)
   have ht:Int.tmod (i:Int) (fl:Int)=((i%fl:Nat):Int):=by rw[e2_ ω];norm_cast
   simp only[e,hz,hc,w,ht,d_];have hs:(AI fl (i+1)).B0=(AI fl i).B0++[FD fl i]:=by simp[AI,List.range_succ]
   simp only[Bldg.tup,hs];rfl
 unfold Oh;have h0:Jt (((fl:Int),(ca:Int),(),(),(0:Int),()),(Bldg.none.tup,(AI fl 0).tup,()))=_:=Ah (key ca 0 ω) ω
 rw[show Jt (((fl:Int),(ca:Int),(),(),(0:Int),()),(((0:Int),(0:Int),(0:Int),(0:Int),0,0,0,([]:List Car),()),((fl:Int),(1:Int),(4000:Int),(30:Int),4591870180066957722,4605380978949069210,4607632778762754458,([]:List Car),()),()))=_ from h0]
 rfl
def Kl(fl ca:Nat)(room:Int):Bldg:={ AI fl ca with I0:=18*(ca:Int)+24+room }
def Aqy{fl ca:Nat}(h1:2≤fl)(h2:fl≤8)(h3:1≤ca)(h4:ca≤3){room:Int}(hr:0≤room∧room<256):(Kl fl ca room).code=0:=by
 have hl:(Kl fl ca room).B0.length=ca:=by simp[Kl,AI]
 unfold Bldg.code;have e1:inR 2 32 (Kl fl ca room).C0=C:=Am.2 (by simp only[Kl,AI];omega)
 have e2:inR 1 8 ((Kl fl ca room).B0.length:Int)=C:=Am.2 ω
 have e3:inR 1 16 (Kl fl ca room).F0=C:=rfl;have e4:inR 1 10000 (Kl fl ca room).N0=C:=rfl
 have e5:(Kl fl ca room).B0.all (Ce (Kl fl ca room).C0)=C:=by
  rw[F_];intro c hc;obtain⟨i,_,rfl⟩:=c1_.1 hc;have hm:i%fl<fl:=f0_ _ ω
  have:inR 0 (aA J ((fl:Int)-1)) ((i%fl:Nat):Int)=C:=by
   rw[Ac ω ω];exact Am.2 ω
  show Ce (fl:Int) (FD fl i)=C;unfold Ce FD;simp only[this];rfl
 have e6:(Kl fl ca room).loadsOK=C:=by
  show(AI 2 1).loadsOK=C
  kernel_rfl
 have e7:inR (18*((Kl fl ca room).B0.length:Int)+24) 65536 (Kl fl ca room).I0=C:=Am.2 (by rw[hl];simp only[Kl];omega)
 rw[e1,e2,e3,e4,e5,e6,e7];rfl
end Go.Ovl
namespace Go.Ovl
open Go Go.Ab
variable{b:Bldg}{i:Nat}{α:Type}{l:List α}
structure Bldg.small(b:Bldg):Prop where
 lo:2≤b.C0
 hi:b.C0≤8
def u8r(n:Int):Prop:=0≤n∧n<256
def Bp5:u8r 0:=⟨by decide,by decide⟩
def CB(d:α)(hi:i<l.length):l.getD i d∈l:=by
 simp only[l_,i_ hi,Option.getD_some];exact a7_ hi
def Ak6{P:α→Prop}(h:∀e∈l,P e){d:α}(hi:i<l.length):P (l.getD i d):=h _ (CB d hi)
def Ak(h:b.code=0):1≤b.B0.length∧b.B0.length≤8:=by
 unfold Bldg.code at h;cases h1:inR 1 8 (b.B0.length:Int)with
 |true=>have:=Am.1 h1;omega
 |false=>
  rw[h1]at h;cases h2:inR 2 32 b.C0<;>rw[h2]at h<;>simp at h
def Xr(h:b.code=0):18*(b.B0.length:Int)+24≤b.I0∧b.I0≤65536:=by
 unfold Bldg.code at h;cases h1:inR (18*(b.B0.length:Int)+24) 65536 b.I0 with
 |true=>exact Am.1 h1
 |false=>
  rw[h1]at h;simp only[b6_,d_]at h
  revert h
  cases inR 2 32 b.C0<;>cases inR 1 8 (b.B0.length:Int)<;>cases inR 1 16 b.F0<;>cases inR 1 10000 b.N0<;>cases b.B0.all (Ce b.C0)<;>cases b.loadsOK<;>(intro h;simp at h)
def Xu(x y:Int):decide (x<y)=!decide (y≤x):=by by_cases h:y≤x<;>simp[h]<;>omega
def Bku(x y:Int):decide (x≤y)=!decide (y<x):=by by_cases h:y<x<;>simp[h]<;>omega
def noE:I:=Entry.mk 0 0 0 0 B
structure Img where
 D0:List Int
 L0:List Bool
 H0:List Bool
 A0:List Entry
def Img.tup(m:Img):List Int×List Bool×List Bool×List I×Unit:=(m.D0,m.L0,m.H0,m.A0,())
def Img.none:Img:=⟨[],[],[],[]⟩
def Pg(fl floor dir:Int):Bool:=(dir==1&&inR 0 (fl-2) floor)||(dir==2&&inR 1 (fl-1) floor)
def Xn{fl:Int}(h:0≤fl∧fl<100)(floor dir:Int):IT fl floor dir=A ((Pg fl floor dir,()),()):=by
 have w1:J.wrap (fl-1)=fl-1:=Ac ω ω
 have w2:J.wrap (fl-2)=fl-2:=Ac ω ω
 have k:∀H hi:Int,BN H hi [floor]=A ((inR H hi floor,()),()):=λH hi=>by
  rw[BZ H hi (show [floor].length≤maxLen from(show 1≤maxLen by decide))];simp
 unfold IT Pg;rw[w1,w2,k,k];cases dir==1<;>cases dir==2<;>cases inR 0 (fl-2) floor<;>rfl
def Aj(b:Bldg)(floor dir:Int):Bool:=b.code==0&&Pg b.C0 floor dir
def LQ(hb:b.small)(floor dir:Int):Fu b.C0 b.F0 b.I0 b.N0 b.K0 b.M0 b.O0 b.B0 floor dir=A ((Aj b floor dir,()),()):=by
 unfold Fu Aj;rw[Be,Xn ⟨by have:=hb.lo;omega,by have:=hb.hi;omega⟩]
 simp only[E];cases b.code==0<;>rfl
def KP(hb:b.small)(floor dir:Int):Hz b.C0 b.F0 b.I0 b.N0 b.K0 b.M0 b.O0 b.B0 floor dir=A ((Aj b floor dir,()),()):=by
 have H:=hb.lo;have hi:=hb.hi;have w1:J.wrap (b.C0-1)=b.C0-1:=Ac ω ω
 have w2:J.wrap (b.C0-2)=b.C0-2:=Ac ω ω
 unfold Hz Aj Pg;rw[Hq,w1,w2,KT,KT];simp only[E,bne];cases b.code==0<;>cases dir==1<;>cases dir==2<;>cases inR 0 (b.C0-2) floor<;>rfl
def GQ(b:Bldg)(e:I):Bool:=Aj b e.E0 e.J0&&(decide (-2≤e.S0)&&(decide (e.S0<(b.B0.length:Int))&&(decide (0≤e.B1)&&decide (e.B1≤255))))
def Afj(hb:b.small)(e:I):Nb b.C0 b.F0 b.I0 b.N0 b.K0 b.M0 b.O0 b.B0 e.E0 e.J0 e.S0 e.B1 e.S1=A ((GQ b e,()),()):=by
 unfold Nb GQ;rw[LQ hb];simp only[E];cases Aj b e.E0 e.J0<;>cases decide (-2≤e.S0)<;>cases decide (e.S0<(b.B0.length:Int))<;>cases decide (0≤e.B1)<;>rfl
def Bi(a b:I):Bool:=decide (a.E0<b.E0)||(a.E0==b.E0&&decide (a.J0<b.J0))
def Aoh(a b:I):Ov a.E0 a.J0 a.S0 a.B1 a.S1 b.E0 b.J0 b.S0 b.B1 b.S1=A ((Bi a b,()),()):=by
 unfold Ov Bi;cases decide (a.E0<b.E0)<;>cases a.E0==b.E0<;>rfl
def VO(x y:Int):Int:=bif decide (x<y)then -1 else bif decide (y<x)then 1 else 0
def Hs(x y:Int):Eb x y=A ((VO x y,()),()):=by
 unfold Eb Lh VO;simp only[E,N_,c_];cases decide (x<y)<;>cases decide (y<x)<;>rfl
def Xq(x y:Int):LE [x,y]=A (((bif x !=0 then x else y),()),()):=by
 have r:∀(l:List Int) (i:Nat),i<l.length→l.length<100→Jw 0 l (l.length:Int) (i:Int)=A (bif l.getD i 0 !=0 then Sum.inr (Sum.inr ((l.getD i 0,()),()))else Sum.inl (((0:Int),l,(l.length:Int),((i+1:Nat):Int),()),())):=λl i hi hl=>by
  have w:J.wrap ((i:Int)+1)=((i+1:Nat):Int):=by rw[Ac ω ω];omega
  unfold Jw;rw[b_ (ω:(i:Int)<(l.length:Int)),Aa (ω:(0:Int)≤(i:Int)) (ω:(i:Int)<(l.length:Int)),j_,w]
  simp only[d_];cases l.getD i 0 !=0<;>rfl
 have r0:Jw 0 [x,y] 2 0=A (bif x !=0 then Sum.inr (Sum.inr ((x,()),()))else Sum.inl (((0:Int),[x,y],(2:Int),(1:Int),()),())):=r [x,y] 0 (by simp) (by simp)
 have r1:Jw 0 [x,y] 2 1=A (bif y !=0 then Sum.inr (Sum.inr ((y,()),()))else Sum.inl (((0:Int),[x,y],(2:Int),(2:Int),()),())):=r [x,y] 1 (by simp) (by simp)
 have h:Ms (((0:Int),[x,y],(2:Int),(0:Int),()),())=A (bif x !=0 then .inr ((x,()),())else bif y !=0 then .inr ((y,()),())else .inl (((0:Int),()),())):=by
  refine Ah (f:=3) ?_ ω
  cases hx:x !=0 with
  |true=>rw[hx]at r0;exact Au r0
  |false=>
   rw[hx]at r0;refine(Bk r0).trans ?_;cases hy:y !=0 with
   |true=>rw[hy]at r1;exact Au r1
   |false=>rw[hy]at r1;exact(Bk r1).trans (Au rfl)
 unfold LE;rw[show((([x,y]:List Int).length:Nat):Int)=2 from rfl,h]
 cases hx:x !=0 with
 |true=>rfl
 |false=>
  cases hy:y !=0 with
  |true=>rfl
  |false=>
   have:y=0:=by simpa using hy
   subst this;rfl
def Qa(a b:I):∃n:Int,HW a.E0 a.J0 a.S0 a.B1 a.S1 b.E0 b.J0 b.S0 b.B1 b.S1=A ((n,()),())∧decide (0≤n)=!Bi a b∧(n=0↔a.E0=b.E0∧a.J0=b.J0):=by
 unfold HW;rw[Hs,Hs];simp only[E];rw[Xq];refine⟨_,rfl,?_,?_⟩
 ·unfold Bi VO
  by_cases h1:a.E0<b.E0
  ·rw[b_ h1];rfl
  ·rw[e_ h1]
   by_cases h2:b.E0<a.E0
   ·rw[b_ h2,Ar (ω:¬a.E0=b.E0)];rfl
   ·rw[e_ h2,show(a.E0==b.E0)=C by simp;omega]
    by_cases h3:a.J0<b.J0
    ·rw[b_ h3];rfl
    ·rw[e_ h3]
     cases decide (b.J0<a.J0)<;>rfl
 ·unfold VO
  by_cases h1:a.E0<b.E0
  ·rw[b_ h1]
   exact⟨(λh=>by cases h),(λh=>by omega)⟩
  ·rw[e_ h1]
   by_cases h2:b.E0<a.E0
   ·rw[b_ h2]
    exact⟨(λh=>by cases h),(λh=>by omega)⟩
   ·rw[e_ h2]
    by_cases h3:a.J0<b.J0
    ·rw[b_ h3];exact⟨(λh=>by cases h),(λh=>by omega)⟩
    ·rw[e_ h3]
     by_cases h4:b.J0<a.J0
     ·rw[b_ h4];exact⟨(λh=>by cases h),(λh=>by omega)⟩
     ·rw[e_ h4];exact⟨λ_=>⟨ω,ω⟩,λ_=>rfl⟩
def Em(b:Bldg):Option I→List I→Bool
 |_,[]=>C
 |p,e::t=>GQ b e&&((match p with | some q=>Bi q e | none=>C)&&Em b (A e) t)
def Img.ok(b:Bldg)(m:Img):Bool:=
 b.code==0&&((m.D0.length:Int)==(b.B0.length:Int)&&((m.L0.length:Int)==(b.B0.length:Int)&&((m.H0.length:Int)==(b.B0.length:Int)&&(m.D0.all (inR 0 4)&&Em b Option.none m.A0))))
def Jg(l:List I)(i:Nat):Option I:=if i=0 then O else A (l.getD (i-1) noE)
def Ach{l:List I}(h:i<l.length):Em b (Jg l i) (l.drop i)=(GQ b (l.getD i noE)&&((match Jg l i with | some q=>Bi q (l.getD i noE) | none=>C)&&Em b (Jg l (i+1)) (l.drop (i+1)))):=by
 rw[Bw noE h];simp only[Em,Jg,Nat.succ_ne_zero,e7_,Nat.add_sub_cancel]
section
variable{b:Bldg}(hb:b.small)(m:Img)
include hb
theorem Ail(hm:m.A0.length≤maxLen):Lu (((),(),m.A0,(m.A0.length:Int),(0:Int),()),(b.tup,m.tup,()))=A (if Em b O m.A0 then .inl ((),())else .inr ((B,()),())):=by
 have hmx:maxLen≤9223372036854775807:=by decide
 have key:∀(k i:Nat),i+k=m.A0.length→Bz (λx=>letI a:=x.2.1.2.2;letI c:=a.2.2;letI d:=x.2.2.1;Fi x.1.2.2.1 x.1.2.2.2.1 x.1.2.2.2.2.1 x.2.1.1 x.2.1.2.1 a.1 a.2.1 c.1 c.2.1 c.2.2.1 c.2.2.2.1 d.1 d.2.1 d.2.2.1 d.2.2.2.1) (k+1) (((),(),m.A0,(m.A0.length:Int),(i:Int),()),(b.tup,m.tup,()))=A (if Em b (Jg m.A0 i) (m.A0.drop i)then .inl ((),())else .inr ((B,()),())):=by
  intro k
  induction k with
  |zero=>
   intro i hi;refine Au ?_;show Fi m.A0 (m.A0.length:Int) (i:Int) b.C0 b.F0 b.I0 b.N0 b.K0 b.M0 b.O0 b.B0 m.D0 m.L0 m.H0 m.A0=_;unfold Fi;have e:decide ((i:Int)<(m.A0.length:Int))=B:=by simp;omega
   rw[e,show i=m.A0.length by omega,a4_];rfl
  |succ k ih=>
   intro i hi;have hi':i<m.A0.length:=ω
   have e:decide ((i:Int)<(m.A0.length:Int))=C:=by simp;omega
   have ib:inB (i:Int) m.A0.length=C:=Aa ω ω
   have w:J.wrap ((i:Int)+1)=((i+1:Nat):Int):=by rw[Ac ω ω];omega
   have go:∀p:Bool,(Fi m.A0 (m.A0.length:Int) (i:Int) b.C0 b.F0 b.I0 b.N0 b.K0 b.M0 b.O0 b.B0 m.D0 m.L0 m.H0 m.A0=A (bif p then .inr (.inr ((B,()),()))else .inl (((),(),m.A0,(m.A0.length:Int),((i+1:Nat):Int),()),(b.tup,m.tup,()))))→(Em b (Jg m.A0 i) (m.A0.drop i)=(!p&&Em b (Jg m.A0 (i+1)) (m.A0.drop (i+1))))→Bz (λx=>letI a:=x.2.1.2.2;letI c:=a.2.2;letI d:=x.2.2.1;Fi x.1.2.2.1 x.1.2.2.2.1 x.1.2.2.2.2.1 x.2.1.1 x.2.1.2.1 a.1 a.2.1 c.1 c.2.1 c.2.2.1 c.2.2.2.1 d.1 d.2.1 d.2.2.1 d.2.2.2.1) (k+1+1) (((),(),m.A0,(m.A0.length:Int),(i:Int),()),(b.tup,m.tup,()))=A (if Em b (Jg m.A0 i) (m.A0.drop i)then .inl ((),())else .inr ((B,()),())):=λp h1 h2=>by
    rw[h2];cases p with
    |true=>exact Au h1
    |false=>rw[b6_,o_];exact(Bk h1).trans (ih (i+1) ω)
   have hstep:=Ach (b:=b) hi';have he:=Afj hb (m.A0.getD i noE);unfold noE at he;refine go (!(GQ b (m.A0.getD i noE)&&(match Jg m.A0 i with | some q=>Bi q (m.A0.getD i noE) | none=>C))) ?_ (by rw[hstep,Bool.not_not,aC])
   unfold Fi;rw[e,ib];simp only[d_,j_,he,E];cases hk:GQ b (m.A0.getD i noE)with
   |false=>
    unfold noE at hk;rw[hk];rfl
   |true=>
    unfold noE at hk;rw[hk];simp only[m_,c_,o_];by_cases g:(0:Int)<(i:Int)
    ·have w1:J.wrap ((i:Int)-1)=((i-1:Nat):Int):=by rw[Ac ω ω];omega
     have ib1:inB ((i-1:Nat):Int) m.A0.length=C:=Aa ω ω
     rw[b_ g,w1,ib1];obtain⟨n,c1,c2,_⟩:=Qa (m.A0.getD (i-1) noE) (m.A0.getD i noE);unfold noE at c1;simp only[d_,j_,c1,E,w,c2];rw[show Jg m.A0 i=A (m.A0.getD (i-1) noE)from if_neg ω]
     simp only;cases Bi (m.A0.getD (i-1) noE) (m.A0.getD i noE)<;>rfl
    ·have:i=0:=ω
     subst this;rw[e_ g];simp only[c_,E,w];rfl
 have h:=Ah (key m.A0.length 0 ω) ω
 exact h
theorem Aiy(n:Int)(hn:n=(b.B0.length:Int))(hm:m.A0.length≤maxLen):Lx (((),(),n,(0:Int),()),(b.tup,m.tup,()))=A (if Em b O m.A0 then .inl ((),())else .inr ((B,()),())):=by
 have hmx:maxLen≤9223372036854775807:=by decide
 have key:∀(k i:Nat),i+k=m.A0.length→Bz (λx=>letI a:=x.2.1.2.2;letI c:=a.2.2;letI d:=x.2.2.1;Fm x.1.2.2.1 x.1.2.2.2.1 x.2.1.1 x.2.1.2.1 a.1 a.2.1 c.1 c.2.1 c.2.2.1 c.2.2.2.1 d.1 d.2.1 d.2.2.1 d.2.2.2.1) (k+1) (((),(),n,(i:Int),()),(b.tup,m.tup,()))=A (if Em b (Jg m.A0 i) (m.A0.drop i)then .inl ((),())else .inr ((B,()),())):=by
  intro k
  induction k with
  |zero=>
   intro i hi;refine Au ?_;show Fm n (i:Int) b.C0 b.F0 b.I0 b.N0 b.K0 b.M0 b.O0 b.B0 m.D0 m.L0 m.H0 m.A0=_;unfold Fm;have e:decide ((i:Int)<(m.A0.length:Int))=B:=by simp;omega
   rw[e,show i=m.A0.length by omega,a4_];rfl
  |succ k ih=>
   intro i hi;have hi':i<m.A0.length:=ω
   have e:decide ((i:Int)<(m.A0.length:Int))=C:=by simp;omega
   have ib:inB (i:Int) m.A0.length=C:=Aa ω ω
   have w:J.wrap ((i:Int)+1)=((i+1:Nat):Int):=by rw[Ac ω ω];omega
   have go:∀p:Bool,(Fm n (i:Int) b.C0 b.F0 b.I0 b.N0 b.K0 b.M0 b.O0 b.B0 m.D0 m.L0 m.H0 m.A0=A (bif p then .inr (.inr ((B,()),()))else .inl (((),(),n,((i+1:Nat):Int),()),(b.tup,m.tup,()))))→(Em b (Jg m.A0 i) (m.A0.drop i)=(!p&&Em b (Jg m.A0 (i+1)) (m.A0.drop (i+1))))→Bz (λx=>letI a:=x.2.1.2.2;letI c:=a.2.2;letI d:=x.2.2.1;Fm x.1.2.2.1 x.1.2.2.2.1 x.2.1.1 x.2.1.2.1 a.1 a.2.1 c.1 c.2.1 c.2.2.1 c.2.2.2.1 d.1 d.2.1 d.2.2.1 d.2.2.2.1) (k+1+1) (((),(),n,(i:Int),()),(b.tup,m.tup,()))=A (if Em b (Jg m.A0 i) (m.A0.drop i)then .inl ((),())else .inr ((B,()),())):=λp h1 h2=>by
    rw[h2];cases p with
    |true=>exact Au h1
    |false=>rw[b6_,o_];exact(Bk h1).trans (ih (i+1) ω)
   have hstep:=Ach (b:=b) hi';have hc:=KP hb (m.A0.getD i noE).E0 (m.A0.getD i noE).J0;refine go (!(GQ b (m.A0.getD i noE)&&(match Jg m.A0 i with | some q=>Bi q (m.A0.getD i noE) | none=>C))) ?_ (by rw[hstep,Bool.not_not,aC])
   unfold Fm;rw[e,ib,show(Entry.mk 0 0 0 0 B)=noE from rfl]
   simp only[d_,j_,hc,E];unfold GQ;have q1:decide ((m.A0.getD i noE).S0< -2)=!decide (-2≤(m.A0.getD i noE).S0):=Xu _ _;have q2:decide (n≤(m.A0.getD i noE).S0)=!decide ((m.A0.getD i noE).S0<(b.B0.length:Int)):=by rw[hn];exact Bku _ _
   have q3:decide ((m.A0.getD i noE).B1<0)=!decide (0≤(m.A0.getD i noE).B1):=Xu _ _;have q4:decide (255<(m.A0.getD i noE).B1)=!decide ((m.A0.getD i noE).B1≤255):=Xu _ _;rw[q1,q2,q3,q4];cases Aj b (m.A0.getD i noE).E0 (m.A0.getD i noE).J0 with
   |false=>rfl
   |true=>
    cases decide (-2≤(m.A0.getD i noE).S0)with
    |false=>rfl
    |true=>
     cases decide ((m.A0.getD i noE).S0<(b.B0.length:Int))with
     |false=>rfl
     |true=>
      cases decide (0≤(m.A0.getD i noE).B1)with
      |false=>rfl
      |true=>
       cases decide ((m.A0.getD i noE).B1≤255)with
       |false=>rfl
       |true=>
        simp only[m_,c_,S_,o_];by_cases g:(0:Int)<(i:Int)
        ·have w1:J.wrap ((i:Int)-1)=((i-1:Nat):Int):=by rw[Ac ω ω];omega
         have ib1:inB ((i-1:Nat):Int) m.A0.length=C:=Aa ω ω
         have hl:=Aoh (m.A0.getD (i-1) noE) (m.A0.getD i noE);rw[b_ g,w1,ib1];simp only[d_,j_,hl,E,w];rw[show Jg m.A0 i=A (m.A0.getD (i-1) noE)from if_neg ω]
         simp only;cases Bi (m.A0.getD (i-1) noE) (m.A0.getD i noE)<;>rfl
        ·have:i=0:=ω
         subst this;rw[e_ g];simp only[c_,E,w];rfl
 have h:=Ah (key m.A0.length 0 ω) ω
 exact h
omit hb in
theorem Aik(hm:m.D0.length≤maxLen):Ls (((),(),m.D0,(m.D0.length:Int),(0:Int),()),(b.tup,m.tup,()))=A (if m.D0.all (inR 0 4)then .inl (((),(),()),(b.tup,m.tup,()))else .inr ((B,()),())):=by
 have hmx:maxLen≤9223372036854775807:=by decide
 have key:∀(k i:Nat),i+k=m.D0.length→Bz (λx=>letI a:=x.2.1.2.2;letI c:=a.2.2;letI d:=x.2.2.1;GM x.1.2.2.1 x.1.2.2.2.1 x.1.2.2.2.2.1 x.2.1.1 x.2.1.2.1 a.1 a.2.1 c.1 c.2.1 c.2.2.1 c.2.2.2.1 d.1 d.2.1 d.2.2.1 d.2.2.2.1) (k+1) (((),(),m.D0,(m.D0.length:Int),(i:Int),()),(b.tup,m.tup,()))=A (if(m.D0.drop i).all (inR 0 4)then .inl (((),(),()),(b.tup,m.tup,()))else .inr ((B,()),())):=by
  intro k
  induction k with
  |zero=>
   intro i hi;refine Au ?_;show GM m.D0 (m.D0.length:Int) (i:Int) b.C0 b.F0 b.I0 b.N0 b.K0 b.M0 b.O0 b.B0 m.D0 m.L0 m.H0 m.A0=_;unfold GM;have e:decide ((i:Int)<(m.D0.length:Int))=B:=by simp;omega
   rw[e,show i=m.D0.length by omega,a4_];rfl
  |succ k ih=>
   intro i hi;have hi':i<m.D0.length:=ω
   have e:decide ((i:Int)<(m.D0.length:Int))=C:=by simp;omega
   have ib:inB (i:Int) m.D0.length=C:=Aa ω ω
   have w:J.wrap ((i:Int)+1)=((i+1:Nat):Int):=by rw[Ac ω ω];omega
   rw[Bw (0:Int) hi',X_]
   have hs:GM m.D0 (m.D0.length:Int) (i:Int) b.C0 b.F0 b.I0 b.N0 b.K0 b.M0 b.O0 b.B0 m.D0 m.L0 m.H0 m.A0=A (bif inR 0 4 (m.D0.getD i 0)then .inl (((),(),m.D0,(m.D0.length:Int),((i+1:Nat):Int),()),(b.tup,m.tup,()))else .inr (.inr ((B,()),()))):=by
    unfold GM;rw[e,ib,w];simp only[d_,j_];unfold inR;by_cases g1:m.D0.getD i 0<0
    ·rw[b_ g1,e_ (ω:¬0≤m.D0.getD i 0)];rfl
    ·rw[e_ g1,b_ (ω:0≤m.D0.getD i 0)]
     by_cases g2:4<m.D0.getD i 0
     ·rw[b_ g2,e_ (ω:¬m.D0.getD i 0≤4)];rfl
     ·rw[e_ g2,b_ (ω:m.D0.getD i 0≤4)];rfl
   cases hq:inR 0 4 (m.D0.getD i 0)with
   |true=>rw[hq]at hs;exact(Bk hs).trans (ih (i+1) ω)
   |false=>rw[hq]at hs;exact Au hs
 have h:=Ah (key m.D0.length 0 ω) ω
 exact h
omit hb in
theorem Aix(n:Int)(hn:n=(m.D0.length:Int))(hm:m.D0.length≤maxLen):Lw (((),(),n,(0:Int),()),(b.tup,m.tup,()))=A (if m.D0.all (inR 0 4)then .inl (((),(),n,()),(b.tup,m.tup,()))else .inr ((B,()),())):=by
 have hmx:maxLen≤9223372036854775807:=by decide
 subst hn
 have key:∀(k i:Nat),i+k=m.D0.length→Bz (λx=>letI a:=x.2.1.2.2;letI c:=a.2.2;letI d:=x.2.2.1;GO x.1.2.2.1 x.1.2.2.2.1 x.2.1.1 x.2.1.2.1 a.1 a.2.1 c.1 c.2.1 c.2.2.1 c.2.2.2.1 d.1 d.2.1 d.2.2.1 d.2.2.2.1) (k+1) (((),(),(m.D0.length:Int),(i:Int),()),(b.tup,m.tup,()))=A (if(m.D0.drop i).all (inR 0 4)then .inl (((),(),(m.D0.length:Int),()),(b.tup,m.tup,()))else .inr ((B,()),())):=by
  intro k
  induction k with
  |zero=>
   intro i hi;refine Au ?_;show GO (m.D0.length:Int) (i:Int) b.C0 b.F0 b.I0 b.N0 b.K0 b.M0 b.O0 b.B0 m.D0 m.L0 m.H0 m.A0=_;unfold GO;have e:decide ((i:Int)<(m.D0.length:Int))=B:=by simp;omega
   rw[e,show i=m.D0.length by omega,a4_];rfl
  |succ k ih=>
   intro i hi;have hi':i<m.D0.length:=ω
   have e:decide ((i:Int)<(m.D0.length:Int))=C:=by simp;omega
   have ib:inB (i:Int) m.D0.length=C:=Aa ω ω
   have w:J.wrap ((i:Int)+1)=((i+1:Nat):Int):=by rw[Ac ω ω];omega
   rw[Bw (0:Int) hi',X_]
   have hs:GO (m.D0.length:Int) (i:Int) b.C0 b.F0 b.I0 b.N0 b.K0 b.M0 b.O0 b.B0 m.D0 m.L0 m.H0 m.A0=A (bif inR 0 4 (m.D0.getD i 0)then .inl (((),(),(m.D0.length:Int),((i+1:Nat):Int),()),(b.tup,m.tup,()))else .inr (.inr ((B,()),()))):=by
    unfold GO;rw[e,ib,w];simp only[d_,j_];unfold inR;by_cases g1:m.D0.getD i 0<0
    ·rw[b_ g1,e_ (ω:¬0≤m.D0.getD i 0)];rfl
    ·rw[e_ g1,b_ (ω:0≤m.D0.getD i 0)]
     by_cases g2:4<m.D0.getD i 0
     ·rw[b_ g2,e_ (ω:¬m.D0.getD i 0≤4)];rfl
     ·rw[e_ g2,b_ (ω:m.D0.getD i 0≤4)];rfl
   cases hq:inR 0 4 (m.D0.getD i 0)with
   |true=>rw[hq]at hs;exact(Bk hs).trans (ih (i+1) ω)
   |false=>rw[hq]at hs;exact Au hs
 have h:=Ah (key m.D0.length 0 ω) ω
 exact h
theorem CL(hp:m.D0.length≤maxLen)(he:m.A0.length≤maxLen):Cf b.C0 b.F0 b.I0 b.N0 b.K0 b.M0 b.O0 b.B0 m.D0 m.L0 m.H0 m.A0=A ((m.ok b,()),()):=by
 unfold Cf Img.ok;rw[Be];simp only[E,bne];cases b.code==0 with
 |false=>rfl
 |true=>
  cases(m.D0.length:Int)==(b.B0.length:Int)with
  |false=>rfl
  |true=>
   cases(m.L0.length:Int)==(b.B0.length:Int)with
   |false=>rfl
   |true=>
    cases(m.H0.length:Int)==(b.B0.length:Int)with
    |false=>rfl
    |true=>
     have h0:=Aik (b:=b) m hp;have h1:=Ail hb m he;unfold Bldg.tup Img.tup at h0 h1;simp only[m_,c_,h0,E,o_];cases m.D0.all (inR 0 4)with
     |false=>rfl
     |true=>
      simp only[g2_,h1,E,o_];cases Em b O m.A0<;>rfl
theorem Qc(hp:m.D0.length≤maxLen)(he:m.A0.length≤maxLen):GY b.C0 b.F0 b.I0 b.N0 b.K0 b.M0 b.O0 b.B0 m.D0 m.L0 m.H0 m.A0=A ((m.ok b,()),()):=by
 unfold GY Img.ok;rw[Hq];simp only[E,bne];cases b.code==0 with
 |false=>rfl
 |true=>
  cases hq:(m.D0.length:Int)==(b.B0.length:Int)with
  |false=>rfl
  |true=>
   cases(m.L0.length:Int)==(b.B0.length:Int)with
   |false=>rfl
   |true=>
    cases(m.H0.length:Int)==(b.B0.length:Int)with
    |false=>rfl
    |true=>
     have hq':(m.D0.length:Int)=(b.B0.length:Int):=by simpa using hq
     have h0:=Aix (b:=b) m (b.B0.length:Int) hq'.symm hp;have h1:=Aiy hb m (b.B0.length:Int) rfl he;unfold Bldg.tup Img.tup at h0 h1;simp only[m_,c_,h0,E,o_];cases m.D0.all (inR 0 4)with
     |false=>rfl
     |true=>
      simp only[g2_,h1,E,o_];cases Em b O m.A0<;>rfl
end
def Ahp(n H hi:Int):NE n H hi=A ((inR H hi n,()),()):=by
 unfold NE inR;cases decide (H≤n)<;>rfl
def Tb(b:Bldg)(r:Record):Bool:=inR 0 ((b.B0.length:Int)-1) r.S0&&(r.E0==0&&r.J0==0)
def Ay(b:Bldg)(r:Record):Bool:=
 b.code==0&&(bif r.U0==1 then Aj b r.E0 r.J0&&(r.S0==0&&r.E2==0)
 else bif r.U0==2 then Aj b r.E0 r.J0&&(r.S0==0&&r.E2==0)
 else bif r.U0==3 then Aj b r.E0 r.J0&&(inR (-2) ((b.B0.length:Int)-1) r.S0&&r.E2==0)
 else bif r.U0==4 then Tb b r&&inR 0 4 r.E2
 else bif r.U0==5 then Tb b r&&inR 0 1 r.E2
 else bif r.U0==6 then Tb b r&&inR 0 1 r.E2
 else bif r.U0==7 then Aj b r.E0 r.J0&&(inR 0 1 r.S0&&inR 0 255 r.E2)
 else B)
def Ame(hb:b.small)(hc:b.B0.length≤100)(r:Record):KV b.C0 b.F0 b.I0 b.N0 b.K0 b.M0 b.O0 b.B0 r.U0 r.E0 r.J0 r.S0 r.E2=A ((Ay b r,()),()):=by
  have w:J.wrap ((b.B0.length:Int)-1)=(b.B0.length:Int)-1:=Ac ω ω
  unfold KV Ay Tb;rw[Hq,KP hb,Ahp,w];simp only[E,bne,Ahp];cases b.code==0 with
  |false=>rfl
  |true=>
    simp only[m_,c_,o_]
    have k:∀(q:Bool) {x y z:Option ((Bool×Unit)×Unit)}{u v:Bool},(q=C→x=A ((u,()),()))→(q=B→y=A ((v,()),()))→(bif q then x else y)=A (((bif q then u else v),()),()):=λq _ _ _ _ _ h1 h2=>by
      cases q
      · exact h2 rfl
      · exact h1 rfl
    cases inR 0 ((b.B0.length:Int)-1) r.S0<;>cases r.E0==0<;>cases r.J0==0<;>
      (simp only[d_,c_,E,S_,c5_,b7_,a3_,o_]
       refine k _ (z:=O) (λ_=>?_) λ_=>k _ (z:=O) (λ_=>?_) λ_=>k _ (z:=O) (λ_=>?_) λ_=>k _ (z:=O) (λ_=>?_) λ_=>k _ (z:=O) (λ_=>?_) λ_=>k _ (z:=O) (λ_=>?_) λ_=>k _ (z:=O) (λ_=>?_) λ_=>?_
       all_goals first
         |rfl
         |(cases Aj b r.E0 r.J0<;>cases r.S0==0<;>rfl)
         |(cases Aj b r.E0 r.J0<;>cases inR 0 1 r.S0<;>rfl)
         |(rw[w];cases Aj b r.E0 r.J0<;>cases inR (-2) ((b.B0.length:Int)-1) r.S0<;>rfl))
def isC(F D:Int)(e:I):Bool:=e.E0==F&&e.J0==D
def DD(F D:Int):List I→Nat→Int
 |[],_=>-1
 |e::t,i=>bif isC F D e then(i:Int)else DD F D t (i+1)
def Wf(F D:Int):∀(l:List I) (i:Nat),(DD F D l i=-1∧∀e∈l,isC F D e=B)∨∃k:Nat,k<l.length∧DD F D l i=((i+k:Nat):Int)∧isC F D (l.getD k noE)=C
 |[],_=>.inl ⟨rfl,λ_ h=>by cases h⟩
 |e::t,i=>by
  simp only[DD];cases h:isC F D e with
  |true=>exact .inr ⟨0,by simp,rfl,h⟩
  |false=>
   rcases Wf F D t (i+1)with⟨h1,h2⟩ | ⟨k,h1,h2,h3⟩
   ·refine .inl ⟨h1,λx hx=>?_⟩
    rcases y_.1 hx with rfl | hx
    ·exact h
    ·exact h2 x hx
   ·refine .inr ⟨k+1,by simp;omega,?_,h3⟩
    rw[c_,h2];congr 1;omega
def Hh(e:I):Bool→List I→List I
 |d,[]=>bif d then []else [e]
 |true,x::t=>x::Hh e C t
 |false,x::t=>bif Bi e x then e::x::Hh e C t else x::Hh e B t
def Aao(e:I):∀(l:List I) (d:Bool),(Hh e d l).length≤l.length+1
 |[],C=>by simp[Hh]
 |[],B=>by simp[Hh]
 |x::t,C=>by simp only[Hh,x_];have:=Aao e t C;omega
 |x::t,B=>by
  simp only[Hh];cases Bi e x with
  |true=>
   simp only[d_,x_]
   have:∀t:List I,Hh e C t=t:=λt=>by
    induction t with
    |nil=>rfl
    |cons a t ih=>simp only[Hh,ih]
   rw[this];omega
  |false=>simp only[c_,x_];have:=Aao e t B;omega
def Uf(e:I):∀t:List I,Hh e C t=t
 |[]=>rfl
 |a::t=>by simp only[Hh,Uf e t]
def Img.put(m:Img)(l:List I):Img:=⟨m.D0,m.L0,m.H0,l⟩
def Ady(e:I)(c:Int):I:=⟨e.E0,e.J0,c,e.B1,e.S1⟩
def Tz(e:I)(n c:Int):I:=⟨e.E0,e.J0,e.S0,n,c==1⟩
def AD(m:Img)(r:Record):Img:=
 bif r.U0==4 then⟨m.D0.set r.S0.toNat r.E2,m.L0,m.H0,m.A0⟩
 else bif r.U0==5 then⟨m.D0,m.L0.set r.S0.toNat (r.E2==1),m.H0,m.A0⟩
 else bif r.U0==6 then⟨m.D0,m.L0,m.H0.set r.S0.toNat (r.E2==1),m.A0⟩
 else bif DD r.E0 r.J0 m.A0 0==-1 then(bif r.U0==1 then m.put (Hh ⟨r.E0,r.J0,-1,0,B⟩ B m.A0)else m)
 else bif r.U0==2 then m.put (m.A0.take (DD r.E0 r.J0 m.A0 0).toNat++m.A0.drop ((DD r.E0 r.J0 m.A0 0).toNat+1))
 else bif r.U0==3 then m.put (m.A0.set (DD r.E0 r.J0 m.A0 0).toNat (Ady (m.A0.getD (DD r.E0 r.J0 m.A0 0).toNat noE) r.S0))
 else bif r.U0==7 then m.put (m.A0.set (DD r.E0 r.J0 m.A0 0).toNat (Tz (m.A0.getD (DD r.E0 r.J0 m.A0 0).toNat noE) r.E2 r.S0))
 else m
def Xl(b:Bldg)(m:Img)(r:Record):(Unit×Int×Unit)×((List Int×List Bool×List Bool×List I×Unit)×Unit):=
 bif m.ok b&&Ay b r then(((),0,()),((AD m r).tup,()))else(((),1,()),(Img.none.tup,()))
def Aty{r:Record}(h:Ay b r=C)(hk:r.U0=4∨r.U0=5∨r.U0=6):0≤r.S0∧r.S0<(b.B0.length:Int):=by
  unfold Ay Tb at h;have k:∀q:Bool,(r.S0≥0∧r.S0≤(b.B0.length:Int)-1)→0≤r.S0∧r.S0<(b.B0.length:Int):=λ_ h=>by omega
  rcases hk with hk | hk | hk<;>rw[hk]at h<;>
    (simp only[f_]at h
     have h':=h.2;simp only[show((4:Int)==1)=B from rfl,show((4:Int)==2)=B from rfl,show((4:Int)==3)=B from rfl,show((5:Int)==1)=B from rfl,show((5:Int)==2)=B from rfl,show((5:Int)==3)=B from rfl,show((5:Int)==4)=B from rfl,show((6:Int)==1)=B from rfl,show((6:Int)==2)=B from rfl,show((6:Int)==3)=B from rfl,show((6:Int)==4)=B from rfl,show((6:Int)==5)=B from rfl,k_,c_,d_,f_]at h'
     have:=Am.1 h'.1.1
     exact k C ⟨this.1,this.2⟩)
section
variable{b:Bldg}(hb:b.small)(m:Img)(hm:m.A0.length≤1000)(r:Record)
include hb hm
end
end Go.Ovl
