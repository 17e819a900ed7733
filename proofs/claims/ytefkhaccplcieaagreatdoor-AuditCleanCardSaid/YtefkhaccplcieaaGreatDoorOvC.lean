import Derived.Test.YtefkhaccplcieaaGreatDoorOvB
import Derived.Test.YtefkhaccplcieaaGreatDoorOvA
import Derived.Test.YtefkhaccplcieaaGreatDoorDefs4
set_option linter.all false
open Bool renaming false->A,true->B
open Option renaming some->C
open Go.Ovl renaming Entry->E,Record->I
open List renaming range'->H,replicate->J
open Go.IntKind renaming u32->L,wrap->aA,u8->aD,i64->aE
open Int renaming toNat->aB
open Nat renaming ble->aC
open BitVec renaming ofInt->aF,getLsbD_or->aG
namespace Go.Ovl
open Go Go.Ab
set_option maxRecDepth 100000
variable{b:Bldg}{c p:Int×Int}{out:List I}{m:Img}{f:Nat}{d:Int}
def Uu(on:Bool):Int:=bif on then 1 else 0
def Yf(on:Bool):Kg on=C ((Uu on,()),()):=by unfold Kg Uu;cases on<;>rfl
def Afl(on:Bool):OZ on=C ((Uu on,()),()):=by unfold OZ Uu;cases on<;>rfl
def OH(m:Img)(i:Nat):List I:=[⟨4,0,0,i,m.G0.getD i 0⟩,⟨5,0,0,i,Uu (m.O0.getD i A)⟩,⟨6,0,0,i,Uu (m.J0.getD i A)⟩]
def OI(e:E):List I:=[⟨1,e.D0,e.I0,0,0⟩,⟨3,e.D0,e.I0,e.R0,0⟩,⟨7,e.D0,e.I0,Uu e.R1,e.Z0⟩]
def CR(m:Img):List I:=(H 0 m.G0.length).flatMap (OH m)++m.A0.flatMap OI
def HT{α:Type}(f:Nat→List α):∀(k i:Nat) (s:List α),Bo (λi s=>s++f i) k i s=s++(H i k).flatMap f
 |0,i,s=>by simp[Bo]
 |k+1,i,s=>by simp only[Bo];rw[HT f k (i+1),e7_,a3_,O_]
def NE{α β:Type}(f:α→List β)(d:α):∀(l:List α) (i k:Nat),i+k=l.length→(H i k).flatMap (λi=>f (l.getD i d))=(l.drop i).flatMap f
 |l,i,0,h=>by obtain rfl:i=l.length:=ω;simp
 |l,i,k+1,h=>by rw[e7_,a3_,NE f d l (i+1) k ω,BT d (ω:i<l.length),a3_]
def Aej(l:List E):(H 0 l.length).flatMap (λi=>OI (l.getD i noE))=l.flatMap OI:=by rw[NE OI noE l 0 l.length ω,P_]
section
variable{m:Img}(hf:m.fit)
include hf
theorem Zu(ho:out.length≤300000):Lh (((),out,(0:Int),()),(m.tup,()))=C ((out++m.A0.flatMap OI,()),()):=by
 have hl:=hf.e;have h:=AQ (step:=λx=>GG x.1.2.1 x.1.2.2.1 x.2.1.1 x.2.1.2.1 x.2.1.2.2.1 x.2.1.2.2.2.1) m.A0.length (λi s=>(((),s,(i:Int),()),(m.tup,()))) (λi s=>s++OI (m.A0.getD i noE)) (λi s=>s.length=out.length+3*i) (λs=>((s,()),())) (λi s hi hs=>by
  refine⟨?_,by rw[i_,hs];show _+3=_;omega⟩;have b1:∀r r' r'':I,aC (s.length+[r,r',r''].length) 2147483648=B:=λr r' r''=>Az (by show s.length+3≤_;omega);show GG s (i:Int) m.G0 m.O0 m.J0 m.A0=_;unfold GG;simp only[b_ (ω:(i:Int)<(m.A0.length:Int)),Ac (ω:(0:Int)≤(i:Int)) (ω:(i:Int)<(m.A0.length:Int)),d_,h_,Afl,a_,b1,ER hi (show m.A0.length≤AL by unfold AL;omega)];rfl) (λs _=>by
  show GG s (m.A0.length:Int) m.G0 m.O0 m.J0 m.A0=_;unfold GG;simp only[f_ (M_ (m.A0.length:Int)),c_]) m.A0.length 0 out ω rfl
 have h':=Ak h.1 ω;rw[HT,Aej]at h';exact h'
theorem Zt(h1:m.O0.length=m.G0.length)(h2:m.J0.length=m.G0.length):Lg (((),[],(0:Int),()),(m.tup,()))=C (((),(H 0 m.G0.length).flatMap (OH m),()),(m.tup,())):=by
 have hl:=hf.p;have h:=AQ (step:=λx=>GF x.1.2.1 x.1.2.2.1 x.2.1.1 x.2.1.2.1 x.2.1.2.2.1 x.2.1.2.2.2.1) m.G0.length (λi s=>(((),s,(i:Int),()),(m.tup,()))) (λi s=>s++OH m i) (λi s=>s.length=3*i) (λs=>(((),s,()),(m.tup,()))) (λi s hi hs=>by
  refine⟨?_,by rw[i_,hs];show _+3=_;omega⟩;have b1:∀r r' r'':I,aC (s.length+[r,r',r''].length) 2147483648=B:=λr r' r''=>Az (by show s.length+3≤_;omega);show GF s (i:Int) m.G0 m.O0 m.J0 m.A0=_;unfold GF;simp only[b_ (ω:(i:Int)<(m.G0.length:Int)),Ac (ω:(0:Int)≤(i:Int)) (ω:(i:Int)<(m.G0.length:Int)),Ac (ω:(0:Int)≤(i:Int)) (ω:(i:Int)<(m.O0.length:Int)),Ac (ω:(0:Int)≤(i:Int)) (ω:(i:Int)<(m.J0.length:Int)),d_,h_,Afl,a_,b1,ER hi (show m.G0.length≤AL by unfold AL;omega)];rfl) (λs _=>by
  show GF s (m.G0.length:Int) m.G0 m.O0 m.J0 m.A0=_;unfold GF;simp only[f_ (M_ (m.G0.length:Int)),c_];rfl) m.G0.length 0 [] ω rfl
 have h':=Ak h.1 ω;rw[HT,a1_]at h';exact h'
theorem Ze(ho:out.length≤300000):Lf (((),m.A0,(m.A0.length:Int),(0:Int),()),((out,()),()))=C (((),()),((out++m.A0.flatMap OI,()),())):=by
 have hl:=hf.e;have h:=AQ (step:=λx=>GE x.1.2.1 x.1.2.2.1 x.1.2.2.2.1 x.2.1.1) m.A0.length (λi s=>(((),m.A0,(m.A0.length:Int),(i:Int),()),((s,()),()))) (λi s=>s++OI (m.A0.getD i noE)) (λi s=>s.length=out.length+3*i) (λs=>(((),()),((s,()),()))) (λi s hi hs=>by
  refine⟨?_,by rw[i_,hs];show _+3=_;omega⟩;show GE m.A0 (m.A0.length:Int) (i:Int) s=_;have b1:∀r:I,aC (s.length+[r].length) 2147483648=B:=λr=>Az (by rw[G_];omega);have b2:∀r r':I,aC ((s++[r]).length+[r'].length) 2147483648=B:=λr r'=>Az (by rw[i_,G_,G_];omega);have b3:∀r r' r'':I,aC ((s++[r]++[r']).length+[r''].length) 2147483648=B:=λr r' r''=>Az (by rw[i_,i_,G_,G_,G_];omega);unfold GE Il;simp only[b_ (ω:(i:Int)<(m.A0.length:Int)),Ac (ω:(0:Int)≤(i:Int)) (ω:(i:Int)<(m.A0.length:Int)),d_,h_,Yf,a_,b1,b2,b3,ER hi (show m.A0.length≤AL by unfold AL;omega)];simp only[O_];rfl) (λs _=>by
  show GE m.A0 (m.A0.length:Int) (m.A0.length:Int) s=_;unfold GE;simp only[f_ (M_ (m.A0.length:Int)),c_]) m.A0.length 0 out ω rfl
 have h':=Ak h.1 ω;rw[HT,Aej]at h';exact h'
theorem Zd(h1:m.O0.length=m.G0.length)(h2:m.J0.length=m.G0.length):Ld (((),(),(m.G0.length:Int),(0:Int),()),(m.tup,(([]:List I),()),()))=C (((),(),()),(m.tup,((H 0 m.G0.length).flatMap (OH m),()),())):=by
 have hl:=hf.p;have h:=AQ (step:=λx=>GD x.1.2.2.1 x.1.2.2.2.1 x.2.1.1 x.2.1.2.1 x.2.1.2.2.1 x.2.1.2.2.2.1 x.2.2.1.1) m.G0.length (λi s=>(((),(),(m.G0.length:Int),(i:Int),()),(m.tup,(s,()),()))) (λi s=>s++OH m i) (λi s=>s.length=3*i) (λs=>(((),(),()),(m.tup,(s,()),()))) (λi s hi hs=>by
  refine⟨?_,by rw[i_,hs];show _+3=_;omega⟩;show GD (m.G0.length:Int) (i:Int) m.G0 m.O0 m.J0 m.A0 s=_;have b1:∀r:I,aC (s.length+[r].length) 2147483648=B:=λr=>Az (by rw[G_];omega);have b2:∀r r':I,aC ((s++[r]).length+[r'].length) 2147483648=B:=λr r'=>Az (by rw[i_,G_,G_];omega);have b3:∀r r' r'':I,aC ((s++[r]++[r']).length+[r''].length) 2147483648=B:=λr r' r''=>Az (by rw[i_,i_,G_,G_,G_];omega);unfold GD Ik;simp only[b_ (ω:(i:Int)<(m.G0.length:Int)),Ac (ω:(0:Int)≤(i:Int)) (ω:(i:Int)<(m.G0.length:Int)),Ac (ω:(0:Int)≤(i:Int)) (ω:(i:Int)<(m.O0.length:Int)),Ac (ω:(0:Int)≤(i:Int)) (ω:(i:Int)<(m.J0.length:Int)),d_,h_,Yf,a_,b1,b2,b3,ER hi (show m.G0.length≤AL by unfold AL;omega)];simp only[O_];rfl) (λs _=>by
  show GD (m.G0.length:Int) (m.G0.length:Int) m.G0 m.O0 m.J0 m.A0 s=_;unfold GD;simp only[f_ (M_ (m.G0.length:Int)),c_];rfl) m.G0.length 0 [] ω rfl
 have h':=Ak h.1 ω;rw[HT,a1_]at h';exact h'
end
def Uj{α β:Type}(f:α→List β)(hf:∀x,(f x).length=3):∀l:List α,(l.flatMap f).length=3*l.length
 |[]=>rfl
 |a::t=>by rw[a3_,i_,hf,Uj f hf t,C_];omega
def ZB(m:Img)(n:Nat):((H 0 n).flatMap (OH m)).length=3*n:=by rw[Uj _ λ_=>rfl,List.length_range']
def ZC(m:Img):(CR m).length=3*(m.G0.length+m.A0.length):=by unfold CR;rw[i_,ZB,Uj _ λ_=>rfl];omega
def VB(b:Bldg)(m:Img):List I:=bif m.ok b then CR m else []
section
variable{b:Bldg}(hb:b.small){m:Img}(hf:m.fit)
include hb hf
theorem Ae9:Nm b.C0 b.F0 b.H0 b.M0 b.K0 b.L0 b.N0 b.B0 m.G0 m.O0 m.J0 m.A0=C ((VB b m,()),()):=by
 have hmx:100000≤maxLen:=by decide
 have hp:=hf.p;have he:=hf.e;unfold Nm VB;rw[Db hb m ω ω];simp only[a_];cases hok:m.ok b with
 |false=>rfl
 |true=>have hm:=Img.ok_iff.1 hok;have l0:=Zd hf (by rw[hm.lf,hm.lp]) (by rw[hm.ll,hm.lp]);have l1:=Ze hf (out:=(H 0 m.G0.length).flatMap (OH m)) (by rw[ZB];omega);simp only[Img.tup]at l0;simp only[o_,c_,d_,l0,l1,a_];rfl
theorem Afk:Nr b.C0 b.F0 b.H0 b.M0 b.K0 b.L0 b.N0 b.B0 m.G0 m.O0 m.J0 m.A0=C ((VB b m,()),()):=by
 have hmx:100000≤maxLen:=by decide
 have hp:=hf.p;have he:=hf.e;unfold Nr VB;rw[QY hb m ω ω];simp only[a_];cases hok:m.ok b with
 |false=>rfl
 |true=>have hm:=Img.ok_iff.1 hok;have l0:=Zt hf (by rw[hm.lf,hm.lp]) (by rw[hm.ll,hm.lp]);have l1:=Zu hf (out:=(H 0 m.G0.length).flatMap (OH m)) (by rw[ZB];omega);simp only[Img.tup]at l0 l1;simp only[o_,c_,d_,l0,l1,a_];rfl
end
def En(m:Img):∀(a c:List I),Ai m (a++c)=Ai (Ai m a) c
 |[],_=>rfl
 |r::t,c=>by show Ai (Am m r) (t++c)=Ai (Ai (Am m r) t) c;exact En (Am m r) t c
def Aia{α:Type}(l:List α)(z d:α){k n:Nat}(hk:k<n)(hl:l.length=n):(l.take k++J (n-k) z).set k (l.getD k d)=l.take (k+1)++J (n-(k+1)) z:=by
 have h1:(l.take k).length=k:=by rw[v_];omega
 rw[List.set_append_right _ _ ω,h1,Nat.sub_self,show n-k=(n-(k+1))+1 by omega,List.replicate_succ,List.set_cons_zero];have h2:k<l.length:=ω;rw[show l.getD k d=l[k]by simp[h2]];rw[List.take_succ_eq_append_getElem h2,O_];rfl
def Ara(m:Img)(a c d:I):Ai m [a,c,d]=Am (Am (Am m a) c) d:=rfl
def Asa(on:Bool):(Uu on==1)=on:=by cases on<;>rfl
def Aqz{n k:Nat}(hk:k<n)(h1:m.G0.length=n)(h2:m.O0.length=n)(h3:m.J0.length=n):
  Ai ⟨m.G0.take k++J (n-k) 0,m.O0.take k++J (n-k) A,m.J0.take k++J (n-k) A,[]⟩ (OH m k)=⟨m.G0.take (k+1)++J (n-(k+1)) 0,m.O0.take (k+1)++J (n-(k+1)) A,m.J0.take (k+1)++J (n-(k+1)) A,[]⟩:=by
 have e1:=Aia m.G0 0 0 hk h1;have e2:=Aia m.O0 A A hk h2;have e3:=Aia m.J0 A A hk h3;unfold OH;rw[Ara];unfold Am;simp only[show((4:Int)==4)=B from rfl,show((5:Int)==4)=A from rfl,show((5:Int)==5)=B from rfl,show((6:Int)==4)=A from rfl,show((6:Int)==5)=A from rfl,show((6:Int)==6)=B from rfl,d_,c_,h_,Asa,e1,e2,e3]
def Aj5{m:Img}{n:Nat}(h1:m.G0.length=n)(h2:m.O0.length=n)(h3:m.J0.length=n):∀j k:Nat,k+j=n→
  Ai ⟨m.G0.take k++J (n-k) 0,m.O0.take k++J (n-k) A,m.J0.take k++J (n-k) A,[]⟩ ((H k j).flatMap (OH m))=⟨m.G0,m.O0,m.J0,[]⟩
 |0,k,h=>by obtain rfl:k=n:=ω;rw[Nat.sub_self];simp only[List.replicate_zero,a2_];rw[b1_ ω,b1_ ω,b1_ ω];rfl
 |j+1,k,h=>by rw[e7_,a3_,En,Aqz ω h1 h2 h3];exact Aj5 h1 h2 h3 j (k+1) ω
def Aiz{F D:Int}{x:E}(hx:isC F D x=B):∀(l:List E) (i:Nat),(∀e∈l,isC F D e=A)→DR F D (l++[x]) i=((i+l.length:Nat):Int)
 |[],i,_=>by simp[DR,hx]
 |e::t,i,h=>by rw[List.cons_append];simp only[DR];rw[h e (q_ ..),c_,Aiz hx t (i+1) λy hy=>h y (r_ _ hy),C_];congr 1;omega
def Ann{x:E}:∀{l:List E},(∀e∈l,Bp x e=A)→HF x A l=l++[x]
 |[],_=>rfl
 |e::t,h=>by simp only[HF];rw[h e (q_ ..),c_,Ann λy hy=>h y (r_ _ hy)];rfl
def Aq0{e:E}(h:∀x∈m.A0,Bp x e=B):Ai m (OI e)=m.put (m.A0++[e]):=by
 have hn:∀x∈m.A0,isC e.D0 e.I0 x=A:=λx hx=>by
  cases hq:isC e.D0 e.I0 x with
  |false=>rfl
  |true=>
   have:=(XB (c:=e) hq).1
   rw[h x hx]at this;cases this
 have e0:∀(c k:Int) (q:Bool),isC e.D0 e.I0 ⟨e.D0,e.I0,c,k,q⟩=B:=λc k q=>by unfold isC;simp
 have f0:DR e.D0 e.I0 m.A0 0=-1:=Xk hn;have f1:∀(c k:Int) (q:Bool),DR e.D0 e.I0 (m.A0++[⟨e.D0,e.I0,c,k,q⟩]) 0=(m.A0.length:Int):=λc k q=>by rw[Aiz (e0 c k q) _ _ hn,p_]
 have g1:∀x:E,(m.A0++[x]).getD m.A0.length noE=x:=λx=>by simp
 have s1:∀x y:E,(m.A0++[x]).set m.A0.length y=m.A0++[y]:=λx y=>by rw[List.set_append_right _ _ (A_ _),Nat.sub_self];rfl
 have a1:Am m ⟨1,e.D0,e.I0,0,0⟩=m.put (m.A0++[⟨e.D0,e.I0,-1,0,A⟩]):=by unfold Am;rw[f0];simp only[show((1:Int)==4)=A from rfl,show((1:Int)==5)=A from rfl,show((1:Int)==6)=A from rfl,c_,d_,l_];rw[Ann (x:=⟨e.D0,e.I0,-1,0,A⟩) λx hx=>Ajh (show Bp x ⟨e.D0,e.I0,-1,0,A⟩=B from h x hx)]
 have ne:(((m.A0.length:Int))==-1)=A:=Ao ω;have a2:Am (m.put (m.A0++[⟨e.D0,e.I0,-1,0,A⟩])) ⟨3,e.D0,e.I0,e.R0,0⟩=m.put (m.A0++[⟨e.D0,e.I0,e.R0,0,A⟩]):=by unfold Am;simp only[Img.put,f1,ne,show((3:Int)==4)=A from rfl,show((3:Int)==5)=A from rfl,show((3:Int)==6)=A from rfl,show((3:Int)==2)=A from rfl,c_,d_,l_,h_,g1,s1,Afw]
 have a3:Am (m.put (m.A0++[⟨e.D0,e.I0,e.R0,0,A⟩])) ⟨7,e.D0,e.I0,Uu e.R1,e.Z0⟩=m.put (m.A0++[⟨e.D0,e.I0,e.R0,e.Z0,e.R1⟩]):=by unfold Am;simp only[Img.put,f1,ne,show((7:Int)==4)=A from rfl,show((7:Int)==5)=A from rfl,show((7:Int)==6)=A from rfl,show((7:Int)==2)=A from rfl,show((7:Int)==3)=A from rfl,c_,d_,l_,h_,g1,s1,UC,Asa]
 unfold OI;rw[Ara,a1,a2,a3]
def Aj6:∀(l:List E) (m:Img),Bg (m.A0++l)→Ai m (l.flatMap OI)=m.put (m.A0++l)
 |[],m,_=>by simp[Ai,Img.put]
 |e::t,m,h=>by
  have hp:=Ez.1 h;have hlt:∀x∈m.A0,Bp x e=B:=λx hx=>(f9_.1 hp).2.2 x hx e (q_ ..);rw[a3_,En,Aq0 hlt];have h2:Bg ((m.put (m.A0++[e])).A0++t):=by show Bg (m.A0++[e]++t);rw[O_];exact h
  rw[Aj6 t _ h2];show m.put (m.A0++[e]++t)=_;rw[O_];rfl
def Afy(h:ImgOK b m):Ai (EQ b) (CR m)=m:=by unfold CR;rw[En];have h0:=Aj5 (m:=m) h.lp h.lf h.ll b.B0.length 0 ω;simp only[List.take_zero,a1_,Nat.sub_zero]at h0;rw[h.lp];rw[show EQ b=⟨J b.B0.length 0,J b.B0.length A,J b.B0.length A,[]⟩from rfl,h0,Aj6 _ _ (by show Bg ([]++m.A0);exact h.so)];rfl
def XG(on:Bool):0≤Uu on∧Uu on≤1:=by cases on<;>exact⟨τ,τ⟩
def Tr(h:ImgOK b m):∀r∈CR m,Au b r=B:=by
 have hcode:=h.code;intro r hr;unfold CR at hr;rcases n_.1 hr with hr | hr
 ·obtain⟨i,hi,hr⟩:=d0_.1 hr;have hi':i<m.G0.length:=by
   have:=List.mem_range'_1.1 hi
   omega
  have hp:=h.ph _ (BU 0 hi');have hlp:=h.lp;have hcar:∀k v:Int,Ub b ⟨k,0,0,i,v⟩=B:=λk v=>by unfold Ub;rw[As.2 ⟨show(0:Int)≤(i:Int)by omega,show(i:Int)≤(b.B0.length:Int)-1 by omega⟩];rfl
  unfold OH at hr;simp only[s_,h3_,or_false]at hr;rcases hr with rfl | rfl | rfl
  ·unfold Au;rw[hcode,hcar,As.2 hp];rfl
  ·unfold Au;rw[hcode,hcar,As.2 (XG _)];rfl
  ·unfold Au;rw[hcode,hcar,As.2 (XG _)];rfl
 ·obtain⟨e,he,hr⟩:=d0_.1 hr;obtain⟨h1,h2,h3⟩:=CM.1 (h.en e he);unfold OI at hr;simp only[s_,h3_,or_false]at hr;rcases hr with rfl | rfl | rfl
  ·unfold Au;rw[hcode,h1];rfl
  ·unfold Au;rw[hcode,h1,As.2 ⟨h2.1,show e.R0≤(b.B0.length:Int)-1 by omega⟩];rfl
  ·unfold Au;rw[hcode,h1,As.2 (XG _),As.2 h3];rfl
def VW(floor:Int):Int:=L.wrap (1*2^min (aB floor) (IntKind.bits .u32))
def FP(floor dir:Int):Int×Int:=bif inR 0 31 floor then(bif dir==1 then(VW floor,0)else bif dir==2 then(0,VW floor)else(0,0))else(0,0)
def orC(a c:Int):Int:=vb (bv a|||bv c)
def Acv(a c:Int):Int:=vb (bv a&&& ~~~ bv c)
def BV(a c:Int×Int):Int×Int:=(orC a.1 c.1,orC a.2 c.2)
def Ay(a c:Int×Int):Int×Int:=(Acv a.1 c.1,Acv a.2 c.2)
def An(c:Int×Int)(f:Nat)(d:Int):Bool:=bif d==1 then CZ c.1 f else bif d==2 then CZ c.2 f else A
def EW(c:Int×Int):Prop:=(0≤c.1∧c.1<4294967296)∧(0≤c.2∧c.2<4294967296)
def Pi(a c:Int×Int):EW (BV a c):=⟨Lx _,Lx _⟩
def Hi(a c:Int×Int):EW (Ay a c):=⟨Lx _,Lx _⟩
def GO:EW (0,0):=⟨⟨τ,τ⟩,⟨τ,τ⟩⟩
def Yz(i:Nat):CZ 0 i=A:=by unfold CZ bv;simp
def EP(f:Nat)(d:Int):An (0,0) f d=A:=by unfold An;simp only[Yz];cases d==1<;>cases d==2<;>rfl
def GS(a c:Int×Int)(f:Nat)(d:Int):An (BV a c) f d=(An a f d||An c f d):=by unfold An BV orC;simp only[TV,aG];cases d==1<;>cases d==2<;>rfl
def Bk(a c:Int×Int)(hf:f<32)(d:Int):An (Ay a c) f d=(An a f d&&!An c f d):=by unfold An Ay Acv;simp only[TV,f6_,BitVec.getLsbD_not,hf,decide_true,u_];cases d==1<;>cases d==2<;>rfl
def MQ{F D:Int}(hF:0≤F∧F<32)(hD:D=1∨D=2)(f:Nat)(hd:d=1∨d=2):An (FP F D) f d=decide (((f:Int),d)=(F,D)):=by
 have hp:CZ (VW F) f=decide (f=F.toNat):=Ard (k:=F.toNat) ω f;have e:decide (((f:Int),d)=(F,D))=(decide (f=F.toNat)&&decide (d=D)):=by
  rw[Bool.eq_iff_iff,e_,t_,t_,t_,f4_];constructor
  ·rintro⟨h1,h2⟩;exact⟨ω,h2⟩
  ·rintro⟨h1,h2⟩;exact⟨ω,h2⟩
 rw[e];unfold FP An;rw[As.2 ⟨hF.1,show F≤31 by omega⟩];rcases hD with rfl | rfl<;>rcases hd with rfl | rfl
 ·simp[hp]
 ·simp[Yz]
 ·simp[Yz]
 ·simp[hp]
def MU{a:Int×Int}(ha:EW a)(hc:EW c)(h:∀f:Nat,f<32→∀d:Int,(d=1∨d=2)→An a f d=An c f d):a=c:=by have h1:a.1=c.1:=Arc ha.1 hc.1 λi hi=>h i hi 1 (.inl rfl);have h2:a.2=c.2:=Arc ha.2 hc.2 λi hi=>h i hi 2 (.inr rfl);exact Prod.ext h1 h2
def RB(e:E):Prop:=(0≤e.D0∧e.D0<32)∧(e.I0=1∨e.I0=2)
def ofC:List E→Int×Int→Int×Int
 |[],c=>c
 |e::t,c=>ofC t (BV c (FP e.D0 e.I0))
def Aah:∀(l:List E) {c:Int×Int},EW c→EW (ofC l c)
 |[],_,h=>h
 |_::t,_,_=>Aah t (Pi _ _)
def Ahu:∀{l:List E}{c:Int×Int},(∀e∈l,RB e)→∀(f:Nat) {d:Int},(d=1∨d=2)→(An (ofC l c) f d=B↔An c f d=B∨((f:Int),d)∈l.map BS)
 |[],_,_,f,d,_=>by simp[ofC]
 |e::t,c,h,f,d,hd=>by have he:=h e (q_ ..);simp only[ofC];rw[Ahu (λx hx=>h x (r_ _ hx)) f hd,GS,MQ he.1 he.2 f hd,S_,t_,b8_,s_];show(_∨_=(e.D0,e.I0))∨_↔_∨_=(e.D0,e.I0)∨_;exact or_assoc
def LL(c:Int×Int)(f:Nat):List E:=(bif An c f 1 then [⟨(f:Int),1,-1,0,A⟩]else [])++(bif An c f 2 then [⟨(f:Int),2,-1,0,A⟩]else [])
def Aeh(c:Int×Int)(f:Nat):(LL c f).length≤2:=by unfold LL;cases An c f 1<;>cases An c f 2<;>simp
def Ft(c:Int×Int):List E:=(H 0 32).flatMap (LL c)
def XE:p∈(LL c f).map BS↔p.1=(f:Int)∧(p.2=1∨p.2=2)∧An c f p.2=B:=by
 obtain⟨a,d⟩:=p;unfold LL;rw[List.map_append,n_];have h:∀D:Int,(a,d)∈(bif An c f D then [Entry.mk (f:Int) D (-1) 0 A]else []).map BS↔a=(f:Int)∧d=D∧An c f D=B:=λD=>by cases An c f D<;>simp[BS]
 rw[h,h];constructor
 ·rintro(⟨h1,rfl,h3⟩ | ⟨h1,rfl,h3⟩)
  ·exact⟨h1,.inl rfl,h3⟩
  ·exact⟨h1,.inr rfl,h3⟩
 ·rintro⟨h1,h2,h3⟩;simp only at h1 h2 h3;rcases h2 with rfl | rfl
  ·exact .inl ⟨h1,rfl,h3⟩
  ·exact .inr ⟨h1,rfl,h3⟩
def mem_range{i k:Nat}:p∈((H i k).flatMap (LL c)).map BS↔∃f:Nat,(i≤f∧f<i+k)∧p.1=(f:Int)∧(p.2=1∨p.2=2)∧An c f p.2=B:=by
 constructor
 ·intro h;obtain⟨e,he,rfl⟩:=b6_.1 h;obtain⟨f,hf,he⟩:=d0_.1 he;exact⟨f,List.mem_range'_1.1 hf,XE.1 (b6_.2 ⟨e,he,rfl⟩)⟩
 ·rintro⟨f,hf,h⟩;obtain⟨e,he,h2⟩:=b6_.1 (XE.2 h);exact b6_.2 ⟨e,d0_.2 ⟨f,List.mem_range'_1.2 hf,he⟩,h2⟩
def ZD(c:Int×Int):∀k i:Nat,Bg ((H i k).flatMap (LL c))
 |0,i=>by simp[Bg]
 |k+1,i=>by
  unfold Bg;rw[e7_,a3_,List.map_append,f9_];refine⟨?_,ZD c k (i+1),λp hp q hq=>?_⟩
  ·unfold LL;cases An c i 1<;>cases An c i 2<;>simp[BS,ltC]
  ·have h1:=XE.1 hp;obtain⟨f,hf,h2,_⟩:=mem_range.1 hq;left;rw[h1.1,h2];omega
def Kw(floor dir:Int):Em floor dir=C (((),()),(((FP floor dir).1,(FP floor dir).2,()),())):=by
 unfold Em FP inR;by_cases g:0≤floor
 ·by_cases g':floor<32
  ·rw[b_ g,b_ g',b_ (ω:floor≤31)];simp only[d_,a_,a0_,b_ g];cases dir==1<;>cases dir==2<;>rfl
  ·rw[b_ g,f_ g',f_ (ω:¬floor≤31)];rfl
 ·rw[f_ g];rfl
def Fl(a c:Int×Int):Cp a.1 a.2 c.1 c.2=C (((),()),(((BV a c).1,(BV a c).2,()),())):=by unfold Cp;rw[Awu,Awu];rfl
def GI(a c:Int×Int):El a.1 a.2 c.1 c.2=C (((),()),(((Ay a c).1,(Ay a c).2,()),())):=by unfold El;rw[OX,OX];rfl
def Cz(a c:Int×Int):Int×Int:=(vb (bv a.1&&&bv c.1),vb (bv a.2&&&bv c.2))
def WK(a c:Int×Int):EW (Cz a c):=⟨Lx _,Lx _⟩
def Gb(a c:Int×Int):Ct a.1 a.2 c.1 c.2=C (((),()),(((Cz a c).1,(Cz a c).2,()),())):=by unfold Ct;rw[Aap,Aap];rfl
def Jz(a c:Int×Int)(f:Nat)(d:Int):An (Cz a c) f d=(An a f d&&An c f d):=by unfold An Cz;simp only[TV,f6_];cases d==1<;>cases d==2<;>rfl
def isZ(c:Int×Int):Bool:=(c.1==0)&&((c.2==0)&&B)
def KB(hc:EW c):isZ c=B↔∀f:Nat,f<32→∀d:Int,(d=1∨d=2)→An c f d=A:=by
 constructor
 ·intro h f _ d _;unfold isZ at h;simp only[e_,U_]at h;obtain⟨h1,h2,_⟩:=h;rw[show c=(0,0)from Prod.ext h1 h2,EP]
 ·intro h
  have:c=(0,0):=MU hc GO λf hf d hd=>by rw[h f hf d hd,EP]
  rw[this];rfl
def Qg(c:Int×Int){F D:Int}(hF:0≤F∧F<32)(hD:D=1∨D=2):Dy c.1 c.2 F D=C ((An c F.toNat D,()),()):=by
 unfold Dy;rw[Kw];simp only[a_];rw[Gb c (FP F D)];simp only[a_];show C ((!(isZ (Cz c (FP F D))),()),())=_;have e:isZ (Cz c (FP F D))=!An c F.toNat D:=by
  cases h:An c F.toNat D with
  |false=>
   refine(KB (WK _ _)).2 λf hf d hd=>?_;rw[Jz,MQ hF hD f hd];by_cases g:((f:Int),d)=(F,D)
   ·obtain⟨h1,h2⟩:=Prod.mk.inj g;rw[show f=F.toNat by omega,h2,h];rfl
   ·rw[f_ g,c1_]
  |true=>
   cases hz:isZ (Cz c (FP F D))with
   |false=>rfl
   |true=>
    have:=(KB (WK _ _)).1 hz F.toNat ω D hD
    rw[Jz,MQ hF hD F.toNat hD,h,b_ (show(((F.toNat:Nat):Int),D)=(F,D)by rw[f3_ hF.1])]at this;cases this
 rw[e,Bool.not_not]
def Bz(b:Bldg):Int×Int:=(aA L (aA L (1*2^min (aB (b.C0-1)) (IntKind.bits .u32))-1),L.wrap (aA L (aA L (1*2^min (aB (b.C0-1)) (IntKind.bits .u32))-1)*2^min (aB (1:Int)) (IntKind.bits .u32)))
def Lm(hb:b.small)(hcode:b.code=0):Fz b.C0 b.F0 b.H0 b.M0 b.K0 b.L0 b.N0 b.B0=C (((),()),(((Bz b).1,(Bz b).2,()),())):=by have lo:=hb.lo;have hi:=hb.hi;unfold Fz Bz;rw[AR,hcode];simp only[a_,Q_,c_,Aa (n:=b.C0-1) ω ω,b_ (ω:0≤b.C0-1),d_]
def Alj(n:Nat):Int:=L.wrap (aA L (1*2^min n (IntKind.bits .u32))-1)
def Be1:((List.range 9).all λn=>(List.range 32).all λi=>(CZ (Alj n) i==decide (i<n))&&(CZ (aA L (Alj n*2^min (aB 1) (IntKind.bits .u32))) i==(decide (1≤i)&&decide (i≤n))))=B:=κ
def Be2(b:Bldg):EW (Bz b):=by
 have k:∀n:Int,0≤L.wrap n∧L.wrap n<4294967296:=λn=>by simp only[aA,IntKind.signed,IntKind.bits];simp;omega
 exact⟨k _,k _⟩
def Xt(hb:b.small)(hcode:b.code=0)(hf:f<32)(hd:d=1∨d=2):An (Bz b) f d=Ap b (f:Int) d:=by
 have lo:=hb.lo;have hi:=hb.hi;have t:=N_.1 (N_.1 Be1 (b.C0-1).toNat (List.mem_range.2 ω)) f (List.mem_range.2 hf);rw[e_,U_,U_]at t;unfold Ap OA;rw[hcode];rcases hd with rfl | rfl
 ·have e:An (Bz b) f 1=CZ (Alj (b.C0-1).toNat) f:=rfl;rw[e,t.1];unfold inR;rw[b_ (ω:(0:Int)≤(f:Int))];by_cases g:f<(b.C0-1).toNat
  ·rw[b_ g,b_ (ω:(f:Int)≤b.C0-2)];rfl
  ·rw[f_ g,f_ (ω:¬(f:Int)≤b.C0-2)];rfl
 ·have e:An (Bz b) f 2=CZ (aA L (Alj (b.C0-1).toNat*2^min (aB 1) (IntKind.bits .u32))) f:=rfl;rw[e,t.2];unfold inR;by_cases g:1≤f
  ·rw[b_ g,b_ (ω:(1:Int)≤(f:Int))];by_cases g':f≤(b.C0-1).toNat
   ·rw[b_ g',b_ (ω:(f:Int)≤b.C0-1)];rfl
   ·rw[f_ g',f_ (ω:¬(f:Int)≤b.C0-1)];rfl
  ·rw[f_ g,f_ (ω:¬(1:Int)≤(f:Int))];rfl
def Xs(b:Bldg)(i:Nat)(s:Int×Int):Int×Int:=(bif Ap b (i:Int) 1 then orC s.1 (VW (i:Int))else s.1,bif Ap b (i:Int) 2 then orC s.2 (VW (i:Int))else s.2)
def Aqm(hb:b.small)(hcode:b.code=0):SN b.C0 b.F0 b.H0 b.M0 b.K0 b.L0 b.N0 b.B0=C (((),()),(((Bz b).1,(Bz b).2,()),())):=by
 have h:=AQ (step:=λx=>letI a:=x.2.1.2.2;letI c:=a.2.2;Kr x.1.2.2.2.1 x.2.1.1 x.2.1.2.1 a.1 a.2.1 c.1 c.2.1 c.2.2.1 c.2.2.2.1 x.2.2.1.1 x.2.2.1.2.1 x.2.2.2.1.1 x.2.2.2.1.2.1) 32 (λi (s:Int×Int)=>(((),(),(),(i:Int),()),(b.tup,((0:Int),(0:Int),()),(s.1,s.2,()),()))) (Xs b)
  (λi s=>EW s∧∀f:Nat,f<32→∀d:Int,(d=1∨d=2)→An s f d=(decide (f<i)&&Ap b (f:Int) d)) (λs=>(((),(),()),(((0:Int),(0:Int),()),(s.1,s.2,()),()))) (λi s hi hs=>by
  have w:IntKind.u64.wrap (i:Int)=(i:Int):=EG ω ω;have hp:∀j,CZ (VW (i:Int)) j=decide (j=i):=λj=>Ard (k:=i) hi j;refine⟨?_,⟨?_,?_⟩,λf hf d hd=>?_⟩
  ·show Kr (i:Int) b.C0 b.F0 b.H0 b.M0 b.K0 b.L0 b.N0 b.B0 0 0 s.1 s.2=_;unfold Kr Xs;rw[LO hb,b_ (ω:(i:Int)<32)];simp only[a_,d_,w,b_ (ω:(0:Int)≤(i:Int)),Awu];cases Ap b (i:Int) 1 with
   |true=>simp only[d_,a_,LO hb,w,b_ (ω:(0:Int)≤(i:Int)),Aa (n:=(i:Int)+1) ω ω];cases Ap b (i:Int) 2<;>rfl
   |false=>simp only[c_,a_,LO hb,w,b_ (ω:(0:Int)≤(i:Int)),d_,Aa (n:=(i:Int)+1) ω ω];cases Ap b (i:Int) 2<;>rfl
  ·unfold Xs;cases Ap b (i:Int) 1
   ·exact hs.1.1
   ·exact Lx _
  ·unfold Xs;cases Ap b (i:Int) 2
   ·exact hs.1.2
   ·exact Lx _
  ·have hk:=hs.2 f hf d hd;have dk:decide (f<i+1)=(decide (f<i)||decide (f=i)):=by
    rw[Bool.eq_iff_iff,S_,t_,t_,t_];omega
   rw[dk];rcases hd with rfl | rfl
   ·have e:An (Xs b i s) f 1=CZ (bif Ap b (i:Int) 1 then orC s.1 (VW (i:Int))else s.1) f:=rfl;have hk':CZ s.1 f=_:=hk;rw[e];cases hc:Ap b (i:Int) 1 with
    |true=>
     rw[d_];unfold orC;rw[TV,aG];show(CZ s.1 f||CZ (VW (i:Int)) f)=_;rw[hk',hp];by_cases g:f=i
     ·subst g;rw[hc];simp
     ·rw[f_ g];simp
    |false=>
     rw[c_,hk'];by_cases g:f=i
     ·subst g;rw[hc];simp
     ·rw[f_ g];simp
   ·have e:An (Xs b i s) f 2=CZ (bif Ap b (i:Int) 2 then orC s.2 (VW (i:Int))else s.2) f:=rfl;have hk':CZ s.2 f=_:=hk;rw[e];cases hc:Ap b (i:Int) 2 with
    |true=>
     rw[d_];unfold orC;rw[TV,aG];show(CZ s.2 f||CZ (VW (i:Int)) f)=_;rw[hk',hp];by_cases g:f=i
     ·subst g;rw[hc];simp
     ·rw[f_ g];simp
    |false=>
     rw[c_,hk'];by_cases g:f=i
     ·subst g;rw[hc];simp
     ·rw[f_ g];simp) (λs _=>by
  show Kr 32 b.C0 b.F0 b.H0 b.M0 b.K0 b.L0 b.N0 b.B0 0 0 s.1 s.2=_;unfold Kr;rw[show decide ((32:Int)<32)=A from rfl];rfl) 32 0 (0,0) ω ⟨GO,λf _ d _=>by rw[EP];simp⟩
 have h':=Ak h.1 ω;have hall:Bo (Xs b) 32 0 (0,0)=Bz b:=MU h.2.1 (Be2 b) λf hf d hd=>by rw[h.2.2 f hf d hd,Xt hb hcode hf hd,b_ hf,u_]
 rw[hall]at h';unfold SN;simp only[Bldg.tup]at h';rw[show PN (((),(),(),(0:Int),()),((b.C0,b.F0,b.H0,b.M0,b.K0,b.L0,b.N0,b.B0,()),((0:Int),(0:Int),()),((0:Int),(0:Int),()),()))=_ from h'];rfl
def Di(b:Bldg)(v:View):Int×Int:=bif v.D3 then Cz (v.J3,v.T2) (Bz b)else(0,0)
def SF(hb:b.small)(hcode:b.code=0)(v:View):Ij b.C0 b.F0 b.H0 b.M0 b.K0 b.L0 b.N0 b.B0 v.B3 v.D3 v.G3 v.V3 v.D0 v.I0 v.I3 v.J3 v.T2 v.Q2 v.D2 v.Q1=C (((),()),(((Di b v).1,(Di b v).2,()),())):=by
 unfold Ij Di;cases v.D3 with
 |false=>rfl
 |true=>rw[Lm hb hcode];simp only[o_,c_,a_,d_];rw[Gb (v.J3,v.T2) (Bz b)];rfl
def Ad9{c:Int×Int}(h:Int→Int→Option ((Bool×Unit)×Unit))(hh:∀f:Nat,f<32→∀d:Int,(d=1∨d=2)→h (f:Int) d=C ((An c f d,()),())):∀k i:Nat,i+k≤32→WU h (λf d=>Entry.mk f d (-1) 0 A) ((H i k).flatMap λf:Nat=>[((f:Int),1),((f:Int),2)])=C ((H i k).flatMap (LL c))
 |0,_,_=>rfl
 |k+1,i,hk=>by rw[e7_,a3_,a3_];show WU h _ (((i:Int),1)::((i:Int),2)::((H (i+1) k).flatMap λf:Nat=>[((f:Int),1),((f:Int),2)]))=_;simp only[WU];rw[hh i ω 1 (.inl rfl),hh i ω 2 (.inr rfl),Ad9 h hh k (i+1) ω];unfold LL;cases An c i 1<;>cases An c i 2<;>rfl
def XZ(c:Int×Int):MC c.1 c.2=C ((Ft c,()),()):=by
 unfold MC An9;have e:pairs64=(H 0 32).flatMap λf:Nat=>[((f:Int),1),((f:Int),2)]:=by unfold pairs64;rw[List.range_eq_range']
 have h:=Ad9 (c:=c) (λf d=>Dy c.1 c.2 f d) (λf hf d hd=>by have h:=Qg c (F:=(f:Int)) (D:=d) ⟨ω,ω⟩ hd;rw[h_]at h;exact h) 32 0 ω;rw[e,h];rfl
end Go.Ovl
namespace Go.Ovl
open Go Go.Ab
variable{r:Nat}{s:ByteArray}
structure Sto where
 h0:ByteArray
 h1:ByteArray
 sel:Int
def Sto.get(s:Sto)(half:Int):ByteArray:=if half=0 then s.h0 else s.h1
def Sto.set(s:Sto)(half:Int)(x:ByteArray):Sto:=if half=0 then { s with h0:=x }else { s with h1:=x }
def Sto.no:Sto:=⟨noB,noB,0⟩
def Sto.cur(s:Sto):ByteArray:=if s.sel=1 then s.h1 else s.h0
def Sto.ok(room:Int)(s:Sto):Prop:=1≤room∧room≤65536∧s.h0.size≤room∧s.h1.size≤room∧(s.sel=0∨s.sel=1)
instance okSto_ti(room:Int)(s:Sto):Decidable (s.ok room):=by unfold Sto.ok;infer_instance
def Sto.tup(s:Sto):ByteArray×ByteArray×Int×Unit:=(s.h0,(s.h1,(s.sel,())))
def Sto.chk(room:Int)(s:Sto)(half bud:Int):Int:=if s.ok room then if(half≠0∧half≠1)∨bud<0 then 2 else 0 else 1
def Sto.write(room:Int)(s:Sto)(half:Int)(d:ByteArray)(bud:Int):Sto×Int×Int:=
 if s.chk room half bud≠0 then(.no,0,s.chk room half bud)
 else if room<(s.get half).size+d.size then(.no,0,7)
 else if bud<d.size then(s.set half (s.get half++d.extract 0 bud.toNat),0,8)
 else(s.set half (s.get half++d),bud-d.size,0)
def Sto.act(room:Int)(s:Sto)(half bud:Int)(t:Sto):Sto×Int×Int:=if s.chk room half bud≠0 then(.no,0,s.chk room half bud)else if bud=0 then(s,0,8)else(t,bud-1,0)
def Sto.erase(room:Int)(s:Sto)(half bud:Int):Sto×Int×Int:=s.act room half bud (s.set half noB)
def Sto.choose(room:Int)(s:Sto)(half bud:Int):Sto×Int×Int:=s.act room half bud { s with sel:=half }
def Sto.out(r:Sto×Int×Int):(Unit×Int×Int×Unit)×((ByteArray×ByteArray×Int×Unit)×Unit):=(((),(r.2.1,(r.2.2,()))),((r.1.h0,(r.1.h1,(r.1.sel,()))),()))
def Ji(room:Int)(h0 h1:ByteArray)(sel:Int):FH room h0 h1 sel=C ((decide (Sto.ok room ⟨h0,h1,sel⟩),()),()):=by
 unfold FH Sto.ok;by_cases a:1≤room
 ·by_cases b:room≤65536
  ·by_cases c:(h0.size:Int)≤room
   ·by_cases d:(h1.size:Int)≤room
    ·by_cases e:sel=0
     ·simp[a,b,c,d,e]
     ·by_cases f:sel=1<;>simp[a,b,c,d,e,f,Ao]
    ·simp[a,b,c,d]
   ·simp[a,b,c]
  ·simp[a,b]
 ·simp[a]
def OO(room:Int)(h0 h1:ByteArray)(sel half bud:Int):IM room h0 h1 sel half bud=C ((Sto.chk room ⟨h0,h1,sel⟩ half bud,()),()):=by
 unfold IM Sto.chk;rw[Ji];by_cases a:Sto.ok room ⟨h0,h1,sel⟩
 ·by_cases b:half=0
  ·by_cases c:bud<0<;>simp[a,b,c]
  ·by_cases d:half=1
   ·by_cases c:bud<0<;>simp[a,c,d]
   ·simp[a,b,d,GT]
 ·simp[a]
def QR{room:Int}{s:Sto}{half bud:Int}(h:s.chk room half bud=0):s.ok room∧(half=0∨half=1)∧0≤bud:=by
 unfold Sto.chk at h;split at h
 ·split at h
  ·cases h
  ·rename_i h1 h2;refine⟨h1,?_,?_⟩<;>omega
 ·cases h
def TK(room:Int)(h0 h1:ByteArray)(sel half:Int)(d:ByteArray)(bud:Int)(hb:bud<9223372036854775808) :
  IL room h0 h1 sel half d bud=C (Sto.out (Sto.write room ⟨h0,h1,sel⟩ half d bud)):=by
 unfold IL Sto.write;rw[OO];generalize hc:Sto.chk room ⟨h0,h1,sel⟩ half bud=c;by_cases h:c=0
 ·subst h;obtain⟨⟨o1,o2,o3,o4,o5⟩,hh,hb0⟩:=QR hc;simp only at o3 o4;have hin:inB half 2=B:=Ac ω ω;have hg:(List.getD [h0,h1] half.toNat noB)=Sto.get ⟨h0,h1,sel⟩ half:=by
   rcases hh with rfl | rfl<;>rfl
  have hgs:((Sto.get ⟨h0,h1,sel⟩ half).size:Int)≤room:=by rcases hh with rfl | rfl<;>simpa[Sto.get]
  have hset:∀x:ByteArray,((bif Nat.beq half.toNat 0 then x else h0),((bif Nat.beq half.toNat 1 then x else h1),(sel,())))=((Sto.set ⟨h0,h1,sel⟩ half x).h0,((Sto.set ⟨h0,h1,sel⟩ half x).h1,((Sto.set ⟨h0,h1,sel⟩ half x).sel,()))):=by intro x;rcases hh with rfl | rfl<;>rfl
  have hg':(List.getD [h0,h1] half.toNat (ByteArray.mk (Array.mk [])))=Sto.get ⟨h0,h1,sel⟩ half:=hg;simp only[a_,hin,d_,hg',hset];generalize Sto.get ⟨h0,h1,sel⟩ half=g at hgs⊢;rw[Aa (n:=room-g.size) ω ω];by_cases h2:room<(g.size:Int)+d.size
  ·have e:decide (room-(g.size:Int)<d.size)=B:=by simp;omega
   simp[e,h2,Sto.out,Sto.no,noB]
  ·have e:decide (room-(g.size:Int)<d.size)=A:=by simp;omega
   by_cases h3:bud<d.size
   ·have e2:decide (bud<(d.size:Int))=B:=by simpa using h3
    have e3:(decide (0≤bud)&&decide (bud≤(d.size:Int)))=B:=by simp;omega
    have e4:aC (g.size+(d.extract 0 bud.toNat).size) 4611686018427387904=B:=by rw[Aca d ω];exact Az ω
    simp only[e,e3,e4,h2,h3,d_,c_,g2_,e4_,Sto.out];simp
   ·have e2:decide (bud<(d.size:Int))=A:=by simpa using h3
    have e4:aC (g.size+d.size) 4611686018427387904=B:=Az ω;rw[Aa (n:=bud-d.size) ω ω];simp only[e,e4,h2,h3,d_,c_,e4_,Sto.out];simp
 ·simp[h,Sto.out,Sto.no,noB,GT]
def Aws(room:Int)(h0 h1:ByteArray)(sel half bud:Int)(hb:bud<9223372036854775808):Om room h0 h1 sel half bud=C (Sto.out (Sto.erase room ⟨h0,h1,sel⟩ half bud)):=by
 unfold Om HB Sto.erase Sto.act;rw[OO];generalize hc:Sto.chk room ⟨h0,h1,sel⟩ half bud=c;by_cases h:c=0
 ·subst h;obtain⟨_,hh,hb0⟩:=QR hc;by_cases h2:bud=0
  ·simp[h2,Sto.out]
  ·have hin:inB half 2=B:=Ac ω ω;unfold PH;rw[Aa (n:=bud-1) ω ω];have e:(bud==0)=A:=by simpa using h2
   rcases hh with rfl | rfl<;>simp[hin,e,h2,Sto.out,Sto.set,noB]<;>rfl
 ·simp[h,Sto.out,Sto.no,noB,GT]
def Aq5(room:Int)(h0 h1:ByteArray)(sel half bud:Int)(hb:bud<9223372036854775808):Nt room h0 h1 sel half bud=C (Sto.out (Sto.choose room ⟨h0,h1,sel⟩ half bud)):=by
 unfold Nt Hb Sto.choose Sto.act;rw[OO];generalize hc:Sto.chk room ⟨h0,h1,sel⟩ half bud=c;by_cases h:c=0
 ·subst h;obtain⟨_,hh,hb0⟩:=QR hc;by_cases h2:bud=0
  ·simp[h2,Sto.out]
  ·unfold ON;rw[Aa (n:=bud-1) ω ω];have e:(bud==0)=A:=by simpa using h2
   simp[e,h2,Sto.out]
 ·simp[h,Sto.out,Sto.no,noB,GT]
def RP(h0 h1:ByteArray)(sel:Int):Jh h0 h1 sel=C ((Sto.cur ⟨h0,h1,sel⟩,()),()):=by unfold Jh Sto.cur;by_cases h:sel=1<;>simp[h,Ao]
def Fy:Debounced:=Debounced.mk 0 A A A A 0 0 0 0 0 0 0 0 0 0 0 0 0 0 0 0 0 0 0 0 0 0 0 0 0 0 0 0 0 0 0 0 0 0 0 0
def HJ:Duty:=Duty.mk 0 0 0
def Bw:NewCar:=NewCar.mk 0 0 0 0 0 A 0 0 0 0 0 0 0 A
def Acx:Loaded:=Loaded.mk 0
def Ahs:Calls:=Calls.mk 0 0
def GV:Belief:=Belief.mk 0 0 0 [] 0 A
def Belief.tup(x:Belief):Int×Int×Int×List Duty×Int×Bool×Unit:=(x.D0,x.I0,x.F3,x.W0,x.Z2,x.R3,())
structure Mch where
 E0:Img
 B1:Sto
 J1:List Debounced
 U0:List Belief
 B0:List NewCar
 C3:List Loaded
 B2:List Int
 Y2:List Calls
 Z3:Int
 H3:Int
 R2:Int
def Mch.tup(m:Mch):List Int×List Bool×List Bool×List E×ByteArray×ByteArray×Int×List Debounced×List Belief×List NewCar×List Loaded×List Int×List Calls×Int×Int×Int×Unit:=(m.E0.G0,m.E0.O0,m.E0.J0,m.E0.A0,m.B1.h0,m.B1.h1,m.B1.sel,m.J1,m.U0,m.B0,m.C3,m.B2,m.Y2,m.Z3,m.H3,m.R2,())
structure Mch.fit(m:Mch):Prop where
 im:m.E0.fit
 co:m.J1.length≤100000
 be:m.U0.length≤100000
 du:∀x∈m.U0,x.W0.length≤100000
 ca:m.B0.length≤100000
 lo:m.C3.length≤100000
 ex:m.B2.length≤100000
 li:m.Y2.length≤100000
section
variable{a c:Mch}(ha:a.fit)
include ha
end
def bl(s:ByteArray):List UInt8:=s.data.toList
def Qe{a c:ByteArray}(h:bl a=bl c):a=c:=by apply ByteArray.ext;unfold bl at h;exact Array.toList_inj.1 h
def LJ(a c:ByteArray):bl (a++c)=bl a++bl c:=by simp[bl]
def Qd(a:ByteArray)(i j:Nat):bl (a.extract i j)=((bl a).drop i).take (j-i):=by simp[bl]
def DP(a:ByteArray):(bl a).length=a.size:=by simp[bl]
def Bu4(l:List UInt8):bl ⟨l.toArray⟩=l:=by simp[bl]
def KN(s:ByteArray)(i:Nat):Bs s i=(((bl s).getD i 0).toNat:Int):=by unfold Bs bl;simp[z_,k_]
def QA(r:Nat):Nat:=if 128≤r then(r*2%256)^^^7 else r*2%256
def it8:Nat→Nat→Nat
 |0,r=>r
 |k+1,r=>it8 k (QA r)
def UX(r x:Nat):Nat:=it8 8 (r^^^x)
def RN(l:List UInt8):Nat:=l.foldl (λr x=>UX r x.toNat) 0
def Adf(_h:r<256):QA r<256:=by
 unfold QA;split
 ·exact d7_ (n:=8) ω τ
 ·omega
def Bbb:∀(k:Nat) {r:Nat},r<256→it8 k r<256
 |0,_,h=>h
 |k+1,_,h=>Bbb k (Adf h)
def Ab1{x:Nat}(h:r<256)(h':x<256):UX r x<256:=Bbb 8 (d7_ (n:=8) h h')
def Bk9(l:List UInt8):∀r:Nat,r<256→l.foldl (λr x=>UX r x.toNat) r<256:=by
 induction l with
 |nil=>exact λr h=>h
 |cons x t ih=>intro r h;rw[g7_];have hx:x.toNat<256:=UInt8.toNat_lt x;exact ih _ (Ab1 h hx)
def Asp(l:List UInt8):RN l<256:=Bk9 l 0 ω
def Rh{n:Int}(h:0≤n)(h':n<256):aD.wrap n=n:=by simp only[aA,IntKind.signed,IntKind.bits];simp;omega
def Bt4{a c:Nat}(ha:a<256)(hc:c<256):aD.wrap (stk (a:Int) (c:Int) (BitVec.toNat ((aF (IntKind.bits .u8) (a:Int))^^^(aF (IntKind.bits .u8) (c:Int)))))=((a^^^c:Nat):Int):=by have h:=d7_ (n:=8) ha hc;rw[KH,BitVec.toNat_xor,X_,X_];rw[show(((a:Int))%((2^IntKind.bits .u8:Nat):Int)).toNat=a by simp only[IntKind.bits];omega,show(((c:Int))%((2^IntKind.bits .u8:Nat):Int)).toNat=c by simp only[IntKind.bits];omega];exact Rh ω ω
def Bjq{a c:Nat}(ha:a<256)(hc:c<256):aE.wrap (stk (a:Int) (c:Int) (BitVec.toNat ((aF (IntKind.bits .i64) (a:Int))^^^(aF (IntKind.bits .i64) (c:Int)))))=((a^^^c:Nat):Int):=by have h:=d7_ (n:=8) ha hc;rw[KH,BitVec.toNat_xor,X_,X_];rw[show(((a:Int))%((2^IntKind.bits .i64:Nat):Int)).toNat=a by simp only[IntKind.bits];omega,show(((c:Int))%((2^IntKind.bits .i64:Nat):Int)).toNat=c by simp only[IntKind.bits];omega];exact Aa ω ω
def Au6:∀(k i r:Nat),Bo (λ_ r=>QA r) k i r=it8 k r
 |0,_,_=>rfl
 |k+1,i,r=>Au6 k (i+1) (QA r)
def Bau(s:ByteArray)(s7 s8:Int){k:Nat}(hr:r<256)(hk:k<8):PW s (r:Int) s7 s8 (k:Int)=C (Sum.inl ((s,((QA r:Nat):Int),s7,s8,((k+1:Nat):Int),()),())):=by
 unfold PW;have w:aE.wrap ((k:Int)+1)=((k+1:Nat):Int):=by rw[Aa ω ω];omega
 have h0:aD.wrap ((r:Int)*((2:Int)^(Min.min (aB (1:Int)) (IntKind.bits aD))))=((r*2%256:Nat):Int):=by rw[show((2:Int)^(Min.min (aB (1:Int)) (IntKind.bits aD)))=2 from rfl];simp only[aA,IntKind.signed,IntKind.bits];simp
 have h1:aD.wrap ((Int.fdiv (r:Int) ((2:Int)^(Min.min (aB (7:Int)) (IntKind.bits aD))))*(7:Int))=(((if 128≤r then 7 else 0):Nat):Int):=by
  rw[show((2:Int)^(Min.min (aB (7:Int)) (IntKind.bits aD)))=128 from rfl,a6_ _ ω];split
  ·rw[show(r:Int)/128=1 by omega];rfl
  ·rw[show(r:Int)/128=0 by omega];rfl
 simp only[b_ (ω:(k:Int)<8),d_,h0,h1,w];rw[Bt4 ω (by split<;>omega)];unfold QA;split
 ·rfl
 ·rw[Nat.xor_zero]
def Bcb(s:ByteArray)(i:Int){k:Nat}(hr:r<256)(hk:k<8):PY s (r:Int) i (k:Int)=C (Sum.inl ((s,((QA r:Nat):Int),i,((k+1:Nat):Int),()),())):=by
 unfold PY;have w:aE.wrap ((k:Int)+1)=((k+1:Nat):Int):=by rw[Aa ω ω];omega
 have h0:Int.tmod (aA aE ((r:Int)*2)) 256=((r*2%256:Nat):Int):=by rw[Aa ω ω,e2_ ω];omega
 simp only[b_ (ω:(k:Int)<8),d_,h0,w];unfold QA;by_cases h:128≤r
 ·rw[b_ (ω:(128:Int)≤(r:Int)),if_pos h,d_];have hx:=Bjq (a:=r*2%256) (c:=7) ω ω;rw[show((7:Nat):Int)=7 from rfl]at hx;rw[hx]
 ·rw[f_ (ω:¬(128:Int)≤(r:Int)),if_neg h];rfl
def Bat(s:ByteArray)(s7 s8:Int)(hr:r<256):PL ((s,(r:Int),s7,s8,(0:Int),()),())=C ((s,((it8 8 r:Nat):Int),s7,s8,()),()):=by have h:=AQ (step:=λx=>PW x.1.1 x.1.2.1 x.1.2.2.1 x.1.2.2.2.1 x.1.2.2.2.2.1) 8 (λk r=>((s,((r:Nat):Int),s7,s8,(k:Int),()),())) (λ_ r=>QA r) (λ_ r=>r<256) (λr=>((s,((r:Nat):Int),s7,s8,()),())) (λk r hk hr=>⟨Bau s s7 s8 hr hk,Adf hr⟩) (λr _=>rfl) 8 0 r rfl hr;have h':=h.1;rw[Au6]at h';exact Ak h' ω
def Bca(s:ByteArray)(i:Int)(hr:r<256):PP ((s,(r:Int),i,(0:Int),()),())=C ((s,((it8 8 r:Nat):Int),i,()),()):=by have h:=AQ (step:=λx=>PY x.1.1 x.1.2.1 x.1.2.2.1 x.1.2.2.2.1) 8 (λk r=>((s,((r:Nat):Int),i,(k:Int),()),())) (λ_ r=>QA r) (λ_ r=>r<256) (λr=>((s,((r:Nat):Int),i,()),())) (λk r hk hr=>⟨Bcb s i hr hk,Adf hr⟩) (λr _=>rfl) 8 0 r rfl hr;have h':=h.1;rw[Au6]at h';exact Ak h' ω
def RE{α β:Type}(f:β→α→β)(d:α):∀(l:List α) (k i:Nat) (s:β),i+k=l.length→Bo (λi s=>f s (l.getD i d)) k i s=(l.drop i).foldl f s
 |l,0,i,s,h=>by obtain rfl:i=l.length:=ω;simp[Bo]
 |l,k+1,i,s,h=>by have hi:i<l.length:=ω;simp only[Bo];rw[RE f d l k (i+1) _ ω,h5_ hi,g7_];simp[hi]
def Abe(hs:s.size≤1000000):Pm s=C ((((RN (bl s):Nat):Int),()),()):=by
 have h:=AQ (step:=λx=>Kp x.1.1 x.1.2.1 x.1.2.2.1 x.1.2.2.2.1) s.size (λi r=>((s,((r:Nat):Int),(s.size:Int),(i:Int),()),())) (λi r=>UX r ((bl s).getD i 0).toNat) (λ_ r=>r<256) (λr=>((((r:Nat):Int),()),())) (λi r hi hr=>by
  have hx:=UInt8.toNat_lt ((bl s).getD i 0);refine⟨?_,Ab1 hr hx⟩;show Kp s ((r:Nat):Int) (s.size:Int) (i:Int)=_;have w:aE.wrap ((i:Int)+1)=((i+1:Nat):Int):=by rw[Aa ω ω];omega
  unfold Kp;simp only[b_ (ω:(i:Int)<(s.size:Int)),Ac (ω:(0:Int)≤(i:Int)) (ω:(i:Int)<(s.size:Int)),d_,h_,KN];rw[Bt4 hr hx,Bat s _ _ (d7_ (n:=8) hr hx),a_,w];rfl) (λr _=>by
  show Kp s ((r:Nat):Int) (s.size:Int) (s.size:Int)=_;unfold Kp;simp only[f_ (M_ (s.size:Int)),c_]) s.size 0 0 ω ω
 have h':=Ak h.1 ω;rw[RE (λr (x:UInt8)=>UX r x.toNat) 0 (bl s) s.size 0 0 (by rw[DP];omega),P_]at h';unfold Pm;rw[show PK ((s,(0:Int),(s.size:Int),(0:Int),()),())=_ from h'];rfl
def Aqo(hs:s.size≤1000000):Pz s=C ((((RN (bl s):Nat):Int),()),()):=by
 have h:=AQ (step:=λx=>Ks x.1.1 x.1.2.1 x.1.2.2.1) s.size (λi r=>((s,((r:Nat):Int),(i:Int),()),())) (λi r=>UX r ((bl s).getD i 0).toNat) (λ_ r=>r<256) (λr=>((((r:Nat):Int),()),())) (λi r hi hr=>by
  have hx:=UInt8.toNat_lt ((bl s).getD i 0);refine⟨?_,Ab1 hr hx⟩;show Ks s ((r:Nat):Int) (i:Int)=_;have w:aE.wrap ((i:Int)+1)=((i+1:Nat):Int):=by rw[Aa ω ω];omega
  unfold Ks;simp only[b_ (ω:(i:Int)<(s.size:Int)),Ac (ω:(0:Int)≤(i:Int)) (ω:(i:Int)<(s.size:Int)),d_,h_,KN,Aa (n:=(((bl s).getD i 0).toNat:Int)) ω ω];rw[Bjq hr hx,Bca s _ (d7_ (n:=8) hr hx),a_,w];rfl) (λr _=>by
  show Ks s ((r:Nat):Int) (s.size:Int)=_;unfold Ks;simp only[f_ (M_ (s.size:Int)),c_]) s.size 0 0 ω ω
 have h':=Ak h.1 ω;rw[RE (λr (x:UInt8)=>UX r x.toNat) 0 (bl s) s.size 0 0 (by rw[DP];omega),P_]at h';have hl:=Asp (bl s);unfold Pz;rw[show PO ((s,(0:Int),(0:Int),()),())=_ from h'];simp only[a_];rw[show((bl s).foldl (λr (x:UInt8)=>UX r x.toNat) 0)=RN (bl s)from rfl,Rh ω ω]
end Go.Ovl
