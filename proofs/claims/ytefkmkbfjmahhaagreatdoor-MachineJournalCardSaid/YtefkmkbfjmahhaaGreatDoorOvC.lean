import Derived.Test.YtefkmkbfjmahhaaGreatDoorOvB
import Derived.Test.YtefkmkbfjmahhaaGreatDoorOvA
import Derived.Test.YtefkmkbfjmahhaaGreatDoorDefs4
set_option linter.all false
open Bool renaming false->A,true->C
open Option renaming some->B
open Go renaming c_->E
open Go.Ovl renaming Entry->H,Record->J
open List renaming range'->I,replicate->L
open Go.IntKind renaming u32->N,wrap->aA,u8->aD,i64->aE
open Int renaming toNat->aB
open Nat renaming ble->aC
open BitVec renaming ofInt->aF,getLsbD_or->aG
namespace Go.Ovl
open Go Go.Ab
set_option maxRecDepth 100000
variable{b:Bldg}{c p:Int×Int}{out:List J}{m:Img}{f:Nat}{d:Int}
def Ue(on:Bool):Int:=bif on then 1 else 0
def XP(on:Bool):JG on=B ((Ue on,()),()):=by unfold JG Ue;cases on<;>rfl
def Ae0(on:Bool):OC on=B ((Ue on,()),()):=by unfold OC Ue;cases on<;>rfl
def Od(m:Img)(i:Nat):List J:=[⟨4,0,0,i,m.F0.getD i 0⟩,⟨5,0,0,i,Ue (m.K0.getD i A)⟩,⟨6,0,0,i,Ue (m.H0.getD i A)⟩]
def Oe(e:H):List J:=[⟨1,e.E0,e.J0,0,0⟩,⟨3,e.E0,e.J0,e.R0,0⟩,⟨7,e.E0,e.J0,Ue e.N1,e.B1⟩]
def Db(m:Img):List J:=(I 0 m.F0.length).flatMap (Od m)++m.A0.flatMap Oe
def Hq{α:Type}(f:Nat→List α):∀(k i:Nat) (s:List α),BL (λi s=>s++f i) k i s=s++(I i k).flatMap f
 |0,i,s=>by simp[BL]
 |k+1,i,s=>by simp only[BL];rw[Hq f k (i+1),f1_,a8_,F_]
def Nd{α β:Type}(f:α→List β)(d:α):∀(l:List α) (i k:Nat),i+k=l.length→(I i k).flatMap (λi=>f (l.getD i d))=(l.drop i).flatMap f
 |l,i,0,h=>by obtain rfl:i=l.length:=ω;simp
 |l,i,k+1,h=>by rw[f1_,a8_,Nd f d l (i+1) k ω,BN d (ω:i<l.length),a8_]
def Adu(l:List H):(I 0 l.length).flatMap (λi=>Oe (l.getD i noE))=l.flatMap Oe:=by rw[Nd Oe noE l 0 l.length ω,P_]
section
variable{m:Img}(hf:m.fit)
include hf
theorem Zh(ho:out.length≤300000):KD (((),out,(0:Int),()),(m.tup,()))=B ((out++m.A0.flatMap Oe,()),()):=by
 have hl:=hf.e;have h:=AP (step:=λx=>Gl x.1.2.1 x.1.2.2.1 x.2.1.1 x.2.1.2.1 x.2.1.2.2.1 x.2.1.2.2.2.1) m.A0.length (λi s=>(((),s,(i:Int),()),(m.tup,()))) (λi s=>s++Oe (m.A0.getD i noE)) (λi s=>s.length=out.length+3*i) (λs=>((s,()),())) (λi s hi hs=>by
  refine⟨?_,by rw[h_,hs];show _+3=_;omega⟩;have b1:∀r r' r'':J,aC (s.length+[r,r',r''].length) 2147483648=C:=λr r' r''=>Ap (by show s.length+3≤_;omega);show Gl s (i:Int) m.F0 m.K0 m.H0 m.A0=_;unfold Gl;simp only[E (ω:(i:Int)<(m.A0.length:Int)),Ac (ω:(0:Int)≤(i:Int)) (ω:(i:Int)<(m.A0.length:Int)),d_,i_,Ae0,a_,b1,Ef hi (show m.A0.length≤AN by unfold AN;omega)];rfl) (λs _=>by
  show Gl s (m.A0.length:Int) m.F0 m.K0 m.H0 m.A0=_;unfold Gl;simp only[f_ (J_ (m.A0.length:Int)),b_]) m.A0.length 0 out ω rfl
 have h':=Aj h.1 ω;rw[Hq,Adu]at h';exact h'
theorem Zg(h1:m.K0.length=m.F0.length)(h2:m.H0.length=m.F0.length):KC (((),[],(0:Int),()),(m.tup,()))=B (((),(I 0 m.F0.length).flatMap (Od m),()),(m.tup,())):=by
 have hl:=hf.p;have h:=AP (step:=λx=>Gk x.1.2.1 x.1.2.2.1 x.2.1.1 x.2.1.2.1 x.2.1.2.2.1 x.2.1.2.2.2.1) m.F0.length (λi s=>(((),s,(i:Int),()),(m.tup,()))) (λi s=>s++Od m i) (λi s=>s.length=3*i) (λs=>(((),s,()),(m.tup,()))) (λi s hi hs=>by
  refine⟨?_,by rw[h_,hs];show _+3=_;omega⟩;have b1:∀r r' r'':J,aC (s.length+[r,r',r''].length) 2147483648=C:=λr r' r''=>Ap (by show s.length+3≤_;omega);show Gk s (i:Int) m.F0 m.K0 m.H0 m.A0=_;unfold Gk;simp only[E (ω:(i:Int)<(m.F0.length:Int)),Ac (ω:(0:Int)≤(i:Int)) (ω:(i:Int)<(m.F0.length:Int)),Ac (ω:(0:Int)≤(i:Int)) (ω:(i:Int)<(m.K0.length:Int)),Ac (ω:(0:Int)≤(i:Int)) (ω:(i:Int)<(m.H0.length:Int)),d_,i_,Ae0,a_,b1,Ef hi (show m.F0.length≤AN by unfold AN;omega)];rfl) (λs _=>by
  show Gk s (m.F0.length:Int) m.F0 m.K0 m.H0 m.A0=_;unfold Gk;simp only[f_ (J_ (m.F0.length:Int)),b_];rfl) m.F0.length 0 [] ω rfl
 have h':=Aj h.1 ω;rw[Hq,W_]at h';exact h'
theorem YP(ho:out.length≤300000):KB (((),m.A0,(m.A0.length:Int),(0:Int),()),((out,()),()))=B (((),()),((out++m.A0.flatMap Oe,()),())):=by
 have hl:=hf.e;have h:=AP (step:=λx=>Gj x.1.2.1 x.1.2.2.1 x.1.2.2.2.1 x.2.1.1) m.A0.length (λi s=>(((),m.A0,(m.A0.length:Int),(i:Int),()),((s,()),()))) (λi s=>s++Oe (m.A0.getD i noE)) (λi s=>s.length=out.length+3*i) (λs=>(((),()),((s,()),()))) (λi s hi hs=>by
  refine⟨?_,by rw[h_,hs];show _+3=_;omega⟩;show Gj m.A0 (m.A0.length:Int) (i:Int) s=_;have b1:∀r:J,aC (s.length+[r].length) 2147483648=C:=λr=>Ap (by rw[D_];omega);have b2:∀r r':J,aC ((s++[r]).length+[r'].length) 2147483648=C:=λr r'=>Ap (by rw[h_,D_,D_];omega);have b3:∀r r' r'':J,aC ((s++[r]++[r']).length+[r''].length) 2147483648=C:=λr r' r''=>Ap (by rw[h_,h_,D_,D_,D_];omega);unfold Gj HG;simp only[E (ω:(i:Int)<(m.A0.length:Int)),Ac (ω:(0:Int)≤(i:Int)) (ω:(i:Int)<(m.A0.length:Int)),d_,i_,XP,a_,b1,b2,b3,Ef hi (show m.A0.length≤AN by unfold AN;omega)];simp only[F_];rfl) (λs _=>by
  show Gj m.A0 (m.A0.length:Int) (m.A0.length:Int) s=_;unfold Gj;simp only[f_ (J_ (m.A0.length:Int)),b_]) m.A0.length 0 out ω rfl
 have h':=Aj h.1 ω;rw[Hq,Adu]at h';exact h'
theorem YO(h1:m.K0.length=m.F0.length)(h2:m.H0.length=m.F0.length):KA (((),(),(m.F0.length:Int),(0:Int),()),(m.tup,(([]:List J),()),()))=B (((),(),()),(m.tup,((I 0 m.F0.length).flatMap (Od m),()),())):=by
 have hl:=hf.p;have h:=AP (step:=λx=>Gi x.1.2.2.1 x.1.2.2.2.1 x.2.1.1 x.2.1.2.1 x.2.1.2.2.1 x.2.1.2.2.2.1 x.2.2.1.1) m.F0.length (λi s=>(((),(),(m.F0.length:Int),(i:Int),()),(m.tup,(s,()),()))) (λi s=>s++Od m i) (λi s=>s.length=3*i) (λs=>(((),(),()),(m.tup,(s,()),()))) (λi s hi hs=>by
  refine⟨?_,by rw[h_,hs];show _+3=_;omega⟩;show Gi (m.F0.length:Int) (i:Int) m.F0 m.K0 m.H0 m.A0 s=_;have b1:∀r:J,aC (s.length+[r].length) 2147483648=C:=λr=>Ap (by rw[D_];omega);have b2:∀r r':J,aC ((s++[r]).length+[r'].length) 2147483648=C:=λr r'=>Ap (by rw[h_,D_,D_];omega);have b3:∀r r' r'':J,aC ((s++[r]++[r']).length+[r''].length) 2147483648=C:=λr r' r''=>Ap (by rw[h_,h_,D_,D_,D_];omega);unfold Gi HF;simp only[E (ω:(i:Int)<(m.F0.length:Int)),Ac (ω:(0:Int)≤(i:Int)) (ω:(i:Int)<(m.F0.length:Int)),Ac (ω:(0:Int)≤(i:Int)) (ω:(i:Int)<(m.K0.length:Int)),Ac (ω:(0:Int)≤(i:Int)) (ω:(i:Int)<(m.H0.length:Int)),d_,i_,XP,a_,b1,b2,b3,Ef hi (show m.F0.length≤AN by unfold AN;omega)];simp only[F_];rfl) (λs _=>by
  show Gi (m.F0.length:Int) (m.F0.length:Int) m.F0 m.K0 m.H0 m.A0 s=_;unfold Gi;simp only[f_ (J_ (m.F0.length:Int)),b_];rfl) m.F0.length 0 [] ω rfl
 have h':=Aj h.1 ω;rw[Hq,W_]at h';exact h'
end
def TW{α β:Type}(f:α→List β)(hf:∀x,(f x).length=3):∀l:List α,(l.flatMap f).length=3*l.length
 |[]=>rfl
 |a::t=>by rw[a8_,h_,hf,TW f hf t,E_];omega
def Zp(m:Img)(n:Nat):((I 0 n).flatMap (Od m)).length=3*n:=by rw[TW _ λ_=>rfl,List.length_range']
def Zq(m:Img):(Db m).length=3*(m.F0.length+m.A0.length):=by unfold Db;rw[h_,Zp,TW _ λ_=>rfl];omega
def Vk(b:Bldg)(m:Img):List J:=bif m.ok b then Db m else []
section
variable{b:Bldg}(hb:b.small){m:Img}(hf:m.fit)
include hb hf
theorem Aem:MH b.D0 b.G0 b.I0 b.M0 b.L0 b.N0 b.O0 b.B0 m.F0 m.K0 m.H0 m.A0=B ((Vk b m,()),()):=by
 have hmx:100000≤maxLen:=by decide
 have hp:=hf.p;have he:=hf.e;unfold MH Vk;rw[Do hb m ω ω];simp only[a_];cases hok:m.ok b with
 |false=>rfl
 |true=>have hm:=Img.ok_iff.1 hok;have l0:=YO hf (by rw[hm.lf,hm.lp]) (by rw[hm.ll,hm.lp]);have l1:=YP hf (out:=(I 0 m.F0.length).flatMap (Od m)) (by rw[Zp];omega);simp only[Img.tup]at l0;simp only[m_,b_,d_,l0,l1,a_];rfl
theorem Aez:MM b.D0 b.G0 b.I0 b.M0 b.L0 b.N0 b.O0 b.B0 m.F0 m.K0 m.H0 m.A0=B ((Vk b m,()),()):=by
 have hmx:100000≤maxLen:=by decide
 have hp:=hf.p;have he:=hf.e;unfold MM Vk;rw[Nc hb m ω ω];simp only[a_];cases hok:m.ok b with
 |false=>rfl
 |true=>have hm:=Img.ok_iff.1 hok;have l0:=Zg hf (by rw[hm.lf,hm.lp]) (by rw[hm.ll,hm.lp]);have l1:=Zh hf (out:=(I 0 m.F0.length).flatMap (Od m)) (by rw[Zp];omega);simp only[Img.tup]at l0 l1;simp only[m_,b_,d_,l0,l1,a_];rfl
end
def Bp(m:Img):∀(a c:List J),Ag m (a++c)=Ag (Ag m a) c
 |[],_=>rfl
 |r::t,c=>by show Ag (Ak m r) (t++c)=Ag (Ag (Ak m r) t) c;exact Bp (Ak m r) t c
def Ahv{α:Type}(l:List α)(z d:α){k n:Nat}(hk:k<n)(hl:l.length=n):(l.take k++L (n-k) z).set k (l.getD k d)=l.take (k+1)++L (n-(k+1)) z:=by
 have h1:(l.take k).length=k:=by rw[w_];omega
 rw[List.set_append_right _ _ ω,h1,Nat.sub_self,show n-k=(n-(k+1))+1 by omega,List.replicate_succ,List.set_cons_zero];have h2:k<l.length:=ω;rw[show l.getD k d=l[k]by simp[h2]];rw[List.take_succ_eq_append_getElem h2,F_];rfl
def Aqm(m:Img)(a c d:J):Ag m [a,c,d]=Ak (Ak (Ak m a) c) d:=rfl
def Arm(on:Bool):(Ue on==1)=on:=by cases on<;>rfl
def Aqc{n k:Nat}(hk:k<n)(h1:m.F0.length=n)(h2:m.K0.length=n)(h3:m.H0.length=n):
  Ag ⟨m.F0.take k++L (n-k) 0,m.K0.take k++L (n-k) A,m.H0.take k++L (n-k) A,[]⟩ (Od m k)=⟨m.F0.take (k+1)++L (n-(k+1)) 0,m.K0.take (k+1)++L (n-(k+1)) A,m.H0.take (k+1)++L (n-(k+1)) A,[]⟩:=by
 have e1:=Ahv m.F0 0 0 hk h1;have e2:=Ahv m.K0 A A hk h2;have e3:=Ahv m.H0 A A hk h3;unfold Od;rw[Aqm];unfold Ak;simp only[show((4:Int)==4)=C from rfl,show((5:Int)==4)=A from rfl,show((5:Int)==5)=C from rfl,show((6:Int)==4)=A from rfl,show((6:Int)==5)=A from rfl,show((6:Int)==6)=C from rfl,d_,b_,i_,Arm,e1,e2,e3]
def Ajm{m:Img}{n:Nat}(h1:m.F0.length=n)(h2:m.K0.length=n)(h3:m.H0.length=n):∀j k:Nat,k+j=n→
  Ag ⟨m.F0.take k++L (n-k) 0,m.K0.take k++L (n-k) A,m.H0.take k++L (n-k) A,[]⟩ ((I k j).flatMap (Od m))=⟨m.F0,m.K0,m.H0,[]⟩
 |0,k,h=>by obtain rfl:k=n:=ω;rw[Nat.sub_self];simp only[List.replicate_zero,a0_];rw[a5_ ω,a5_ ω,a5_ ω];rfl
 |j+1,k,h=>by rw[f1_,a8_,Bp,Aqc ω h1 h2 h3];exact Ajm h1 h2 h3 j (k+1) ω
def Aim{F D:Int}{x:H}(hx:isC F D x=C):∀(l:List H) (i:Nat),(∀e∈l,isC F D e=A)→CV F D (l++[x]) i=((i+l.length:Nat):Int)
 |[],i,_=>by simp[CV,hx]
 |e::t,i,h=>by rw[List.cons_append];simp only[CV];rw[h e (s_ ..),b_,Aim hx t (i+1) λy hy=>h y (u_ _ hy),E_];congr 1;omega
def Am3{x:H}:∀{l:List H},(∀e∈l,Be x e=A)→Fa x A l=l++[x]
 |[],_=>rfl
 |e::t,h=>by simp only[Fa];rw[h e (s_ ..),b_,Am3 λy hy=>h y (u_ _ hy)];rfl
def Aqd{e:H}(h:∀x∈m.A0,Be x e=C):Ag m (Oe e)=m.put (m.A0++[e]):=by
 have hn:∀x∈m.A0,isC e.E0 e.J0 x=A:=λx hx=>by
  cases hq:isC e.E0 e.J0 x with
  |false=>rfl
  |true=>
   have:=(Xn (c:=e) hq).1
   rw[h x hx]at this;cases this
 have e0:∀(c k:Int) (q:Bool),isC e.E0 e.J0 ⟨e.E0,e.J0,c,k,q⟩=C:=λc k q=>by unfold isC;simp
 have f0:CV e.E0 e.J0 m.A0 0=-1:=WX hn;have f1:∀(c k:Int) (q:Bool),CV e.E0 e.J0 (m.A0++[⟨e.E0,e.J0,c,k,q⟩]) 0=(m.A0.length:Int):=λc k q=>by rw[Aim (e0 c k q) _ _ hn,p_]
 have g1:∀x:H,(m.A0++[x]).getD m.A0.length noE=x:=λx=>by simp
 have s1:∀x y:H,(m.A0++[x]).set m.A0.length y=m.A0++[y]:=λx y=>by rw[List.set_append_right _ _ (A_ _),Nat.sub_self];rfl
 have a1:Ak m ⟨1,e.E0,e.J0,0,0⟩=m.put (m.A0++[⟨e.E0,e.J0,-1,0,A⟩]):=by unfold Ak;rw[f0];simp only[show((1:Int)==4)=A from rfl,show((1:Int)==5)=A from rfl,show((1:Int)==6)=A from rfl,b_,d_,l_];rw[Am3 (x:=⟨e.E0,e.J0,-1,0,A⟩) λx hx=>Ai3 (show Be x ⟨e.E0,e.J0,-1,0,A⟩=C from h x hx)]
 have ne:(((m.A0.length:Int))==-1)=A:=Am ω;have a2:Ak (m.put (m.A0++[⟨e.E0,e.J0,-1,0,A⟩])) ⟨3,e.E0,e.J0,e.R0,0⟩=m.put (m.A0++[⟨e.E0,e.J0,e.R0,0,A⟩]):=by unfold Ak;simp only[Img.put,f1,ne,show((3:Int)==4)=A from rfl,show((3:Int)==5)=A from rfl,show((3:Int)==6)=A from rfl,show((3:Int)==2)=A from rfl,b_,d_,l_,i_,g1,s1,Afc]
 have a3:Ak (m.put (m.A0++[⟨e.E0,e.J0,e.R0,0,A⟩])) ⟨7,e.E0,e.J0,Ue e.N1,e.B1⟩=m.put (m.A0++[⟨e.E0,e.J0,e.R0,e.B1,e.N1⟩]):=by unfold Ak;simp only[Img.put,f1,ne,show((7:Int)==4)=A from rfl,show((7:Int)==5)=A from rfl,show((7:Int)==6)=A from rfl,show((7:Int)==2)=A from rfl,show((7:Int)==3)=A from rfl,b_,d_,l_,i_,g1,s1,Us,Arm]
 unfold Oe;rw[Aqm,a1,a2,a3]
def Ajn:∀(l:List H) (m:Img),Bz (m.A0++l)→Ag m (l.flatMap Oe)=m.put (m.A0++l)
 |[],m,_=>by simp[Ag,Img.put]
 |e::t,m,h=>by
  have hp:=Ev.1 h;have hlt:∀x∈m.A0,Be x e=C:=λx hx=>(g8_.1 hp).2.2 x hx e (s_ ..);rw[a8_,Bp,Aqd hlt];have h2:Bz ((m.put (m.A0++[e])).A0++t):=by show Bz (m.A0++[e]++t);rw[F_];exact h
  rw[Ajn t _ h2];show m.put (m.A0++[e]++t)=_;rw[F_];rfl
def Afe(h:ImgOK b m):Ag (FN b) (Db m)=m:=by unfold Db;rw[Bp];have h0:=Ajm (m:=m) h.lp h.lf h.ll b.B0.length 0 ω;simp only[List.take_zero,W_,Nat.sub_zero]at h0;rw[h.lp];rw[show FN b=⟨L b.B0.length 0,L b.B0.length A,L b.B0.length A,[]⟩from rfl,h0,Ajn _ _ (by show Bz ([]++m.A0);exact h.so)];rfl
def Xr(on:Bool):0≤Ue on∧Ue on≤1:=by cases on<;>exact⟨τ,τ⟩
def Tc(h:ImgOK b m):∀r∈Db m,As b r=C:=by
 have hcode:=h.code;intro r hr;unfold Db at hr;rcases o_.1 hr with hr | hr
 ·obtain⟨i,hi,hr⟩:=c3_.1 hr;have hi':i<m.F0.length:=by
   have:=List.mem_range'_1.1 hi
   omega
  have hp:=h.ph _ (CD 0 hi');have hlp:=h.lp;have hcar:∀k v:Int,TO b ⟨k,0,0,i,v⟩=C:=λk v=>by unfold TO;rw[Ar.2 ⟨show(0:Int)≤(i:Int)by omega,show(i:Int)≤(b.B0.length:Int)-1 by omega⟩];rfl
  unfold Od at hr;simp only[t_,h2_,or_false]at hr;rcases hr with rfl | rfl | rfl
  ·unfold As;rw[hcode,hcar,Ar.2 hp];rfl
  ·unfold As;rw[hcode,hcar,Ar.2 (Xr _)];rfl
  ·unfold As;rw[hcode,hcar,Ar.2 (Xr _)];rfl
 ·obtain⟨e,he,hr⟩:=c3_.1 hr;obtain⟨h1,h2,h3⟩:=DL.1 (h.en e he);unfold Oe at hr;simp only[t_,h2_,or_false]at hr;rcases hr with rfl | rfl | rfl
  ·unfold As;rw[hcode,h1];rfl
  ·unfold As;rw[hcode,h1,Ar.2 ⟨h2.1,show e.R0≤(b.B0.length:Int)-1 by omega⟩];rfl
  ·unfold As;rw[hcode,h1,Ar.2 (Xr _),Ar.2 h3];rfl
def VG(floor:Int):Int:=N.wrap (1*2^min (aB floor) (IntKind.bits .u32))
def EB(floor dir:Int):Int×Int:=bif inR 0 31 floor then(bif dir==1 then(VG floor,0)else bif dir==2 then(0,VG floor)else(0,0))else(0,0)
def Aux(floor dir:Int):UC floor dir=B (((),()),(((EB floor dir).1,(EB floor dir).2,()),())):=by
 unfold UC EB inR;by_cases g:floor<0
 ·rw[E g,f_ (ω:¬0≤floor)];rfl
 ·rw[f_ g,E (ω:0≤floor)];by_cases g':31<floor
  ·rw[E g',f_ (ω:¬floor≤31)];rfl
  ·rw[f_ g',E (ω:floor≤31)];have w:IntKind.u64.wrap floor=floor:=En ω ω;simp only[b_,w,E (ω:0≤floor),d_,S_];cases dir==1<;>cases dir==2<;>rfl
def orC(a c:Int):Int:=vb (bv a|||bv c)
def Acc(a c:Int):Int:=vb (bv a&&& ~~~ bv c)
def Cm(a c:Int×Int):Int×Int:=(orC a.1 c.1,orC a.2 c.2)
def AU(a c:Int×Int):Int×Int:=(Acc a.1 c.1,Acc a.2 c.2)
def Zf(a c:Int×Int):Lo a.1 a.2 c.1 c.2=B (((),()),(((Cm a c).1,(Cm a c).2,()),())):=by unfold Lo;rw[Ahy,Ahy];rfl
def Zd(a c:Int×Int):Jb a.1 a.2 c.1 c.2=B (((),()),(((AU a c).1,(AU a c).2,()),())):=by unfold Jb;rw[KU,KU];rfl
def Az(c:Int×Int)(f:Nat)(d:Int):Bool:=bif d==1 then Dl c.1 f else bif d==2 then Dl c.2 f else A
def Gt(c:Int×Int):Prop:=(0≤c.1∧c.1<4294967296)∧(0≤c.2∧c.2<4294967296)
def Zz(a c:Int×Int):Gt (Cm a c):=⟨KT _,KT _⟩
def Hs(a c:Int×Int):Gt (AU a c):=⟨KT _,KT _⟩
def OA:Gt (0,0):=⟨⟨τ,τ⟩,⟨τ,τ⟩⟩
def Yh(i:Nat):Dl 0 i=A:=by unfold Dl bv;simp
def OF(f:Nat)(d:Int):Az (0,0) f d=A:=by unfold Az;simp only[Yh];cases d==1<;>cases d==2<;>rfl
def KG(a c:Int×Int)(f:Nat)(d:Int):Az (Cm a c) f d=(Az a f d||Az c f d):=by unfold Az Cm orC;simp only[TK,aG];cases d==1<;>cases d==2<;>rfl
def CT(a c:Int×Int)(hf:f<32)(d:Int):Az (AU a c) f d=(Az a f d&&!Az c f d):=by unfold Az AU Acc;simp only[TK,f4_,BitVec.getLsbD_not,hf,decide_true,q_];cases d==1<;>cases d==2<;>rfl
def QE{F D:Int}(hF:0≤F∧F<32)(hD:D=1∨D=2)(f:Nat)(hd:d=1∨d=2):Az (EB F D) f d=decide (((f:Int),d)=(F,D)):=by
 have hp:Dl (VG F) f=decide (f=F.toNat):=Aqp (k:=F.toNat) ω f;have e:decide (((f:Int),d)=(F,D))=(decide (f=F.toNat)&&decide (d=D)):=by
  rw[Bool.eq_iff_iff,e_,v_,v_,v_,f7_];constructor
  ·rintro⟨h1,h2⟩;exact⟨ω,h2⟩
  ·rintro⟨h1,h2⟩;exact⟨ω,h2⟩
 rw[e];unfold EB Az;rw[Ar.2 ⟨hF.1,show F≤31 by omega⟩];rcases hD with rfl | rfl<;>rcases hd with rfl | rfl
 ·simp[hp]
 ·simp[Yh]
 ·simp[Yh]
 ·simp[hp]
def RM{a:Int×Int}(ha:Gt a)(hc:Gt c)(h:∀f:Nat,f<32→∀d:Int,(d=1∨d=2)→Az a f d=Az c f d):a=c:=by have h1:a.1=c.1:=Aqo ha.1 hc.1 λi hi=>h i hi 1 (.inl rfl);have h2:a.2=c.2:=Aqo ha.2 hc.2 λi hi=>h i hi 2 (.inr rfl);exact Prod.ext h1 h2
def Adg(e:H):Prop:=(0≤e.E0∧e.E0<32)∧(e.J0=1∨e.J0=2)
def ofC:List H→Int×Int→Int×Int
 |[],c=>c
 |e::t,c=>ofC t (Cm c (EB e.E0 e.J0))
def Ahc:∀(l:List H) {c:Int×Int},Gt c→Gt (ofC l c)
 |[],_,h=>h
 |_::t,_,_=>Ahc t (Zz _ _)
def Ahb:∀{l:List H}{c:Int×Int},(∀e∈l,Adg e)→∀(f:Nat) {d:Int},(d=1∨d=2)→(Az (ofC l c) f d=C↔Az c f d=C∨((f:Int),d)∈l.map Dm)
 |[],_,_,f,d,_=>by simp[ofC]
 |e::t,c,h,f,d,hd=>by have he:=h e (s_ ..);simp only[ofC];rw[Ahb (λx hx=>h x (u_ _ hx)) f hd,KG,QE he.1 he.2 f hd,a2_,v_,f9_,t_];show(_∨_=(e.E0,e.J0))∨_↔_∨_=(e.E0,e.J0)∨_;exact or_assoc
def Ze{l:List H}(hl:l.length≤100000):Kv l=B (((),()),(((ofC l (0,0)).1,(ofC l (0,0)).2,()),())):=by
 have h:=AP (step:=λx=>MT x.1.1 x.1.2.2.2.1 x.2.1.1 x.2.1.2.1 x.2.2.1.1 x.2.2.1.2.1) l.length (λi (c:Int×Int)=>((l,(),(),(i:Int),()),(((0:Int),(0:Int),()),(c.1,c.2,()),()))) (λi c=>Cm c (EB (l.getD i noE).E0 (l.getD i noE).J0)) (λ_ _=>True) (λc=>(((),(),()),(((0:Int),(0:Int),()),(c.1,c.2,()),()))) (λi c hi _=>by
  refine⟨?_,trivial⟩;show MT l (i:Int) 0 0 c.1 c.2=_;unfold MT;rw[show Entry.mk 0 0 0 0 A=noE from rfl];have hu:=Zf c (EB (l.getD i noE).E0 (l.getD i noE).J0);simp only[E (ω:(i:Int)<(l.length:Int)),Ac (ω:(0:Int)≤(i:Int)) (ω:(i:Int)<(l.length:Int)),d_,i_,Aux,a_,hu,Ef hi (show l.length≤AN by unfold AN;omega)]) (λc _=>by
  show MT l (l.length:Int) 0 0 c.1 c.2=_;unfold MT;simp only[f_ (J_ (l.length:Int)),b_]) l.length 0 (0,0) ω trivial
 have h':=Aj h.1 ω;have e:∀(l:List H) (c:Int×Int),l.foldl (λc e=>Cm c (EB e.E0 e.J0)) c=ofC l c:=λl=>by
  induction l with
  |nil=>exact λc=>rfl
  |cons a t ih=>exact λc=>ih _
 have e2:∀(k i:Nat) (c:Int×Int),i+k=l.length→BL (λi c=>Cm c (EB (l.getD i noE).E0 (l.getD i noE).J0)) k i c=ofC (l.drop i) c:=by
  intro k;induction k with
  |zero=>intro i c hi;obtain rfl:i=l.length:=ω;rw[a3_];rfl
  |succ k ih=>intro i c hi;rw[BN noE (ω:i<l.length)];exact ih (i+1) _ ω
 rw[e2 l.length 0 (0,0) ω,P_]at h';unfold Kv;rw[show SF ((l,(),(),(0:Int),()),(((0:Int),(0:Int),()),((0:Int),(0:Int),()),()))=_ from h'];rfl
def Nv(c:Int×Int)(f:Nat):List H:=(bif Az c f 1 then [⟨(f:Int),1,-1,0,A⟩]else [])++(bif Az c f 2 then [⟨(f:Int),2,-1,0,A⟩]else [])
def Ads(c:Int×Int)(f:Nat):(Nv c f).length≤2:=by unfold Nv;cases Az c f 1<;>cases Az c f 2<;>simp
def GV(c:Int×Int):List H:=(I 0 32).flatMap (Nv c)
def Aer:p∈(Nv c f).map Dm↔p.1=(f:Int)∧(p.2=1∨p.2=2)∧Az c f p.2=C:=by
 obtain⟨a,d⟩:=p;unfold Nv;rw[List.map_append,o_];have h:∀D:Int,(a,d)∈(bif Az c f D then [Entry.mk (f:Int) D (-1) 0 A]else []).map Dm↔a=(f:Int)∧d=D∧Az c f D=C:=λD=>by cases Az c f D<;>simp[Dm]
 rw[h,h];constructor
 ·rintro(⟨h1,rfl,h3⟩ | ⟨h1,rfl,h3⟩)
  ·exact⟨h1,.inl rfl,h3⟩
  ·exact⟨h1,.inr rfl,h3⟩
 ·rintro⟨h1,h2,h3⟩;simp only at h1 h2 h3;rcases h2 with rfl | rfl
  ·exact .inl ⟨h1,rfl,h3⟩
  ·exact .inr ⟨h1,rfl,h3⟩
def mem_range{i k:Nat}:p∈((I i k).flatMap (Nv c)).map Dm↔∃f:Nat,(i≤f∧f<i+k)∧p.1=(f:Int)∧(p.2=1∨p.2=2)∧Az c f p.2=C:=by
 constructor
 ·intro h;obtain⟨e,he,rfl⟩:=b8_.1 h;obtain⟨f,hf,he⟩:=c3_.1 he;exact⟨f,List.mem_range'_1.1 hf,Aer.1 (b8_.2 ⟨e,he,rfl⟩)⟩
 ·rintro⟨f,hf,h⟩;obtain⟨e,he,h2⟩:=b8_.1 (Aer.2 h);exact b8_.2 ⟨e,c3_.2 ⟨f,List.mem_range'_1.2 hf,he⟩,h2⟩
def Ka(floor dir:Int):Eo floor dir=B (((),()),(((EB floor dir).1,(EB floor dir).2,()),())):=by
 unfold Eo EB inR;by_cases g:0≤floor
 ·by_cases g':floor<32
  ·rw[E g,E g',E (ω:floor≤31)];simp only[d_,a_,S_,E g];cases dir==1<;>cases dir==2<;>rfl
  ·rw[E g,f_ g',f_ (ω:¬floor≤31)];rfl
 ·rw[f_ g];rfl
def Gn(a c:Int×Int):Dh a.1 a.2 c.1 c.2=B (((),()),(((Cm a c).1,(Cm a c).2,()),())):=by unfold Dh;rw[Ahy,Ahy];rfl
def QG(a c:Int×Int):Ig a.1 a.2 c.1 c.2=B (((),()),(((AU a c).1,(AU a c).2,()),())):=by unfold Ig;rw[KU,KU];rfl
def CU(a c:Int×Int):Int×Int:=(vb (bv a.1&&&bv c.1),vb (bv a.2&&&bv c.2))
def Abi(a c:Int×Int):Gt (CU a c):=⟨KT _,KT _⟩
def Lh(a c:Int×Int):Eg a.1 a.2 c.1 c.2=B (((),()),(((CU a c).1,(CU a c).2,()),())):=by unfold Eg;rw[Vo,Vo];rfl
def Ap4(a c:Int×Int):Pa a.1 a.2 c.1 c.2=B (((),()),(((CU a c).1,(CU a c).2,()),())):=by unfold Pa;rw[Vo,Vo];rfl
def Ml(a c:Int×Int)(f:Nat)(d:Int):Az (CU a c) f d=(Az a f d&&Az c f d):=by unfold Az CU;simp only[TK,f4_];cases d==1<;>cases d==2<;>rfl
def isZ(c:Int×Int):Bool:=(c.1==0)&&((c.2==0)&&C)
def Lw(hc:Gt c):isZ c=C↔∀f:Nat,f<32→∀d:Int,(d=1∨d=2)→Az c f d=A:=by
 constructor
 ·intro h f _ d _;unfold isZ at h;simp only[e_,U_]at h;obtain⟨h1,h2,_⟩:=h;rw[show c=(0,0)from Prod.ext h1 h2,OF]
 ·intro h
  have:c=(0,0):=RM hc OA λf hf d hd=>by rw[h f hf d hd,OF]
  rw[this];rfl
def PU(c:Int×Int){F D:Int}(hF:0≤F∧F<32)(hD:D=1∨D=2):DG c.1 c.2 F D=B ((Az c F.toNat D,()),()):=by
 unfold DG;rw[Ka];simp only[a_];rw[Lh c (EB F D)];simp only[a_];show B ((!(isZ (CU c (EB F D))),()),())=_;have e:isZ (CU c (EB F D))=!Az c F.toNat D:=by
  cases h:Az c F.toNat D with
  |false=>
   refine(Lw (Abi _ _)).2 λf hf d hd=>?_;rw[Ml,QE hF hD f hd];by_cases g:((f:Int),d)=(F,D)
   ·obtain⟨h1,h2⟩:=Prod.mk.inj g;rw[show f=F.toNat by omega,h2,h];rfl
   ·rw[f_ g,c2_]
  |true=>
   cases hz:isZ (CU c (EB F D))with
   |false=>rfl
   |true=>
    have:=(Lw (Abi _ _)).1 hz F.toNat ω D hD
    rw[Ml,QE hF hD F.toNat hD,h,E (show(((F.toNat:Nat):Int),D)=(F,D)by rw[g0_ hF.1])]at this;cases this
 rw[e,Bool.not_not]
def BM(b:Bldg):Int×Int:=(aA N (aA N (1*2^min (aB (b.D0-1)) (IntKind.bits .u32))-1),N.wrap (aA N (aA N (1*2^min (aB (b.D0-1)) (IntKind.bits .u32))-1)*2^min (aB (1:Int)) (IntKind.bits .u32)))
def KI(hb:b.small)(hcode:b.code=0):Fd b.D0 b.G0 b.I0 b.M0 b.L0 b.N0 b.O0 b.B0=B (((),()),(((BM b).1,(BM b).2,()),())):=by have lo:=hb.lo;have hi:=hb.hi;unfold Fd BM;rw[Bk,hcode];simp only[a_,Q_,b_,Aa (n:=b.D0-1) ω ω,E (ω:0≤b.D0-1),d_]
def Ak2(n:Nat):Int:=N.wrap (aA N (1*2^min n (IntKind.bits .u32))-1)
def Bdq:((List.range 9).all λn=>(List.range 32).all λi=>(Dl (Ak2 n) i==decide (i<n))&&(Dl (aA N (Ak2 n*2^min (aB 1) (IntKind.bits .u32))) i==(decide (1≤i)&&decide (i≤n))))=C:=κ
def Bdr(b:Bldg):Gt (BM b):=by
 have k:∀n:Int,0≤N.wrap n∧N.wrap n<4294967296:=λn=>by simp only[aA,IntKind.signed,IntKind.bits];simp;omega
 exact⟨k _,k _⟩
def Xg(hb:b.small)(hcode:b.code=0)(hf:f<32)(hd:d=1∨d=2):Az (BM b) f d=Ao b (f:Int) d:=by
 have lo:=hb.lo;have hi:=hb.hi;have t:=M_.1 (M_.1 Bdq (b.D0-1).toNat (List.mem_range.2 ω)) f (List.mem_range.2 hf);rw[e_,U_,U_]at t;unfold Ao NW;rw[hcode];rcases hd with rfl | rfl
 ·have e:Az (BM b) f 1=Dl (Ak2 (b.D0-1).toNat) f:=rfl;rw[e,t.1];unfold inR;rw[E (ω:(0:Int)≤(f:Int))];by_cases g:f<(b.D0-1).toNat
  ·rw[E g,E (ω:(f:Int)≤b.D0-2)];rfl
  ·rw[f_ g,f_ (ω:¬(f:Int)≤b.D0-2)];rfl
 ·have e:Az (BM b) f 2=Dl (aA N (Ak2 (b.D0-1).toNat*2^min (aB 1) (IntKind.bits .u32))) f:=rfl;rw[e,t.2];unfold inR;by_cases g:1≤f
  ·rw[E g,E (ω:(1:Int)≤(f:Int))];by_cases g':f≤(b.D0-1).toNat
   ·rw[E g',E (ω:(f:Int)≤b.D0-1)];rfl
   ·rw[f_ g',f_ (ω:¬(f:Int)≤b.D0-1)];rfl
  ·rw[f_ g,f_ (ω:¬(1:Int)≤(f:Int))];rfl
def Xf(b:Bldg)(i:Nat)(s:Int×Int):Int×Int:=(bif Ao b (i:Int) 1 then orC s.1 (VG (i:Int))else s.1,bif Ao b (i:Int) 2 then orC s.2 (VG (i:Int))else s.2)
def Apy(hb:b.small)(hcode:b.code=0):Sw b.D0 b.G0 b.I0 b.M0 b.L0 b.N0 b.O0 b.B0=B (((),()),(((BM b).1,(BM b).2,()),())):=by
 have h:=AP (step:=λx=>letI a:=x.2.1.2.2;letI c:=a.2.2;JQ x.1.2.2.2.1 x.2.1.1 x.2.1.2.1 a.1 a.2.1 c.1 c.2.1 c.2.2.1 c.2.2.2.1 x.2.2.1.1 x.2.2.1.2.1 x.2.2.2.1.1 x.2.2.2.1.2.1) 32 (λi (s:Int×Int)=>(((),(),(),(i:Int),()),(b.tup,((0:Int),(0:Int),()),(s.1,s.2,()),()))) (Xf b)
  (λi s=>Gt s∧∀f:Nat,f<32→∀d:Int,(d=1∨d=2)→Az s f d=(decide (f<i)&&Ao b (f:Int) d)) (λs=>(((),(),()),(((0:Int),(0:Int),()),(s.1,s.2,()),()))) (λi s hi hs=>by
  have w:IntKind.u64.wrap (i:Int)=(i:Int):=En ω ω;have hp:∀j,Dl (VG (i:Int)) j=decide (j=i):=λj=>Aqp (k:=i) hi j;refine⟨?_,⟨?_,?_⟩,λf hf d hd=>?_⟩
  ·show JQ (i:Int) b.D0 b.G0 b.I0 b.M0 b.L0 b.N0 b.O0 b.B0 0 0 s.1 s.2=_;unfold JQ Xf;rw[Lk hb,E (ω:(i:Int)<32)];simp only[a_,d_,w,E (ω:(0:Int)≤(i:Int)),Ahy];cases Ao b (i:Int) 1 with
   |true=>simp only[d_,a_,Lk hb,w,E (ω:(0:Int)≤(i:Int)),Aa (n:=(i:Int)+1) ω ω];cases Ao b (i:Int) 2<;>rfl
   |false=>simp only[b_,a_,Lk hb,w,E (ω:(0:Int)≤(i:Int)),d_,Aa (n:=(i:Int)+1) ω ω];cases Ao b (i:Int) 2<;>rfl
  ·unfold Xf;cases Ao b (i:Int) 1
   ·exact hs.1.1
   ·exact KT _
  ·unfold Xf;cases Ao b (i:Int) 2
   ·exact hs.1.2
   ·exact KT _
  ·have hk:=hs.2 f hf d hd;have dk:decide (f<i+1)=(decide (f<i)||decide (f=i)):=by
    rw[Bool.eq_iff_iff,a2_,v_,v_,v_];omega
   rw[dk];rcases hd with rfl | rfl
   ·have e:Az (Xf b i s) f 1=Dl (bif Ao b (i:Int) 1 then orC s.1 (VG (i:Int))else s.1) f:=rfl;have hk':Dl s.1 f=_:=hk;rw[e];cases hc:Ao b (i:Int) 1 with
    |true=>
     rw[d_];unfold orC;rw[TK,aG];show(Dl s.1 f||Dl (VG (i:Int)) f)=_;rw[hk',hp];by_cases g:f=i
     ·subst g;rw[hc];simp
     ·rw[f_ g];simp
    |false=>
     rw[b_,hk'];by_cases g:f=i
     ·subst g;rw[hc];simp
     ·rw[f_ g];simp
   ·have e:Az (Xf b i s) f 2=Dl (bif Ao b (i:Int) 2 then orC s.2 (VG (i:Int))else s.2) f:=rfl;have hk':Dl s.2 f=_:=hk;rw[e];cases hc:Ao b (i:Int) 2 with
    |true=>
     rw[d_];unfold orC;rw[TK,aG];show(Dl s.2 f||Dl (VG (i:Int)) f)=_;rw[hk',hp];by_cases g:f=i
     ·subst g;rw[hc];simp
     ·rw[f_ g];simp
    |false=>
     rw[b_,hk'];by_cases g:f=i
     ·subst g;rw[hc];simp
     ·rw[f_ g];simp) (λs _=>by
  show JQ 32 b.D0 b.G0 b.I0 b.M0 b.L0 b.N0 b.O0 b.B0 0 0 s.1 s.2=_;unfold JQ;rw[show decide ((32:Int)<32)=A from rfl];rfl) 32 0 (0,0) ω ⟨OA,λf _ d _=>by rw[OF];simp⟩
 have h':=Aj h.1 ω;have hall:BL (Xf b) 32 0 (0,0)=BM b:=RM h.2.1 (Bdr b) λf hf d hd=>by rw[h.2.2 f hf d hd,Xg hb hcode hf hd,E hf,q_]
 rw[hall]at h';unfold Sw;simp only[Bldg.tup]at h';rw[show Po (((),(),(),(0:Int),()),((b.D0,b.G0,b.I0,b.M0,b.L0,b.N0,b.O0,b.B0,()),((0:Int),(0:Int),()),((0:Int),(0:Int),()),()))=_ from h'];rfl
def DX(b:Bldg)(v:View):Int×Int:=bif v.B3 then CU (v.G3,v.V2) (BM b)else(0,0)
def Sn(hb:b.small)(hcode:b.code=0)(v:View):HE b.D0 b.G0 b.I0 b.M0 b.L0 b.N0 b.O0 b.B0 v.N3 v.B3 v.C3 v.X3 v.E0 v.J0 v.E3 v.G3 v.V2 v.L2 v.Z1 v.Q1=B (((),()),(((DX b v).1,(DX b v).2,()),())):=by
 unfold HE DX;cases v.B3 with
 |false=>rfl
 |true=>rw[KI hb hcode];simp only[m_,b_,a_,d_];rw[Lh (v.G3,v.V2) (BM b)];rfl
def Adk{c:Int×Int}(h:Int→Int→Option ((Bool×Unit)×Unit))(hh:∀f:Nat,f<32→∀d:Int,(d=1∨d=2)→h (f:Int) d=B ((Az c f d,()),())):∀k i:Nat,i+k≤32→WH h (λf d=>Entry.mk f d (-1) 0 A) ((I i k).flatMap λf:Nat=>[((f:Int),1),((f:Int),2)])=B ((I i k).flatMap (Nv c))
 |0,_,_=>rfl
 |k+1,i,hk=>by rw[f1_,a8_,a8_];show WH h _ (((i:Int),1)::((i:Int),2)::((I (i+1) k).flatMap λf:Nat=>[((f:Int),1),((f:Int),2)]))=_;simp only[WH];rw[hh i ω 1 (.inl rfl),hh i ω 2 (.inr rfl),Adk h hh k (i+1) ω];unfold Nv;cases Az c i 1<;>cases Az c i 2<;>rfl
def XK(c:Int×Int):Ma c.1 c.2=B ((GV c,()),()):=by
 unfold Ma Ann;have e:pairs64=(I 0 32).flatMap λf:Nat=>[((f:Int),1),((f:Int),2)]:=by unfold pairs64;rw[List.range_eq_range']
 have h:=Adk (c:=c) (λf d=>DG c.1 c.2 f d) (λf hf d hd=>by have h:=PU c (F:=(f:Int)) (D:=d) ⟨ω,ω⟩ hd;rw[i_]at h;exact h) 32 0 ω;rw[e,h];rfl
end Go.Ovl
namespace Go.Ovl
open Go Go.Ab
variable{r:Nat}{s:ByteArray}
structure Sto where
 h0:ByteArray
 h1:ByteArray
 sel:Int
def Sto.get(s:Sto)(half:Int):ByteArray:=if half=0 then s.h0 else s.h1
def Sto.set(s:Sto)(half:Int)(x:ByteArray):Sto:=if half=0 then { s with h0:=x }else { s with h1:=x }
def Sto.no:Sto:=⟨noB,noB,0⟩
def Sto.cur(s:Sto):ByteArray:=if s.sel=1 then s.h1 else s.h0
def Sto.ok(room:Int)(s:Sto):Prop:=1≤room∧room≤65536∧s.h0.size≤room∧s.h1.size≤room∧(s.sel=0∨s.sel=1)
instance okSto_ti(room:Int)(s:Sto):Decidable (s.ok room):=by unfold Sto.ok;infer_instance
def Sto.tup(s:Sto):ByteArray×ByteArray×Int×Unit:=(s.h0,(s.h1,(s.sel,())))
def Sto.chk(room:Int)(s:Sto)(half bud:Int):Int:=if s.ok room then if(half≠0∧half≠1)∨bud<0 then 2 else 0 else 1
def Sto.write(room:Int)(s:Sto)(half:Int)(d:ByteArray)(bud:Int):Sto×Int×Int:=
 if s.chk room half bud≠0 then(.no,0,s.chk room half bud)
 else if room<(s.get half).size+d.size then(.no,0,7)
 else if bud<d.size then(s.set half (s.get half++d.extract 0 bud.toNat),0,8)
 else(s.set half (s.get half++d),bud-d.size,0)
def Sto.act(room:Int)(s:Sto)(half bud:Int)(t:Sto):Sto×Int×Int:=if s.chk room half bud≠0 then(.no,0,s.chk room half bud)else if bud=0 then(s,0,8)else(t,bud-1,0)
def Sto.erase(room:Int)(s:Sto)(half bud:Int):Sto×Int×Int:=s.act room half bud (s.set half noB)
def Sto.choose(room:Int)(s:Sto)(half bud:Int):Sto×Int×Int:=s.act room half bud { s with sel:=half }
def Sto.out(r:Sto×Int×Int):(Unit×Int×Int×Unit)×((ByteArray×ByteArray×Int×Unit)×Unit):=(((),(r.2.1,(r.2.2,()))),((r.1.h0,(r.1.h1,(r.1.sel,()))),()))
def IH(room:Int)(h0 h1:ByteArray)(sel:Int):Fm room h0 h1 sel=B ((decide (Sto.ok room ⟨h0,h1,sel⟩),()),()):=by
 unfold Fm Sto.ok;by_cases a:1≤room
 ·by_cases b:room≤65536
  ·by_cases c:(h0.size:Int)≤room
   ·by_cases d:(h1.size:Int)≤room
    ·by_cases e:sel=0
     ·simp[a,b,c,d,e]
     ·by_cases f:sel=1<;>simp[a,b,c,d,e,f,Am]
    ·simp[a,b,c,d]
   ·simp[a,b,c]
  ·simp[a,b]
 ·simp[a]
def Ol(room:Int)(h0 h1:ByteArray)(sel half bud:Int):Ij room h0 h1 sel half bud=B ((Sto.chk room ⟨h0,h1,sel⟩ half bud,()),()):=by
 unfold Ij Sto.chk;rw[IH];by_cases a:Sto.ok room ⟨h0,h1,sel⟩
 ·by_cases b:half=0
  ·by_cases c:bud<0<;>simp[a,b,c]
  ·by_cases d:half=1
   ·by_cases c:bud<0<;>simp[a,c,d]
   ·simp[a,b,d,Gx]
 ·simp[a]
def QH{room:Int}{s:Sto}{half bud:Int}(h:s.chk room half bud=0):s.ok room∧(half=0∨half=1)∧0≤bud:=by
 unfold Sto.chk at h;split at h
 ·split at h
  ·cases h
  ·rename_i h1 h2;refine⟨h1,?_,?_⟩<;>omega
 ·cases h
def Tw(room:Int)(h0 h1:ByteArray)(sel half:Int)(d:ByteArray)(bud:Int)(hb:bud<9223372036854775808) :
  Ii room h0 h1 sel half d bud=B (Sto.out (Sto.write room ⟨h0,h1,sel⟩ half d bud)):=by
 unfold Ii Sto.write;rw[Ol];generalize hc:Sto.chk room ⟨h0,h1,sel⟩ half bud=c;by_cases h:c=0
 ·subst h;obtain⟨⟨o1,o2,o3,o4,o5⟩,hh,hb0⟩:=QH hc;simp only at o3 o4;have hin:inB half 2=C:=Ac ω ω;have hg:(List.getD [h0,h1] half.toNat noB)=Sto.get ⟨h0,h1,sel⟩ half:=by
   rcases hh with rfl | rfl<;>rfl
  have hgs:((Sto.get ⟨h0,h1,sel⟩ half).size:Int)≤room:=by rcases hh with rfl | rfl<;>simpa[Sto.get]
  have hset:∀x:ByteArray,((bif Nat.beq half.toNat 0 then x else h0),((bif Nat.beq half.toNat 1 then x else h1),(sel,())))=((Sto.set ⟨h0,h1,sel⟩ half x).h0,((Sto.set ⟨h0,h1,sel⟩ half x).h1,((Sto.set ⟨h0,h1,sel⟩ half x).sel,()))):=by intro x;rcases hh with rfl | rfl<;>rfl
  have hg':(List.getD [h0,h1] half.toNat (ByteArray.mk (Array.mk [])))=Sto.get ⟨h0,h1,sel⟩ half:=hg;simp only[a_,hin,d_,hg',hset];generalize Sto.get ⟨h0,h1,sel⟩ half=g at hgs⊢;rw[Aa (n:=room-g.size) ω ω];by_cases h2:room<(g.size:Int)+d.size
  ·have e:decide (room-(g.size:Int)<d.size)=C:=by simp;omega
   simp[e,h2,Sto.out,Sto.no,noB]
  ·have e:decide (room-(g.size:Int)<d.size)=A:=by simp;omega
   by_cases h3:bud<d.size
   ·have e2:decide (bud<(d.size:Int))=C:=by simpa using h3
    have e3:(decide (0≤bud)&&decide (bud≤(d.size:Int)))=C:=by simp;omega
    have e4:aC (g.size+(d.extract 0 bud.toNat).size) 4611686018427387904=C:=by rw[Abs d ω];exact Ap ω
    simp only[e,e3,e4,h2,h3,d_,b_,g6_,e3_,Sto.out];simp
   ·have e2:decide (bud<(d.size:Int))=A:=by simpa using h3
    have e4:aC (g.size+d.size) 4611686018427387904=C:=Ap ω;rw[Aa (n:=bud-d.size) ω ω];simp only[e,e4,h2,h3,d_,b_,e3_,Sto.out];simp
 ·simp[h,Sto.out,Sto.no,noB,Gx]
def Avq(room:Int)(h0 h1:ByteArray)(sel half bud:Int)(hb:bud<9223372036854775808):NL room h0 h1 sel half bud=B (Sto.out (Sto.erase room ⟨h0,h1,sel⟩ half bud)):=by
 unfold NL Hb Sto.erase Sto.act;rw[Ol];generalize hc:Sto.chk room ⟨h0,h1,sel⟩ half bud=c;by_cases h:c=0
 ·subst h;obtain⟨_,hh,hb0⟩:=QH hc;by_cases h2:bud=0
  ·simp[h2,Sto.out]
  ·have hin:inB half 2=C:=Ac ω ω;unfold Pj;rw[Aa (n:=bud-1) ω ω];have e:(bud==0)=A:=by simpa using h2
   rcases hh with rfl | rfl<;>simp[hin,e,h2,Sto.out,Sto.set,noB]<;>rfl
 ·simp[h,Sto.out,Sto.no,noB,Gx]
def Aqh(room:Int)(h0 h1:ByteArray)(sel half bud:Int)(hb:bud<9223372036854775808):MP room h0 h1 sel half bud=B (Sto.out (Sto.choose room ⟨h0,h1,sel⟩ half bud)):=by
 unfold MP GD Sto.choose Sto.act;rw[Ol];generalize hc:Sto.chk room ⟨h0,h1,sel⟩ half bud=c;by_cases h:c=0
 ·subst h;obtain⟨_,hh,hb0⟩:=QH hc;by_cases h2:bud=0
  ·simp[h2,Sto.out]
  ·unfold Ok;rw[Aa (n:=bud-1) ω ω];have e:(bud==0)=A:=by simpa using h2
   simp[e,h2,Sto.out]
 ·simp[h,Sto.out,Sto.no,noB,Gx]
def XZ(h0 h1:ByteArray)(sel:Int):LM h0 h1 sel=B ((Sto.cur ⟨h0,h1,sel⟩,()),()):=by unfold LM Sto.cur;by_cases h:sel=1<;>simp[h,Am]
def Ht:Debounced:=Debounced.mk 0 A A A A 0 0 0 0 0 0 0 0 0 0 0 0 0 0 0 0 0 0 0 0 0 0 0 0 0 0 0 0 0 0 0 0 0 0 0 0
def Hh:Duty:=Duty.mk 0 0 0
def BG:NewCar:=NewCar.mk 0 0 0 0 0 A 0 0 0 0 0 0 0 A
def Ace:Loaded:=Loaded.mk 0
def Ag9:Calls:=Calls.mk 0 0
def HX:Belief:=Belief.mk 0 0 0 [] 0 A
def Belief.tup(x:Belief):Int×Int×Int×List Duty×Int×Bool×Unit:=(x.E0,x.J0,x.D3,x.W0,x.T2,x.H3,())
structure Mch where
 C0:Img
 U0:Sto
 R1:List Debounced
 X0:List Belief
 B0:List NewCar
 M2:List Loaded
 X1:List Int
 I3:List Calls
 U3:Int
 Q2:Int
 G2:Int
def Mch.tup(m:Mch):List Int×List Bool×List Bool×List H×ByteArray×ByteArray×Int×List Debounced×List Belief×List NewCar×List Loaded×List Int×List Calls×Int×Int×Int×Unit:=(m.C0.F0,m.C0.K0,m.C0.H0,m.C0.A0,m.U0.h0,m.U0.h1,m.U0.sel,m.R1,m.X0,m.B0,m.M2,m.X1,m.I3,m.U3,m.Q2,m.G2,())
structure Mch.fit(m:Mch):Prop where
 im:m.C0.fit
 co:m.R1.length≤100000
 be:m.X0.length≤100000
 du:∀x∈m.X0,x.W0.length≤100000
 ca:m.B0.length≤100000
 lo:m.M2.length≤100000
 ex:m.X1.length≤100000
 li:m.I3.length≤100000
section
variable{a c:Mch}(ha:a.fit)
include ha
end
def bl(s:ByteArray):List UInt8:=s.data.toList
def PS{a c:ByteArray}(h:bl a=bl c):a=c:=by apply ByteArray.ext;unfold bl at h;exact Array.toList_inj.1 h
def Lg(a c:ByteArray):bl (a++c)=bl a++bl c:=by simp[bl]
def PQ(a:ByteArray)(i j:Nat):bl (a.extract i j)=((bl a).drop i).take (j-i):=by simp[bl]
def DW(a:ByteArray):(bl a).length=a.size:=by simp[bl]
def Bs4(l:List UInt8):bl ⟨l.toArray⟩=l:=by simp[bl]
def Km(s:ByteArray)(i:Nat):By s i=(((bl s).getD i 0).toNat:Int):=by unfold By bl;simp[z_,k_]
def Qo(r:Nat):Nat:=if 128≤r then(r*2%256)^^^7 else r*2%256
def it8:Nat→Nat→Nat
 |0,r=>r
 |k+1,r=>it8 k (Qo r)
def UK(r x:Nat):Nat:=it8 8 (r^^^x)
def RB(l:List UInt8):Nat:=l.foldl (λr x=>UK r x.toNat) 0
def Acp(_h:r<256):Qo r<256:=by
 unfold Qo;split
 ·exact d7_ (n:=8) ω τ
 ·omega
def Azy:∀(k:Nat) {r:Nat},r<256→it8 k r<256
 |0,_,h=>h
 |k+1,_,h=>Azy k (Acp h)
def Abk{x:Nat}(h:r<256)(h':x<256):UK r x<256:=Azy 8 (d7_ (n:=8) h h')
def Bjs(l:List UInt8):∀r:Nat,r<256→l.foldl (λr x=>UK r x.toNat) r<256:=by
 induction l with
 |nil=>exact λr h=>h
 |cons x t ih=>intro r h;rw[e9_];have hx:x.toNat<256:=UInt8.toNat_lt x;exact ih _ (Abk h hx)
def Ar2(l:List UInt8):RB l<256:=Bjs l 0 ω
def QS{n:Int}(h:0≤n)(h':n<256):aD.wrap n=n:=by simp only[aA,IntKind.signed,IntKind.bits];simp;omega
def Br9{a c:Nat}(ha:a<256)(hc:c<256):aD.wrap (stk (a:Int) (c:Int) (BitVec.toNat ((aF (IntKind.bits .u8) (a:Int))^^^(aF (IntKind.bits .u8) (c:Int)))))=((a^^^c:Nat):Int):=by have h:=d7_ (n:=8) ha hc;rw[Kh,BitVec.toNat_xor,Z_,Z_];rw[show(((a:Int))%((2^IntKind.bits .u8:Nat):Int)).toNat=a by simp only[IntKind.bits];omega,show(((c:Int))%((2^IntKind.bits .u8:Nat):Int)).toNat=c by simp only[IntKind.bits];omega];exact QS ω ω
def Bid{a c:Nat}(ha:a<256)(hc:c<256):aE.wrap (stk (a:Int) (c:Int) (BitVec.toNat ((aF (IntKind.bits .i64) (a:Int))^^^(aF (IntKind.bits .i64) (c:Int)))))=((a^^^c:Nat):Int):=by have h:=d7_ (n:=8) ha hc;rw[Kh,BitVec.toNat_xor,Z_,Z_];rw[show(((a:Int))%((2^IntKind.bits .i64:Nat):Int)).toNat=a by simp only[IntKind.bits];omega,show(((c:Int))%((2^IntKind.bits .i64:Nat):Int)).toNat=c by simp only[IntKind.bits];omega];exact Aa ω ω
def At8:∀(k i r:Nat),BL (λ_ r=>Qo r) k i r=it8 k r
 |0,_,_=>rfl
 |k+1,i,r=>At8 k (i+1) (Qo r)
def Azi(s:ByteArray)(s7 s8:Int){k:Nat}(hr:r<256)(hk:k<8):PF s (r:Int) s7 s8 (k:Int)=B (Sum.inl ((s,((Qo r:Nat):Int),s7,s8,((k+1:Nat):Int),()),())):=by
 unfold PF;have w:aE.wrap ((k:Int)+1)=((k+1:Nat):Int):=by rw[Aa ω ω];omega
 have h0:aD.wrap ((r:Int)*((2:Int)^(Min.min (aB (1:Int)) (IntKind.bits aD))))=((r*2%256:Nat):Int):=by rw[show((2:Int)^(Min.min (aB (1:Int)) (IntKind.bits aD)))=2 from rfl];simp only[aA,IntKind.signed,IntKind.bits];simp
 have h1:aD.wrap ((Int.fdiv (r:Int) ((2:Int)^(Min.min (aB (7:Int)) (IntKind.bits aD))))*(7:Int))=(((if 128≤r then 7 else 0):Nat):Int):=by
  rw[show((2:Int)^(Min.min (aB (7:Int)) (IntKind.bits aD)))=128 from rfl,a9_ _ ω];split
  ·rw[show(r:Int)/128=1 by omega];rfl
  ·rw[show(r:Int)/128=0 by omega];rfl
 simp only[E (ω:(k:Int)<8),d_,h0,h1,w];rw[Br9 ω (by split<;>omega)];unfold Qo;split
 ·rfl
 ·rw[Nat.xor_zero]
def Ba2(s:ByteArray)(i:Int){k:Nat}(hr:r<256)(hk:k<8):PH s (r:Int) i (k:Int)=B (Sum.inl ((s,((Qo r:Nat):Int),i,((k+1:Nat):Int),()),())):=by
 unfold PH;have w:aE.wrap ((k:Int)+1)=((k+1:Nat):Int):=by rw[Aa ω ω];omega
 have h0:Int.tmod (aA aE ((r:Int)*2)) 256=((r*2%256:Nat):Int):=by rw[Aa ω ω,c9_ ω];omega
 simp only[E (ω:(k:Int)<8),d_,h0,w];unfold Qo;by_cases h:128≤r
 ·rw[E (ω:(128:Int)≤(r:Int)),if_pos h,d_];have hx:=Bid (a:=r*2%256) (c:=7) ω ω;rw[show((7:Nat):Int)=7 from rfl]at hx;rw[hx]
 ·rw[f_ (ω:¬(128:Int)≤(r:Int)),if_neg h];rfl
def Azh(s:ByteArray)(s7 s8:Int)(hr:r<256):Pn ((s,(r:Int),s7,s8,(0:Int),()),())=B ((s,((it8 8 r:Nat):Int),s7,s8,()),()):=by have h:=AP (step:=λx=>PF x.1.1 x.1.2.1 x.1.2.2.1 x.1.2.2.2.1 x.1.2.2.2.2.1) 8 (λk r=>((s,((r:Nat):Int),s7,s8,(k:Int),()),())) (λ_ r=>Qo r) (λ_ r=>r<256) (λr=>((s,((r:Nat):Int),s7,s8,()),())) (λk r hk hr=>⟨Azi s s7 s8 hr hk,Acp hr⟩) (λr _=>rfl) 8 0 r rfl hr;have h':=h.1;rw[At8]at h';exact Aj h' ω
def Ba1(s:ByteArray)(i:Int)(hr:r<256):Pq ((s,(r:Int),i,(0:Int),()),())=B ((s,((it8 8 r:Nat):Int),i,()),()):=by have h:=AP (step:=λx=>PH x.1.1 x.1.2.1 x.1.2.2.1 x.1.2.2.2.1) 8 (λk r=>((s,((r:Nat):Int),i,(k:Int),()),())) (λ_ r=>Qo r) (λ_ r=>r<256) (λr=>((s,((r:Nat):Int),i,()),())) (λk r hk hr=>⟨Ba2 s i hr hk,Acp hr⟩) (λr _=>rfl) 8 0 r rfl hr;have h':=h.1;rw[At8]at h';exact Aj h' ω
def Rt{α β:Type}(f:β→α→β)(d:α):∀(l:List α) (k i:Nat) (s:β),i+k=l.length→BL (λi s=>f s (l.getD i d)) k i s=(l.drop i).foldl f s
 |l,0,i,s,h=>by obtain rfl:i=l.length:=ω;simp[BL]
 |l,k+1,i,s,h=>by have hi:i<l.length:=ω;simp only[BL];rw[Rt f d l k (i+1) _ ω,h4_ hi,e9_];simp[hi]
def Apk(hs:s.size≤1000000):Su s=B ((((RB (bl s):Nat):Int),()),()):=by
 have h:=AP (step:=λx=>JP x.1.1 x.1.2.1 x.1.2.2.1 x.1.2.2.2.1) s.size (λi r=>((s,((r:Nat):Int),(s.size:Int),(i:Int),()),())) (λi r=>UK r ((bl s).getD i 0).toNat) (λ_ r=>r<256) (λr=>((((r:Nat):Int),()),())) (λi r hi hr=>by
  have hx:=UInt8.toNat_lt ((bl s).getD i 0);refine⟨?_,Abk hr hx⟩;show JP s ((r:Nat):Int) (s.size:Int) (i:Int)=_;have w:aE.wrap ((i:Int)+1)=((i+1:Nat):Int):=by rw[Aa ω ω];omega
  unfold JP;simp only[E (ω:(i:Int)<(s.size:Int)),Ac (ω:(0:Int)≤(i:Int)) (ω:(i:Int)<(s.size:Int)),d_,i_,Km];rw[Br9 hr hx,Azh s _ _ (d7_ (n:=8) hr hx),a_,w];rfl) (λr _=>by
  show JP s ((r:Nat):Int) (s.size:Int) (s.size:Int)=_;unfold JP;simp only[f_ (J_ (s.size:Int)),b_]) s.size 0 0 ω ω
 have h':=Aj h.1 ω;rw[Rt (λr (x:UInt8)=>UK r x.toNat) 0 (bl s) s.size 0 0 (by rw[DW];omega),P_]at h';unfold Su;rw[show Pm ((s,(0:Int),(s.size:Int),(0:Int),()),())=_ from h'];rfl
def Aa2(hs:s.size≤1000000):OX s=B ((((RB (bl s):Nat):Int),()),()):=by
 have h:=AP (step:=λx=>JR x.1.1 x.1.2.1 x.1.2.2.1) s.size (λi r=>((s,((r:Nat):Int),(i:Int),()),())) (λi r=>UK r ((bl s).getD i 0).toNat) (λ_ r=>r<256) (λr=>((((r:Nat):Int),()),())) (λi r hi hr=>by
  have hx:=UInt8.toNat_lt ((bl s).getD i 0);refine⟨?_,Abk hr hx⟩;show JR s ((r:Nat):Int) (i:Int)=_;have w:aE.wrap ((i:Int)+1)=((i+1:Nat):Int):=by rw[Aa ω ω];omega
  unfold JR;simp only[E (ω:(i:Int)<(s.size:Int)),Ac (ω:(0:Int)≤(i:Int)) (ω:(i:Int)<(s.size:Int)),d_,i_,Km,Aa (n:=(((bl s).getD i 0).toNat:Int)) ω ω];rw[Bid hr hx,Ba1 s _ (d7_ (n:=8) hr hx),a_,w];rfl) (λr _=>by
  show JR s ((r:Nat):Int) (s.size:Int)=_;unfold JR;simp only[f_ (J_ (s.size:Int)),b_]) s.size 0 0 ω ω
 have h':=Aj h.1 ω;rw[Rt (λr (x:UInt8)=>UK r x.toNat) 0 (bl s) s.size 0 0 (by rw[DW];omega),P_]at h';have hl:=Ar2 (bl s);unfold OX;rw[show Pp ((s,(0:Int),(0:Int),()),())=_ from h'];simp only[a_];rw[show((bl s).foldl (λr (x:UInt8)=>UK r x.toNat) 0)=RB (bl s)from rfl,QS ω ω]
end Go.Ovl
