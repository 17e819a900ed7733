import Derived.Test.YtefobhcldlacgaaGreatDoorOvA
set_option linter.all false
open Bool renaming false->A,true->B
open Go.Ovl renaming Entry->C,Bv->I,noE->J,Img->L,isC->N,Record->O
open Go renaming c_->E,d_->H
open List renaming replicate->P,range'->aA
open Option renaming some->Q
open Int renaming toNat->R
open Go.IntKind renaming i64->aB,wrap->aE
open Nat renaming blt->aC,le_succ->aD
namespace Go.Ovl
open Go Go.Ab
set_option maxRecDepth 100000
variable{l:List C}{b:Bldg}{m:L}{e:C}{k f:Nat}{c p:Int×Int}{r:O}{α:Type}
def HP{a c:C}:I a c=B↔a.E0<c.E0∨(a.E0=c.E0∧a.I0<c.I0):=by unfold I;simp only[R_,e_,t_,U_]
def QO{a c d:C}(h:I a c=B)(h':I c d=B):I a d=B:=by rw[HP]at*;omega
def BR(e:C):Int×Int:=(e.E0,e.I0)
def ltC(a c:Int×Int):Prop:=a.1<c.1∨(a.1=c.1∧a.2<c.2)
def Bj(l:List C):Prop:=(l.map BR).Pairwise ltC
def Et:Bj l↔l.Pairwise λx y=>I x y=B:=by unfold Bj;rw[List.pairwise_map];exact⟨λh=>h.imp λhh=>HP.2 hh,λh=>h.imp λhh=>HP.1 hh⟩
def Ahf{b:Bldg}:∀{l:List C}{p:Option C},HG b p l=B↔(∀e∈l,Iz b e=B)∧Bj l∧(∀q,p=Q q→∀e∈l,I q e=B)
 |[],p=>by simp[HG,Bj]
 |a::t,p=>by
  simp only[HG,e_];rw[Ahf (l:=t),Et,Et,e6_];constructor
  ·rintro⟨h1,h2,h3,h4,h5⟩;refine⟨λe he=>?_,⟨λe he=>h5 a rfl e he,h4⟩,λq hq e he=>?_⟩
   ·rcases s_.1 he with rfl | he
    ·exact h1
    ·exact h3 e he
   ·subst hq;simp only at h2;rcases s_.1 he with rfl | he
    ·exact h2
    ·exact QO h2 (h5 a rfl e he)
  ·rintro⟨h1,⟨h2,h3⟩,h4⟩;refine⟨h1 a (p_ ..),?_,λe he=>h1 e (r_ _ he),h3,λq hq e he=>?_⟩
   ·cases p with
    |none=>rfl
    |some q=>exact h4 q rfl a (p_ ..)
   ·obtain rfl:=F_ hq;exact h2 e he
def Ade:HG b none l=B↔(∀e∈l,Iz b e=B)∧Bj l:=by rw[Ahf];exact⟨λh=>⟨h.1,h.2.1⟩,λh=>⟨h.1,h.2,λ_ hq=>by cases hq⟩⟩
def Aur(h:Bj l)(k:Nat):Bj (l.take k++l.drop (k+1)):=by rw[Et]at*;exact h.sublist (by rw[← List.eraseIdx_eq_take_drop_succ];exact List.eraseIdx_sublist ..)
def TA(hk:k<l.length)(he:BR e=BR (l.getD k J)):(l.set k e).map BR=l.map BR:=by
 rw[List.map_set,he];apply List.ext_getElem?;intro i;rw[List.getElem?_set];by_cases h:k=i
 ·subst h;rw[if_pos rfl];simp[hk,k_]
 ·rw[if_neg h]
def Aes(h:Bj l)(hk:k<l.length)(he:BR e=BR (l.getD k J)):Bj (l.set k e):=by unfold Bj at*;rw[TA hk he];exact h
def Abv{e x:C}:∀{l:List C},x∈Hw e A l→x=e∨x∈l
 |[],h=>by simp[Hw]at h;exact .inl h
 |a::t,h=>by
  simp only[Hw]at h;cases hq:I e a with
  |true=>
   rw[hq,H,Uv]at h;rcases s_.1 h with h | h
   ·exact .inl h
   ·exact .inr h
  |false=>
   rw[hq,E]at h;rcases s_.1 h with h | h
   ·exact .inr (by rw[h];exact p_ ..)
   ·rcases Abv h with h | h
    ·exact .inl h
    ·exact .inr (r_ _ h)
def Aer{e:C}:∀{l:List C},Bj l→(∀x∈l,N e.E0 e.I0 x=A)→Bj (Hw e A l)
 |[],_,_=>by simp[Hw,Bj]
 |a::t,h,hn=>by
  rw[Et]at*;obtain⟨h1,h2⟩:=e6_.1 h;simp only[Hw];cases hq:I e a with
  |true=>
   rw[H,Uv];refine e6_.2 ⟨λx hx=>?_,h⟩;rcases s_.1 hx with rfl | hx
   ·exact hq
   ·exact QO hq (h1 x hx)
  |false=>
   rw[E];refine e6_.2 ⟨λx hx=>?_,Et.1 (Aer (Et.2 h2) λx hx=>hn x (r_ _ hx))⟩;rcases Abv hx with rfl | hx
   ·rw[HP];have h3:¬(x.E0<a.E0∨(x.E0=a.E0∧x.I0<a.I0)):=λhh=>by rw[HP.2 hh]at hq;cases hq
    have h4:=hn a (p_ ..);unfold N at h4;simp only[Bool.and_eq_false_iff,beq_eq_false_iff_ne]at h4;omega
   ·exact h1 x hx
structure ImgOK(b:Bldg)(m:Img):Prop where
 code:b.code=0
 lp:m.G0.length=b.B0.length
 lf:m.O0.length=b.B0.length
 ll:m.J0.length=b.B0.length
 ph:∀p∈m.G0,0≤p∧p≤4
 en:∀e∈m.A0,Iz b e=true
 so:Bj m.A0
def Img.ok_iff:m.ok b=B↔ImgOK b m:=by
 unfold Img.ok;simp only[e_,U_];constructor
 ·rintro⟨h0,h1,h2,h3,h4,h5⟩;have h6:=Ade.1 h5;exact⟨h0,ω,ω,ω,λp hp=>Ao.1 (I_.1 h4 p hp),h6.1,h6.2⟩
 ·rintro⟨h0,h1,h2,h3,h4,h5,h6⟩;exact⟨h0,ω,ω,ω,I_.2 λp hp=>Ao.2 (h4 p hp),Ade.2 ⟨h5,h6⟩⟩
def CH:Iz b e=B↔Ap b e.E0 e.I0=B∧(-2≤e.R0∧e.R0<(b.B0.length:Int))∧0≤e.L1∧e.L1≤255:=by
 unfold Iz;simp only[e_,t_];constructor
 ·rintro⟨h1,h2,h3,h4,h5⟩;exact⟨h1,⟨h2,h3⟩,h4,h5⟩
 ·rintro⟨h1,⟨h2,h3⟩,h4,h5⟩;exact⟨h1,h2,h3,h4,h5⟩
def Agf{l:List α}{a x:α}(h:x∈l.set k a):x=a∨x∈l:=by
 rcases List.mem_or_eq_of_mem_set h with h | h
 ·exact .inr h
 ·exact .inl h
def Vn(h:Ax b r=B):b.code=0∧
    ((r.Q0=1∧Ap b r.E0 r.I0=B∧r.R0=0∧r.Z1=0)∨(r.Q0=2∧Ap b r.E0 r.I0=B∧r.R0=0∧r.Z1=0)∨
     (r.Q0=3∧Ap b r.E0 r.I0=B∧(-2≤r.R0∧r.R0<(b.B0.length:Int))∧r.Z1=0)∨
     (r.Q0=4∧(0≤r.R0∧r.R0<(b.B0.length:Int))∧(0≤r.Z1∧r.Z1≤4))∨
     (r.Q0=5∧(0≤r.R0∧r.R0<(b.B0.length:Int))∧(0≤r.Z1∧r.Z1≤1))∨
     (r.Q0=6∧(0≤r.R0∧r.R0<(b.B0.length:Int))∧(0≤r.Z1∧r.Z1≤1))∨
     (r.Q0=7∧Ap b r.E0 r.I0=B∧(0≤r.R0∧r.R0≤1)∧(0≤r.Z1∧r.Z1≤255))):=by
  unfold Ax UW at h;simp only[e_,U_]at h;obtain⟨h0,h⟩:=h;refine⟨h0,?_⟩;by_cases k1:r.Q0=1
  · rw[k1]at h;simp only[l_,H,e_,U_]at h;exact .inl ⟨k1,h.1,h.2⟩
  rw[An k1,E]at h;by_cases k2:r.Q0=2
  · rw[k2]at h;simp only[l_,H,e_,U_]at h;exact .inr (.inl ⟨k2,h.1,h.2⟩)
  rw[An k2,E]at h;by_cases k3:r.Q0=3
  · rw[k3]at h;simp only[l_,H,e_,U_,Ao]at h;exact .inr (.inr (.inl ⟨k3,h.1,ω,h.2.2⟩))
  rw[An k3,E]at h;by_cases k4:r.Q0=4
  · rw[k4]at h;simp only[l_,H,e_,U_,Ao]at h;exact .inr (.inr (.inr (.inl ⟨k4,ω,h.2⟩)))
  rw[An k4,E]at h;by_cases k5:r.Q0=5
  · rw[k5]at h;simp only[l_,H,e_,U_,Ao]at h;exact .inr (.inr (.inr (.inr (.inl ⟨k5,ω,h.2⟩))))
  rw[An k5,E]at h;by_cases k6:r.Q0=6
  · rw[k6]at h;simp only[l_,H,e_,U_,Ao]at h;exact .inr (.inr (.inr (.inr (.inr (.inl ⟨k6,ω,h.2⟩)))))
  rw[An k6,E]at h;by_cases k7:r.Q0=7
  · rw[k7]at h;simp only[l_,H,e_,Ao]at h;exact .inr (.inr (.inr (.inr (.inr (.inr ⟨k7,h.1,h.2.1,h.2.2⟩)))))
  rw[An k7]at h;cases h
def Aec(h:ImgOK b m)(h1:∀e∈l,Iz b e=B)(h2:Bj l):ImgOK b (m.put l):=⟨h.code,h.lp,h.lf,h.ll,h.ph,h1,h2⟩
def Aqh{F D:Int}:N F D e=B↔BR e=(F,D):=by unfold N BR;simp only[e_,U_,e7_]
def KH(h:ImgOK b m)(hv:Ax b r=B):ImgOK b (Ak m r)∧(Ak m r).A0.length≤m.A0.length+1:=by
 obtain⟨_,hk⟩:=Vn hv;unfold Ak;by_cases k4:r.Q0=4
 ·rw[show(r.Q0==4)=B by rw[k4];rfl];refine⟨⟨h.code,by show(m.G0.set _ _).length=_;rw[x_];exact h.lp,h.lf,h.ll,λp hp=>?_,h.en,h.so⟩,aD _⟩;rcases Agf hp with rfl | hp
  ·omega
  ·exact h.ph p hp
 rw[An k4,E];by_cases k5:r.Q0=5
 ·rw[show(r.Q0==5)=B by rw[k5];rfl];exact⟨⟨h.code,h.lp,by show(m.O0.set _ _).length=_;rw[x_];exact h.lf,h.ll,h.ph,h.en,h.so⟩,aD _⟩
 rw[An k5,E];by_cases k6:r.Q0=6
 ·rw[show(r.Q0==6)=B by rw[k6];rfl];exact⟨⟨h.code,h.lp,h.lf,by show(m.J0.set _ _).length=_;rw[x_];exact h.ll,h.ph,h.en,h.so⟩,aD _⟩
 rw[An k6,E];rcases Sl r.E0 r.I0 m.A0 0 with⟨h1,h2⟩ | ⟨k,h1,h2,h3⟩
 ·rw[h1,show((-1:Int)==-1)=B from rfl,H];by_cases k1:r.Q0=1
  ·rw[show(r.Q0==1)=B by rw[k1];rfl,H];refine⟨Aec h (λe he=>?_) (Aer h.so h2),Abl _ _ _⟩;rcases Abv he with rfl | he
   ·rw[CH];have hc:Ap b r.E0 r.I0=B:=by
     rcases hk with hk | hk | hk | hk | hk | hk | hk
     ·exact hk.2.1
     all_goals omega
    exact⟨hc,⟨by show(-2:Int)≤-1;omega,by show(-1:Int)<_;omega⟩,by show(0:Int)≤0;omega,by show(0:Int)≤255;omega⟩
   ·exact h.en e he
  ·rw[An k1,E];exact⟨h,aD _⟩
 ·rw[o_]at h2;rw[h2,An (ω:¬(k:Int)=-1),E,j_];have hmem:=BN J h1;have hent:=CH.1 (h.en _ hmem);cases r.Q0==2 with
  |true=>
   refine⟨Aec h (λe he=>?_) (Aur h.so k),?_⟩
   ·rcases n_.1 he with he | he
    ·exact h.en e (d9_ he)
    ·exact h.en e (e0_ he)
   ·show(m.A0.take k++m.A0.drop (k+1)).length≤_;rw[h_,u_,V_];omega
  |false=>
   rw[E];by_cases k3:r.Q0=3
   ·rw[show(r.Q0==3)=B by rw[k3];rfl,H];refine⟨Aec h (λe he=>?_) (Aes h.so h1 rfl),by show(m.A0.set _ _).length≤_;rw[x_];omega⟩;rcases Agf he with rfl | he
    ·rw[CH];refine⟨hent.1,?_,hent.2.2⟩;show -2≤r.R0∧r.R0<_;rcases hk with hk | hk | hk | hk | hk | hk | hk
     all_goals first
      |exact hk.2.2.1
      |omega
    ·exact h.en e he
   ·rw[An k3,E];by_cases k7:r.Q0=7
    ·rw[show(r.Q0==7)=B by rw[k7];rfl,H];refine⟨Aec h (λe he=>?_) (Aes h.so h1 rfl),by show(m.A0.set _ _).length≤_;rw[x_];omega⟩;rcases Agf he with rfl | he
     ·rw[CH];refine⟨hent.1,hent.2.1,?_⟩;show 0≤r.Z1∧r.Z1≤255;rcases hk with hk | hk | hk | hk | hk | hk | hk
      all_goals first
       |exact hk.2.2.2
       |omega
     ·exact h.en e he
    ·rw[An k7,E];exact⟨h,aD _⟩
def FG(b:Bldg):L:=⟨P b.B0.length 0,P b.B0.length A,P b.B0.length A,[]⟩
def Abj(hcode:b.code=0):ImgOK b (FG b):=⟨hcode,T_,T_,T_,(λp hp=>by rw[List.eq_of_mem_replicate hp];omega),(λ_ h=>by cases h),by simp[FG,Bj]⟩
def Ai(m:L):List O→L
 |[]=>m
 |r::t=>Ai (Ak m r) t
def XU{b:Bldg}:∀{rs:List O}{m:L},ImgOK b m→(∀r∈rs,Ax b r=B)→ImgOK b (Ai m rs)∧(Ai m rs).A0.length≤m.A0.length+rs.length
 |[],_,h,_=>⟨h,y_ _⟩
 |r::t,m,h,hv=>by obtain⟨h1,h2⟩:=KH h (hv r (p_ ..));obtain⟨h3,h4⟩:=XU (rs:=t) h1 λx hx=>hv x (r_ _ hx);exact⟨h3,by show(Ai (Ak m r) t).A0.length≤_;rw[B_];omega⟩
def Ab6(n lo hi:Int):Fv n lo hi=Q ((inR lo hi n,()),()):=by unfold Fv inR;cases decide (lo≤n)<;>rfl
def PS(hb:b.small)(hc:b.B0.length≤100)(r:O):HV b.C0 b.F0 b.H0 b.M0 b.K0 b.L0 b.N0 b.B0 r.Q0 r.E0 r.I0 r.R0 r.Z1=Q ((Ax b r,()),()):=by
  have w:aB.wrap ((b.B0.length:Int)-1)=(b.B0.length:Int)-1:=Aa ω ω;unfold HV Ax UW;rw[AR,MB hb];simp only[a_,bne,Ab6,w];cases b.code==0 with
  |false=>rfl
  |true=>
    simp only[q_,E,z_];cases inR 0 ((b.B0.length:Int)-1) r.R0<;>cases r.E0==0<;>cases r.I0==0<;>
      (simp only[a_,H,E,a6_,e3_,c8_,b0_,z_,w]
       by_cases k1:r.Q0=1
       · simp only[k1,l_,H]
         cases Ap b r.E0 r.I0<;>cases r.R0==0<;>rfl
       by_cases k2:r.Q0=2
       · simp only[k2,l_,H,E,show((2:Int)==1)=A from rfl]
         cases Ap b r.E0 r.I0<;>cases r.R0==0<;>rfl
       by_cases k3:r.Q0=3
       · simp only[k3,l_,H,E,show((3:Int)==1)=A from rfl,show((3:Int)==2)=A from rfl]
         cases Ap b r.E0 r.I0<;>cases inR (-2) ((b.B0.length:Int)-1) r.R0<;>rfl
       by_cases k4:r.Q0=4
       · simp only[k4,l_,H,E,show((4:Int)==1)=A from rfl,show((4:Int)==2)=A from rfl,show((4:Int)==3)=A from rfl,show((4:Int)==7)=A from rfl]
       by_cases k5:r.Q0=5
       · simp only[k5,l_,H,E,show((5:Int)==1)=A from rfl,show((5:Int)==2)=A from rfl,show((5:Int)==3)=A from rfl,show((5:Int)==7)=A from rfl,show((5:Int)==4)=A from rfl]
       by_cases k6:r.Q0=6
       · simp only[k6,l_,H,E,show((6:Int)==1)=A from rfl,show((6:Int)==2)=A from rfl,show((6:Int)==3)=A from rfl,show((6:Int)==7)=A from rfl,show((6:Int)==4)=A from rfl,show((6:Int)==5)=A from rfl]
       by_cases k7:r.Q0=7
       · simp only[k7,l_,H,E,show((7:Int)==1)=A from rfl,show((7:Int)==2)=A from rfl,show((7:Int)==3)=A from rfl,show((7:Int)==4)=A from rfl,show((7:Int)==5)=A from rfl,show((7:Int)==6)=A from rfl]
         cases Ap b r.E0 r.I0<;>cases inR 0 1 r.R0<;>rfl
       simp only[An k1,An k2,An k3,An k4,An k5,An k6,An k7,E])
def YH(m:L)(h1:m.G0.length≤100000)(h2:m.O0.length≤100000)(h3:m.J0.length≤100000)(h4:m.A0.length≤100000):NH m.G0 m.O0 m.J0 m.A0=Q (((),()),(m.tup,())):=by
 have k:∀{α:Type}(l:List α),l.length≤100000→NB l=Q ((l,()),()):=λl h=>by unfold NB;rw[AD (ω:l.length≤2147483648)];rfl
 unfold NH Be AK AO;rw[k _ h1,k _ h2,k _ h3,k _ h4];rfl
def AA(c:C):List C→Nat
 |[]=>0
 |e::t=>bif I e c then AA c t+1 else 0
def SO(c:C):∀l:List C,AA c l≤l.length
 |[]=>y_ _
 |e::t=>by
  have:=SO c t
  simp only[AA,B_];cases I e c<;>simp<;>omega
def Agn(c:C):∀(l:List C) (k:Nat),k<AA c l→I (l.getD k J) c=B
 |[],k,h=>by simp[AA]at h
 |e::t,k,h=>by
  simp only[AA]at h;cases he:I e c with
  |false=>rw[he]at h;simp at h
  |true=>
   rw[he]at h;cases k with
   |zero=>exact he
   |succ k=>exact Agn c t k (by simp at h;omega)
def Agm{c:C}:∀{l:List C},Bj l→∀k,AA c l≤k→k<l.length→I (l.getD k J) c=A
 |[],_,k,_,h=>by simp at h
 |e::t,hs,k,h1,h2=>by
  obtain⟨a1,a2⟩:=e6_.1 (Et.1 hs);simp only[AA]at h1;cases he:I e c with
  |true=>
   rw[he,H]at h1;cases k with
   |zero=>omega
   |succ k=>exact Agm (Et.2 a2) k ω (by simp at h2;omega)
  |false=>
   cases k with
   |zero=>exact he
   |succ k=>
    cases hq:I ((e::t).getD (k+1) J) c with
    |false=>rfl
    |true=>
     have hm:t.getD k J∈t:=BN J (by simp at h2;omega)
     have:=QO (a1 _ hm) hq
     rw[he]at this;cases this
def WT{a c:C}(h:N c.E0 c.I0 a=B):I a c=A∧I c a=A:=by
 unfold N at h;simp only[e_,U_]at h;constructor
 all_goals
  apply Bool.eq_false_iff.2;intro hh;rw[HP]at hh;omega
def Amp{a c:C}(h:N c.E0 c.I0 a=A)(h':I a c=A):I c a=B:=by
 rw[HP];have h1:¬(a.E0<c.E0∨(a.E0=c.E0∧a.I0<c.I0)):=λhh=>by rw[HP.2 hh]at h';cases h'
 unfold N at h;simp only[Bool.and_eq_false_iff,beq_eq_false_iff_ne]at h;omega
def Ah1{a c:C}(h:I a c=B):I c a=A:=by apply Bool.eq_false_iff.2;intro hh;rw[HP]at*;omega
def WB{F D:Int}:∀{l:List C}{i:Nat},(∀x∈l,N F D x=A)→DM F D l i=-1
 |[],_,_=>rfl
 |e::t,i,h=>by simp only[DM];rw[h e (p_ ..),E];exact WB λx hx=>h x (r_ _ hx)
def FY(c:C)(l:List C):Bool:=aC (AA c l) l.length&&N c.E0 c.I0 (l.getD (AA c l) J)
def Rr{c:C}:∀{l:List C}(i:Nat),Bj l→DM c.E0 c.I0 l i=bif FY c l then((i+AA c l:Nat):Int)else -1
 |[],_,_=>rfl
 |e::t,i,hs=>by
  obtain⟨a1,a2⟩:=e6_.1 (Et.1 hs);have hpos:AA c (e::t)=bif I e c then AA c t+1 else 0:=rfl;unfold FY;simp only[DM];rw[hpos];cases he:N c.E0 c.I0 e with
  |true=>rw[(WT he).1];simp[he,show aC 0 (t.length+1)=B from rfl]
  |false=>
   cases hl:I e c with
   |true=>rw[E,H,Rr (i+1) (Et.2 a2)];unfold FY;rw[show((e::t).getD (AA c t+1) J)=t.getD (AA c t) J from rfl,B_,show aC (AA c t+1) (t.length+1)=aC (AA c t) t.length from rfl];rw[show i+1+AA c t=i+(AA c t+1)by omega]
   |false=>
    rw[E,E,show((e::t).getD 0 J)=e from rfl,he,c8_,E];refine WB λx hx=>?_;cases hq:N c.E0 c.I0 x with
    |false=>rfl
    |true=>have h1:=QO (Amp he hl) (a1 x hx);rw[(WT hq).2]at h1;cases h1
def WP{c:C}:∀{l:List C},(∀x∈l,N c.E0 c.I0 x=A)→Hw c A l=l.take (AA c l)++[c]++l.drop (AA c l)
 |[],_=>rfl
 |e::t,h=>by
  simp only[Hw,AA];cases hl:I e c with
  |true=>rw[Ah1 hl,E,WP λx hx=>h x (r_ _ hx)];simp
  |false=>rw[Amp (h e (p_ ..)) hl,H,Uv];simp
def Ahu{c:C}(hs:Bj l)(h:FY c l=A):∀x∈l,N c.E0 c.I0 x=A:=by
 have h1:=Rr (c:=c) 0 hs;rw[h,E]at h1;rcases Sl c.E0 c.I0 l 0 with⟨_,h2⟩ | ⟨k,_,h2,_⟩
 ·exact h2
 ·rw[h1]at h2;omega
def Aw(F D:Int):C:=⟨F,D,0,0,A⟩
def Aht{i j:Nat}(h:i+j<9223372036854775808):aB.wrap (Int.fdiv (aE IntKind.u64 (aE aB ((i:Int)+(j:Int)))) ((2:Int)^(Min.min (R (1:Int)) (IntKind.bits IntKind.u64))))=(((i+j)/2:Nat):Int):=by rw[Aa (n:=(i:Int)+(j:Int)) ω ω,CN ω ω];rw[show((2:Int)^(Min.min (R (1:Int)) (IntKind.bits IntKind.u64)))=2 from rfl];rw[X_ _ ω];rw[Aa ω ω];omega
def Api(hs:Bj l)(hl:l.length≤100000)(F D:Int):
  AE ((l,(),(),(l.length:Int),(0:Int),(l.length:Int),()),((F,D,0,0,A,()),()))=Q ((l,(),(),(l.length:Int),((AA (Aw F D) l:Nat):Int),()),((F,D,0,0,A,()),())):=by
 refine Bh7 (λx y=>∃i j:Nat,i≤AA (Aw F D) l∧AA (Aw F D) l≤j∧j≤l.length∧x=((l,(),(),(l.length:Int),(i:Int),(j:Int),()),((F,D,(0:Int),(0:Int),A,()),()))∧y=((l,(),(),(l.length:Int),((AA (Aw F D) l:Nat):Int),()),((F,D,(0:Int),(0:Int),A,()),()))) (λx=>x.1.2.2.2.2.2.1.toNat-x.1.2.2.2.2.1.toNat) ?_ (x:=((l,(),(),(l.length:Int),(0:Int),(l.length:Int),()),((F,D,0,0,A,()),()))) (y:=((l,(),(),(l.length:Int),((AA (Aw F D) l:Nat):Int),()),((F,D,0,0,A,()),()))) ⟨0,l.length,a4_ _,SO _ _,y_ _,rfl,rfl⟩ (by show((l.length:Int).toNat-R 0)<_;omega);rintro _ _ ⟨i,j,h1,h2,h3,rfl,rfl⟩;show(∃x',AF l (l.length:Int) (i:Int) (j:Int) F D 0 0 A=_∧_)∨AF l (l.length:Int) (i:Int) (j:Int) F D 0 0 A=_;unfold AF;rw[Aht ω];by_cases hij:i<j
 ·left;have hh:(i+j)/2<l.length:=ω;obtain⟨n,c1,c2,_⟩:=Qp (l.getD ((i+j)/2) J) (Aw F D);unfold Aw at c1;unfold J at c1;simp only[b_ (ω:(i:Int)<(j:Int)),Ac (ω:(0:Int)≤(((i+j)/2:Nat):Int)) (ω:(((i+j)/2:Nat):Int)<(l.length:Int)),j_,H,c1,a_];have c2':decide (n<0)=I (l.getD ((i+j)/2) J) (Aw F D):=by rw[All,c2,Bool.not_not]
  rw[c2'];cases hq:I (l.getD ((i+j)/2) J) (Aw F D)with
  |true=>
   have:(i+j)/2<AA (Aw F D) l:=by
    rcases g3_ ((i+j)/2) (AA (Aw F D) l)with h | h
    ·exact h
    ·have:=Agm hs _ h hh
     rw[hq]at this;cases this
   rw[H,show aB.wrap ((((i+j)/2:Nat):Int)+1)=(((i+j)/2+1:Nat):Int)by rw[Aa ω ω];omega];exact⟨_,rfl,⟨(i+j)/2+1,j,ω,h2,h3,rfl,trivial⟩,by show R (j:Int)-R (((i+j)/2+1:Nat):Int)<R (j:Int)-R (i:Int);omega⟩
  |false=>
   have:AA (Aw F D) l≤(i+j)/2:=by
    rcases g3_ ((i+j)/2) (AA (Aw F D) l)with h | h
    ·have:=Agn (Aw F D) l _ h
     rw[hq]at this;cases this
    ·exact h
   rw[E];exact⟨_,rfl,⟨i,(i+j)/2,h1,this,ω,rfl,trivial⟩,by show R (((i+j)/2:Nat):Int)-R (i:Int)<R (j:Int)-R (i:Int);omega⟩
 ·right;rw[f_ (ω:¬(i:Int)<(j:Int)),show i=AA (Aw F D) l by omega];rfl
def Aao(m:L)(hs:Bj m.A0)(hl:m.A0.length≤100000)(F D:Int):Pb m.G0 m.O0 m.J0 m.A0 F D=Q ((((AA (Aw F D) m.A0:Nat):Int),FY (Aw F D) m.A0,()),()):=by
 unfold Pb Bb;simp only;rw[Api hs hl F D];simp only[a_];have hp:=SO (Aw F D) m.A0;unfold FY;by_cases h:AA (Aw F D) m.A0<m.A0.length
 ·obtain⟨n,c1,_,c3⟩:=Qp (m.A0.getD (AA (Aw F D) m.A0) J) (Aw F D);rw[b_ (ω:((AA (Aw F D) m.A0:Nat):Int)<(m.A0.length:Int)),Ac (ω:(0:Int)≤((AA (Aw F D) m.A0:Nat):Int)) (ω:((AA (Aw F D) m.A0:Nat):Int)<(m.A0.length:Int)),j_,show aC (AA (Aw F D) m.A0) m.A0.length=B by rw[h0_];exact h];have e:(n==0)=N (Aw F D).E0 (Aw F D).I0 (m.A0.getD (AA (Aw F D) m.A0) J):=by
   rw[Bool.eq_iff_iff,U_,c3];unfold N;rw[e_,U_,U_]
  rw[← e];generalize AA (Aw F D) m.A0=p at*;unfold J at c1;unfold Aw at c1;simp only[H,c1,a_,z_]
 ·rw[f_ (ω:¬((AA (Aw F D) m.A0:Nat):Int)<(m.A0.length:Int)),show aC (AA (Aw F D) m.A0) m.A0.length=A by rw[← Bool.not_eq_true,h0_];exact h];rfl
def Ay4(x:C)(e:C):I x (Aw e.E0 e.I0)=I x e:=rfl
def TD(e:C):∀l:List C,AA (Aw e.E0 e.I0) l=AA e l
 |[]=>rfl
 |x::t=>by simp only[AA,Ay4,TD e t]
def XB(hs:Bj m.A0)(hl:m.A0.length≤100000)(r:O)(hc:(r.Q0=4∨r.Q0=5∨r.Q0=6)→0≤r.R0∧r.R0<(m.G0.length:Int)∧r.R0<(m.O0.length:Int)∧r.R0<(m.J0.length:Int)):
  Mq r.Q0 r.E0 r.I0 r.R0 r.Z1 m.G0 m.O0 m.J0 m.A0=Q ((),((Ak m r).tup,())):=by
 unfold Mq Ak;rw[Aao m hs hl];simp only[a_];by_cases k4:r.Q0=4
 ·obtain⟨c0,c1,c2,c3⟩:=hc (.inl k4);rw[k4];simp only[l_,H,Ac c0 c1];rfl
 rw[An k4];by_cases k5:r.Q0=5
 ·obtain⟨c0,c1,c2,c3⟩:=hc (.inr (.inl k5));rw[k5];simp only[l_,H,E,Ac c0 c2];rfl
 rw[An k5];by_cases k6:r.Q0=6
 ·obtain⟨c0,c1,c2,c3⟩:=hc (.inr (.inr k6));rw[k6];simp only[l_,H,E,Ac c0 c3];rfl
 rw[An k6];simp only[E];have hf:=Rr (c:=Aw r.E0 r.I0) 0 hs;simp only[o_]at hf;rw[show DM r.E0 r.I0 m.A0 0=_ from hf];have hp:=SO (Aw r.E0 r.I0) m.A0;cases hq:FY (Aw r.E0 r.I0) m.A0 with
 |false=>
  have hn:=Ahu hs hq;simp only[E,H,d4_,l_];by_cases k1:r.Q0=1
  ·rw[k1];simp only[l_,H];unfold DA Abk;rw[b_ (ω:(0:Int)≤((AA (Aw r.E0 r.I0) m.A0:Nat):Int)),b_ (ω:((AA (Aw r.E0 r.I0) m.A0:Nat):Int)≤(m.A0.length:Int))];rw[show aC 0 [Entry.mk r.E0 r.I0 (-1) 0 A].length=B from rfl,AD (show m.A0.length+[Entry.mk r.E0 r.I0 (-1) 0 A].length≤2147483648 by rw[H_];omega)];have hi:=WP (c:=⟨r.E0,r.I0,-1,0,A⟩) (l:=m.A0) hn;rw[hi,show AA ⟨r.E0,r.I0,-1,0,A⟩ m.A0=AA (Aw r.E0 r.I0) m.A0 from(TD ⟨r.E0,r.I0,-1,0,A⟩ m.A0).symm];rfl
  ·rw[An k1];cases r.Q0==2<;>cases r.Q0==3<;>cases r.Q0==7<;>rfl
 |true=>
  have hlt:AA (Aw r.E0 r.I0) m.A0<m.A0.length:=by unfold FY at hq;rw[e_,h0_]at hq;exact hq.1
  simp only[H,q_,E,An (ω:¬((AA (Aw r.E0 r.I0) m.A0:Nat):Int)=-1),j_];generalize AA (Aw r.E0 r.I0) m.A0=p at hp hlt⊢;have w:aB.wrap ((p:Int)+1)=((p+1:Nat):Int):=by rw[Aa ω ω];omega
  have ib:inB (p:Int) m.A0.length=B:=Ac ω ω;by_cases k1:r.Q0=1
  ·simp only[k1,l_,H,E,show((1:Int)==2)=A from rfl,show((1:Int)==3)=A from rfl,show((1:Int)==7)=A from rfl];rfl
  rw[An k1,E];cases r.Q0==2 with
  |true=>unfold Dz Alm;simp only[H,w,b_ (ω:(0:Int)≤(p:Int)),b_ (ω:(p:Int)<((p+1:Nat):Int)),b_ (ω:((p+1:Nat):Int)≤(m.A0.length:Int)),a6_,a_,j_];rfl
  |false=>
   simp only[E];cases r.Q0==3 with
   |true=>simp only[H,ib];rfl
   |false=>
    simp only[E];cases r.Q0==7 with
    |true=>
     have ib2:∀y:C,inB (p:Int) (m.A0.set p y).length=B:=λy=>Ac ω (by rw[x_];omega);have hg:∀y:C,(m.A0.set p y).getD p (Entry.mk 0 0 0 0 A)=y:=λy=>by simp[k_,hlt]
     simp only[H,ib,ib2,hg,List.set_set];rfl
    |false=>rfl
def YE(hb:b.small)(hcl:b.B0.length≤100)(m:L)(hp:m.G0.length≤100000)(hl:m.A0.length≤10000)(r:O):
  NG b.C0 b.F0 b.H0 b.M0 b.K0 b.L0 b.N0 b.B0 m.G0 m.O0 m.J0 m.A0 r.Q0 r.E0 r.I0 r.R0 r.Z1=Q (XW b m r):=by
 have hmx:100000≤maxLen:=by decide
 unfold NG XW;rw[CY hb m ω ω];simp only[a_];cases hok:m.ok b with
 |false=>rfl
 |true=>
  rw[PS hb hcl r];simp only[q_,E,a_,z_];cases hv:Ax b r with
  |false=>rfl
  |true=>
   have hm:=Img.ok_iff.1 hok;have h1:=hm.lp;have h2:=hm.lf;have h3:=hm.ll;simp only[q_,E,H];rw[YH m hp ω ω ω];simp only[a_,Img.tup];rw[XB hm.so ω r λhk=>by
    have:=Ae0 hv hk
    omega]
   rfl
def Af9(b:Bldg):NS b.C0 b.F0 b.H0 b.M0 b.K0 b.L0 b.N0 b.B0=Q (((),()),((bif b.code==0 then(FG b).tup else Img.none.tup),())):=by
 unfold NS;rw[AR];simp only[a_,bne];cases hc:b.code==0 with
 |false=>rfl
 |true=>
  have hlen:b.B0.length≤8:=by
   have hc':b.code=0:=by simpa using hc
   unfold Bldg.code at hc';cases h1:inR 1 8 (b.B0.length:Int)with
   |true=>have:=(Ao.1 h1).2;omega
   |false=>rw[h1]at hc';cases h2:inR 2 32 b.C0<;>rw[h2]at hc'<;>simp at hc'
  simp only[q_,E,H,b_ (ω:(0:Int)≤(b.B0.length:Int)),b_ (e1_ (b.B0.length:Int)),b_ (ω:(b.B0.length:Int)≤2147483648),a6_,j_];rfl
def Bso{a b:Nat}(h:a≤100000)(h':b≤100000):aB.wrap (aE aB (18*aB.wrap (aE aB ((a:Int)+(b:Int))+1))+6)=18*((a:Int)+(b:Int)+1)+6:=by rw[Aa (n:=(a:Int)+(b:Int)) ω ω,Aa (n:=(a:Int)+(b:Int)+1) ω ω,Aa (n:=18*((a:Int)+(b:Int)+1)) ω ω,Aa ω ω]
def JU(b:Bldg)(m:L):Bool:=m.ok b&&decide (18*((b.B0.length:Int)+(m.A0.length:Int)+1)+6≤b.H0)
def Aan(hb:b.small)(m:L)(hc:b.B0.length≤100000)(hp:m.G0.length≤100000)(hl:m.A0.length≤100000):
  MU b.C0 b.F0 b.H0 b.M0 b.K0 b.L0 b.N0 b.B0 m.G0 m.O0 m.J0 m.A0=Q ((JU b m,()),()):=by
 have hmx:100000≤maxLen:=by decide
 unfold MU JU;rw[CY hb m ω ω];simp only[a_,Bso hc hl];cases m.ok b<;>rfl
def XT(p:Nat→Bool):Nat→Nat→Bool
 |0,_=>B
 |m+1,i=>p i&&XT p m (i+1)
def Bs:Nat:=10000000
def Hn{i n:Nat}(h:i<n)(hn:n≤Bs):aB.wrap ((i:Int)+1)=((i+1:Nat):Int):=by unfold Bs at hn;rw[Aa ω ω];omega
section
variable{α:Type}
end
structure Img.fit(m:Img):Prop where
 p:m.G0.length≤100000
 f:m.O0.length≤100000
 l:m.J0.length≤100000
 e:m.A0.length≤100000
section
variable{a c:L}(ha:a.fit)
include ha
end
def WY(on:Bool):Int:=bif on then 1 else 0
def XC(on:Bool):Kb on=Q ((WY on,()),()):=by unfold Kb WY;cases on<;>rfl
def SE(m:L)(i:Nat):List O:=[⟨4,0,0,i,m.G0.getD i 0⟩,⟨5,0,0,i,WY (m.O0.getD i A)⟩,⟨6,0,0,i,WY (m.J0.getD i A)⟩]
def QT(e:C):List O:=[⟨1,e.E0,e.I0,0,0⟩,⟨3,e.E0,e.I0,e.R0,0⟩,⟨7,e.E0,e.I0,WY e.H2,e.L1⟩]
def Es(m:L):List O:=(aA 0 m.G0.length).flatMap (SE m)++m.A0.flatMap QT
def MH{α:Type}(f:Nat→List α):∀(k i:Nat) (s:List α),AM (λi s=>s++f i) k i s=s++(aA i k).flatMap f
 |0,i,s=>by simp[AM]
 |k+1,i,s=>by simp only[AM];rw[MH f k (i+1),d8_,a1_,M_]
def PQ{α β:Type}(f:α→List β)(d:α):∀(l:List α) (i k:Nat),i+k=l.length→(aA i k).flatMap (λi=>f (l.getD i d))=(l.drop i).flatMap f
 |l,i,0,h=>by obtain rfl:i=l.length:=ω;simp
 |l,i,k+1,h=>by rw[d8_,a1_,PQ f d l (i+1) k ω,Cu d (ω:i<l.length),a1_]
def Ata(l:List C):(aA 0 l.length).flatMap (λi=>QT (l.getD i J))=l.flatMap QT:=by rw[PQ QT J l 0 l.length ω,S_]
section
variable{m:L}(hf:m.fit)
include hf
theorem YG{out:List O}(ho:out.length≤300000):KZ (((),m.A0,(m.A0.length:Int),(0:Int),()),((out,()),()))=Q (((),()),((out++m.A0.flatMap QT,()),())):=by
 have hl:=hf.e;have h:=Bc (step:=λx=>Gz x.1.2.1 x.1.2.2.1 x.1.2.2.2.1 x.2.1.1) m.A0.length (λi s=>(((),m.A0,(m.A0.length:Int),(i:Int),()),((s,()),()))) (λi s=>s++QT (m.A0.getD i J)) (λi s=>s.length=out.length+3*i) (λs=>(((),()),((s,()),()))) (λi s hi hs=>by
  refine⟨?_,by rw[h_,hs];show _+3=_;omega⟩;show Gz m.A0 (m.A0.length:Int) (i:Int) s=_;have b1:∀r:O,Nat.ble (s.length+[r].length) 2147483648=B:=λr=>AD (by rw[H_];omega);have b2:∀r r':O,Nat.ble ((s++[r]).length+[r'].length) 2147483648=B:=λr r'=>AD (by rw[h_,H_,H_];omega);have b3:∀r r' r'':O,Nat.ble ((s++[r]++[r']).length+[r''].length) 2147483648=B:=λr r' r''=>AD (by rw[h_,h_,H_,H_,H_];omega);unfold Gz Ih;simp only[b_ (ω:(i:Int)<(m.A0.length:Int)),Ac (ω:(0:Int)≤(i:Int)) (ω:(i:Int)<(m.A0.length:Int)),H,j_,XC,a_,b1,b2,b3,Hn hi (show m.A0.length≤Bs by unfold Bs;omega)];simp only[M_];rfl) (λs _=>by
  show Gz m.A0 (m.A0.length:Int) (m.A0.length:Int) s=_;unfold Gz;simp only[f_ (Q_ (m.A0.length:Int)),E]) m.A0.length 0 out ω rfl
 have h':=As h.1 ω;rw[MH,Ata]at h';exact h'
theorem YF(h1:m.O0.length=m.G0.length)(h2:m.J0.length=m.G0.length):KY (((),(),(m.G0.length:Int),(0:Int),()),(m.tup,(([]:List O),()),()))=Q (((),(),()),(m.tup,((aA 0 m.G0.length).flatMap (SE m),()),())):=by
 have hl:=hf.p;have h:=Bc (step:=λx=>Gy x.1.2.2.1 x.1.2.2.2.1 x.2.1.1 x.2.1.2.1 x.2.1.2.2.1 x.2.1.2.2.2.1 x.2.2.1.1) m.G0.length (λi s=>(((),(),(m.G0.length:Int),(i:Int),()),(m.tup,(s,()),()))) (λi s=>s++SE m i) (λi s=>s.length=3*i) (λs=>(((),(),()),(m.tup,(s,()),()))) (λi s hi hs=>by
  refine⟨?_,by rw[h_,hs];show _+3=_;omega⟩;show Gy (m.G0.length:Int) (i:Int) m.G0 m.O0 m.J0 m.A0 s=_;have b1:∀r:O,Nat.ble (s.length+[r].length) 2147483648=B:=λr=>AD (by rw[H_];omega);have b2:∀r r':O,Nat.ble ((s++[r]).length+[r'].length) 2147483648=B:=λr r'=>AD (by rw[h_,H_,H_];omega);have b3:∀r r' r'':O,Nat.ble ((s++[r]++[r']).length+[r''].length) 2147483648=B:=λr r' r''=>AD (by rw[h_,h_,H_,H_,H_];omega);unfold Gy Ig;simp only[b_ (ω:(i:Int)<(m.G0.length:Int)),Ac (ω:(0:Int)≤(i:Int)) (ω:(i:Int)<(m.G0.length:Int)),Ac (ω:(0:Int)≤(i:Int)) (ω:(i:Int)<(m.O0.length:Int)),Ac (ω:(0:Int)≤(i:Int)) (ω:(i:Int)<(m.J0.length:Int)),H,j_,XC,a_,b1,b2,b3,Hn hi (show m.G0.length≤Bs by unfold Bs;omega)];simp only[M_];rfl) (λs _=>by
  show Gy (m.G0.length:Int) (m.G0.length:Int) m.G0 m.O0 m.J0 m.A0 s=_;unfold Gy;simp only[f_ (Q_ (m.G0.length:Int)),E];rfl) m.G0.length 0 [] ω rfl
 have h':=As h.1 ω;rw[MH,a5_]at h';exact h'
end
def Tt{α β:Type}(f:α→List β)(hf:∀x,(f x).length=3):∀l:List α,(l.flatMap f).length=3*l.length
 |[]=>rfl
 |a::t=>by rw[a1_,h_,hf,Tt f hf t,B_];omega
def Aip(m:L)(n:Nat):((aA 0 n).flatMap (SE m)).length=3*n:=by rw[Tt _ λ_=>rfl,List.length_range']
def Air(m:L):(Es m).length=3*(m.G0.length+m.A0.length):=by unfold Es;rw[h_,Aip,Tt _ λ_=>rfl];omega
def Aj9(b:Bldg)(m:L):List O:=bif m.ok b then Es m else []
section
variable{b:Bldg}(hb:b.small){m:L}(hf:m.fit)
include hb hf
theorem Ad2:MV b.C0 b.F0 b.H0 b.M0 b.K0 b.L0 b.N0 b.B0 m.G0 m.O0 m.J0 m.A0=Q ((Aj9 b m,()),()):=by
 have hmx:100000≤maxLen:=by decide
 have hp:=hf.p;have he:=hf.e;unfold MV Aj9;rw[CY hb m ω ω];simp only[a_];cases hok:m.ok b with
 |false=>rfl
 |true=>have hm:=Img.ok_iff.1 hok;have l0:=YF hf (by rw[hm.lf,hm.lp]) (by rw[hm.ll,hm.lp]);have l1:=YG hf (out:=(aA 0 m.G0.length).flatMap (SE m)) (by rw[Aip];omega);simp only[Img.tup]at l0;simp only[q_,E,H,l0,l1,a_];rfl
end
def Eh(m:L):∀(a c:List O),Ai m (a++c)=Ai (Ai m a) c
 |[],_=>rfl
 |r::t,c=>by show Ai (Ak m r) (t++c)=Ai (Ai (Ak m r) t) c;exact Eh (Ak m r) t c
def Agw(l:List α)(z d:α){n:Nat}(hk:k<n)(hl:l.length=n):(l.take k++P (n-k) z).set k (l.getD k d)=l.take (k+1)++P (n-(k+1)) z:=by
 have h1:(l.take k).length=k:=by rw[u_];omega
 rw[List.set_append_right _ _ ω,h1,Nat.sub_self,show n-k=(n-(k+1))+1 by omega,List.replicate_succ,List.set_cons_zero];have h2:k<l.length:=ω;rw[show l.getD k d=l[k]by simp[h2]];rw[List.take_succ_eq_append_getElem h2,M_];rfl
def Apr(m:L)(a c d:O):Ai m [a,c,d]=Ak (Ak (Ak m a) c) d:=rfl
def Aqq(on:Bool):(WY on==1)=on:=by cases on<;>rfl
def Apj{n:Nat}(hk:k<n)(h1:m.G0.length=n)(h2:m.O0.length=n)(h3:m.J0.length=n):
  Ai ⟨m.G0.take k++P (n-k) 0,m.O0.take k++P (n-k) A,m.J0.take k++P (n-k) A,[]⟩ (SE m k)=⟨m.G0.take (k+1)++P (n-(k+1)) 0,m.O0.take (k+1)++P (n-(k+1)) A,m.J0.take (k+1)++P (n-(k+1)) A,[]⟩:=by
 have e1:=Agw m.G0 0 0 hk h1;have e2:=Agw m.O0 A A hk h2;have e3:=Agw m.J0 A A hk h3;unfold SE;rw[Apr];unfold Ak;simp only[show((4:Int)==4)=B from rfl,show((5:Int)==4)=A from rfl,show((5:Int)==5)=B from rfl,show((6:Int)==4)=A from rfl,show((6:Int)==5)=A from rfl,show((6:Int)==6)=B from rfl,H,E,j_,Aqq,e1,e2,e3]
def Aio{m:L}{n:Nat}(h1:m.G0.length=n)(h2:m.O0.length=n)(h3:m.J0.length=n):∀j k:Nat,k+j=n→
  Ai ⟨m.G0.take k++P (n-k) 0,m.O0.take k++P (n-k) A,m.J0.take k++P (n-k) A,[]⟩ ((aA k j).flatMap (SE m))=⟨m.G0,m.O0,m.J0,[]⟩
 |0,k,h=>by obtain rfl:k=n:=ω;rw[Nat.sub_self];simp only[List.replicate_zero,Z_];rw[a7_ ω,a7_ ω,a7_ ω];rfl
 |j+1,k,h=>by rw[d8_,a1_,Eh,Apj ω h1 h2 h3];exact Aio h1 h2 h3 j (k+1) ω
def Ahi{F D:Int}{x:C}(hx:N F D x=B):∀(l:List C) (i:Nat),(∀e∈l,N F D e=A)→DM F D (l++[x]) i=((i+l.length:Nat):Int)
 |[],i,_=>by simp[DM,hx]
 |e::t,i,h=>by rw[List.cons_append];simp only[DM];rw[h e (p_ ..),E,Ahi hx t (i+1) λy hy=>h y (r_ _ hy),B_];congr 1;omega
def Al7{x:C}:∀{l:List C},(∀e∈l,I x e=A)→Hw x A l=l++[x]
 |[],_=>rfl
 |e::t,h=>by simp only[Hw];rw[h e (p_ ..),E,Al7 λy hy=>h y (r_ _ hy)];rfl
def Apk(h:∀x∈m.A0,I x e=B):Ai m (QT e)=m.put (m.A0++[e]):=by
 have hn:∀x∈m.A0,N e.E0 e.I0 x=A:=λx hx=>by
  cases hq:N e.E0 e.I0 x with
  |false=>rfl
  |true=>
   have:=(WT (c:=e) hq).1
   rw[h x hx]at this;cases this
 have e0:∀(c k:Int) (q:Bool),N e.E0 e.I0 ⟨e.E0,e.I0,c,k,q⟩=B:=λc k q=>by unfold N;simp
 have f0:DM e.E0 e.I0 m.A0 0=-1:=WB hn;have f1:∀(c k:Int) (q:Bool),DM e.E0 e.I0 (m.A0++[⟨e.E0,e.I0,c,k,q⟩]) 0=(m.A0.length:Int):=λc k q=>by rw[Ahi (e0 c k q) _ _ hn,o_]
 have g1:∀x:C,(m.A0++[x]).getD m.A0.length J=x:=λx=>by simp
 have s1:∀x y:C,(m.A0++[x]).set m.A0.length y=m.A0++[y]:=λx y=>by rw[List.set_append_right _ _ (y_ _),Nat.sub_self];rfl
 have a1:Ak m ⟨1,e.E0,e.I0,0,0⟩=m.put (m.A0++[⟨e.E0,e.I0,-1,0,A⟩]):=by unfold Ak;rw[f0];simp only[show((1:Int)==4)=A from rfl,show((1:Int)==5)=A from rfl,show((1:Int)==6)=A from rfl,E,H,l_];rw[Al7 (x:=⟨e.E0,e.I0,-1,0,A⟩) λx hx=>Ah1 (show I x ⟨e.E0,e.I0,-1,0,A⟩=B from h x hx)]
 have ne:(((m.A0.length:Int))==-1)=A:=An ω;have a2:Ak (m.put (m.A0++[⟨e.E0,e.I0,-1,0,A⟩])) ⟨3,e.E0,e.I0,e.R0,0⟩=m.put (m.A0++[⟨e.E0,e.I0,e.R0,0,A⟩]):=by unfold Ak;simp only[Img.put,f1,ne,show((3:Int)==4)=A from rfl,show((3:Int)==5)=A from rfl,show((3:Int)==6)=A from rfl,show((3:Int)==2)=A from rfl,E,H,l_,j_,g1,s1,Aeo]
 have a3:Ak (m.put (m.A0++[⟨e.E0,e.I0,e.R0,0,A⟩])) ⟨7,e.E0,e.I0,WY e.H2,e.L1⟩=m.put (m.A0++[⟨e.E0,e.I0,e.R0,e.L1,e.H2⟩]):=by unfold Ak;simp only[Img.put,f1,ne,show((7:Int)==4)=A from rfl,show((7:Int)==5)=A from rfl,show((7:Int)==6)=A from rfl,show((7:Int)==2)=A from rfl,show((7:Int)==3)=A from rfl,E,H,l_,j_,g1,s1,TJ,Aqq]
 unfold QT;rw[Apr,a1,a2,a3]
def Aiq:∀(l:List C) (m:L),Bj (m.A0++l)→Ai m (l.flatMap QT)=m.put (m.A0++l)
 |[],m,_=>by simp[Ai,Img.put]
 |e::t,m,h=>by
  have hp:=Et.1 h;have hlt:∀x∈m.A0,I x e=B:=λx hx=>(g0_.1 hp).2.2 x hx e (p_ ..);rw[a1_,Eh,Apk hlt];have h2:Bj ((m.put (m.A0++[e])).A0++t):=by show Bj (m.A0++[e]++t);rw[M_];exact h
  rw[Aiq t _ h2];show m.put (m.A0++[e]++t)=_;rw[M_];rfl
def Aeq(h:ImgOK b m):Ai (FG b) (Es m)=m:=by unfold Es;rw[Eh];have h0:=Aio (m:=m) h.lp h.lf h.ll b.B0.length 0 ω;simp only[List.take_zero,a5_,Nat.sub_zero]at h0;rw[h.lp];rw[show FG b=⟨P b.B0.length 0,P b.B0.length A,P b.B0.length A,[]⟩from rfl,h0,Aiq _ _ (by show Bj ([]++m.A0);exact h.so)];rfl
def WZ(on:Bool):0≤WY on∧WY on≤1:=by cases on<;>exact⟨τ,τ⟩
def Xo(h:ImgOK b m):∀r∈Es m,Ax b r=B:=by
 have hcode:=h.code;intro r hr;unfold Es at hr;rcases n_.1 hr with hr | hr
 ·obtain⟨i,hi,hr⟩:=c9_.1 hr;have hi':i<m.G0.length:=by
   have:=List.mem_range'_1.1 hi
   omega
  have hp:=h.ph _ (BN 0 hi');have hlp:=h.lp;have hcar:∀k v:Int,UW b ⟨k,0,0,i,v⟩=B:=λk v=>by unfold UW;rw[Ao.2 ⟨show(0:Int)≤(i:Int)by omega,show(i:Int)≤(b.B0.length:Int)-1 by omega⟩];rfl
  unfold SE at hr;simp only[s_,h3_,or_false]at hr;rcases hr with rfl | rfl | rfl
  ·unfold Ax;rw[hcode,hcar,Ao.2 hp];rfl
  ·unfold Ax;rw[hcode,hcar,Ao.2 (WZ _)];rfl
  ·unfold Ax;rw[hcode,hcar,Ao.2 (WZ _)];rfl
 ·obtain⟨e,he,hr⟩:=c9_.1 hr;obtain⟨h1,h2,h3⟩:=CH.1 (h.en e he);unfold QT at hr;simp only[s_,h3_,or_false]at hr;rcases hr with rfl | rfl | rfl
  ·unfold Ax;rw[hcode,h1];rfl
  ·unfold Ax;rw[hcode,h1,Ao.2 ⟨h2.1,show e.R0≤(b.B0.length:Int)-1 by omega⟩];rfl
  ·unfold Ax;rw[hcode,h1,Ao.2 (WZ _),Ao.2 h3];rfl
def Vj(floor:Int):Int:=IntKind.u32.wrap (1*2^min (R floor) (IntKind.bits .u32))
def FH(floor dir:Int):Int×Int:=bif inR 0 31 floor then(bif dir==1 then(Vj floor,0)else bif dir==2 then(0,Vj floor)else(0,0))else(0,0)
def orC(a c:Int):Int:=vb (bv a|||bv c)
def Abw(a c:Int):Int:=vb (bv a&&& ~~~ bv c)
def BS(a c:Int×Int):Int×Int:=(orC a.1 c.1,orC a.2 c.2)
def Az(a c:Int×Int):Int×Int:=(Abw a.1 c.1,Abw a.2 c.2)
def Am(c:Int×Int)(f:Nat)(d:Int):Bool:=bif d==1 then CW c.1 f else bif d==2 then CW c.2 f else A
def EC(c:Int×Int):Prop:=(0≤c.1∧c.1<4294967296)∧(0≤c.2∧c.2<4294967296)
def OP(a c:Int×Int):EC (BS a c):=⟨Ln _,Ln _⟩
def Ha(a c:Int×Int):EC (Az a c):=⟨Ln _,Ln _⟩
def GH:EC (0,0):=⟨⟨τ,τ⟩,⟨τ,τ⟩⟩
def XZ(i:Nat):CW 0 i=A:=by unfold CW bv;simp
def EJ(f:Nat)(d:Int):Am (0,0) f d=A:=by unfold Am;simp only[XZ];cases d==1<;>cases d==2<;>rfl
def GL(a c:Int×Int)(f:Nat)(d:Int):Am (BS a c) f d=(Am a f d||Am c f d):=by unfold Am BS orC;simp only[Ti,BitVec.getLsbD_or];cases d==1<;>cases d==2<;>rfl
def Bo(a c:Int×Int)(hf:f<32)(d:Int):Am (Az a c) f d=(Am a f d&&!Am c f d):=by unfold Am Az Abw;simp only[Ti,f7_,BitVec.getLsbD_not,hf,decide_true,z_];cases d==1<;>cases d==2<;>rfl
def MA{F D:Int}(hF:0≤F∧F<32)(hD:D=1∨D=2)(f:Nat){d:Int}(hd:d=1∨d=2):Am (FH F D) f d=decide (((f:Int),d)=(F,D)):=by
 have hp:CW (Vj F) f=decide (f=F.toNat):=Apt (k:=F.toNat) ω f;have e:decide (((f:Int),d)=(F,D))=(decide (f=F.toNat)&&decide (d=D)):=by
  rw[Bool.eq_iff_iff,e_,t_,t_,t_,e7_];constructor
  ·rintro⟨h1,h2⟩;exact⟨ω,h2⟩
  ·rintro⟨h1,h2⟩;exact⟨ω,h2⟩
 rw[e];unfold FH Am;rw[Ao.2 ⟨hF.1,show F≤31 by omega⟩];rcases hD with rfl | rfl<;>rcases hd with rfl | rfl
 ·simp[hp]
 ·simp[XZ]
 ·simp[XZ]
 ·simp[hp]
def ME{a:Int×Int}(ha:EC a)(hc:EC c)(h:∀f:Nat,f<32→∀d:Int,(d=1∨d=2)→Am a f d=Am c f d):a=c:=by have h1:a.1=c.1:=Afb ha.1 hc.1 λi hi=>h i hi 1 (.inl rfl);have h2:a.2=c.2:=Afb ha.2 hc.2 λi hi=>h i hi 2 (.inr rfl);exact Prod.ext h1 h2
def QJ(e:C):Prop:=(0≤e.E0∧e.E0<32)∧(e.I0=1∨e.I0=2)
def ofC:List C→Int×Int→Int×Int
 |[],c=>c
 |e::t,c=>ofC t (BS c (FH e.E0 e.I0))
def ZG:∀(l:List C) {c:Int×Int},EC c→EC (ofC l c)
 |[],_,h=>h
 |_::t,_,_=>ZG t (OP _ _)
def Agk:∀{l:List C}{c:Int×Int},(∀e∈l,QJ e)→∀(f:Nat) {d:Int},(d=1∨d=2)→(Am (ofC l c) f d=B↔Am c f d=B∨((f:Int),d)∈l.map BR)
 |[],_,_,f,d,_=>by simp[ofC]
 |e::t,c,h,f,d,hd=>by have he:=h e (p_ ..);simp only[ofC];rw[Agk (λx hx=>h x (r_ _ hx)) f hd,GL,MA he.1 he.2 f hd,R_,t_,b8_,s_];show(_∨_=(e.E0,e.I0))∨_↔_∨_=(e.E0,e.I0)∨_;exact or_assoc
def Lz(c:Int×Int)(f:Nat):List C:=(bif Am c f 1 then [⟨(f:Int),1,-1,0,A⟩]else [])++(bif Am c f 2 then [⟨(f:Int),2,-1,0,A⟩]else [])
def Add(c:Int×Int)(f:Nat):(Lz c f).length≤2:=by unfold Lz;cases Am c f 1<;>cases Am c f 2<;>simp
def Fg(c:Int×Int):List C:=(aA 0 32).flatMap (Lz c)
def WW:p∈(Lz c f).map BR↔p.1=(f:Int)∧(p.2=1∨p.2=2)∧Am c f p.2=B:=by
 obtain⟨a,d⟩:=p;unfold Lz;rw[List.map_append,n_];have h:∀D:Int,(a,d)∈(bif Am c f D then [Entry.mk (f:Int) D (-1) 0 A]else []).map BR↔a=(f:Int)∧d=D∧Am c f D=B:=λD=>by cases Am c f D<;>simp[BR]
 rw[h,h];constructor
 ·rintro(⟨h1,rfl,h3⟩ | ⟨h1,rfl,h3⟩)
  ·exact⟨h1,.inl rfl,h3⟩
  ·exact⟨h1,.inr rfl,h3⟩
 ·rintro⟨h1,h2,h3⟩;simp only at h1 h2 h3;rcases h2 with rfl | rfl
  ·exact .inl ⟨h1,rfl,h3⟩
  ·exact .inr ⟨h1,rfl,h3⟩
def mem_range{i:Nat}:p∈((aA i k).flatMap (Lz c)).map BR↔∃f:Nat,(i≤f∧f<i+k)∧p.1=(f:Int)∧(p.2=1∨p.2=2)∧Am c f p.2=B:=by
 constructor
 ·intro h;obtain⟨e,he,rfl⟩:=b6_.1 h;obtain⟨f,hf,he⟩:=c9_.1 he;exact⟨f,List.mem_range'_1.1 hf,WW.1 (b6_.2 ⟨e,he,rfl⟩)⟩
 ·rintro⟨f,hf,h⟩;obtain⟨e,he,h2⟩:=b6_.1 (WW.2 h);exact b6_.2 ⟨e,c9_.2 ⟨f,List.mem_range'_1.2 hf,he⟩,h2⟩
def Zb(c:Int×Int):∀k i:Nat,Bj ((aA i k).flatMap (Lz c))
 |0,i=>by simp[Bj]
 |k+1,i=>by
  unfold Bj;rw[d8_,a1_,List.map_append,g0_];refine⟨?_,Zb c k (i+1),λp hp q hq=>?_⟩
  ·unfold Lz;cases Am c i 1<;>cases Am c i 2<;>simp[BR,ltC]
  ·have h1:=WW.1 hp;obtain⟨f,hf,h2,_⟩:=mem_range.1 hq;left;rw[h1.1,h2];omega
end Go.Ovl
