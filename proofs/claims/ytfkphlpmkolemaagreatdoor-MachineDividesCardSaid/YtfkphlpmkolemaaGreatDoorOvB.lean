/- A valid record keeps an image an image (layer 10). -/
import Derived.Test.YtfkphlpmkolemaaGreatDoorOvA
import Derived.Test.YtfkphlpmkolemaaGreatDoorDefs4
set_option linter.all false
open Bool renaming false->A,true->C
open Go renaming c_->B,d_->E
open Option renaming some->H
open Go.Ovl renaming Entry->I,noE->J
open Go.Ovl.Entry renaming mk->L
open Int renaming toNat->aA
open Go.IntKind renaming i64->aB,wrap->aE
open Nat renaming blt->aC,le_succ->aD
namespace Go.Ovl
open Go Go.Ab
set_option maxRecDepth 100000
variable{l:List I}{b:Bldg}{α:Type}{m:Img}{e c:I}{k:Nat}{r:Record}
def Hl{a:I}:Bi a c=C↔a.E0<c.E0∨(a.E0=c.E0∧a.J0<c.J0):=by
 unfold Bi;simp only[b4_,f_,A_,Z_]
def QD{a d:I}(h:Bi a c=C)(h':Bi c d=C):Bi a d=C:=by
 rw[Hl]at*;omega
def HD(e:I):Int×Int:=(e.E0,e.J0)
def ltC(a c:Int×Int):Prop:=a.1<c.1∨(a.1=c.1∧a.2<c.2)
def Bp(l:List I):Prop:=(l.map HD).Pairwise ltC
def Ea:Bp l↔l.Pairwise λx y=>Bi x y=C:=by
 unfold Bp;rw[List.pairwise_map];exact⟨λh=>h.imp λhh=>Hl.2 hh,λh=>h.imp λhh=>Hl.1 hh⟩
def Agx{b:Bldg}:∀{l:List I}{p:Option I},Em b p l=C↔(∀e∈l,GQ b e=C)∧Bp l∧(∀q,p=H q→∀e∈l,Bi q e=C)
 |[],p=>by simp[Em,Bp]
 |a::t,p=>by
  simp only[Em,f_];rw[Agx (l:=t),Ea,Ea,f6_];constructor
  ·rintro⟨h1,h2,h3,h4,h5⟩
   refine⟨λe he=>?_,⟨λe he=>h5 a rfl e he,h4⟩,λq hq e he=>?_⟩
   ·rcases y_.1 he with rfl | he
    ·exact h1
    ·exact h3 e he
   ·subst hq
    simp only at h2;rcases y_.1 he with rfl | he
    ·exact h2
    ·exact QD h2 (h5 a rfl e he)
  ·rintro⟨h1,⟨h2,h3⟩,h4⟩
   refine⟨h1 a (M_ ..),?_,λe he=>h1 e (O_ _ he),h3,λq hq e he=>?_⟩
   ·cases p with
    |none=>rfl
    |some q=>exact h4 q rfl a (M_ ..)
   ·obtain rfl:=K_ hq
    exact h2 e he
def Acg:Em b none l=C↔(∀e∈l,GQ b e=C)∧Bp l:=by
 rw[Agx];exact⟨λh=>⟨h.1,h.2.1⟩,λh=>⟨h.1,h.2,λ_ hq=>by cases hq⟩⟩
def Atm(h:Bp l)(k:Nat):Bp (l.take k++l.drop (k+1)):=by
 rw[Ea]at*;exact h.sublist (by rw[← List.eraseIdx_eq_take_drop_succ];exact List.eraseIdx_sublist ..)
def Alv(hk:k<l.length)(he:HD e=HD (l.getD k J)):(l.set k e).map HD=l.map HD:=by
 rw[List.map_set,he];apply List.ext_getElem?;intro i;rw[List.getElem?_set];by_cases h:k=i
 ·subst h
  rw[if_pos rfl];simp[hk,l_]
 ·rw[if_neg h]
def Ad2(h:Bp l)(hk:k<l.length)(he:HD e=HD (l.getD k J)):Bp (l.set k e):=by
 unfold Bp at*;rw[Alv hk he];exact h
def Aa1{e x:I}:∀{l:List I},x∈Hh e A l→x=e∨x∈l
 |[],h=>by simp[Hh]at h;exact .inl h
 |a::t,h=>by
  simp only[Hh]at h;cases hq:Bi e a with
  |true=>
   rw[hq,E,Uf]at h;rcases y_.1 h with h | h
   ·exact .inl h
   ·exact .inr h
  |false=>
   rw[hq,B]at h;rcases y_.1 h with h | h
   ·exact .inr (by rw[h];exact M_ ..)
   ·rcases Aa1 h with h | h
    ·exact .inl h
    ·exact .inr (O_ _ h)
def Ad1{e:I}:∀{l:List I},Bp l→(∀x∈l,isC e.E0 e.J0 x=A)→Bp (Hh e A l)
 |[],_,_=>by simp[Hh,Bp]
 |a::t,h,hn=>by
  rw[Ea]at*;obtain⟨h1,h2⟩:=f6_.1 h;simp only[Hh];cases hq:Bi e a with
  |true=>
   rw[E,Uf];refine f6_.2 ⟨λx hx=>?_,h⟩
   rcases y_.1 hx with rfl | hx
   ·exact hq
   ·exact QD hq (h1 x hx)
  |false=>
   rw[B];refine f6_.2 ⟨λx hx=>?_,Ea.1 (Ad1 (Ea.2 h2) λx hx=>hn x (O_ _ hx))⟩
   rcases Aa1 hx with rfl | hx
   ·rw[Hl]
    have h3:¬(x.E0<a.E0∨(x.E0=a.E0∧x.J0<a.J0)):=λhh=>by rw[Hl.2 hh]at hq;cases hq
    have h4:=hn a (M_ ..);unfold isC at h4;simp only[Bool.and_eq_false_iff,beq_eq_false_iff_ne]at h4;omega
   ·exact h1 x hx
structure ImgOK(b:Bldg)(m:Img):Prop where
 code:b.code=0
 lp:m.D0.length=b.B0.length
 lf:m.L0.length=b.B0.length
 ll:m.H0.length=b.B0.length
 ph:∀p∈m.D0,0≤p∧p≤4
 en:∀e∈m.A0,GQ b e=true
 so:Bp m.A0
def Img.ok_iff:m.ok b=C↔ImgOK b m:=by
 unfold Img.ok;simp only[f_,Z_];constructor
 ·rintro⟨h0,h1,h2,h3,h4,h5⟩
  have h6:=Acg.1 h5;exact⟨h0,ω,ω,ω,λp hp=>Am.1 (F_.1 h4 p hp),h6.1,h6.2⟩
 ·rintro⟨h0,h1,h2,h3,h4,h5,h6⟩
  exact⟨h0,ω,ω,ω,F_.2 λp hp=>Am.2 (h4 p hp),Acg.2 ⟨h5,h6⟩⟩
def FC:GQ b e=C↔Aj b e.E0 e.J0=C∧(-2≤e.S0∧e.S0<(b.B0.length:Int))∧0≤e.B1∧e.B1≤255:=by
 unfold GQ;simp only[f_,A_];constructor
 ·rintro⟨h1,h2,h3,h4,h5⟩;exact⟨h1,⟨h2,h3⟩,h4,h5⟩
 ·rintro⟨h1,⟨h2,h3⟩,h4,h5⟩;exact⟨h1,h2,h3,h4,h5⟩
def Afl{l:List α}{a x:α}(h:x∈l.set k a):x=a∨x∈l:=by
 rcases List.mem_or_eq_of_mem_set h with h | h
 ·exact .inr h
 ·exact .inl h
def ZH(h:Ay b r=C):b.code=0∧
    ((r.U0=1∧Aj b r.E0 r.J0=C∧r.S0=0∧r.E2=0)∨(r.U0=2∧Aj b r.E0 r.J0=C∧r.S0=0∧r.E2=0)∨
     (r.U0=3∧Aj b r.E0 r.J0=C∧(-2≤r.S0∧r.S0<(b.B0.length:Int))∧r.E2=0)∨
     (r.U0=4∧(0≤r.S0∧r.S0<(b.B0.length:Int))∧(0≤r.E2∧r.E2≤4))∨
     (r.U0=5∧(0≤r.S0∧r.S0<(b.B0.length:Int))∧(0≤r.E2∧r.E2≤1))∨
     (r.U0=6∧(0≤r.S0∧r.S0<(b.B0.length:Int))∧(0≤r.E2∧r.E2≤1))∨
     (r.U0=7∧Aj b r.E0 r.J0=C∧(0≤r.S0∧r.S0≤1)∧(0≤r.E2∧r.E2≤255))):=by
  unfold Ay Tb at h;simp only[f_,Z_]at h;obtain⟨h0,h⟩:=h;refine⟨h0,?_⟩;by_cases k1:r.U0=1
  · rw[k1]at h;simp only[k_,E,f_,Z_]at h;exact .inl ⟨k1,h.1,h.2⟩
  rw[Ar k1,B]at h;by_cases k2:r.U0=2
  · rw[k2]at h;simp only[k_,E,f_,Z_]at h;exact .inr (.inl ⟨k2,h.1,h.2⟩)
  rw[Ar k2,B]at h;by_cases k3:r.U0=3
  · rw[k3]at h;simp only[k_,E,f_,Z_,Am]at h;exact .inr (.inr (.inl ⟨k3,h.1,ω,h.2.2⟩))
  rw[Ar k3,B]at h;by_cases k4:r.U0=4
  · rw[k4]at h;simp only[k_,E,f_,Z_,Am]at h;exact .inr (.inr (.inr (.inl ⟨k4,ω,h.2⟩)))
  rw[Ar k4,B]at h;by_cases k5:r.U0=5
  · rw[k5]at h;simp only[k_,E,f_,Z_,Am]at h;exact .inr (.inr (.inr (.inr (.inl ⟨k5,ω,h.2⟩))))
  rw[Ar k5,B]at h;by_cases k6:r.U0=6
  · rw[k6]at h;simp only[k_,E,f_,Z_,Am]at h;exact .inr (.inr (.inr (.inr (.inr (.inl ⟨k6,ω,h.2⟩)))))
  rw[Ar k6,B]at h;by_cases k7:r.U0=7
  · rw[k7]at h;simp only[k_,E,f_,Am]at h;exact .inr (.inr (.inr (.inr (.inr (.inr ⟨k7,h.1,h.2.1,h.2.2⟩)))))
  rw[Ar k7]at h;cases h
def Adn(h:ImgOK b m)(h1:∀e∈l,GQ b e=C)(h2:Bp l):ImgOK b (m.put l):=⟨h.code,h.lp,h.lf,h.ll,h.ph,h1,h2⟩
def QP(h:ImgOK b m)(hv:Ay b r=C):ImgOK b (AD m r)∧(AD m r).A0.length≤m.A0.length+1:=by
 obtain⟨_,hk⟩:=ZH hv;unfold AD;by_cases k4:r.U0=4
 ·rw[show(r.U0==4)=C by rw[k4];rfl]
  refine⟨⟨h.code,by show(m.D0.set _ _).length=_;rw[v_];exact h.lp,h.lf,h.ll,λp hp=>?_,h.en,h.so⟩,aD _⟩
  rcases Afl hp with rfl | hp
  ·omega
  ·exact h.ph p hp
 rw[Ar k4,B];by_cases k5:r.U0=5
 ·rw[show(r.U0==5)=C by rw[k5];rfl]
  exact⟨⟨h.code,h.lp,by show(m.L0.set _ _).length=_;rw[v_];exact h.lf,h.ll,h.ph,h.en,h.so⟩,aD _⟩
 rw[Ar k5,B];by_cases k6:r.U0=6
 ·rw[show(r.U0==6)=C by rw[k6];rfl]
  exact⟨⟨h.code,h.lp,h.lf,by show(m.H0.set _ _).length=_;rw[v_];exact h.ll,h.ph,h.en,h.so⟩,aD _⟩
 rw[Ar k6,B];rcases Wf r.E0 r.J0 m.A0 0 with⟨h1,h2⟩ | ⟨k,h1,h2,h3⟩
 ·rw[h1,show((-1:Int)==-1)=C from rfl,E]
  by_cases k1:r.U0=1
  ·rw[show(r.U0==1)=C by rw[k1];rfl,E]
   refine⟨Adn h (λe he=>?_) (Ad1 h.so h2),Aao _ _ _⟩
   rcases Aa1 he with rfl | he
   ·rw[FC]
    have hc:Aj b r.E0 r.J0=C:=by
     rcases hk with hk | hk | hk | hk | hk | hk | hk
     ·exact hk.2.1
     all_goals omega
    exact⟨hc,⟨by show(-2:Int)≤-1;omega,by show(-1:Int)<_;omega⟩,by show(0:Int)≤0;omega,by show(0:Int)≤255;omega⟩
   ·exact h.en e he
  ·rw[Ar k1,B];exact⟨h,aD _⟩
 ·rw[p_]at h2
  rw[h2,Ar (ω:¬(k:Int)=-1),B,j_]
  have hmem:=CB J h1;have hent:=FC.1 (h.en _ hmem);cases r.U0==2 with
  |true=>
   refine⟨Adn h (λe he=>?_) (Atm h.so k),?_⟩
   ·rcases q_.1 he with he | he
    ·exact h.en e (d5_ he)
    ·exact h.en e (d6_ he)
   ·show(m.A0.take k++m.A0.drop (k+1)).length≤_
    rw[h_,r_,V_];omega
  |false=>
   rw[B];by_cases k3:r.U0=3
   ·rw[show(r.U0==3)=C by rw[k3];rfl,E]
    refine⟨Adn h (λe he=>?_) (Ad2 h.so h1 rfl),by show(m.A0.set _ _).length≤_;rw[v_];omega⟩
    rcases Afl he with rfl | he
    ·rw[FC]
     refine⟨hent.1,?_,hent.2.2⟩;show -2≤r.S0∧r.S0<_;rcases hk with hk | hk | hk | hk | hk | hk | hk
     all_goals first
      |exact hk.2.2.1
      |omega
    ·exact h.en e he
   ·rw[Ar k3,B]
    by_cases k7:r.U0=7
    ·rw[show(r.U0==7)=C by rw[k7];rfl,E]
     refine⟨Adn h (λe he=>?_) (Ad2 h.so h1 rfl),by show(m.A0.set _ _).length≤_;rw[v_];omega⟩
     rcases Afl he with rfl | he
     ·rw[FC]
      refine⟨hent.1,hent.2.1,?_⟩;show 0≤r.E2∧r.E2≤255;rcases hk with hk | hk | hk | hk | hk | hk | hk
      all_goals first
       |exact hk.2.2.2
       |omega
     ·exact h.en e he
    ·rw[Ar k7,B];exact⟨h,aD _⟩
def Gt(b:Bldg):Img:=⟨List.replicate b.B0.length 0,List.replicate b.B0.length A,List.replicate b.B0.length A,[]⟩
def Afy(hcode:b.code=0)(hc:b.B0.length≤100):Nh b.C0 b.F0 b.I0 b.N0 b.K0 b.M0 b.O0 b.B0=H (((),()),((Gt b).tup,())):=by
 unfold Nh;rw[Hq,hcode];simp only[a_,N_,B,b_ (ω:(0:Int)≤(b.B0.length:Int)),b_ (d7_ (b.B0.length:Int)),b_ (ω:(b.B0.length:Int)≤2147483648),S_,E,j_]
 rfl
def Aam(hcode:b.code=0):ImgOK b (Gt b):=
 ⟨hcode,T_,T_,T_,(λp hp=>by rw[List.eq_of_mem_replicate hp];omega),(λ_ h=>by cases h),by simp[Gt,Bp]⟩
def AK(m:Img):List Record→Img
 |[]=>m
 |r::t=>AK (AD m r) t
def TQ{b:Bldg}:∀{rs:List Record}{m:Img},ImgOK b m→(∀r∈rs,Ay b r=C)→ImgOK b (AK m rs)∧(AK m rs).A0.length≤m.A0.length+rs.length
 |[],_,h,_=>⟨h,z_ _⟩
 |r::t,m,h,hv=>by
  obtain⟨h1,h2⟩:=QP h (hv r (M_ ..));obtain⟨h3,h4⟩:=TQ (rs:=t) h1 λx hx=>hv x (O_ _ hx)
  exact⟨h3,by show(AK (AD m r) t).A0.length≤_;rw[x_];omega⟩
def Aba(n lo hi:Int):Ff n lo hi=H ((inR lo hi n,()),()):=by
 unfold Ff inR;cases decide (lo≤n)<;>rfl
def Uq(hb:b.small)(hc:b.B0.length≤100)(r:Record):Jr b.C0 b.F0 b.I0 b.N0 b.K0 b.M0 b.O0 b.B0 r.U0 r.E0 r.J0 r.S0 r.E2=H ((Ay b r,()),()):=by
  have w:aB.wrap ((b.B0.length:Int)-1)=(b.B0.length:Int)-1:=Ac ω ω
  unfold Jr Ay Tb;rw[Be,LQ hb];simp only[a_,bne,Aba,w];cases b.code==0 with
  |false=>rfl
  |true=>
    simp only[m_,B,o_]
    cases inR 0 ((b.B0.length:Int)-1) r.S0<;>cases r.E0==0<;>cases r.J0==0<;>
      (simp only[a_,E,B,S_,c5_,b7_,a3_,o_,w]
       by_cases k1:r.U0=1
       · simp only[k1,k_,E]
         cases Aj b r.E0 r.J0<;>cases r.S0==0<;>rfl
       by_cases k2:r.U0=2
       · simp only[k2,k_,E,B,show((2:Int)==1)=A from rfl]
         cases Aj b r.E0 r.J0<;>cases r.S0==0<;>rfl
       by_cases k3:r.U0=3
       · simp only[k3,k_,E,B,show((3:Int)==1)=A from rfl,show((3:Int)==2)=A from rfl]
         cases Aj b r.E0 r.J0<;>cases inR (-2) ((b.B0.length:Int)-1) r.S0<;>rfl
       by_cases k4:r.U0=4
       · simp only[k4,k_,E,B,show((4:Int)==1)=A from rfl,show((4:Int)==2)=A from rfl,show((4:Int)==3)=A from rfl,show((4:Int)==7)=A from rfl]
       by_cases k5:r.U0=5
       · simp only[k5,k_,E,B,show((5:Int)==1)=A from rfl,show((5:Int)==2)=A from rfl,show((5:Int)==3)=A from rfl,show((5:Int)==7)=A from rfl,show((5:Int)==4)=A from rfl]
       by_cases k6:r.U0=6
       · simp only[k6,k_,E,B,show((6:Int)==1)=A from rfl,show((6:Int)==2)=A from rfl,show((6:Int)==3)=A from rfl,show((6:Int)==7)=A from rfl,show((6:Int)==4)=A from rfl,show((6:Int)==5)=A from rfl]
       by_cases k7:r.U0=7
       · simp only[k7,k_,E,B,show((7:Int)==1)=A from rfl,show((7:Int)==2)=A from rfl,show((7:Int)==3)=A from rfl,show((7:Int)==4)=A from rfl,show((7:Int)==5)=A from rfl,show((7:Int)==6)=A from rfl]
         cases Aj b r.E0 r.J0<;>cases inR 0 1 r.S0<;>rfl
       simp only[Ar k1,Ar k2,Ar k3,Ar k4,Ar k5,Ar k6,Ar k7,B])
def XT(m:Img)(h1:m.D0.length≤100000)(h2:m.L0.length≤100000)(h3:m.H0.length≤100000)(h4:m.A0.length≤100000):MR m.D0 m.L0 m.H0 m.A0=H (((),()),(m.tup,())):=by
 have k:∀{α:Type}(l:List α),l.length≤100000→Pl l=H ((l,()),()):=λl h=>by
  unfold Pl;rw[At (ω:l.length≤2147483648)];rfl
 unfold MR BH Bb Bj;rw[k _ h1,k _ h2,k _ h3,k _ h4];rfl
def Az(c:I):List I→Nat
 |[]=>0
 |e::t=>bif Bi e c then Az c t+1 else 0
def SA(c:I):∀l:List I,Az c l≤l.length
 |[]=>z_ _
 |e::t=>by
  have:=SA c t
  simp only[Az,x_];cases Bi e c<;>simp<;>omega
def Aft(c:I):∀(l:List I) (k:Nat),k<Az c l→Bi (l.getD k J) c=C
 |[],k,h=>by simp[Az]at h
 |e::t,k,h=>by
  simp only[Az]at h;cases he:Bi e c with
  |false=>rw[he]at h;simp at h
  |true=>
   rw[he]at h;cases k with
   |zero=>exact he
   |succ k=>exact Aft c t k (by simp at h;omega)
def Afs{c:I}:∀{l:List I},Bp l→∀k,Az c l≤k→k<l.length→Bi (l.getD k J) c=A
 |[],_,k,_,h=>by simp at h
 |e::t,hs,k,h1,h2=>by
  obtain⟨a1,a2⟩:=f6_.1 (Ea.1 hs);simp only[Az]at h1;cases he:Bi e c with
  |true=>
   rw[he,E]at h1;cases k with
   |zero=>omega
   |succ k=>exact Afs (Ea.2 a2) k ω (by simp at h2;omega)
  |false=>
   cases k with
   |zero=>exact he
   |succ k=>
    cases hq:Bi ((e::t).getD (k+1) J) c with
    |false=>rfl
    |true=>
     have hm:t.getD k J∈t:=CB J (by simp at h2;omega)
     have:=QD (a1 _ hm) hq
     rw[he]at this;cases this
def Wv{a:I}(h:isC c.E0 c.J0 a=C):Bi a c=A∧Bi c a=A:=by
 unfold isC at h;simp only[f_,Z_]at h;constructor
 all_goals
  apply Bool.eq_false_iff.2;intro hh;rw[Hl]at hh;omega
def Alr{a:I}(h:isC c.E0 c.J0 a=A)(h':Bi a c=A):Bi c a=C:=by
 rw[Hl];have h1:¬(a.E0<c.E0∨(a.E0=c.E0∧a.J0<c.J0)):=λhh=>by rw[Hl.2 hh]at h';cases h'
 unfold isC at h;simp only[Bool.and_eq_false_iff,beq_eq_false_iff_ne]at h;omega
def Ahi{a:I}(h:Bi a c=C):Bi c a=A:=by
 apply Bool.eq_false_iff.2;intro hh;rw[Hl]at*;omega
def We{F D:Int}:∀{l:List I}{i:Nat},(∀x∈l,isC F D x=A)→DD F D l i=-1
 |[],_,_=>rfl
 |e::t,i,h=>by
  simp only[DD];rw[h e (M_ ..),B];exact We λx hx=>h x (O_ _ hx)
def FG(c:I)(l:List I):Bool:=aC (Az c l) l.length&&isC c.E0 c.J0 (l.getD (Az c l) J)
def QZ{c:I}:∀{l:List I}(i:Nat),Bp l→DD c.E0 c.J0 l i=bif FG c l then((i+Az c l:Nat):Int)else -1
 |[],_,_=>rfl
 |e::t,i,hs=>by
  obtain⟨a1,a2⟩:=f6_.1 (Ea.1 hs);have hpos:Az c (e::t)=bif Bi e c then Az c t+1 else 0:=rfl;unfold FG;simp only[DD];rw[hpos];cases he:isC c.E0 c.J0 e with
  |true=>
   rw[(Wv he).1];simp[he,show aC 0 (t.length+1)=C from rfl]
  |false=>
   cases hl:Bi e c with
   |true=>
    rw[B,E,QZ (i+1) (Ea.2 a2)];unfold FG;rw[show((e::t).getD (Az c t+1) J)=t.getD (Az c t) J from rfl,x_,show aC (Az c t+1) (t.length+1)=aC (Az c t) t.length from rfl]
    rw[show i+1+Az c t=i+(Az c t+1)by omega]
   |false=>
    rw[B,B,show((e::t).getD 0 J)=e from rfl,he,b7_,B]
    refine We λx hx=>?_
    cases hq:isC c.E0 c.J0 x with
    |false=>rfl
    |true=>
     have h1:=QD (Alr he hl) (a1 x hx);rw[(Wv hq).2]at h1;cases h1
def Aap{c:I}:∀{l:List I},(∀x∈l,isC c.E0 c.J0 x=A)→Hh c A l=l.take (Az c l)++[c]++l.drop (Az c l)
 |[],_=>rfl
 |e::t,h=>by
  simp only[Hh,Az];cases hl:Bi e c with
  |true=>
   rw[Ahi hl,B,Aap λx hx=>h x (O_ _ hx)]
   simp
  |false=>
   rw[Alr (h e (M_ ..)) hl,E,Uf];simp
def Ahb(hs:Bp l)(h:FG c l=A):∀x∈l,isC c.E0 c.J0 x=A:=by
 have h1:=QZ (c:=c) 0 hs;rw[h,B]at h1;rcases Wf c.E0 c.J0 l 0 with⟨_,h2⟩ | ⟨k,_,h2,_⟩
 ·exact h2
 ·rw[h1]at h2;omega
def As(F D:Int):I:=⟨F,D,0,0,A⟩
def Aha{i j:Nat}(h:i+j<9223372036854775808):aB.wrap (Int.fdiv (aE IntKind.u64 (aE aB ((i:Int)+(j:Int)))) ((2:Int)^(Min.min (aA (1:Int)) (IntKind.bits IntKind.u64))))=(((i+j)/2:Nat):Int):=by
 rw[Ac (n:=(i:Int)+(j:Int)) ω ω,Eg ω ω]
 rw[show((2:Int)^(Min.min (aA (1:Int)) (IntKind.bits IntKind.u64)))=2 from rfl]
 rw[a2_ _ ω]
 rw[Ac ω ω]
 omega
def Aom(hs:Bp l)(hl:l.length≤100000)(F D:Int):
  AE ((l,(),(),(l.length:Int),(0:Int),(l.length:Int),()),((F,D,0,0,A,()),()))=H ((l,(),(),(l.length:Int),((Az (As F D) l:Nat):Int),()),((F,D,0,0,A,()),())):=by
 refine Bha (λx y=>∃i j:Nat,i≤Az (As F D) l∧Az (As F D) l≤j∧j≤l.length∧x=((l,(),(),(l.length:Int),(i:Int),(j:Int),()),((F,D,(0:Int),(0:Int),A,()),()))∧y=((l,(),(),(l.length:Int),((Az (As F D) l:Nat):Int),()),((F,D,(0:Int),(0:Int),A,()),()))) (λx=>x.1.2.2.2.2.2.1.toNat-x.1.2.2.2.2.1.toNat) ?_ (x:=((l,(),(),(l.length:Int),(0:Int),(l.length:Int),()),((F,D,0,0,A,()),()))) (y:=((l,(),(),(l.length:Int),((Az (As F D) l:Nat):Int),()),((F,D,0,0,A,()),()))) ⟨0,l.length,a5_ _,SA _ _,z_ _,rfl,rfl⟩ (by show((l.length:Int).toNat-aA 0)<_;omega)
 rintro _ _ ⟨i,j,h1,h2,h3,rfl,rfl⟩;show(∃x',AF l (l.length:Int) (i:Int) (j:Int) F D 0 0 A=_∧_)∨AF l (l.length:Int) (i:Int) (j:Int) F D 0 0 A=_;unfold AF;rw[Aha ω]
 by_cases hij:i<j
 ·left
  have hh:(i+j)/2<l.length:=ω
  obtain⟨n,c1,c2,_⟩:=Qa (l.getD ((i+j)/2) J) (As F D);unfold As at c1;unfold J at c1;simp only[b_ (ω:(i:Int)<(j:Int)),Aa (ω:(0:Int)≤(((i+j)/2:Nat):Int)) (ω:(((i+j)/2:Nat):Int)<(l.length:Int)),j_,E,c1,a_]
  have c2':decide (n<0)=Bi (l.getD ((i+j)/2) J) (As F D):=by rw[Xu,c2,Bool.not_not]
  rw[c2'];cases hq:Bi (l.getD ((i+j)/2) J) (As F D)with
  |true=>
   have:(i+j)/2<Az (As F D) l:=by
    rcases f5_ ((i+j)/2) (Az (As F D) l)with h | h
    ·exact h
    ·have:=Afs hs _ h hh
     rw[hq]at this;cases this
   rw[E,show aB.wrap ((((i+j)/2:Nat):Int)+1)=(((i+j)/2+1:Nat):Int)by rw[Ac ω ω];omega]
   exact⟨_,rfl,⟨(i+j)/2+1,j,ω,h2,h3,rfl,trivial⟩,by show aA (j:Int)-aA (((i+j)/2+1:Nat):Int)<aA (j:Int)-aA (i:Int);omega⟩
  |false=>
   have:Az (As F D) l≤(i+j)/2:=by
    rcases f5_ ((i+j)/2) (Az (As F D) l)with h | h
    ·have:=Aft (As F D) l _ h
     rw[hq]at this;cases this
    ·exact h
   rw[B];exact⟨_,rfl,⟨i,(i+j)/2,h1,this,ω,rfl,trivial⟩,by show aA (((i+j)/2:Nat):Int)-aA (i:Int)<aA (j:Int)-aA (i:Int);omega⟩
 ·right
  rw[e_ (ω:¬(i:Int)<(j:Int)),show i=Az (As F D) l by omega]
  rfl
def ZC(m:Img)(hs:Bp m.A0)(hl:m.A0.length≤100000)(F D:Int):Om m.D0 m.L0 m.H0 m.A0 F D=H ((((Az (As F D) m.A0:Nat):Int),FG (As F D) m.A0,()),()):=by
 unfold Om AY;simp only;rw[Aom hs hl F D];simp only[a_];have hp:=SA (As F D) m.A0;unfold FG;by_cases h:Az (As F D) m.A0<m.A0.length
 ·obtain⟨n,c1,_,c3⟩:=Qa (m.A0.getD (Az (As F D) m.A0) J) (As F D)
  rw[b_ (ω:((Az (As F D) m.A0:Nat):Int)<(m.A0.length:Int)),Aa (ω:(0:Int)≤((Az (As F D) m.A0:Nat):Int)) (ω:((Az (As F D) m.A0:Nat):Int)<(m.A0.length:Int)),j_,show aC (Az (As F D) m.A0) m.A0.length=C by rw[g3_];exact h]
  have e:(n==0)=isC (As F D).E0 (As F D).J0 (m.A0.getD (Az (As F D) m.A0) J):=by
   rw[Bool.eq_iff_iff,Z_,c3];unfold isC;rw[f_,Z_,Z_]
  rw[← e];generalize Az (As F D) m.A0=p at*;unfold J at c1;unfold As at c1;simp only[E,c1,a_,o_]
 ·rw[e_ (ω:¬((Az (As F D) m.A0:Nat):Int)<(m.A0.length:Int)),show aC (Az (As F D) m.A0) m.A0.length=A by rw[← Bool.not_eq_true,g3_];exact h]
  rfl
def Aya(x:I)(e:I):Bi x (As e.E0 e.J0)=Bi x e:=rfl
def Ts(e:I):∀l:List I,Az (As e.E0 e.J0) l=Az e l
 |[]=>rfl
 |x::t=>by simp only[Az,Aya,Ts e t]
def Aim(hs:Bp m.A0)(hl:m.A0.length≤100000)(r:Record)(hc:(r.U0=4∨r.U0=5∨r.U0=6)→0≤r.S0∧r.S0<(m.D0.length:Int)∧r.S0<(m.L0.length:Int)∧r.S0<(m.H0.length:Int)):
  Ol r.U0 r.E0 r.J0 r.S0 r.E2 m.D0 m.L0 m.H0 m.A0=H ((),((AD m r).tup,())):=by
 unfold Ol AD;rw[ZC m hs hl];simp only[a_];by_cases k4:r.U0=4
 ·obtain⟨c0,c1,c2,c3⟩:=hc (.inl k4)
  rw[k4];simp only[k_,E,Aa c0 c1];rfl
 rw[Ar k4];by_cases k5:r.U0=5
 ·obtain⟨c0,c1,c2,c3⟩:=hc (.inr (.inl k5))
  rw[k5];simp only[k_,E,B,Aa c0 c2];rfl
 rw[Ar k5];by_cases k6:r.U0=6
 ·obtain⟨c0,c1,c2,c3⟩:=hc (.inr (.inr k6))
  rw[k6];simp only[k_,E,B,Aa c0 c3];rfl
 rw[Ar k6];simp only[B];have hf:=QZ (c:=As r.E0 r.J0) 0 hs;simp only[p_]at hf;rw[show DD r.E0 r.J0 m.A0 0=_ from hf]
 have hp:=SA (As r.E0 r.J0) m.A0;cases hq:FG (As r.E0 r.J0) m.A0 with
 |false=>
  have hn:=Ahb hs hq;simp only[B,E,b6_,k_];by_cases k1:r.U0=1
  ·rw[k1]
   simp only[k_,E];unfold Dk Aan;rw[b_ (ω:(0:Int)≤((Az (As r.E0 r.J0) m.A0:Nat):Int)),b_ (ω:((Az (As r.E0 r.J0) m.A0:Nat):Int)≤(m.A0.length:Int))]
   rw[show aC 0 [L r.E0 r.J0 (-1) 0 A].length=C from rfl,At (show m.A0.length+[L r.E0 r.J0 (-1) 0 A].length≤2147483648 by rw[H_];omega)]
   have hi:=Aap (c:=⟨r.E0,r.J0,-1,0,A⟩) (l:=m.A0) hn;rw[hi,show Az ⟨r.E0,r.J0,-1,0,A⟩ m.A0=Az (As r.E0 r.J0) m.A0 from(Ts ⟨r.E0,r.J0,-1,0,A⟩ m.A0).symm]
   rfl
  ·rw[Ar k1]
   cases r.U0==2<;>cases r.U0==3<;>cases r.U0==7<;>rfl
 |true=>
  have hlt:Az (As r.E0 r.J0) m.A0<m.A0.length:=by
   unfold FG at hq;rw[f_,g3_]at hq;exact hq.1
  simp only[E,m_,B,Ar (ω:¬((Az (As r.E0 r.J0) m.A0:Nat):Int)=-1),j_]
  generalize Az (As r.E0 r.J0) m.A0=p at hp hlt⊢;have w:aB.wrap ((p:Int)+1)=((p+1:Nat):Int):=by rw[Ac ω ω];omega
  have ib:inB (p:Int) m.A0.length=C:=Aa ω ω
  by_cases k1:r.U0=1
  ·simp only[k1,k_,E,B,show((1:Int)==2)=A from rfl,show((1:Int)==3)=A from rfl,show((1:Int)==7)=A from rfl]
   rfl
  rw[Ar k1,B];cases r.U0==2 with
  |true=>
   unfold Dj Aku;simp only[E,w,b_ (ω:(0:Int)≤(p:Int)),b_ (ω:(p:Int)<((p+1:Nat):Int)),b_ (ω:((p+1:Nat):Int)≤(m.A0.length:Int)),S_,a_,j_]
   rfl
  |false=>
   simp only[B];cases r.U0==3 with
   |true=>simp only[E,ib];rfl
   |false=>
    simp only[B];cases r.U0==7 with
    |true=>
     have ib2:∀y:I,inB (p:Int) (m.A0.set p y).length=C:=λy=>Aa ω (by rw[v_];omega)
     have hg:∀y:I,(m.A0.set p y).getD p (L 0 0 0 0 A)=y:=λy=>by
      simp[l_,hlt]
     simp only[E,ib,ib2,hg,List.set_set];rfl
    |false=>rfl
def XQ(hb:b.small)(hcl:b.B0.length≤100)(m:Img)(hp:m.D0.length≤100000)(hl:m.A0.length≤10000)(r:Record):
  MQ b.C0 b.F0 b.I0 b.N0 b.K0 b.M0 b.O0 b.B0 m.D0 m.L0 m.H0 m.A0 r.U0 r.E0 r.J0 r.S0 r.E2=H (Xl b m r):=by
 have hmx:100000≤maxLen:=by decide
 unfold MQ Xl;rw[CL hb m ω ω]
 simp only[a_];cases hok:m.ok b with
 |false=>rfl
 |true=>
  rw[Uq hb hcl r];simp only[m_,B,a_,o_];cases hv:Ay b r with
  |false=>rfl
  |true=>
   have hm:=Img.ok_iff.1 hok;have h1:=hm.lp;have h2:=hm.lf;have h3:=hm.ll;simp only[m_,B,E];rw[XT m hp ω ω ω]
   simp only[a_,Img.tup]
   rw[Aim hm.so ω r λhk=>by
    have:=Aty hv hk
    omega]
   rfl
def Bsl{a b:Nat}(h:a≤100000)(h':b≤100000):aB.wrap (aE aB (18*aB.wrap (aE aB ((a:Int)+(b:Int))+1))+6)=18*((a:Int)+(b:Int)+1)+6:=by
 rw[Ac (n:=(a:Int)+(b:Int)) ω ω,Ac (n:=(a:Int)+(b:Int)+1) ω ω,Ac (n:=18*((a:Int)+(b:Int)+1)) ω ω,Ac ω ω]
def QE(b:Bldg)(m:Img):Bool:=m.ok b&&decide (18*((b.B0.length:Int)+(m.A0.length:Int)+1)+6≤b.I0)
def ZB(hb:b.small)(m:Img)(hc:b.B0.length≤100000)(hp:m.D0.length≤100000)(hl:m.A0.length≤100000):
  Mi b.C0 b.F0 b.I0 b.N0 b.K0 b.M0 b.O0 b.B0 m.D0 m.L0 m.H0 m.A0=H ((QE b m,()),()):=by
 have hmx:100000≤maxLen:=by decide
 unfold Mi QE;rw[CL hb m ω ω]
 simp only[a_,Bsl hc hl];cases m.ok b<;>rfl
def HS(p:Nat→Bool):Nat→Nat→Bool
 |0,_=>C
 |m+1,i=>p i&&HS p m (i+1)
def GF{X Y:Type}{step:X→Option (Sum X Y)}(N:Nat)(g:Nat→X)(p:Nat→Bool)(y0 y1:Y)(h1:∀i,i<N→step (g i)=H (bif p i then .inl (g (i+1))else .inr y1))(h2:step (g N)=H (.inr y0)) :
  ∀m i:Nat,i+m=N→Bz step (m+1) (g i)=H (bif HS p m i then y0 else y1)
 |0,i,hi=>by
  obtain rfl:i=N:=ω
  exact Au h2
 |m+1,i,hi=>by
  have h:=h1 i ω
  simp only[HS];cases hp:p i with
  |true=>
   rw[hp]at h;rw[Bk h,o_];exact GF N g p y0 y1 h1 h2 m (i+1) ω
  |false=>
   rw[hp]at h;rw[Au h];rfl
def Aow{α:Type}(f:α→α→Bool)(hf:∀x y,f x y=C↔x=y)(d:α)(a b:List α)(hl:a.length=b.length):∀m i:Nat,i+m=a.length→(HS (λi=>f (a.getD i d) (b.getD i d)) m i=C↔a.drop i=b.drop i)
 |0,i,hi=>by
  obtain rfl:i=a.length:=ω
  rw[a4_,hl,a4_];exact⟨λ_=>rfl,λ_=>rfl⟩
 |m+1,i,hi=>by
  simp only[HS,f_,hf];rw[Aow f hf d a b hl m (i+1) ω,Bw d (ω:i<a.length),Bw d (ω:i<b.length),List.cons.injEq]
def Bao(f:α→α→Bool)(hf:∀x y,f x y=C↔x=y)(d:α){a b:List α}(hl:a.length=b.length):HS (λi=>f (a.getD i d) (b.getD i d)) a.length 0=@decide (a=b) (Classical.propDecidable _):=by
 rw[Bool.eq_iff_iff,Aow f hf d a b hl a.length 0 ω]
 simp
noncomputable def eqL{α:Type}(a b:List α):Bool:=@decide (a=b) (Classical.propDecidable _)
def YO{a b:List α}(h:¬a.length=b.length):eqL a b=A:=by
 have:¬a=b:=λe=>h (by rw[e])
 unfold eqL;simp[this]
def Bbk(a:List α):eqL a a=C:=by unfold eqL;simp
def Ack(f:α→α→Bool)(hf:∀x y,f x y=C↔x=y)(d:α){a b:List α}(hl:a.length=b.length):HS (λi=>f (a.getD i d) (b.getD i d)) a.length 0=eqL a b:=Bao f hf d hl
def Ac8(a b:List α):(((a.length:Int) !=(b.length:Int))=C)↔¬a.length=b.length:=by
 simp;omega
def Acj(x y:I):Bool:=(x.E0==y.E0)&&((x.J0==y.J0)&&((x.S0==y.S0)&&((x.B1==y.B1)&&((x.S1==y.S1)&&C))))
def Ax2(x y:I):Acj x y=C↔x=y:=by
 cases x;cases y;simp[Acj]
def ZR [BEq α][LawfulBEq α](x y:α):(x==y)=C↔x=y:=Z_
def AA:Nat:=10000000
def CD{i n:Nat}(h:i<n)(hn:n≤AA):aB.wrap ((i:Int)+1)=((i+1:Nat):Int):=by
 unfold AA at hn;rw[Ac ω ω];omega
section
variable{α:Type}
end
structure Img.fit(m:Img):Prop where
 p:m.D0.length≤100000
 f:m.L0.length≤100000
 l:m.H0.length≤100000
 e:m.A0.length≤100000
noncomputable def Ajm(a c:Img):Bool:=eqL a.D0 c.D0&&(eqL a.L0 c.L0&&(eqL a.H0 c.H0&&eqL a.A0 c.A0))
def Ata(a:Img):Ajm a a=C:=by unfold Ajm;simp[Bbk]
section
variable{a c:Img}(ha:a.fit)
include ha
theorem Af0(hl:a.D0.length=c.D0.length):OK (((),(),(0:Int),()),(a.tup,c.tup,()))=H (bif eqL a.D0 c.D0 then .inl (((),(),()),(a.tup,c.tup,()))else .inr ((A,()),())):=by
 have hs:=ha.p;have h5:100000≤AA:=by decide
 have h:=Ah (GF (step:=λx=>letI b:=x.2.2.1;JD x.1.2.2.1 x.2.1.1 x.2.1.2.1 x.2.1.2.2.1 x.2.1.2.2.2.1 b.1 b.2.1 b.2.2.1 b.2.2.2.1) a.D0.length (λi=>(((),(),(i:Int),()),(a.tup,c.tup,()))) (λi=>a.D0.getD i 0==c.D0.getD i 0) (Sum.inl (((),(),()),(a.tup,c.tup,()))) (Sum.inr ((A,()),())) (λi hi=>by
  show JD (i:Int) a.D0 a.L0 a.H0 a.A0 c.D0 c.L0 c.H0 c.A0=_;unfold JD;simp only[b_ (ω:(i:Int)<(a.D0.length:Int)),Aa (ω:(0:Int)≤(i:Int)) (ω:(i:Int)<(a.D0.length:Int)),Aa (ω:(0:Int)≤(i:Int)) (ω:(i:Int)<(c.D0.length:Int)),E,j_,CD hi ω,bne]
  cases a.D0.getD i 0==c.D0.getD i 0<;>rfl) (by
  show JD (a.D0.length:Int) a.D0 a.L0 a.H0 a.A0 c.D0 c.L0 c.H0 c.A0=_;unfold JD;simp only[e_ (C_ (a.D0.length:Int)),B];rfl) a.D0.length 0 ω) ω
 rw[Ack (λx y=>x==y) ZR 0 hl]at h
 exact h
theorem Af1(hl:a.L0.length=c.L0.length):OL (((),(),(0:Int),()),(a.tup,c.tup,()))=H (bif eqL a.L0 c.L0 then .inl (((),(),()),(a.tup,c.tup,()))else .inr ((A,()),())):=by
 have hs:=ha.f;have h5:100000≤AA:=by decide
 have h:=Ah (GF (step:=λx=>letI b:=x.2.2.1;JE x.1.2.2.1 x.2.1.1 x.2.1.2.1 x.2.1.2.2.1 x.2.1.2.2.2.1 b.1 b.2.1 b.2.2.1 b.2.2.2.1) a.L0.length (λi=>(((),(),(i:Int),()),(a.tup,c.tup,()))) (λi=>a.L0.getD i A==c.L0.getD i A) (Sum.inl (((),(),()),(a.tup,c.tup,()))) (Sum.inr ((A,()),())) (λi hi=>by
  show JE (i:Int) a.D0 a.L0 a.H0 a.A0 c.D0 c.L0 c.H0 c.A0=_;unfold JE;simp only[b_ (ω:(i:Int)<(a.L0.length:Int)),Aa (ω:(0:Int)≤(i:Int)) (ω:(i:Int)<(a.L0.length:Int)),Aa (ω:(0:Int)≤(i:Int)) (ω:(i:Int)<(c.L0.length:Int)),E,j_,CD hi ω]
  cases a.L0.getD i A==c.L0.getD i A<;>rfl) (by
  show JE (a.L0.length:Int) a.D0 a.L0 a.H0 a.A0 c.D0 c.L0 c.H0 c.A0=_;unfold JE;simp only[e_ (C_ (a.L0.length:Int)),B];rfl) a.L0.length 0 ω) ω
 rw[Ack (λx y=>x==y) ZR A hl]at h
 exact h
theorem Af2(hl:a.H0.length=c.H0.length):OM (((),(),(0:Int),()),(a.tup,c.tup,()))=H (bif eqL a.H0 c.H0 then .inl (((),(),()),(a.tup,c.tup,()))else .inr ((A,()),())):=by
 have hs:=ha.l;have h5:100000≤AA:=by decide
 have h:=Ah (GF (step:=λx=>letI b:=x.2.2.1;JF x.1.2.2.1 x.2.1.1 x.2.1.2.1 x.2.1.2.2.1 x.2.1.2.2.2.1 b.1 b.2.1 b.2.2.1 b.2.2.2.1) a.H0.length (λi=>(((),(),(i:Int),()),(a.tup,c.tup,()))) (λi=>a.H0.getD i A==c.H0.getD i A) (Sum.inl (((),(),()),(a.tup,c.tup,()))) (Sum.inr ((A,()),())) (λi hi=>by
  show JF (i:Int) a.D0 a.L0 a.H0 a.A0 c.D0 c.L0 c.H0 c.A0=_;unfold JF;simp only[b_ (ω:(i:Int)<(a.H0.length:Int)),Aa (ω:(0:Int)≤(i:Int)) (ω:(i:Int)<(a.H0.length:Int)),Aa (ω:(0:Int)≤(i:Int)) (ω:(i:Int)<(c.H0.length:Int)),E,j_,CD hi ω]
  cases a.H0.getD i A==c.H0.getD i A<;>rfl) (by
  show JF (a.H0.length:Int) a.D0 a.L0 a.H0 a.A0 c.D0 c.L0 c.H0 c.A0=_;unfold JF;simp only[e_ (C_ (a.H0.length:Int)),B];rfl) a.H0.length 0 ω) ω
 rw[Ack (λx y=>x==y) ZR A hl]at h
 exact h
theorem Af3(hl:a.A0.length=c.A0.length):ON (((),(),(0:Int),()),(a.tup,c.tup,()))=H (bif eqL a.A0 c.A0 then .inl ((),())else .inr ((A,()),())):=by
 have hs:=ha.e;have h5:100000≤AA:=by decide
 have h:=Ah (GF (step:=λx=>letI b:=x.2.2.1;JG x.1.2.2.1 x.2.1.1 x.2.1.2.1 x.2.1.2.2.1 x.2.1.2.2.2.1 b.1 b.2.1 b.2.2.1 b.2.2.2.1) a.A0.length (λi=>(((),(),(i:Int),()),(a.tup,c.tup,()))) (λi=>Acj (a.A0.getD i J) (c.A0.getD i J)) (Sum.inl ((),())) (Sum.inr ((A,()),())) (λi hi=>by
  show JG (i:Int) a.D0 a.L0 a.H0 a.A0 c.D0 c.L0 c.H0 c.A0=_;unfold JG Acj J;simp only[b_ (ω:(i:Int)<(a.A0.length:Int)),Aa (ω:(0:Int)≤(i:Int)) (ω:(i:Int)<(a.A0.length:Int)),Aa (ω:(0:Int)≤(i:Int)) (ω:(i:Int)<(c.A0.length:Int)),E,j_,CD hi ω]
  generalize((a.A0.getD i (L 0 0 0 0 A)).E0==(c.A0.getD i (L 0 0 0 0 A)).E0&&((a.A0.getD i (L 0 0 0 0 A)).J0==(c.A0.getD i (L 0 0 0 0 A)).J0&&((a.A0.getD i (L 0 0 0 0 A)).S0==(c.A0.getD i (L 0 0 0 0 A)).S0&&((a.A0.getD i (L 0 0 0 0 A)).B1==(c.A0.getD i (L 0 0 0 0 A)).B1&&((a.A0.getD i (L 0 0 0 0 A)).S1==(c.A0.getD i (L 0 0 0 0 A)).S1&&C)))))=q;cases q<;>rfl) (by
  show JG (a.A0.length:Int) a.D0 a.L0 a.H0 a.A0 c.D0 c.L0 c.H0 c.A0=_;unfold JG;simp only[e_ (C_ (a.A0.length:Int)),B]) a.A0.length 0 ω) ω
 rw[Ack Acj Ax2 J hl]at h;exact h
theorem Aog:RM a.D0 a.L0 a.H0 a.A0 c.D0 c.L0 c.H0 c.A0=H ((Ajm a c,()),()):=by
 unfold RM Ajm;by_cases h0:a.D0.length=c.D0.length
 ·rw[show((a.D0.length:Int) !=(c.D0.length:Int))=A by simp[h0],B]
  by_cases h1:a.L0.length=c.L0.length
  ·rw[show((a.L0.length:Int) !=(c.L0.length:Int))=A by simp[h1],B]
   by_cases h2:a.H0.length=c.H0.length
   ·rw[show((a.H0.length:Int) !=(c.H0.length:Int))=A by simp[h2],B]
    by_cases h3:a.A0.length=c.A0.length
    ·rw[show((a.A0.length:Int) !=(c.A0.length:Int))=A by simp[h3],B]
     have l0:=Af0 ha (c:=c) h0;have l1:=Af1 ha (c:=c) h1;have l2:=Af2 ha (c:=c) h2;have l3:=Af3 ha (c:=c) h3;simp only[Img.tup]at l0 l1 l2 l3;rw[l0];cases eqL a.D0 c.D0
     ·rfl
     simp only[a_,E,o_,l1];cases eqL a.L0 c.L0
     ·rfl
     simp only[a_,E,o_,l2];cases eqL a.H0 c.H0
     ·rfl
     simp only[a_,E,o_,l3];cases eqL a.A0 c.A0<;>rfl
    ·rw[(Ac8 _ _).2 h3,YO h3];simp
   ·rw[(Ac8 _ _).2 h2,YO h2];simp
  ·rw[(Ac8 _ _).2 h1,YO h1];simp
 ·rw[(Ac8 _ _).2 h0,YO h0];simp
end
end Go.Ovl
namespace Go.Ovl
open Go Go.Ab
structure Sto where
 h0:ByteArray
 h1:ByteArray
 sel:Int
def Sto.get(s:Sto)(half:Int):ByteArray:=if half=0 then s.h0 else s.h1
def Sto.set(s:Sto)(half:Int)(x:ByteArray):Sto:=if half=0 then { s with h0:=x }else { s with h1:=x }
def Sto.no:Sto:=⟨noB,noB,0⟩
def Sto.cur(s:Sto):ByteArray:=if s.sel=1 then s.h1 else s.h0
def Sto.ok(room:Int)(s:Sto):Prop:=1≤room∧room≤65536∧s.h0.size≤room∧s.h1.size≤room∧(s.sel=0∨s.sel=1)
instance okSto_ti(room:Int)(s:Sto):Decidable (s.ok room):=by unfold Sto.ok;infer_instance
def Sto.tup(s:Sto):ByteArray×ByteArray×Int×Unit:=(s.h0,(s.h1,(s.sel,())))
def Sto.chk(room:Int)(s:Sto)(half bud:Int):Int:=if s.ok room then if(half≠0∧half≠1)∨bud<0 then 2 else 0 else 1
def Sto.write(room:Int)(s:Sto)(half:Int)(d:ByteArray)(bud:Int):Sto×Int×Int:=
 if s.chk room half bud≠0 then(.no,0,s.chk room half bud)
 else if room<(s.get half).size+d.size then(.no,0,7)
 else if bud<d.size then(s.set half (s.get half++d.extract 0 bud.toNat),0,8)
 else(s.set half (s.get half++d),bud-d.size,0)
def Sto.act(room:Int)(s:Sto)(half bud:Int)(t:Sto):Sto×Int×Int:=
 if s.chk room half bud≠0 then(.no,0,s.chk room half bud)else if bud=0 then(s,0,8)else(t,bud-1,0)
def Sto.erase(room:Int)(s:Sto)(half bud:Int):Sto×Int×Int:=s.act room half bud (s.set half noB)
def Sto.choose(room:Int)(s:Sto)(half bud:Int):Sto×Int×Int:=s.act room half bud { s with sel:=half }
def Sto.out(r:Sto×Int×Int):(Unit×Int×Int×Unit)×((ByteArray×ByteArray×Int×Unit)×Unit):=(((),(r.2.1,(r.2.2,()))),((r.1.h0,(r.1.h1,(r.1.sel,()))),()))
def Iy(room:Int)(h0 h1:ByteArray)(sel:Int):Fg room h0 h1 sel=H ((decide (Sto.ok room ⟨h0,h1,sel⟩),()),()):=by
 unfold Fg Sto.ok;by_cases a:1≤room
 ·by_cases b:room≤65536
  ·by_cases c:(h0.size:Int)≤room
   ·by_cases d:(h1.size:Int)≤room
    ·by_cases e:sel=0
     ·simp[a,b,c,d,e]
     ·by_cases f:sel=1<;>simp[a,b,c,d,e,f,Ar]
    ·simp[a,b,c,d]
   ·simp[a,b,c]
  ·simp[a,b]
 ·simp[a]
def NG(room:Int)(h0 h1:ByteArray)(sel half bud:Int):HY room h0 h1 sel half bud=H ((Sto.chk room ⟨h0,h1,sel⟩ half bud,()),()):=by
 unfold HY Sto.chk;rw[Iy];by_cases a:Sto.ok room ⟨h0,h1,sel⟩
 ·by_cases b:half=0
  ·by_cases c:bud<0<;>simp[a,b,c]
  ·by_cases d:half=1
   ·by_cases c:bud<0<;>simp[a,c,d]
   ·simp[a,b,d,FK]
 ·simp[a]
def PU{room:Int}{s:Sto}{half bud:Int}(h:s.chk room half bud=0):s.ok room∧(half=0∨half=1)∧0≤bud:=by
 unfold Sto.chk at h;split at h
 ·split at h
  ·cases h
  ·rename_i h1 h2;refine⟨h1,?_,?_⟩<;>omega
 ·cases h
def SI(room:Int)(h0 h1:ByteArray)(sel half:Int)(d:ByteArray)(bud:Int)(hb:bud<9223372036854775808) :
  HX room h0 h1 sel half d bud=H (Sto.out (Sto.write room ⟨h0,h1,sel⟩ half d bud)):=by
 unfold HX Sto.write;rw[NG];generalize hc:Sto.chk room ⟨h0,h1,sel⟩ half bud=c;by_cases h:c=0
 ·subst h
  obtain⟨⟨o1,o2,o3,o4,o5⟩,hh,hb0⟩:=PU hc;simp only at o3 o4;have hin:inB half 2=C:=Aa ω ω
  have hg:(List.getD [h0,h1] half.toNat noB)=Sto.get ⟨h0,h1,sel⟩ half:=by
   rcases hh with rfl | rfl<;>rfl
  have hgs:((Sto.get ⟨h0,h1,sel⟩ half).size:Int)≤room:=by rcases hh with rfl | rfl<;>simpa[Sto.get]
  have hset:∀x:ByteArray,((bif Nat.beq half.toNat 0 then x else h0),((bif Nat.beq half.toNat 1 then x else h1),(sel,())))=((Sto.set ⟨h0,h1,sel⟩ half x).h0,((Sto.set ⟨h0,h1,sel⟩ half x).h1,((Sto.set ⟨h0,h1,sel⟩ half x).sel,()))):=by
   intro x;rcases hh with rfl | rfl<;>rfl
  have hg':(List.getD [h0,h1] half.toNat (ByteArray.mk (Array.mk [])))=Sto.get ⟨h0,h1,sel⟩ half:=hg;simp only[a_,hin,E,hg',hset];generalize Sto.get ⟨h0,h1,sel⟩ half=g at hgs⊢;rw[Ac (n:=room-g.size) ω ω]
  by_cases h2:room<(g.size:Int)+d.size
  ·have e:decide (room-(g.size:Int)<d.size)=C:=by simp;omega
   simp[e,h2,Sto.out,Sto.no,noB]
  ·have e:decide (room-(g.size:Int)<d.size)=A:=by simp;omega
   by_cases h3:bud<d.size
   ·have e2:decide (bud<(d.size:Int))=C:=by simpa using h3
    have e3:(decide (0≤bud)&&decide (bud≤(d.size:Int)))=C:=by simp;omega
    have e4:Nat.ble (g.size+(d.extract 0 bud.toNat).size) 4611686018427387904=C:=by
     rw[Aae d ω];exact At ω
    simp only[e,e3,e4,h2,h3,E,B,g2_,e7_,Sto.out];simp
   ·have e2:decide (bud<(d.size:Int))=A:=by simpa using h3
    have e4:Nat.ble (g.size+d.size) 4611686018427387904=C:=At ω
    rw[Ac (n:=bud-d.size) ω ω]
    simp only[e,e4,h2,h3,E,B,e7_,Sto.out];simp
 ·simp[h,Sto.out,Sto.no,noB,FK]
def Atx(room:Int)(h0 h1:ByteArray)(sel half bud:Int)(hb:bud<9223372036854775808):Nj room h0 h1 sel half bud=H (Sto.out (Sto.erase room ⟨h0,h1,sel⟩ half bud)):=by
 unfold Nj GZ Sto.erase Sto.act;rw[NG];generalize hc:Sto.chk room ⟨h0,h1,sel⟩ half bud=c;by_cases h:c=0
 ·subst h
  obtain⟨_,hh,hb0⟩:=PU hc;by_cases h2:bud=0
  ·simp[h2,Sto.out]
  ·have hin:inB half 2=C:=Aa ω ω
   unfold Oz;rw[Ac (n:=bud-1) ω ω]
   have e:(bud==0)=A:=by simpa using h2
   rcases hh with rfl | rfl<;>simp[hin,e,h2,Sto.out,Sto.set,noB]<;>rfl
 ·simp[h,Sto.out,Sto.no,noB,FK]
def Aos(room:Int)(h0 h1:ByteArray)(sel half bud:Int)(hb:bud<9223372036854775808):Mr room h0 h1 sel half bud=H (Sto.out (Sto.choose room ⟨h0,h1,sel⟩ half bud)):=by
 unfold Mr GA Sto.choose Sto.act;rw[NG];generalize hc:Sto.chk room ⟨h0,h1,sel⟩ half bud=c;by_cases h:c=0
 ·subst h
  obtain⟨_,hh,hb0⟩:=PU hc;by_cases h2:bud=0
  ·simp[h2,Sto.out]
  ·unfold NF
   rw[Ac (n:=bud-1) ω ω]
   have e:(bud==0)=A:=by simpa using h2
   simp[e,h2,Sto.out]
 ·simp[h,Sto.out,Sto.no,noB,FK]
def Xf(h0 h1:ByteArray)(sel:Int):Lo h0 h1 sel=H ((Sto.cur ⟨h0,h1,sel⟩,()),()):=by
 unfold Lo Sto.cur;by_cases h:sel=1<;>simp[h,Ar]
def Cn:Debounced:=Debounced.mk 0 A A A A 0 0 0 0 0 0 0 0 0 0 0 0 0 0 0 0 0 0 0 0 0 0 0 0 0 0 0 0 0 0 0 0 0 0 0 0
def Dv:Duty:=Duty.mk 0 0 0
def AT:NewCar:=NewCar.mk 0 0 0 0 0 A 0 0 0 0 0 0 0 A
def Ha:Loaded:=Loaded.mk 0
def Afp:Calls:=Calls.mk 0 0
def HP:Belief:=Belief.mk 0 0 0 [] 0 A
def Belief.tup(x:Belief):Int×Int×Int×List Duty×Int×Bool×Unit:=(x.E0,x.J0,x.A3,x.T0,x.L2,x.G3,())
structure Mch where
 G0:Img
 Y0:Sto
 J1:List Debounced
 W0:List Belief
 B0:List NewCar
 M2:List Loaded
 Z1:List Int
 V3:List Calls
 L3:Int
 Q2:Int
 G2:Int
def Mch.tup(m:Mch):List Int×List Bool×List Bool×List I×ByteArray×ByteArray×Int×List Debounced×List Belief×List NewCar×List Loaded×List Int×List Calls×Int×Int×Int×Unit:=(m.G0.D0,m.G0.L0,m.G0.H0,m.G0.A0,m.Y0.h0,m.Y0.h1,m.Y0.sel,m.J1,m.W0,m.B0,m.M2,m.Z1,m.V3,m.L3,m.Q2,m.G2,())
structure Mch.fit(m:Mch):Prop where
 im:m.G0.fit
 co:m.J1.length≤100000
 be:m.W0.length≤100000
 du:∀x∈m.W0,x.T0.length≤100000
 ca:m.B0.length≤100000
 lo:m.M2.length≤100000
 ex:m.Z1.length≤100000
 li:m.V3.length≤100000
section
variable{a c:Mch}(ha:a.fit)
include ha
end
end Go.Ovl
namespace Go.Ovl
open Go Go.Ab
def Af{α β:Type}{o:Option α}{a:α}{f:α→Option β}{r:Option β}(h:o=H a)(h2:f a=r):Option.bind o f=r:=by
 subst h;exact h2
def Bgv{α:Type}{l:List α}{i:Nat}(d:α)(hi:i<l.length):l.drop i=l.getD i d::l.drop (i+1):=by
 rw[List.drop_eq_getElem_cons hi,l_,i_ hi];rfl
def Alj{X Y:Type}{step:X→Option (Sum X Y)}(N:Nat)(g:Nat→X)(y:Y)(h1:∀i,i<N→step (g i)=H (.inl (g (i+1))))(h2:step (g N)=H (.inr y)):∀m i:Nat,i+m=N→Bz step (m+1) (g i)=H y
 |0,i,hi=>by
  obtain rfl:i=N:=ω
  exact Au h2
 |m+1,i,hi=>(Bk (h1 i ω)).trans (Alj N g y h1 h2 m (i+1) ω)
def Ahc{X Y α:Type}{step:X→Option (Sum X Y)}(l:List α)(d:α)(p:α→Bool)(g:Nat→X)(y:Y)(z:α→Y)
  (h1:∀i,i<l.length→step (g i)=H (bif p (l.getD i d)then .inl (g (i+1))else .inr (z (l.getD i d)))) (h2:step (g l.length)=H (.inr y)) :
  ∀m i:Nat,i+m=l.length→Bz step (m+1) (g i)=H (match(l.drop i).find? (λx=>!p x)with | none=>y | some x=>z x)
 |0,i,hi=>by
  obtain rfl:i=l.length:=ω
  rw[a4_];exact Au h2
 |m+1,i,hi=>by
  have hlt:i<l.length:=ω
  rw[Bgv d hlt];have h:=h1 i hlt;cases hp:p (l.getD i d)with
  |true=>
   rw[hp,E]at h;rw[Bk h,Ahc l d p g y z h1 h2 m (i+1) ω,List.find?_cons,hp]
   rfl
  |false=>
   rw[hp,B]at h;rw[Au h,List.find?_cons,hp];rfl
def Bbq{α β:Type}(p:α→Bool)(y z:β)(l:List α):(match l.find? (λx=>!p x)with | none=>y | some _=>z)=bif l.all p then y else z:=by
 induction l with
 |nil=>rfl
 |cons a l ih=>
  rw[List.find?_cons,X_];cases p a
  ·rfl
  ·exact ih
def NK{X Y:Type}{step:X→Option (Sum X Y)}{N:Nat}(hN:N≤100000)(g:Nat→X){y:Y}(h1:∀i,i<N→step (g i)=H (.inl (g (i+1))))(h2:step (g N)=H (.inr y)):Bz step DO (g 0)=H y:=
 Ah (Alj N g y h1 h2 N 0 (p_ N)) ω
def Aa0{i n:Nat}(h:i<n):decide ((i:Int)<(n:Int))=C:=b_ ω
def Wp{i n:Nat}(h:i<n):inB (i:Int) n=C:=Aa ω ω
def TI{i n:Nat}(hn:n≤100000)(h:i<n):aB.wrap ((i:Int)+1)=((i+1:Nat):Int):=CD h (by unfold AA;omega)
def Wx(n:Nat):decide ((n:Int)<(n:Int))=A:=e_ (C_ _)
def Aga(a:List Calls)(h:a.length≤100000):Ln a a=H ((C,()),()):=by
 have l:Jb ((a,a,(0:Int),()),())=H (.inl ((),())):=NK h (λi=>((a,a,(i:Int),()),())) (λi hi=>by
  simp only[lp,Un.u,MK,Aa0 hi,Wp hi,TI h hi,k_,S_,m_,E,B]) (by simp only[lp,Un.u,MK,Wx,B])
 unfold Ln;rw[l];simp
def Ai1(a:List Int)(h:a.length≤100000):Mp a a=H ((C,()),()):=by
 have l:Kj ((a,a,(0:Int),()),())=H (.inl ((),())):=NK h (λi=>((a,a,(i:Int),()),())) (λi hi=>by
  simp only[lp,Un.u,NJ,Aa0 hi,Wp hi,TI h hi,N_,E,B]) (by simp only[lp,Un.u,NJ,Wx,B])
 unfold Mp;rw[l];simp
def Bcz(x:Belief)(h:x.T0.length≤100000):RN x.E0 x.J0 x.A3 x.T0 x.L2 x.G3 x.E0 x.J0 x.A3 x.T0 x.L2 x.G3=H ((C,()),()):=by
 have l:OP (((),(),(0:Int),()),(x.tup,x.tup,()))=H (.inl ((),())):=NK h (λi=>(((),(),(i:Int),()),(x.tup,x.tup,()))) (λi hi=>by
  unfold Belief.tup;simp only[lp,Un.u,SK,Aa0 hi,Wp hi,TI h hi,k_,S_,m_,E,B]) (by unfold Belief.tup;simp only[lp,Un.u,SK,Wx,B])
 unfold RN;simp only[Belief.tup]at l;rw[l];simp
def Bc0{m:Mch}(hm:m.fit):Ox m.G0.D0 m.G0.L0 m.G0.H0 m.G0.A0 m.Y0.h0 m.Y0.h1 m.Y0.sel m.J1 m.W0 m.B0 m.M2 m.Z1 m.V3 m.L3 m.Q2 m.G2 m.G0.D0 m.G0.L0 m.G0.H0 m.G0.A0 m.Y0.h0 m.Y0.h1 m.Y0.sel m.J1 m.W0 m.B0 m.M2 m.Z1 m.V3 m.L3 m.Q2 m.G2=H ((C,()),()):=by
 have l0:OQ (((),(),(0:Int),()),(m.tup,m.tup,()))=H (.inl (((),(),()),(m.tup,m.tup,()))):=NK hm.co (λi=>(((),(),(i:Int),()),(m.tup,m.tup,()))) (λi hi=>by
  unfold Mch.tup;simp only[lp,Un.u,SM,Aa0 hi,Wp hi,TI hm.co hi,k_,S_,m_,E,B]) (by unfold Mch.tup;simp only[lp,Un.u,SM,Wx,B])
 have l1:OR (((),(),(0:Int),()),(m.tup,m.tup,()))=H (.inl (((),(),()),(m.tup,m.tup,()))):=NK hm.be (λi=>(((),(),(i:Int),()),(m.tup,m.tup,()))) (λi hi=>by
  have hd:=Bcz (m.W0.getD i HP) (hm.du _ (by rw[l_,i_ hi];exact a7_ hi))
  rw[HP]at hd;unfold Mch.tup;simp only[lp,Un.u,SN,Aa0 hi,Wp hi,TI hm.be hi,j_,hd,a_,m_,E,B]) (by unfold Mch.tup;simp only[lp,Un.u,SN,Wx,B])
 have l2:OS (((),(),(0:Int),()),(m.tup,m.tup,()))=H (.inl (((),(),()),(m.tup,m.tup,()))):=NK hm.ca (λi=>(((),(),(i:Int),()),(m.tup,m.tup,()))) (λi hi=>by
  unfold Mch.tup;simp only[lp,Un.u,SO,Aa0 hi,Wp hi,TI hm.ca hi,k_,S_,m_,E,B]) (by unfold Mch.tup;simp only[lp,Un.u,SO,Wx,B])
 have l3:OT (((),(),(0:Int),()),(m.tup,m.tup,()))=H (.inl ((),())):=NK hm.lo (λi=>(((),(),(i:Int),()),(m.tup,m.tup,()))) (λi hi=>by
  unfold Mch.tup;simp only[lp,Un.u,SP,Aa0 hi,Wp hi,TI hm.lo hi,k_,S_,m_,E,B]) (by unfold Mch.tup;simp only[lp,Un.u,SP,Wx,B])
 simp only[Mch.tup]at l0 l1 l2 l3;unfold Ox;rw[Aog hm.im (c:=m.G0),Ata,Aga _ hm.li,Ai1 _ hm.ex];simp only[a_,Bbj,k_,N_,S_,m_,B,l0,l1,l2,l3]
end Go.Ovl
