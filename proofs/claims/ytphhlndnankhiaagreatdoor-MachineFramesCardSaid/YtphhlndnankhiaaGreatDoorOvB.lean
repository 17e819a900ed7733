import Derived.Test.YtphhlndnankhiaaGreatDoorOvA
set_option linter.all false
open Bool renaming false->A,true->B
open Go.Ovl renaming Entry->C,Bo->I,Img->J,noE->L,Record->N
open Go renaming c_->E,d_->H
open Option renaming some->O
open List renaming replicate->P,range'->aC
open Int renaming toNat->aA
open Go.IntKind renaming i64->aB,wrap->aG
open Nat renaming ble->aD,blt->aE,le_succ->aF
namespace Go.Ovl
open Go Go.Ab
set_option maxRecDepth 100000
variable{b:Bldg}{l:List C}{m:J}{e c:C}{out:List N}{r:N}{k:Nat}{α:Type}
def isC(F D:Int)(e:C):Bool:=e.D0==F&&e.I0==D
def DS(F D:Int):List C→Nat→Int
 |[],_=>-1
 |e::t,i=>bif isC F D e then(i:Int)else DS F D t (i+1)
def SF(F D:Int):∀(l:List C) (i:Nat),(DS F D l i=-1∧∀e∈l,isC F D e=A)∨∃k:Nat,k<l.length∧DS F D l i=((i+k:Nat):Int)∧isC F D (l.getD k L)=B
 |[],_=>.inl ⟨rfl,λ_ h=>by cases h⟩
 |e::t,i=>by
  simp only[DS];cases h:isC F D e with
  |true=>exact .inr ⟨0,σ,rfl,h⟩
  |false=>
   rcases SF F D t (i+1)with⟨h1,h2⟩ | ⟨k,h1,h2,h3⟩
   ·refine .inl ⟨h1,λx hx=>?_⟩;rcases q_.1 hx with rfl | hx
    ·exact h
    ·exact h2 x hx
   ·refine .inr ⟨k+1,by simp;omega,?_,h3⟩;rw[E,h2];congr 1;omega
def Hp(e:C):Bool→List C→List C
 |d,[]=>bif d then []else [e]
 |true,x::t=>x::Hp e B t
 |false,x::t=>bif I e x then e::x::Hp e B t else x::Hp e A t
def Abp(e:C):∀(l:List C) (d:Bool),(Hp e d l).length≤l.length+1
 |[],B=>by simp[Hp]
 |[],A=>by simp[Hp]
 |x::t,B=>by simp only[Hp,x_];have:=Abp e t B;omega
 |x::t,A=>by
  simp only[Hp];cases I e x with
  |true=>
   simp only[H,x_]
   have:∀t:List C,Hp e B t=t:=λt=>by
    induction t with
    |nil=>rfl
    |cons a t ih=>simp only[Hp,ih]
   rw[this];omega
  |false=>simp only[E,x_];have:=Abp e t A;omega
def UH(e:C):∀t:List C,Hp e B t=t
 |[]=>rfl
 |a::t=>by simp only[Hp,UH e t]
def Img.put(m:J)(l:List C):J:=⟨m.F0,m.O0,m.K0,l⟩
def Ae4(e:C)(c:Int):C:=⟨e.D0,e.I0,c,e.Z0,e.B2⟩
def TX(e:C)(n c:Int):C:=⟨e.D0,e.I0,e.T0,n,c==1⟩
def Aw(m:J)(r:N):J:=
 bif r.R0==4 then⟨m.F0.set r.T0.toNat r.L2,m.O0,m.K0,m.A0⟩
 else bif r.R0==5 then⟨m.F0,m.O0.set r.T0.toNat (r.L2==1),m.K0,m.A0⟩
 else bif r.R0==6 then⟨m.F0,m.O0,m.K0.set r.T0.toNat (r.L2==1),m.A0⟩
 else bif DS r.D0 r.I0 m.A0 0==-1 then(bif r.R0==1 then m.put (Hp ⟨r.D0,r.I0,-1,0,A⟩ A m.A0)else m)
 else bif r.R0==2 then m.put (m.A0.take (DS r.D0 r.I0 m.A0 0).toNat++m.A0.drop ((DS r.D0 r.I0 m.A0 0).toNat+1))
 else bif r.R0==3 then m.put (m.A0.set (DS r.D0 r.I0 m.A0 0).toNat (Ae4 (m.A0.getD (DS r.D0 r.I0 m.A0 0).toNat L) r.T0))
 else bif r.R0==7 then m.put (m.A0.set (DS r.D0 r.I0 m.A0 0).toNat (TX (m.A0.getD (DS r.D0 r.I0 m.A0 0).toNat L) r.L2 r.T0))
 else m
def XZ(b:Bldg)(m:J)(r:N):(Unit×Int×Unit)×((List Int×List Bool×List Bool×List C×Unit)×Unit):=bif m.ok b&&At b r then(((),0,()),((Aw m r).tup,()))else(((),1,()),(Img.none.tup,()))
def Avo(h:At b r=B)(hk:r.R0=4∨r.R0=5∨r.R0=6):0≤r.T0∧r.T0<(b.B0.length:Int):=by
  unfold At Tw at h;have k:∀q:Bool,(r.T0≥0∧r.T0≤(b.B0.length:Int)-1)→0≤r.T0∧r.T0<(b.B0.length:Int):=λ_ h=>by omega
  rcases hk with hk | hk | hk<;>rw[hk]at h<;>
    (simp only[e_]at h
     have h':=h.2;simp only[show((4:Int)==1)=A from rfl,show((4:Int)==2)=A from rfl,show((4:Int)==3)=A from rfl,show((5:Int)==1)=A from rfl,show((5:Int)==2)=A from rfl,show((5:Int)==3)=A from rfl,show((5:Int)==4)=A from rfl,show((6:Int)==1)=A from rfl,show((6:Int)==2)=A from rfl,show((6:Int)==3)=A from rfl,show((6:Int)==4)=A from rfl,show((6:Int)==5)=A from rfl,l_,E,H,e_]at h'
     have:=Ap.1 h'.1.1
     exact k B ⟨this.1,this.2⟩)
section
variable{b:Bldg}(hb:b.small)(m:J)(hm:m.A0.length≤1000)(r:N)
include hb hm
end
def HC{a:C}:I a c=B↔a.D0<c.D0∨(a.D0=c.D0∧a.I0<c.I0):=by unfold I;simp only[S_,e_,r_,W_]
def Rk{a d:C}(h:I a c=B)(h':I c d=B):I a d=B:=by rw[HC]at*;omega
def BQ(e:C):Int×Int:=(e.D0,e.I0)
def ltC(a c:Int×Int):Prop:=a.1<c.1∨(a.1=c.1∧a.2<c.2)
def Bh(l:List C):Prop:=(l.map BQ).Pairwise ltC
def Eu:Bh l↔l.Pairwise λx y=>I x y=B:=by unfold Bh;rw[List.pairwise_map];exact⟨λh=>h.imp λhh=>HC.2 hh,λh=>h.imp λhh=>HC.1 hh⟩
def Ah0{b:Bldg}:∀{l:List C}{p:Option C},FY b p l=B↔(∀e∈l,Hv b e=B)∧Bh l∧(∀q,p=O q→∀e∈l,I q e=B)
 |[],p=>by simp[FY,Bh]
 |a::t,p=>by
  simp only[FY,e_];rw[Ah0 (l:=t),Eu,Eu,f1_];constructor
  ·rintro⟨h1,h2,h3,h4,h5⟩;refine⟨λe he=>?_,⟨λe he=>h5 a rfl e he,h4⟩,λq hq e he=>?_⟩
   ·rcases q_.1 he with rfl | he
    ·exact h1
    ·exact h3 e he
   ·subst hq;simp only at h2;rcases q_.1 he with rfl | he
    ·exact h2
    ·exact Rk h2 (h5 a rfl e he)
  ·rintro⟨h1,⟨h2,h3⟩,h4⟩;refine⟨h1 a (t_ ..),?_,λe he=>h1 e (B_ _ he),h3,λq hq e he=>?_⟩
   ·cases p with
    |none=>rfl
    |some q=>exact h4 q rfl a (t_ ..)
   ·obtain rfl:=L_ hq;exact h2 e he
def Ado:FY b none l=B↔(∀e∈l,Hv b e=B)∧Bh l:=by rw[Ah0];exact⟨λh=>⟨h.1,h.2.1⟩,λh=>⟨h.1,h.2,λ_ hq=>by cases hq⟩⟩
def Avd(h:Bh l)(k:Nat):Bh (l.take k++l.drop (k+1)):=by rw[Eu]at*;exact h.sublist (by rw[← List.eraseIdx_eq_take_drop_succ];exact List.eraseIdx_sublist ..)
def TM(hk:k<l.length)(he:BQ e=BQ (l.getD k L)):(l.set k e).map BQ=l.map BQ:=by
 rw[List.map_set,he];apply List.ext_getElem?;intro i;rw[List.getElem?_set];by_cases h:k=i
 ·subst h;rw[if_pos rfl];simp[hk,k_]
 ·rw[if_neg h]
def Ae8(h:Bh l)(hk:k<l.length)(he:BQ e=BQ (l.getD k L)):Bh (l.set k e):=by unfold Bh at*;rw[TM hk he];exact h
def Abz{e x:C}:∀{l:List C},x∈Hp e A l→x=e∨x∈l
 |[],h=>by simp[Hp]at h;exact .inl h
 |a::t,h=>by
  simp only[Hp]at h;cases hq:I e a with
  |true=>
   rw[hq,H,UH]at h;rcases q_.1 h with h | h
   ·exact .inl h
   ·exact .inr h
  |false=>
   rw[hq,E]at h;rcases q_.1 h with h | h
   ·exact .inr (by rw[h];exact t_ ..)
   ·rcases Abz h with h | h
    ·exact .inl h
    ·exact .inr (B_ _ h)
def Ae7{e:C}:∀{l:List C},Bh l→(∀x∈l,isC e.D0 e.I0 x=A)→Bh (Hp e A l)
 |[],_,_=>by simp[Hp,Bh]
 |a::t,h,hn=>by
  rw[Eu]at*;obtain⟨h1,h2⟩:=f1_.1 h;simp only[Hp];cases hq:I e a with
  |true=>
   rw[H,UH];refine f1_.2 ⟨λx hx=>?_,h⟩;rcases q_.1 hx with rfl | hx
   ·exact hq
   ·exact Rk hq (h1 x hx)
  |false=>
   rw[E];refine f1_.2 ⟨λx hx=>?_,Eu.1 (Ae7 (Eu.2 h2) λx hx=>hn x (B_ _ hx))⟩;rcases Abz hx with rfl | hx
   ·rw[HC];have h3:¬(x.D0<a.D0∨(x.D0=a.D0∧x.I0<a.I0)):=λhh=>by rw[HC.2 hh]at hq;cases hq
    have h4:=hn a (t_ ..);unfold isC at h4;simp only[Bool.and_eq_false_iff,beq_eq_false_iff_ne]at h4;omega
   ·exact h1 x hx
structure ImgOK(b:Bldg)(m:Img):Prop where
 code:b.code=0
 lp:m.F0.length=b.B0.length
 lf:m.O0.length=b.B0.length
 ll:m.K0.length=b.B0.length
 ph:∀p∈m.F0,0≤p∧p≤4
 en:∀e∈m.A0,Hv b e=true
 so:Bh m.A0
def Img.ok_iff:m.ok b=B↔ImgOK b m:=by
 unfold Img.ok;simp only[e_,W_];constructor
 ·rintro⟨h0,h1,h2,h3,h4,h5⟩;have h6:=Ado.1 h5;exact⟨h0,ω,ω,ω,λp hp=>Ap.1 (K_.1 h4 p hp),h6.1,h6.2⟩
 ·rintro⟨h0,h1,h2,h3,h4,h5,h6⟩;exact⟨h0,ω,ω,ω,K_.2 λp hp=>Ap.2 (h4 p hp),Ado.2 ⟨h5,h6⟩⟩
def CR:Hv b e=B↔Ai b e.D0 e.I0=B∧(-2≤e.T0∧e.T0<(b.B0.length:Int))∧0≤e.Z0∧e.Z0≤255:=by
 unfold Hv;simp only[e_,r_];constructor
 ·rintro⟨h1,h2,h3,h4,h5⟩;exact⟨h1,⟨h2,h3⟩,h4,h5⟩
 ·rintro⟨h1,⟨h2,h3⟩,h4,h5⟩;exact⟨h1,h2,h3,h4,h5⟩
def Agt{l:List α}{a x:α}(h:x∈l.set k a):x=a∨x∈l:=by
 rcases List.mem_or_eq_of_mem_set h with h | h
 ·exact .inr h
 ·exact .inl h
def VD(h:At b r=B):b.code=0∧
    ((r.R0=1∧Ai b r.D0 r.I0=B∧r.T0=0∧r.L2=0)∨(r.R0=2∧Ai b r.D0 r.I0=B∧r.T0=0∧r.L2=0)∨
     (r.R0=3∧Ai b r.D0 r.I0=B∧(-2≤r.T0∧r.T0<(b.B0.length:Int))∧r.L2=0)∨
     (r.R0=4∧(0≤r.T0∧r.T0<(b.B0.length:Int))∧(0≤r.L2∧r.L2≤4))∨
     (r.R0=5∧(0≤r.T0∧r.T0<(b.B0.length:Int))∧(0≤r.L2∧r.L2≤1))∨
     (r.R0=6∧(0≤r.T0∧r.T0<(b.B0.length:Int))∧(0≤r.L2∧r.L2≤1))∨
     (r.R0=7∧Ai b r.D0 r.I0=B∧(0≤r.T0∧r.T0≤1)∧(0≤r.L2∧r.L2≤255))):=by
  unfold At Tw at h;simp only[e_,W_]at h;obtain⟨h0,h⟩:=h;refine⟨h0,?_⟩;by_cases k1:r.R0=1
  · rw[k1]at h;simp only[l_,H,e_,W_]at h;exact .inl ⟨k1,h.1,h.2⟩
  rw[An k1,E]at h;by_cases k2:r.R0=2
  · rw[k2]at h;simp only[l_,H,e_,W_]at h;exact .inr (.inl ⟨k2,h.1,h.2⟩)
  rw[An k2,E]at h;by_cases k3:r.R0=3
  · rw[k3]at h;simp only[l_,H,e_,W_,Ap]at h;exact .inr (.inr (.inl ⟨k3,h.1,ω,h.2.2⟩))
  rw[An k3,E]at h;by_cases k4:r.R0=4
  · rw[k4]at h;simp only[l_,H,e_,W_,Ap]at h;exact .inr (.inr (.inr (.inl ⟨k4,ω,h.2⟩)))
  rw[An k4,E]at h;by_cases k5:r.R0=5
  · rw[k5]at h;simp only[l_,H,e_,W_,Ap]at h;exact .inr (.inr (.inr (.inr (.inl ⟨k5,ω,h.2⟩))))
  rw[An k5,E]at h;by_cases k6:r.R0=6
  · rw[k6]at h;simp only[l_,H,e_,W_,Ap]at h;exact .inr (.inr (.inr (.inr (.inr (.inl ⟨k6,ω,h.2⟩)))))
  rw[An k6,E]at h;by_cases k7:r.R0=7
  · rw[k7]at h;simp only[l_,H,e_,Ap]at h;exact .inr (.inr (.inr (.inr (.inr (.inr ⟨k7,h.1,h.2.1,h.2.2⟩)))))
  rw[An k7]at h;cases h
def Aeq(h:ImgOK b m)(h1:∀e∈l,Hv b e=B)(h2:Bh l):ImgOK b (m.put l):=⟨h.code,h.lp,h.lf,h.ll,h.ph,h1,h2⟩
def Aq2{F D:Int}:isC F D e=B↔BQ e=(F,D):=by unfold isC BQ;simp only[e_,W_,g6_]
def Mo(h:ImgOK b m)(hv:At b r=B):ImgOK b (Aw m r)∧(Aw m r).A0.length≤m.A0.length+1:=by
 obtain⟨_,hk⟩:=VD hv;unfold Aw;by_cases k4:r.R0=4
 ·rw[show(r.R0==4)=B by rw[k4];rfl];refine⟨⟨h.code,by show(m.F0.set _ _).length=_;rw[D_];exact h.lp,h.lf,h.ll,λp hp=>?_,h.en,h.so⟩,aF _⟩;rcases Agt hp with rfl | hp
  ·omega
  ·exact h.ph p hp
 rw[An k4,E];by_cases k5:r.R0=5
 ·rw[show(r.R0==5)=B by rw[k5];rfl];exact⟨⟨h.code,h.lp,by show(m.O0.set _ _).length=_;rw[D_];exact h.lf,h.ll,h.ph,h.en,h.so⟩,aF _⟩
 rw[An k5,E];by_cases k6:r.R0=6
 ·rw[show(r.R0==6)=B by rw[k6];rfl];exact⟨⟨h.code,h.lp,h.lf,by show(m.K0.set _ _).length=_;rw[D_];exact h.ll,h.ph,h.en,h.so⟩,aF _⟩
 rw[An k6,E];rcases SF r.D0 r.I0 m.A0 0 with⟨h1,h2⟩ | ⟨k,h1,h2,h3⟩
 ·rw[h1,show((-1:Int)==-1)=B from rfl,H];by_cases k1:r.R0=1
  ·rw[show(r.R0==1)=B by rw[k1];rfl,H];refine⟨Aeq h (λe he=>?_) (Ae7 h.so h2),Abp _ _ _⟩;rcases Abz he with rfl | he
   ·rw[CR];have hc:Ai b r.D0 r.I0=B:=by
     rcases hk with hk | hk | hk | hk | hk | hk | hk
     ·exact hk.2.1
     all_goals omega
    exact⟨hc,⟨by show(-2:Int)≤-1;omega,by show(-1:Int)<_;omega⟩,by show(0:Int)≤0;omega,by show(0:Int)≤255;omega⟩
   ·exact h.en e he
  ·rw[An k1,E];exact⟨h,aF _⟩
 ·rw[n_]at h2;rw[h2,An (ω:¬(k:Int)=-1),E,j_];have hmem:=BR L h1;have hent:=CR.1 (h.en _ hmem);cases r.R0==2 with
  |true=>
   refine⟨Aeq h (λe he=>?_) (Avd h.so k),?_⟩
   ·rcases p_.1 he with he | he
    ·exact h.en e (d8_ he)
    ·exact h.en e (d9_ he)
   ·show(m.A0.take k++m.A0.drop (k+1)).length≤_;rw[h_,w_,X_];omega
  |false=>
   rw[E];by_cases k3:r.R0=3
   ·rw[show(r.R0==3)=B by rw[k3];rfl,H];refine⟨Aeq h (λe he=>?_) (Ae8 h.so h1 rfl),by show(m.A0.set _ _).length≤_;rw[D_];omega⟩;rcases Agt he with rfl | he
    ·rw[CR];refine⟨hent.1,?_,hent.2.2⟩;show -2≤r.T0∧r.T0<_;rcases hk with hk | hk | hk | hk | hk | hk | hk
     all_goals first
      |exact hk.2.2.1
      |omega
    ·exact h.en e he
   ·rw[An k3,E];by_cases k7:r.R0=7
    ·rw[show(r.R0==7)=B by rw[k7];rfl,H];refine⟨Aeq h (λe he=>?_) (Ae8 h.so h1 rfl),by show(m.A0.set _ _).length≤_;rw[D_];omega⟩;rcases Agt he with rfl | he
     ·rw[CR];refine⟨hent.1,hent.2.1,?_⟩;show 0≤r.L2∧r.L2≤255;rcases hk with hk | hk | hk | hk | hk | hk | hk
      all_goals first
       |exact hk.2.2.2
       |omega
     ·exact h.en e he
    ·rw[An k7,E];exact⟨h,aF _⟩
def GG(b:Bldg):J:=⟨P b.B0.length 0,P b.B0.length A,P b.B0.length A,[]⟩
def Ag7(hcode:b.code=0)(hc:b.B0.length≤100):NL b.C0 b.E0 b.H0 b.M0 b.J0 b.L0 b.N0 b.B0=O (((),()),((GG b).tup,())):=by unfold NL;rw[Em,hcode];simp only[a_,O_,E,b_ (ω:(0:Int)≤(b.B0.length:Int)),b_ (e0_ (b.B0.length:Int)),b_ (ω:(b.B0.length:Int)≤2147483648),a0_,H,j_];rfl
def Abn(hcode:b.code=0):ImgOK b (GG b):=⟨hcode,T_,T_,T_,(λp hp=>by rw[List.eq_of_mem_replicate hp];omega),(λ_ h=>by cases h),by simp[GG,Bh]⟩
def Aq(m:J):List N→J
 |[]=>m
 |r::t=>Aq (Aw m r) t
def Um{b:Bldg}:∀{rs:List N}{m:J},ImgOK b m→(∀r∈rs,At b r=B)→ImgOK b (Aq m rs)∧(Aq m rs).A0.length≤m.A0.length+rs.length
 |[],_,h,_=>⟨h,A_ _⟩
 |r::t,m,h,hv=>by obtain⟨h1,h2⟩:=Mo h (hv r (t_ ..));obtain⟨h3,h4⟩:=Um (rs:=t) h1 λx hx=>hv x (B_ _ hx);exact⟨h3,by show(Aq (Aw m r) t).A0.length≤_;rw[x_];omega⟩
def Ab9(n lo hi:Int):Fv n lo hi=O ((inR lo hi n,()),()):=by unfold Fv inR;cases decide (lo≤n)<;>rfl
def UQ(hb:b.small)(hc:b.B0.length≤100)(r:N):JL b.C0 b.E0 b.H0 b.M0 b.J0 b.L0 b.N0 b.B0 r.R0 r.D0 r.I0 r.T0 r.L2=O ((At b r,()),()):=by
  have w:aB.wrap ((b.B0.length:Int)-1)=(b.B0.length:Int)-1:=Aa ω ω;unfold JL At Tw;rw[Bg,Mr hb];simp only[a_,bne,Ab9,w];cases b.code==0 with
  |false=>rfl
  |true=>
    simp only[o_,E,s_];cases inR 0 ((b.B0.length:Int)-1) r.T0<;>cases r.D0==0<;>cases r.I0==0<;>
      (simp only[a_,H,E,a0_,d5_,c1_,a7_,s_,w]
       by_cases k1:r.R0=1
       · simp only[k1,l_,H]
         cases Ai b r.D0 r.I0<;>cases r.T0==0<;>rfl
       by_cases k2:r.R0=2
       · simp only[k2,l_,H,E,show((2:Int)==1)=A from rfl]
         cases Ai b r.D0 r.I0<;>cases r.T0==0<;>rfl
       by_cases k3:r.R0=3
       · simp only[k3,l_,H,E,show((3:Int)==1)=A from rfl,show((3:Int)==2)=A from rfl]
         cases Ai b r.D0 r.I0<;>cases inR (-2) ((b.B0.length:Int)-1) r.T0<;>rfl
       by_cases k4:r.R0=4
       · simp only[k4,l_,H,E,show((4:Int)==1)=A from rfl,show((4:Int)==2)=A from rfl,show((4:Int)==3)=A from rfl,show((4:Int)==7)=A from rfl]
       by_cases k5:r.R0=5
       · simp only[k5,l_,H,E,show((5:Int)==1)=A from rfl,show((5:Int)==2)=A from rfl,show((5:Int)==3)=A from rfl,show((5:Int)==7)=A from rfl,show((5:Int)==4)=A from rfl]
       by_cases k6:r.R0=6
       · simp only[k6,l_,H,E,show((6:Int)==1)=A from rfl,show((6:Int)==2)=A from rfl,show((6:Int)==3)=A from rfl,show((6:Int)==7)=A from rfl,show((6:Int)==4)=A from rfl,show((6:Int)==5)=A from rfl]
       by_cases k7:r.R0=7
       · simp only[k7,l_,H,E,show((7:Int)==1)=A from rfl,show((7:Int)==2)=A from rfl,show((7:Int)==3)=A from rfl,show((7:Int)==4)=A from rfl,show((7:Int)==5)=A from rfl,show((7:Int)==6)=A from rfl]
         cases Ai b r.D0 r.I0<;>cases inR 0 1 r.T0<;>rfl
       simp only[An k1,An k2,An k3,An k4,An k5,An k6,An k7,E])
def YI(m:J)(h1:m.F0.length≤100000)(h2:m.O0.length≤100000)(h3:m.K0.length≤100000)(h4:m.A0.length≤100000):Nw m.F0 m.O0 m.K0 m.A0=O (((),()),(m.tup,())):=by
 have k:∀{α:Type}(l:List α),l.length≤100000→PN l=O ((l,()),()):=λl h=>by unfold PN;rw[Av (ω:l.length≤2147483648)];rfl
 unfold Nw BG Bd Bl;rw[k _ h1,k _ h2,k _ h3,k _ h4];rfl
def Az(c:C):List C→Nat
 |[]=>0
 |e::t=>bif I e c then Az c t+1 else 0
def Ta(c:C):∀l:List C,Az c l≤l.length
 |[]=>A_ _
 |e::t=>by
  have:=Ta c t
  simp only[Az,x_];cases I e c<;>simp<;>omega
def Ag1(c:C):∀(l:List C) (k:Nat),k<Az c l→I (l.getD k L) c=B
 |[],k,h=>by simp[Az]at h
 |e::t,k,h=>by
  simp only[Az]at h;cases he:I e c with
  |false=>rw[he]at h;simp at h
  |true=>
   rw[he]at h;cases k with
   |zero=>exact he
   |succ k=>exact Ag1 c t k (by simp at h;omega)
def Ag0{c:C}:∀{l:List C},Bh l→∀k,Az c l≤k→k<l.length→I (l.getD k L) c=A
 |[],_,k,_,h=>by simp at h
 |e::t,hs,k,h1,h2=>by
  obtain⟨a1,a2⟩:=f1_.1 (Eu.1 hs);simp only[Az]at h1;cases he:I e c with
  |true=>
   rw[he,H]at h1;cases k with
   |zero=>omega
   |succ k=>exact Ag0 (Eu.2 a2) k ω (by simp at h2;omega)
  |false=>
   cases k with
   |zero=>exact he
   |succ k=>
    cases hq:I ((e::t).getD (k+1) L) c with
    |false=>rfl
    |true=>
     have hm:t.getD k L∈t:=BR L (by simp at h2;omega)
     have:=Rk (a1 _ hm) hq
     rw[he]at this;cases this
def Xd{a:C}(h:isC c.D0 c.I0 a=B):I a c=A∧I c a=A:=by
 unfold isC at h;simp only[e_,W_]at h;constructor
 all_goals
  apply Bool.eq_false_iff.2;intro hh;rw[HC]at hh;omega
def Am5{a:C}(h:isC c.D0 c.I0 a=A)(h':I a c=A):I c a=B:=by
 rw[HC];have h1:¬(a.D0<c.D0∨(a.D0=c.D0∧a.I0<c.I0)):=λhh=>by rw[HC.2 hh]at h';cases h'
 unfold isC at h;simp only[Bool.and_eq_false_iff,beq_eq_false_iff_ne]at h;omega
def Ain{a:C}(h:I a c=B):I c a=A:=by apply Bool.eq_false_iff.2;intro hh;rw[HC]at*;omega
def WO{F D:Int}:∀{l:List C}{i:Nat},(∀x∈l,isC F D x=A)→DS F D l i=-1
 |[],_,_=>rfl
 |e::t,i,h=>by simp only[DS];rw[h e (t_ ..),E];exact WO λx hx=>h x (B_ _ hx)
def FV(c:C)(l:List C):Bool:=aE (Az c l) l.length&&isC c.D0 c.I0 (l.getD (Az c l) L)
def RH{c:C}:∀{l:List C}(i:Nat),Bh l→DS c.D0 c.I0 l i=bif FV c l then((i+Az c l:Nat):Int)else -1
 |[],_,_=>rfl
 |e::t,i,hs=>by
  obtain⟨a1,a2⟩:=f1_.1 (Eu.1 hs);have hpos:Az c (e::t)=bif I e c then Az c t+1 else 0:=rfl;unfold FV;simp only[DS];rw[hpos];cases he:isC c.D0 c.I0 e with
  |true=>rw[(Xd he).1];simp[he,show aE 0 (t.length+1)=B from rfl]
  |false=>
   cases hl:I e c with
   |true=>rw[E,H,RH (i+1) (Eu.2 a2)];unfold FV;rw[show((e::t).getD (Az c t+1) L)=t.getD (Az c t) L from rfl,x_,show aE (Az c t+1) (t.length+1)=aE (Az c t) t.length from rfl];rw[show i+1+Az c t=i+(Az c t+1)by omega]
   |false=>
    rw[E,E,show((e::t).getD 0 L)=e from rfl,he,c1_,E];refine WO λx hx=>?_;cases hq:isC c.D0 c.I0 x with
    |false=>rfl
    |true=>have h1:=Rk (Am5 he hl) (a1 x hx);rw[(Xd hq).2]at h1;cases h1
def Xa{c:C}:∀{l:List C},(∀x∈l,isC c.D0 c.I0 x=A)→Hp c A l=l.take (Az c l)++[c]++l.drop (Az c l)
 |[],_=>rfl
 |e::t,h=>by
  simp only[Hp,Az];cases hl:I e c with
  |true=>rw[Ain hl,E,Xa λx hx=>h x (B_ _ hx)];simp
  |false=>rw[Am5 (h e (t_ ..)) hl,H,UH];simp
def Aig(hs:Bh l)(h:FV c l=A):∀x∈l,isC c.D0 c.I0 x=A:=by
 have h1:=RH (c:=c) 0 hs;rw[h,E]at h1;rcases SF c.D0 c.I0 l 0 with⟨_,h2⟩ | ⟨k,_,h2,_⟩
 ·exact h2
 ·rw[h1]at h2;omega
def Au(F D:Int):C:=⟨F,D,0,0,A⟩
def Aif{i j:Nat}(h:i+j<9223372036854775808):aB.wrap (Int.fdiv (aG IntKind.u64 (aG aB ((i:Int)+(j:Int)))) ((2:Int)^(Min.min (aA (1:Int)) (IntKind.bits IntKind.u64))))=(((i+j)/2:Nat):Int):=by rw[Aa (n:=(i:Int)+(j:Int)) ω ω,Dg ω ω];rw[show((2:Int)^(Min.min (aA (1:Int)) (IntKind.bits IntKind.u64)))=2 from rfl];rw[a4_ _ ω];rw[Aa ω ω];omega
def Apy(hs:Bh l)(hl:l.length≤100000)(F D:Int):
  AB ((l,(),(),(l.length:Int),(0:Int),(l.length:Int),()),((F,D,0,0,A,()),()))=O ((l,(),(),(l.length:Int),((Az (Au F D) l:Nat):Int),()),((F,D,0,0,A,()),())):=by
 refine Bii (λx y=>∃i j:Nat,i≤Az (Au F D) l∧Az (Au F D) l≤j∧j≤l.length∧x=((l,(),(),(l.length:Int),(i:Int),(j:Int),()),((F,D,(0:Int),(0:Int),A,()),()))∧y=((l,(),(),(l.length:Int),((Az (Au F D) l:Nat):Int),()),((F,D,(0:Int),(0:Int),A,()),()))) (λx=>x.1.2.2.2.2.2.1.toNat-x.1.2.2.2.2.1.toNat) ?_ (x:=((l,(),(),(l.length:Int),(0:Int),(l.length:Int),()),((F,D,0,0,A,()),()))) (y:=((l,(),(),(l.length:Int),((Az (Au F D) l:Nat):Int),()),((F,D,0,0,A,()),()))) ⟨0,l.length,a2_ _,Ta _ _,A_ _,rfl,rfl⟩ (by show((l.length:Int).toNat-aA 0)<_;omega);rintro _ _ ⟨i,j,h1,h2,h3,rfl,rfl⟩;show(∃x',AC l (l.length:Int) (i:Int) (j:Int) F D 0 0 A=_∧_)∨AC l (l.length:Int) (i:Int) (j:Int) F D 0 0 A=_;unfold AC;rw[Aif ω];by_cases hij:i<j
 ·left;have hh:(i+j)/2<l.length:=ω;obtain⟨n,c1,c2,_⟩:=QB (l.getD ((i+j)/2) L) (Au F D);unfold Au at c1;unfold L at c1;simp only[b_ (ω:(i:Int)<(j:Int)),Ac (ω:(0:Int)≤(((i+j)/2:Nat):Int)) (ω:(((i+j)/2:Nat):Int)<(l.length:Int)),j_,H,c1,a_];have c2':decide (n<0)=I (l.getD ((i+j)/2) L) (Au F D):=by rw[TA,c2,Bool.not_not]
  rw[c2'];cases hq:I (l.getD ((i+j)/2) L) (Au F D)with
  |true=>
   have:(i+j)/2<Az (Au F D) l:=by
    rcases g2_ ((i+j)/2) (Az (Au F D) l)with h | h
    ·exact h
    ·have:=Ag0 hs _ h hh
     rw[hq]at this;cases this
   rw[H,show aB.wrap ((((i+j)/2:Nat):Int)+1)=(((i+j)/2+1:Nat):Int)by rw[Aa ω ω];omega];exact⟨_,rfl,⟨(i+j)/2+1,j,ω,h2,h3,rfl,trivial⟩,by show aA (j:Int)-aA (((i+j)/2+1:Nat):Int)<aA (j:Int)-aA (i:Int);omega⟩
  |false=>
   have:Az (Au F D) l≤(i+j)/2:=by
    rcases g2_ ((i+j)/2) (Az (Au F D) l)with h | h
    ·have:=Ag1 (Au F D) l _ h
     rw[hq]at this;cases this
    ·exact h
   rw[E];exact⟨_,rfl,⟨i,(i+j)/2,h1,this,ω,rfl,trivial⟩,by show aA (((i+j)/2:Nat):Int)-aA (i:Int)<aA (j:Int)-aA (i:Int);omega⟩
 ·right;rw[f_ (ω:¬(i:Int)<(j:Int)),show i=Az (Au F D) l by omega];rfl
def Aaq(m:J)(hs:Bh m.A0)(hl:m.A0.length≤100000)(F D:Int):OZ m.F0 m.O0 m.K0 m.A0 F D=O ((((Az (Au F D) m.A0:Nat):Int),FV (Au F D) m.A0,()),()):=by
 unfold OZ AZ;simp only;rw[Apy hs hl F D];simp only[a_];have hp:=Ta (Au F D) m.A0;unfold FV;by_cases h:Az (Au F D) m.A0<m.A0.length
 ·obtain⟨n,c1,_,c3⟩:=QB (m.A0.getD (Az (Au F D) m.A0) L) (Au F D);rw[b_ (ω:((Az (Au F D) m.A0:Nat):Int)<(m.A0.length:Int)),Ac (ω:(0:Int)≤((Az (Au F D) m.A0:Nat):Int)) (ω:((Az (Au F D) m.A0:Nat):Int)<(m.A0.length:Int)),j_,show aE (Az (Au F D) m.A0) m.A0.length=B by rw[g9_];exact h];have e:(n==0)=isC (Au F D).D0 (Au F D).I0 (m.A0.getD (Az (Au F D) m.A0) L):=by
   rw[Bool.eq_iff_iff,W_,c3];unfold isC;rw[e_,W_,W_]
  rw[← e];generalize Az (Au F D) m.A0=p at*;unfold L at c1;unfold Au at c1;simp only[H,c1,a_,s_]
 ·rw[f_ (ω:¬((Az (Au F D) m.A0:Nat):Int)<(m.A0.length:Int)),show aE (Az (Au F D) m.A0) m.A0.length=A by rw[← Bool.not_eq_true,g9_];exact h];rfl
def Azl(x:C)(e:C):I x (Au e.D0 e.I0)=I x e:=rfl
def TQ(e:C):∀l:List C,Az (Au e.D0 e.I0) l=Az e l
 |[]=>rfl
 |x::t=>by simp only[Az,Azl,TQ e t]
def Ajx(hs:Bh m.A0)(hl:m.A0.length≤100000)(r:N)(hc:(r.R0=4∨r.R0=5∨r.R0=6)→0≤r.T0∧r.T0<(m.F0.length:Int)∧r.T0<(m.O0.length:Int)∧r.T0<(m.K0.length:Int)):
  OY r.R0 r.D0 r.I0 r.T0 r.L2 m.F0 m.O0 m.K0 m.A0=O ((),((Aw m r).tup,())):=by
 unfold OY Aw;rw[Aaq m hs hl];simp only[a_];by_cases k4:r.R0=4
 ·obtain⟨c0,c1,c2,c3⟩:=hc (.inl k4);rw[k4];simp only[l_,H,Ac c0 c1];rfl
 rw[An k4];by_cases k5:r.R0=5
 ·obtain⟨c0,c1,c2,c3⟩:=hc (.inr (.inl k5));rw[k5];simp only[l_,H,E,Ac c0 c2];rfl
 rw[An k5];by_cases k6:r.R0=6
 ·obtain⟨c0,c1,c2,c3⟩:=hc (.inr (.inr k6));rw[k6];simp only[l_,H,E,Ac c0 c3];rfl
 rw[An k6];simp only[E];have hf:=RH (c:=Au r.D0 r.I0) 0 hs;simp only[n_]at hf;rw[show DS r.D0 r.I0 m.A0 0=_ from hf];have hp:=Ta (Au r.D0 r.I0) m.A0;cases hq:FV (Au r.D0 r.I0) m.A0 with
 |false=>
  have hn:=Aig hs hq;simp only[E,H,d4_,l_];by_cases k1:r.R0=1
  ·rw[k1];simp only[l_,H];unfold Dy Abo;rw[b_ (ω:(0:Int)≤((Az (Au r.D0 r.I0) m.A0:Nat):Int)),b_ (ω:((Az (Au r.D0 r.I0) m.A0:Nat):Int)≤(m.A0.length:Int))];rw[show aE 0 [Entry.mk r.D0 r.I0 (-1) 0 A].length=B from rfl,Av (show m.A0.length+[Entry.mk r.D0 r.I0 (-1) 0 A].length≤2147483648 by rw[G_];omega)];have hi:=Xa (c:=⟨r.D0,r.I0,-1,0,A⟩) (l:=m.A0) hn;rw[hi,show Az ⟨r.D0,r.I0,-1,0,A⟩ m.A0=Az (Au r.D0 r.I0) m.A0 from(TQ ⟨r.D0,r.I0,-1,0,A⟩ m.A0).symm];rfl
  ·rw[An k1];cases r.R0==2<;>cases r.R0==3<;>cases r.R0==7<;>rfl
 |true=>
  have hlt:Az (Au r.D0 r.I0) m.A0<m.A0.length:=by unfold FV at hq;rw[e_,g9_]at hq;exact hq.1
  simp only[H,o_,E,An (ω:¬((Az (Au r.D0 r.I0) m.A0:Nat):Int)=-1),j_];generalize Az (Au r.D0 r.I0) m.A0=p at hp hlt⊢;have w:aB.wrap ((p:Int)+1)=((p+1:Nat):Int):=by rw[Aa ω ω];omega
  have ib:inB (p:Int) m.A0.length=B:=Ac ω ω;by_cases k1:r.R0=1
  ·simp only[k1,l_,H,E,show((1:Int)==2)=A from rfl,show((1:Int)==3)=A from rfl,show((1:Int)==7)=A from rfl];rfl
  rw[An k1,E];cases r.R0==2 with
  |true=>unfold Dx Al3;simp only[H,w,b_ (ω:(0:Int)≤(p:Int)),b_ (ω:(p:Int)<((p+1:Nat):Int)),b_ (ω:((p+1:Nat):Int)≤(m.A0.length:Int)),a0_,a_,j_];rfl
  |false=>
   simp only[E];cases r.R0==3 with
   |true=>simp only[H,ib];rfl
   |false=>
    simp only[E];cases r.R0==7 with
    |true=>
     have ib2:∀y:C,inB (p:Int) (m.A0.set p y).length=B:=λy=>Ac ω (by rw[D_];omega);have hg:∀y:C,(m.A0.set p y).getD p (Entry.mk 0 0 0 0 A)=y:=λy=>by simp[k_,hlt]
     simp only[H,ib,ib2,hg,List.set_set];rfl
    |false=>rfl
def YF(hb:b.small)(hcl:b.B0.length≤100)(m:J)(hp:m.F0.length≤100000)(hl:m.A0.length≤10000)(r:N):
  Nv b.C0 b.E0 b.H0 b.M0 b.J0 b.L0 b.N0 b.B0 m.F0 m.O0 m.K0 m.A0 r.R0 r.D0 r.I0 r.T0 r.L2=O (XZ b m r):=by
 have hmx:100000≤maxLen:=by decide
 unfold Nv XZ;rw[CW hb m ω ω];simp only[a_];cases hok:m.ok b with
 |false=>rfl
 |true=>
  rw[UQ hb hcl r];simp only[o_,E,a_,s_];cases hv:At b r with
  |false=>rfl
  |true=>
   have hm:=Img.ok_iff.1 hok;have h1:=hm.lp;have h2:=hm.lf;have h3:=hm.ll;simp only[o_,E,H];rw[YI m hp ω ω ω];simp only[a_,Img.tup];rw[Ajx hm.so ω r λhk=>by
    have:=Avo hv hk
    omega]
   rfl
def Btt{a b:Nat}(h:a≤100000)(h':b≤100000):aB.wrap (aG aB (18*aB.wrap (aG aB ((a:Int)+(b:Int))+1))+6)=18*((a:Int)+(b:Int)+1)+6:=by rw[Aa (n:=(a:Int)+(b:Int)) ω ω,Aa (n:=(a:Int)+(b:Int)+1) ω ω,Aa (n:=18*((a:Int)+(b:Int)+1)) ω ω,Aa ω ω]
def KP(b:Bldg)(m:J):Bool:=m.ok b&&decide (18*((b.B0.length:Int)+(m.A0.length:Int)+1)+6≤b.H0)
def Aap(hb:b.small)(m:J)(hc:b.B0.length≤100000)(hp:m.F0.length≤100000)(hl:m.A0.length≤100000):
  MK b.C0 b.E0 b.H0 b.M0 b.J0 b.L0 b.N0 b.B0 m.F0 m.O0 m.K0 m.A0=O ((KP b m,()),()):=by
 have hmx:100000≤maxLen:=by decide
 unfold MK KP;rw[CW hb m ω ω];simp only[a_,Btt hc hl];cases m.ok b<;>rfl
def XY(p:Nat→Bool):Nat→Nat→Bool
 |0,_=>B
 |m+1,i=>p i&&XY p m (i+1)
def Ba:Nat:=10000000
def Gb{i n:Nat}(h:i<n)(hn:n≤Ba):aB.wrap ((i:Int)+1)=((i+1:Nat):Int):=by unfold Ba at hn;rw[Aa ω ω];omega
section
variable{α:Type}
end
structure Img.fit(m:Img):Prop where
 p:m.F0.length≤100000
 f:m.O0.length≤100000
 l:m.K0.length≤100000
 e:m.A0.length≤100000
section
variable{a c:J}(ha:a.fit)
include ha
end
def TN(on:Bool):Int:=bif on then 1 else 0
def XG(on:Bool):JH on=O ((TN on,()),()):=by unfold JH TN;cases on<;>rfl
def Aet(on:Bool):OE on=O ((TN on,()),()):=by unfold OE TN;cases on<;>rfl
def Oe(m:J)(i:Nat):List N:=[⟨4,0,0,i,m.F0.getD i 0⟩,⟨5,0,0,i,TN (m.O0.getD i A)⟩,⟨6,0,0,i,TN (m.K0.getD i A)⟩]
def Of(e:C):List N:=[⟨1,e.D0,e.I0,0,0⟩,⟨3,e.D0,e.I0,e.T0,0⟩,⟨7,e.D0,e.I0,TN e.B2,e.Z0⟩]
def CM(m:J):List N:=(aC 0 m.F0.length).flatMap (Oe m)++m.A0.flatMap Of
def HB{α:Type}(f:Nat→List α):∀(k i:Nat) (s:List α),AE (λi s=>s++f i) k i s=s++(aC i k).flatMap f
 |0,i,s=>by simp[AE]
 |k+1,i,s=>by simp only[AE];rw[HB f k (i+1),f0_,a1_,M_]
def Ni{α β:Type}(f:α→List β)(d:α):∀(l:List α) (i k:Nat),i+k=l.length→(aC i k).flatMap (λi=>f (l.getD i d))=(l.drop i).flatMap f
 |l,i,0,h=>by obtain rfl:i=l.length:=ω;simp
 |l,i,k+1,h=>by rw[f0_,a1_,Ni f d l (i+1) k ω,By d (ω:i<l.length),a1_]
def Adp(l:List C):(aC 0 l.length).flatMap (λi=>Of (l.getD i L))=l.flatMap Of:=by rw[Ni Of L l 0 l.length ω,R_]
section
variable{m:J}(hf:m.fit)
include hf
theorem YW(ho:out.length≤300000):KA (((),out,(0:Int),()),(m.tup,()))=O ((out++m.A0.flatMap Of,()),()):=by
 have hl:=hf.e;have h:=AP (step:=λx=>Gw x.1.2.1 x.1.2.2.1 x.2.1.1 x.2.1.2.1 x.2.1.2.2.1 x.2.1.2.2.2.1) m.A0.length (λi s=>(((),s,(i:Int),()),(m.tup,()))) (λi s=>s++Of (m.A0.getD i L)) (λi s=>s.length=out.length+3*i) (λs=>((s,()),())) (λi s hi hs=>by
  refine⟨?_,by rw[h_,hs];show _+3=_;omega⟩;have b1:∀r r' r'':N,aD (s.length+[r,r',r''].length) 2147483648=B:=λr r' r''=>Av (by show s.length+3≤_;omega);show Gw s (i:Int) m.F0 m.O0 m.K0 m.A0=_;unfold Gw;simp only[b_ (ω:(i:Int)<(m.A0.length:Int)),Ac (ω:(0:Int)≤(i:Int)) (ω:(i:Int)<(m.A0.length:Int)),H,j_,Aet,a_,b1,Gb hi (show m.A0.length≤Ba by unfold Ba;omega)];rfl) (λs _=>by
  show Gw s (m.A0.length:Int) m.F0 m.O0 m.K0 m.A0=_;unfold Gw;simp only[f_ (Q_ (m.A0.length:Int)),E]) m.A0.length 0 out ω rfl
 have h':=Ak h.1 ω;rw[HB,Adp]at h';exact h'
theorem YV(h1:m.O0.length=m.F0.length)(h2:m.K0.length=m.F0.length):Kz (((),[],(0:Int),()),(m.tup,()))=O (((),(aC 0 m.F0.length).flatMap (Oe m),()),(m.tup,())):=by
 have hl:=hf.p;have h:=AP (step:=λx=>Gv x.1.2.1 x.1.2.2.1 x.2.1.1 x.2.1.2.1 x.2.1.2.2.1 x.2.1.2.2.2.1) m.F0.length (λi s=>(((),s,(i:Int),()),(m.tup,()))) (λi s=>s++Oe m i) (λi s=>s.length=3*i) (λs=>(((),s,()),(m.tup,()))) (λi s hi hs=>by
  refine⟨?_,by rw[h_,hs];show _+3=_;omega⟩;have b1:∀r r' r'':N,aD (s.length+[r,r',r''].length) 2147483648=B:=λr r' r''=>Av (by show s.length+3≤_;omega);show Gv s (i:Int) m.F0 m.O0 m.K0 m.A0=_;unfold Gv;simp only[b_ (ω:(i:Int)<(m.F0.length:Int)),Ac (ω:(0:Int)≤(i:Int)) (ω:(i:Int)<(m.F0.length:Int)),Ac (ω:(0:Int)≤(i:Int)) (ω:(i:Int)<(m.O0.length:Int)),Ac (ω:(0:Int)≤(i:Int)) (ω:(i:Int)<(m.K0.length:Int)),H,j_,Aet,a_,b1,Gb hi (show m.F0.length≤Ba by unfold Ba;omega)];rfl) (λs _=>by
  show Gv s (m.F0.length:Int) m.F0 m.O0 m.K0 m.A0=_;unfold Gv;simp only[f_ (Q_ (m.F0.length:Int)),E];rfl) m.F0.length 0 [] ω rfl
 have h':=Ak h.1 ω;rw[HB,a5_]at h';exact h'
theorem YH(ho:out.length≤300000):Ky (((),m.A0,(m.A0.length:Int),(0:Int),()),((out,()),()))=O (((),()),((out++m.A0.flatMap Of,()),())):=by
 have hl:=hf.e;have h:=AP (step:=λx=>Gu x.1.2.1 x.1.2.2.1 x.1.2.2.2.1 x.2.1.1) m.A0.length (λi s=>(((),m.A0,(m.A0.length:Int),(i:Int),()),((s,()),()))) (λi s=>s++Of (m.A0.getD i L)) (λi s=>s.length=out.length+3*i) (λs=>(((),()),((s,()),()))) (λi s hi hs=>by
  refine⟨?_,by rw[h_,hs];show _+3=_;omega⟩;show Gu m.A0 (m.A0.length:Int) (i:Int) s=_;have b1:∀r:N,aD (s.length+[r].length) 2147483648=B:=λr=>Av (by rw[G_];omega);have b2:∀r r':N,aD ((s++[r]).length+[r'].length) 2147483648=B:=λr r'=>Av (by rw[h_,G_,G_];omega);have b3:∀r r' r'':N,aD ((s++[r]++[r']).length+[r''].length) 2147483648=B:=λr r' r''=>Av (by rw[h_,h_,G_,G_,G_];omega);unfold Gu HO;simp only[b_ (ω:(i:Int)<(m.A0.length:Int)),Ac (ω:(0:Int)≤(i:Int)) (ω:(i:Int)<(m.A0.length:Int)),H,j_,XG,a_,b1,b2,b3,Gb hi (show m.A0.length≤Ba by unfold Ba;omega)];simp only[M_];rfl) (λs _=>by
  show Gu m.A0 (m.A0.length:Int) (m.A0.length:Int) s=_;unfold Gu;simp only[f_ (Q_ (m.A0.length:Int)),E]) m.A0.length 0 out ω rfl
 have h':=Ak h.1 ω;rw[HB,Adp]at h';exact h'
theorem YG(h1:m.O0.length=m.F0.length)(h2:m.K0.length=m.F0.length):Kx (((),(),(m.F0.length:Int),(0:Int),()),(m.tup,(([]:List N),()),()))=O (((),(),()),(m.tup,((aC 0 m.F0.length).flatMap (Oe m),()),())):=by
 have hl:=hf.p;have h:=AP (step:=λx=>Gt x.1.2.2.1 x.1.2.2.2.1 x.2.1.1 x.2.1.2.1 x.2.1.2.2.1 x.2.1.2.2.2.1 x.2.2.1.1) m.F0.length (λi s=>(((),(),(m.F0.length:Int),(i:Int),()),(m.tup,(s,()),()))) (λi s=>s++Oe m i) (λi s=>s.length=3*i) (λs=>(((),(),()),(m.tup,(s,()),()))) (λi s hi hs=>by
  refine⟨?_,by rw[h_,hs];show _+3=_;omega⟩;show Gt (m.F0.length:Int) (i:Int) m.F0 m.O0 m.K0 m.A0 s=_;have b1:∀r:N,aD (s.length+[r].length) 2147483648=B:=λr=>Av (by rw[G_];omega);have b2:∀r r':N,aD ((s++[r]).length+[r'].length) 2147483648=B:=λr r'=>Av (by rw[h_,G_,G_];omega);have b3:∀r r' r'':N,aD ((s++[r]++[r']).length+[r''].length) 2147483648=B:=λr r' r''=>Av (by rw[h_,h_,G_,G_,G_];omega);unfold Gt HN;simp only[b_ (ω:(i:Int)<(m.F0.length:Int)),Ac (ω:(0:Int)≤(i:Int)) (ω:(i:Int)<(m.F0.length:Int)),Ac (ω:(0:Int)≤(i:Int)) (ω:(i:Int)<(m.O0.length:Int)),Ac (ω:(0:Int)≤(i:Int)) (ω:(i:Int)<(m.K0.length:Int)),H,j_,XG,a_,b1,b2,b3,Gb hi (show m.F0.length≤Ba by unfold Ba;omega)];simp only[M_];rfl) (λs _=>by
  show Gt (m.F0.length:Int) (m.F0.length:Int) m.F0 m.O0 m.K0 m.A0 s=_;unfold Gt;simp only[f_ (Q_ (m.F0.length:Int)),E];rfl) m.F0.length 0 [] ω rfl
 have h':=Ak h.1 ω;rw[HB,a5_]at h';exact h'
end
def TE{α β:Type}(f:α→List β)(hf:∀x,(f x).length=3):∀l:List α,(l.flatMap f).length=3*l.length
 |[]=>rfl
 |a::t=>by rw[a1_,h_,hf,TE f hf t,x_];omega
def Ze(m:J)(n:Nat):((aC 0 n).flatMap (Oe m)).length=3*n:=by rw[TE _ λ_=>rfl,List.length_range']
def Zf(m:J):(CM m).length=3*(m.F0.length+m.A0.length):=by unfold CM;rw[h_,Ze,TE _ λ_=>rfl];omega
def UY(b:Bldg)(m:J):List N:=bif m.ok b then CM m else []
section
variable{b:Bldg}(hb:b.small){m:J}(hf:m.fit)
include hb hf
theorem Aeg:ML b.C0 b.E0 b.H0 b.M0 b.J0 b.L0 b.N0 b.B0 m.F0 m.O0 m.K0 m.A0=O ((UY b m,()),()):=by
 have hmx:100000≤maxLen:=by decide
 have hp:=hf.p;have he:=hf.e;unfold ML UY;rw[CW hb m ω ω];simp only[a_];cases hok:m.ok b with
 |false=>rfl
 |true=>have hm:=Img.ok_iff.1 hok;have l0:=YG hf (by rw[hm.lf,hm.lp]) (by rw[hm.ll,hm.lp]);have l1:=YH hf (out:=(aC 0 m.F0.length).flatMap (Oe m)) (by rw[Ze];omega);simp only[Img.tup]at l0;simp only[o_,E,H,l0,l1,a_];rfl
theorem Aes:MS b.C0 b.E0 b.H0 b.M0 b.J0 b.L0 b.N0 b.B0 m.F0 m.O0 m.K0 m.A0=O ((UY b m,()),()):=by
 have hmx:100000≤maxLen:=by decide
 have hp:=hf.p;have he:=hf.e;unfold MS UY;rw[QD hb m ω ω];simp only[a_];cases hok:m.ok b with
 |false=>rfl
 |true=>have hm:=Img.ok_iff.1 hok;have l0:=YV hf (by rw[hm.lf,hm.lp]) (by rw[hm.ll,hm.lp]);have l1:=YW hf (out:=(aC 0 m.F0.length).flatMap (Oe m)) (by rw[Ze];omega);simp only[Img.tup]at l0 l1;simp only[o_,E,H,l0,l1,a_];rfl
end
def EQ(m:J):∀(a c:List N),Aq m (a++c)=Aq (Aq m a) c
 |[],_=>rfl
 |r::t,c=>by show Aq (Aw m r) (t++c)=Aq (Aq (Aw m r) t) c;exact EQ (Aw m r) t c
def Ahe(l:List α)(z d:α){n:Nat}(hk:k<n)(hl:l.length=n):(l.take k++P (n-k) z).set k (l.getD k d)=l.take (k+1)++P (n-(k+1)) z:=by
 have h1:(l.take k).length=k:=by rw[w_];omega
 rw[List.set_append_right _ _ ω,h1,Nat.sub_self,show n-k=(n-(k+1))+1 by omega,List.replicate_succ,List.set_cons_zero];have h2:k<l.length:=ω;rw[show l.getD k d=l[k]by simp[h2]];rw[List.take_succ_eq_append_getElem h2,M_];rfl
def Ap9(m:J)(a c d:N):Aq m [a,c,d]=Aw (Aw (Aw m a) c) d:=rfl
def Arb(on:Bool):(TN on==1)=on:=by cases on<;>rfl
def Apz{n:Nat}(hk:k<n)(h1:m.F0.length=n)(h2:m.O0.length=n)(h3:m.K0.length=n):
  Aq ⟨m.F0.take k++P (n-k) 0,m.O0.take k++P (n-k) A,m.K0.take k++P (n-k) A,[]⟩ (Oe m k)=⟨m.F0.take (k+1)++P (n-(k+1)) 0,m.O0.take (k+1)++P (n-(k+1)) A,m.K0.take (k+1)++P (n-(k+1)) A,[]⟩:=by
 have e1:=Ahe m.F0 0 0 hk h1;have e2:=Ahe m.O0 A A hk h2;have e3:=Ahe m.K0 A A hk h3;unfold Oe;rw[Ap9];unfold Aw;simp only[show((4:Int)==4)=B from rfl,show((5:Int)==4)=A from rfl,show((5:Int)==5)=B from rfl,show((6:Int)==4)=A from rfl,show((6:Int)==5)=A from rfl,show((6:Int)==6)=B from rfl,H,E,j_,Arb,e1,e2,e3]
def Ajc{m:J}{n:Nat}(h1:m.F0.length=n)(h2:m.O0.length=n)(h3:m.K0.length=n):∀j k:Nat,k+j=n→
  Aq ⟨m.F0.take k++P (n-k) 0,m.O0.take k++P (n-k) A,m.K0.take k++P (n-k) A,[]⟩ ((aC k j).flatMap (Oe m))=⟨m.F0,m.O0,m.K0,[]⟩
 |0,k,h=>by obtain rfl:k=n:=ω;rw[Nat.sub_self];simp only[List.replicate_zero,a6_];rw[a3_ ω,a3_ ω,a3_ ω];rfl
 |j+1,k,h=>by rw[f0_,a1_,EQ,Apz ω h1 h2 h3];exact Ajc h1 h2 h3 j (k+1) ω
def Ah4{F D:Int}{x:C}(hx:isC F D x=B):∀(l:List C) (i:Nat),(∀e∈l,isC F D e=A)→DS F D (l++[x]) i=((i+l.length:Nat):Int)
 |[],i,_=>by simp[DS,hx]
 |e::t,i,h=>by rw[List.cons_append];simp only[DS];rw[h e (t_ ..),E,Ah4 hx t (i+1) λy hy=>h y (B_ _ hy),x_];congr 1;omega
def Amp{x:C}:∀{l:List C},(∀e∈l,I x e=A)→Hp x A l=l++[x]
 |[],_=>rfl
 |e::t,h=>by simp only[Hp];rw[h e (t_ ..),E,Amp λy hy=>h y (B_ _ hy)];rfl
def Ap0(h:∀x∈m.A0,I x e=B):Aq m (Of e)=m.put (m.A0++[e]):=by
 have hn:∀x∈m.A0,isC e.D0 e.I0 x=A:=λx hx=>by
  cases hq:isC e.D0 e.I0 x with
  |false=>rfl
  |true=>
   have:=(Xd (c:=e) hq).1
   rw[h x hx]at this;cases this
 have e0:∀(c k:Int) (q:Bool),isC e.D0 e.I0 ⟨e.D0,e.I0,c,k,q⟩=B:=λc k q=>by unfold isC;simp
 have f0:DS e.D0 e.I0 m.A0 0=-1:=WO hn;have f1:∀(c k:Int) (q:Bool),DS e.D0 e.I0 (m.A0++[⟨e.D0,e.I0,c,k,q⟩]) 0=(m.A0.length:Int):=λc k q=>by rw[Ah4 (e0 c k q) _ _ hn,n_]
 have g1:∀x:C,(m.A0++[x]).getD m.A0.length L=x:=λx=>by simp
 have s1:∀x y:C,(m.A0++[x]).set m.A0.length y=m.A0++[y]:=λx y=>by rw[List.set_append_right _ _ (A_ _),Nat.sub_self];rfl
 have a1:Aw m ⟨1,e.D0,e.I0,0,0⟩=m.put (m.A0++[⟨e.D0,e.I0,-1,0,A⟩]):=by unfold Aw;rw[f0];simp only[show((1:Int)==4)=A from rfl,show((1:Int)==5)=A from rfl,show((1:Int)==6)=A from rfl,E,H,l_];rw[Amp (x:=⟨e.D0,e.I0,-1,0,A⟩) λx hx=>Ain (show I x ⟨e.D0,e.I0,-1,0,A⟩=B from h x hx)]
 have ne:(((m.A0.length:Int))==-1)=A:=An ω;have a2:Aw (m.put (m.A0++[⟨e.D0,e.I0,-1,0,A⟩])) ⟨3,e.D0,e.I0,e.T0,0⟩=m.put (m.A0++[⟨e.D0,e.I0,e.T0,0,A⟩]):=by unfold Aw;simp only[Img.put,f1,ne,show((3:Int)==4)=A from rfl,show((3:Int)==5)=A from rfl,show((3:Int)==6)=A from rfl,show((3:Int)==2)=A from rfl,E,H,l_,j_,g1,s1,Ae4]
 have a3:Aw (m.put (m.A0++[⟨e.D0,e.I0,e.T0,0,A⟩])) ⟨7,e.D0,e.I0,TN e.B2,e.Z0⟩=m.put (m.A0++[⟨e.D0,e.I0,e.T0,e.Z0,e.B2⟩]):=by unfold Aw;simp only[Img.put,f1,ne,show((7:Int)==4)=A from rfl,show((7:Int)==5)=A from rfl,show((7:Int)==6)=A from rfl,show((7:Int)==2)=A from rfl,show((7:Int)==3)=A from rfl,E,H,l_,j_,g1,s1,TX,Arb]
 unfold Of;rw[Ap9,a1,a2,a3]
def Ajd:∀(l:List C) (m:J),Bh (m.A0++l)→Aq m (l.flatMap Of)=m.put (m.A0++l)
 |[],m,_=>by simp[Aq,Img.put]
 |e::t,m,h=>by
  have hp:=Eu.1 h;have hlt:∀x∈m.A0,I x e=B:=λx hx=>(g0_.1 hp).2.2 x hx e (t_ ..);rw[a1_,EQ,Ap0 hlt];have h2:Bh ((m.put (m.A0++[e])).A0++t):=by show Bh (m.A0++[e]++t);rw[M_];exact h
  rw[Ajd t _ h2];show m.put (m.A0++[e]++t)=_;rw[M_];rfl
def Ae6(h:ImgOK b m):Aq (GG b) (CM m)=m:=by unfold CM;rw[EQ];have h0:=Ajc (m:=m) h.lp h.lf h.ll b.B0.length 0 ω;simp only[List.take_zero,a5_,Nat.sub_zero]at h0;rw[h.lp];rw[show GG b=⟨P b.B0.length 0,P b.B0.length A,P b.B0.length A,[]⟩from rfl,h0,Ajd _ _ (by show Bh ([]++m.A0);exact h.so)];rfl
def Xi(on:Bool):0≤TN on∧TN on≤1:=by cases on<;>exact⟨τ,τ⟩
def SR(h:ImgOK b m):∀r∈CM m,At b r=B:=by
 have hcode:=h.code;intro r hr;unfold CM at hr;rcases p_.1 hr with hr | hr
 ·obtain⟨i,hi,hr⟩:=c9_.1 hr;have hi':i<m.F0.length:=by
   have:=List.mem_range'_1.1 hi
   omega
  have hp:=h.ph _ (BR 0 hi');have hlp:=h.lp;have hcar:∀k v:Int,Tw b ⟨k,0,0,i,v⟩=B:=λk v=>by unfold Tw;rw[Ap.2 ⟨show(0:Int)≤(i:Int)by omega,show(i:Int)≤(b.B0.length:Int)-1 by omega⟩];rfl
  unfold Oe at hr;simp only[q_,h2_,or_false]at hr;rcases hr with rfl | rfl | rfl
  ·unfold At;rw[hcode,hcar,Ap.2 hp];rfl
  ·unfold At;rw[hcode,hcar,Ap.2 (Xi _)];rfl
  ·unfold At;rw[hcode,hcar,Ap.2 (Xi _)];rfl
 ·obtain⟨e,he,hr⟩:=c9_.1 hr;obtain⟨h1,h2,h3⟩:=CR.1 (h.en e he);unfold Of at hr;simp only[q_,h2_,or_false]at hr;rcases hr with rfl | rfl | rfl
  ·unfold At;rw[hcode,h1];rfl
  ·unfold At;rw[hcode,h1,Ap.2 ⟨h2.1,show e.T0≤(b.B0.length:Int)-1 by omega⟩];rfl
  ·unfold At;rw[hcode,h1,Ap.2 (Xi _),Ap.2 h3];rfl
end Go.Ovl
