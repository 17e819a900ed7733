import Derived.Test.YtefkhaccplcieaaGreatDoorOvA
set_option linter.all false
open Bool renaming false->A,true->B
open Go.Ovl renaming Entry->C,noE->I,Img->J
open Go renaming c_->E,d_->H
open Option renaming some->L
open Go.Ovl.Entry renaming mk->O
open Int renaming toNat->aA
open Go.IntKind renaming i64->aB,wrap->aE
open Nat renaming blt->aC,le_succ->aD
namespace Go.Ovl
open Go Go.Ab
set_option maxRecDepth 100000
variable{l:List C}{b:Bldg}{α:Type}{e c:C}{r:Record}{m:J}{k:Nat}
def isC(F D:Int)(e:C):Bool:=e.D0==F&&e.I0==D
def DR(F D:Int):List C→Nat→Int
 |[],_=>-1
 |e::t,i=>bif isC F D e then(i:Int)else DR F D t (i+1)
def Td(F D:Int):∀(l:List C) (i:Nat),(DR F D l i=-1∧∀e∈l,isC F D e=A)∨∃k:Nat,k<l.length∧DR F D l i=((i+k:Nat):Int)∧isC F D (l.getD k I)=B
 |[],_=>.inl ⟨rfl,λ_ h=>by cases h⟩
 |e::t,i=>by
  simp only[DR];cases h:isC F D e with
  |true=>exact .inr ⟨0,σ,rfl,h⟩
  |false=>
   rcases Td F D t (i+1)with⟨h1,h2⟩ | ⟨k,h1,h2,h3⟩
   ·refine .inl ⟨h1,λx hx=>?_⟩;rcases s_.1 hx with rfl | hx
    ·exact h
    ·exact h2 x hx
   ·refine .inr ⟨k+1,by simp;omega,?_,h3⟩;rw[E,h2];congr 1;omega
def HF(e:C):Bool→List C→List C
 |d,[]=>bif d then []else [e]
 |true,x::t=>x::HF e B t
 |false,x::t=>bif Bp e x then e::x::HF e B t else x::HF e A t
def Acj(e:C):∀(l:List C) (d:Bool),(HF e d l).length≤l.length+1
 |[],B=>by simp[HF]
 |[],A=>by simp[HF]
 |x::t,B=>by simp only[HF,C_];have:=Acj e t B;omega
 |x::t,A=>by
  simp only[HF];cases Bp e x with
  |true=>
   simp only[H,C_]
   have:∀t:List C,HF e B t=t:=λt=>by
    induction t with
    |nil=>rfl
    |cons a t ih=>simp only[HF,ih]
   rw[this];omega
  |false=>simp only[E,C_];have:=Acj e t A;omega
def Vk(e:C):∀t:List C,HF e B t=t
 |[]=>rfl
 |a::t=>by simp only[HF,Vk e t]
def Img.put(m:J)(l:List C):J:=⟨m.G0,m.O0,m.J0,l⟩
def Afw(e:C)(c:Int):C:=⟨e.D0,e.I0,c,e.Z0,e.R1⟩
def UC(e:C)(n c:Int):C:=⟨e.D0,e.I0,e.R0,n,c==1⟩
def Am(m:J)(r:Record):J:=
 bif r.Q0==4 then⟨m.G0.set r.R0.toNat r.S1,m.O0,m.J0,m.A0⟩
 else bif r.Q0==5 then⟨m.G0,m.O0.set r.R0.toNat (r.S1==1),m.J0,m.A0⟩
 else bif r.Q0==6 then⟨m.G0,m.O0,m.J0.set r.R0.toNat (r.S1==1),m.A0⟩
 else bif DR r.D0 r.I0 m.A0 0==-1 then(bif r.Q0==1 then m.put (HF ⟨r.D0,r.I0,-1,0,A⟩ A m.A0)else m)
 else bif r.Q0==2 then m.put (m.A0.take (DR r.D0 r.I0 m.A0 0).toNat++m.A0.drop ((DR r.D0 r.I0 m.A0 0).toNat+1))
 else bif r.Q0==3 then m.put (m.A0.set (DR r.D0 r.I0 m.A0 0).toNat (Afw (m.A0.getD (DR r.D0 r.I0 m.A0 0).toNat I) r.R0))
 else bif r.Q0==7 then m.put (m.A0.set (DR r.D0 r.I0 m.A0 0).toNat (UC (m.A0.getD (DR r.D0 r.I0 m.A0 0).toNat I) r.S1 r.R0))
 else m
def Yw(b:Bldg)(m:J)(r:Record):(Unit×Int×Unit)×((List Int×List Bool×List Bool×List C×Unit)×Unit):=bif m.ok b&&Au b r then(((),0,()),((Am m r).tup,()))else(((),1,()),(Img.none.tup,()))
def Af9(h:Au b r=B)(hk:r.Q0=4∨r.Q0=5∨r.Q0=6):0≤r.R0∧r.R0<(b.B0.length:Int):=by
  unfold Au Ub at h;have k:∀q:Bool,(r.R0≥0∧r.R0≤(b.B0.length:Int)-1)→0≤r.R0∧r.R0<(b.B0.length:Int):=λ_ h=>by omega
  rcases hk with hk | hk | hk<;>rw[hk]at h<;>
    (simp only[e_]at h
     have h':=h.2;simp only[show((4:Int)==1)=A from rfl,show((4:Int)==2)=A from rfl,show((4:Int)==3)=A from rfl,show((5:Int)==1)=A from rfl,show((5:Int)==2)=A from rfl,show((5:Int)==3)=A from rfl,show((5:Int)==4)=A from rfl,show((6:Int)==1)=A from rfl,show((6:Int)==2)=A from rfl,show((6:Int)==3)=A from rfl,show((6:Int)==4)=A from rfl,show((6:Int)==5)=A from rfl,l_,E,H,e_]at h'
     have:=As.1 h'.1.1
     exact k B ⟨this.1,this.2⟩)
section
variable{b:Bldg}(hb:b.small)(m:J)(hm:m.A0.length≤1000)(r:Record)
include hb hm
end
def HU{a:C}:Bp a c=B↔a.D0<c.D0∨(a.D0=c.D0∧a.I0<c.I0):=by unfold Bp;simp only[S_,e_,t_,U_]
def RG{a d:C}(h:Bp a c=B)(h':Bp c d=B):Bp a d=B:=by rw[HU]at*;omega
def BS(e:C):Int×Int:=(e.D0,e.I0)
def ltC(a c:Int×Int):Prop:=a.1<c.1∨(a.1=c.1∧a.2<c.2)
def Bg(l:List C):Prop:=(l.map BS).Pairwise ltC
def Ez:Bg l↔l.Pairwise λx y=>Bp x y=B:=by unfold Bg;rw[List.pairwise_map];exact⟨λh=>h.imp λhh=>HU.2 hh,λh=>h.imp λhh=>HU.1 hh⟩
def Aiv{b:Bldg}:∀{l:List C}{p:Option C},Gi b p l=B↔(∀e∈l,HN b e=B)∧Bg l∧(∀q,p=L q→∀e∈l,Bp q e=B)
 |[],p=>by simp[Gi,Bg]
 |a::t,p=>by
  simp only[Gi,e_];rw[Aiv (l:=t),Ez,Ez,e8_];constructor
  ·rintro⟨h1,h2,h3,h4,h5⟩;refine⟨λe he=>?_,⟨λe he=>h5 a rfl e he,h4⟩,λq hq e he=>?_⟩
   ·rcases s_.1 he with rfl | he
    ·exact h1
    ·exact h3 e he
   ·subst hq;simp only at h2;rcases s_.1 he with rfl | he
    ·exact h2
    ·exact RG h2 (h5 a rfl e he)
  ·rintro⟨h1,⟨h2,h3⟩,h4⟩;refine⟨h1 a (q_ ..),?_,λe he=>h1 e (r_ _ he),h3,λq hq e he=>?_⟩
   ·cases p with
    |none=>rfl
    |some q=>exact h4 q rfl a (q_ ..)
   ·obtain rfl:=H_ hq;exact h2 e he
def Aei:Gi b none l=B↔(∀e∈l,HN b e=B)∧Bg l:=by rw[Aiv];exact⟨λh=>⟨h.1,h.2.1⟩,λh=>⟨h.1,h.2,λ_ hq=>by cases hq⟩⟩
def Awh(h:Bg l)(k:Nat):Bg (l.take k++l.drop (k+1)):=by rw[Ez]at*;exact h.sublist (by rw[← List.eraseIdx_eq_take_drop_succ];exact List.eraseIdx_sublist ..)
def Ut(hk:k<l.length)(he:BS e=BS (l.getD k I)):(l.set k e).map BS=l.map BS:=by
 rw[List.map_set,he];apply List.ext_getElem?;intro i;rw[List.getElem?_set];by_cases h:k=i
 ·subst h;rw[if_pos rfl];simp[hk,k_]
 ·rw[if_neg h]
def Af0(h:Bg l)(hk:k<l.length)(he:BS e=BS (l.getD k I)):Bg (l.set k e):=by unfold Bg at*;rw[Ut hk he];exact h
def Acu{e x:C}:∀{l:List C},x∈HF e A l→x=e∨x∈l
 |[],h=>by simp[HF]at h;exact .inl h
 |a::t,h=>by
  simp only[HF]at h;cases hq:Bp e a with
  |true=>
   rw[hq,H,Vk]at h;rcases s_.1 h with h | h
   ·exact .inl h
   ·exact .inr h
  |false=>
   rw[hq,E]at h;rcases s_.1 h with h | h
   ·exact .inr (by rw[h];exact q_ ..)
   ·rcases Acu h with h | h
    ·exact .inl h
    ·exact .inr (r_ _ h)
def Afz{e:C}:∀{l:List C},Bg l→(∀x∈l,isC e.D0 e.I0 x=A)→Bg (HF e A l)
 |[],_,_=>by simp[HF,Bg]
 |a::t,h,hn=>by
  rw[Ez]at*;obtain⟨h1,h2⟩:=e8_.1 h;simp only[HF];cases hq:Bp e a with
  |true=>
   rw[H,Vk];refine e8_.2 ⟨λx hx=>?_,h⟩;rcases s_.1 hx with rfl | hx
   ·exact hq
   ·exact RG hq (h1 x hx)
  |false=>
   rw[E];refine e8_.2 ⟨λx hx=>?_,Ez.1 (Afz (Ez.2 h2) λx hx=>hn x (r_ _ hx))⟩;rcases Acu hx with rfl | hx
   ·rw[HU];have h3:¬(x.D0<a.D0∨(x.D0=a.D0∧x.I0<a.I0)):=λhh=>by rw[HU.2 hh]at hq;cases hq
    have h4:=hn a (q_ ..);unfold isC at h4;simp only[Bool.and_eq_false_iff,beq_eq_false_iff_ne]at h4;omega
   ·exact h1 x hx
structure ImgOK(b:Bldg)(m:Img):Prop where
 code:b.code=0
 lp:m.G0.length=b.B0.length
 lf:m.O0.length=b.B0.length
 ll:m.J0.length=b.B0.length
 ph:∀p∈m.G0,0≤p∧p≤4
 en:∀e∈m.A0,HN b e=true
 so:Bg m.A0
def Img.ok_iff:m.ok b=B↔ImgOK b m:=by
 unfold Img.ok;simp only[e_,U_];constructor
 ·rintro⟨h0,h1,h2,h3,h4,h5⟩;have h6:=Aei.1 h5;exact⟨h0,ω,ω,ω,λp hp=>As.1 (N_.1 h4 p hp),h6.1,h6.2⟩
 ·rintro⟨h0,h1,h2,h3,h4,h5,h6⟩;exact⟨h0,ω,ω,ω,N_.2 λp hp=>As.2 (h4 p hp),Aei.2 ⟨h5,h6⟩⟩
def CM:HN b e=B↔Ap b e.D0 e.I0=B∧(-2≤e.R0∧e.R0<(b.B0.length:Int))∧0≤e.Z0∧e.Z0≤255:=by
 unfold HN;simp only[e_,t_];constructor
 ·rintro⟨h1,h2,h3,h4,h5⟩;exact⟨h1,⟨h2,h3⟩,h4,h5⟩
 ·rintro⟨h1,⟨h2,h3⟩,h4,h5⟩;exact⟨h1,h2,h3,h4,h5⟩
def Aho{l:List α}{a x:α}(h:x∈l.set k a):x=a∨x∈l:=by
 rcases List.mem_or_eq_of_mem_set h with h | h
 ·exact .inr h
 ·exact .inl h
def VZ(h:Au b r=B):b.code=0∧
    ((r.Q0=1∧Ap b r.D0 r.I0=B∧r.R0=0∧r.S1=0)∨(r.Q0=2∧Ap b r.D0 r.I0=B∧r.R0=0∧r.S1=0)∨
     (r.Q0=3∧Ap b r.D0 r.I0=B∧(-2≤r.R0∧r.R0<(b.B0.length:Int))∧r.S1=0)∨
     (r.Q0=4∧(0≤r.R0∧r.R0<(b.B0.length:Int))∧(0≤r.S1∧r.S1≤4))∨
     (r.Q0=5∧(0≤r.R0∧r.R0<(b.B0.length:Int))∧(0≤r.S1∧r.S1≤1))∨
     (r.Q0=6∧(0≤r.R0∧r.R0<(b.B0.length:Int))∧(0≤r.S1∧r.S1≤1))∨
     (r.Q0=7∧Ap b r.D0 r.I0=B∧(0≤r.R0∧r.R0≤1)∧(0≤r.S1∧r.S1≤255))):=by
  unfold Au Ub at h;simp only[e_,U_]at h;obtain⟨h0,h⟩:=h;refine⟨h0,?_⟩;by_cases k1:r.Q0=1
  · rw[k1]at h;simp only[l_,H,e_,U_]at h;exact .inl ⟨k1,h.1,h.2⟩
  rw[Ao k1,E]at h;by_cases k2:r.Q0=2
  · rw[k2]at h;simp only[l_,H,e_,U_]at h;exact .inr (.inl ⟨k2,h.1,h.2⟩)
  rw[Ao k2,E]at h;by_cases k3:r.Q0=3
  · rw[k3]at h;simp only[l_,H,e_,U_,As]at h;exact .inr (.inr (.inl ⟨k3,h.1,ω,h.2.2⟩))
  rw[Ao k3,E]at h;by_cases k4:r.Q0=4
  · rw[k4]at h;simp only[l_,H,e_,U_,As]at h;exact .inr (.inr (.inr (.inl ⟨k4,ω,h.2⟩)))
  rw[Ao k4,E]at h;by_cases k5:r.Q0=5
  · rw[k5]at h;simp only[l_,H,e_,U_,As]at h;exact .inr (.inr (.inr (.inr (.inl ⟨k5,ω,h.2⟩))))
  rw[Ao k5,E]at h;by_cases k6:r.Q0=6
  · rw[k6]at h;simp only[l_,H,e_,U_,As]at h;exact .inr (.inr (.inr (.inr (.inr (.inl ⟨k6,ω,h.2⟩)))))
  rw[Ao k6,E]at h;by_cases k7:r.Q0=7
  · rw[k7]at h;simp only[l_,H,e_,As]at h;exact .inr (.inr (.inr (.inr (.inr (.inr ⟨k7,h.1,h.2.1,h.2.2⟩)))))
  rw[Ao k7]at h;cases h
def Afj(h:ImgOK b m)(h1:∀e∈l,HN b e=B)(h2:Bg l):ImgOK b (m.put l):=⟨h.code,h.lp,h.lf,h.ll,h.ph,h1,h2⟩
def Ar1{F D:Int}:isC F D e=B↔BS e=(F,D):=by unfold isC BS;simp only[e_,U_,f4_]
def KM(h:ImgOK b m)(hv:Au b r=B):ImgOK b (Am m r)∧(Am m r).A0.length≤m.A0.length+1:=by
 obtain⟨_,hk⟩:=VZ hv;unfold Am;by_cases k4:r.Q0=4
 ·rw[show(r.Q0==4)=B by rw[k4];rfl];refine⟨⟨h.code,by show(m.G0.set _ _).length=_;rw[y_];exact h.lp,h.lf,h.ll,λp hp=>?_,h.en,h.so⟩,aD _⟩;rcases Aho hp with rfl | hp
  ·omega
  ·exact h.ph p hp
 rw[Ao k4,E];by_cases k5:r.Q0=5
 ·rw[show(r.Q0==5)=B by rw[k5];rfl];exact⟨⟨h.code,h.lp,by show(m.O0.set _ _).length=_;rw[y_];exact h.lf,h.ll,h.ph,h.en,h.so⟩,aD _⟩
 rw[Ao k5,E];by_cases k6:r.Q0=6
 ·rw[show(r.Q0==6)=B by rw[k6];rfl];exact⟨⟨h.code,h.lp,h.lf,by show(m.J0.set _ _).length=_;rw[y_];exact h.ll,h.ph,h.en,h.so⟩,aD _⟩
 rw[Ao k6,E];rcases Td r.D0 r.I0 m.A0 0 with⟨h1,h2⟩ | ⟨k,h1,h2,h3⟩
 ·rw[h1,show((-1:Int)==-1)=B from rfl,H];by_cases k1:r.Q0=1
  ·rw[show(r.Q0==1)=B by rw[k1];rfl,H];refine⟨Afj h (λe he=>?_) (Afz h.so h2),Acj _ _ _⟩;rcases Acu he with rfl | he
   ·rw[CM];have hc:Ap b r.D0 r.I0=B:=by
     rcases hk with hk | hk | hk | hk | hk | hk | hk
     ·exact hk.2.1
     all_goals omega
    exact⟨hc,⟨by show(-2:Int)≤-1;omega,by show(-1:Int)<_;omega⟩,by show(0:Int)≤0;omega,by show(0:Int)≤255;omega⟩
   ·exact h.en e he
  ·rw[Ao k1,E];exact⟨h,aD _⟩
 ·rw[p_]at h2;rw[h2,Ao (ω:¬(k:Int)=-1),E,h_];have hmem:=BU I h1;have hent:=CM.1 (h.en _ hmem);cases r.Q0==2 with
  |true=>
   refine⟨Afj h (λe he=>?_) (Awh h.so k),?_⟩
   ·rcases n_.1 he with he | he
    ·exact h.en e (d8_ he)
    ·exact h.en e (d9_ he)
   ·show(m.A0.take k++m.A0.drop (k+1)).length≤_;rw[i_,v_,W_];omega
  |false=>
   rw[E];by_cases k3:r.Q0=3
   ·rw[show(r.Q0==3)=B by rw[k3];rfl,H];refine⟨Afj h (λe he=>?_) (Af0 h.so h1 rfl),by show(m.A0.set _ _).length≤_;rw[y_];omega⟩;rcases Aho he with rfl | he
    ·rw[CM];refine⟨hent.1,?_,hent.2.2⟩;show -2≤r.R0∧r.R0<_;rcases hk with hk | hk | hk | hk | hk | hk | hk
     all_goals first
      |exact hk.2.2.1
      |omega
    ·exact h.en e he
   ·rw[Ao k3,E];by_cases k7:r.Q0=7
    ·rw[show(r.Q0==7)=B by rw[k7];rfl,H];refine⟨Afj h (λe he=>?_) (Af0 h.so h1 rfl),by show(m.A0.set _ _).length≤_;rw[y_];omega⟩;rcases Aho he with rfl | he
     ·rw[CM];refine⟨hent.1,hent.2.1,?_⟩;show 0≤r.S1∧r.S1≤255;rcases hk with hk | hk | hk | hk | hk | hk | hk
      all_goals first
       |exact hk.2.2.2
       |omega
     ·exact h.en e he
    ·rw[Ao k7,E];exact⟨h,aD _⟩
def EQ(b:Bldg):J:=⟨List.replicate b.B0.length 0,List.replicate b.B0.length A,List.replicate b.B0.length A,[]⟩
def Ah2(hcode:b.code=0)(hc:b.B0.length≤100):Oj b.C0 b.F0 b.H0 b.M0 b.K0 b.L0 b.N0 b.B0=L (((),()),((EQ b).tup,())):=by unfold Oj;rw[Ia,hcode];simp only[a_,Q_,E,b_ (ω:(0:Int)≤(b.B0.length:Int)),b_ (c7_ (b.B0.length:Int)),b_ (ω:(b.B0.length:Int)≤2147483648),a0_,H,h_];rfl
def Xv(hcode:b.code=0):ImgOK b (EQ b):=⟨hcode,T_,T_,T_,(λp hp=>by rw[List.eq_of_mem_replicate hp];omega),(λ_ h=>by cases h),by simp[EQ,Bg]⟩
def Ai(m:J):List Record→J
 |[]=>m
 |r::t=>Ai (Am m r) t
def UR{b:Bldg}:∀{rs:List Record}{m:J},ImgOK b m→(∀r∈rs,Au b r=B)→ImgOK b (Ai m rs)∧(Ai m rs).A0.length≤m.A0.length+rs.length
 |[],_,h,_=>⟨h,A_ _⟩
 |r::t,m,h,hv=>by obtain⟨h1,h2⟩:=KM h (hv r (q_ ..));obtain⟨h3,h4⟩:=UR (rs:=t) h1 λx hx=>hv x (r_ _ hx);exact⟨h3,by show(Ai (Am m r) t).A0.length≤_;rw[C_];omega⟩
def Ac7(n lo hi:Int):FG n lo hi=L ((inR lo hi n,()),()):=by unfold FG inR;cases decide (lo≤n)<;>rfl
def Qv(hb:b.small)(hc:b.B0.length≤100)(r:Record):Ib b.C0 b.F0 b.H0 b.M0 b.K0 b.L0 b.N0 b.B0 r.Q0 r.D0 r.I0 r.R0 r.S1=L ((Au b r,()),()):=by
  have w:aB.wrap ((b.B0.length:Int)-1)=(b.B0.length:Int)-1:=Aa ω ω;unfold Ib Au Ub;rw[AR,MR hb];simp only[a_,bne,Ac7,w];cases b.code==0 with
  |false=>rfl
  |true=>
    simp only[o_,E,u_];cases inR 0 ((b.B0.length:Int)-1) r.R0<;>cases r.D0==0<;>cases r.I0==0<;>
      (simp only[a_,H,E,a0_,d5_,c1_,a8_,u_,w]
       by_cases k1:r.Q0=1
       · simp only[k1,l_,H]
         cases Ap b r.D0 r.I0<;>cases r.R0==0<;>rfl
       by_cases k2:r.Q0=2
       · simp only[k2,l_,H,E,show((2:Int)==1)=A from rfl]
         cases Ap b r.D0 r.I0<;>cases r.R0==0<;>rfl
       by_cases k3:r.Q0=3
       · simp only[k3,l_,H,E,show((3:Int)==1)=A from rfl,show((3:Int)==2)=A from rfl]
         cases Ap b r.D0 r.I0<;>cases inR (-2) ((b.B0.length:Int)-1) r.R0<;>rfl
       by_cases k4:r.Q0=4
       · simp only[k4,l_,H,E,show((4:Int)==1)=A from rfl,show((4:Int)==2)=A from rfl,show((4:Int)==3)=A from rfl,show((4:Int)==7)=A from rfl]
       by_cases k5:r.Q0=5
       · simp only[k5,l_,H,E,show((5:Int)==1)=A from rfl,show((5:Int)==2)=A from rfl,show((5:Int)==3)=A from rfl,show((5:Int)==7)=A from rfl,show((5:Int)==4)=A from rfl]
       by_cases k6:r.Q0=6
       · simp only[k6,l_,H,E,show((6:Int)==1)=A from rfl,show((6:Int)==2)=A from rfl,show((6:Int)==3)=A from rfl,show((6:Int)==7)=A from rfl,show((6:Int)==4)=A from rfl,show((6:Int)==5)=A from rfl]
       by_cases k7:r.Q0=7
       · simp only[k7,l_,H,E,show((7:Int)==1)=A from rfl,show((7:Int)==2)=A from rfl,show((7:Int)==3)=A from rfl,show((7:Int)==4)=A from rfl,show((7:Int)==5)=A from rfl,show((7:Int)==6)=A from rfl]
         cases Ap b r.D0 r.I0<;>cases inR 0 1 r.R0<;>rfl
       simp only[Ao k1,Ao k2,Ao k3,Ao k4,Ao k5,Ao k6,Ao k7,E])
def Zf(m:J)(h1:m.G0.length≤100000)(h2:m.O0.length≤100000)(h3:m.J0.length≤100000)(h4:m.A0.length≤100000):NQ m.G0 m.O0 m.J0 m.A0=L (((),()),(m.tup,())):=by
 have k:∀{α:Type}(l:List α),l.length≤100000→Qj l=L ((l,()),()):=λl h=>by unfold Qj;rw[Az (ω:l.length≤2147483648)];rfl
 unfold NQ BH Bd Bl;rw[k _ h1,k _ h2,k _ h3,k _ h4];rfl
def AA(c:C):List C→Nat
 |[]=>0
 |e::t=>bif Bp e c then AA c t+1 else 0
def TB(c:C):∀l:List C,AA c l≤l.length
 |[]=>A_ _
 |e::t=>by
  have:=TB c t
  simp only[AA,C_];cases Bp e c<;>simp<;>omega
def Ahx(c:C):∀(l:List C) (k:Nat),k<AA c l→Bp (l.getD k I) c=B
 |[],k,h=>by simp[AA]at h
 |e::t,k,h=>by
  simp only[AA]at h;cases he:Bp e c with
  |false=>rw[he]at h;simp at h
  |true=>
   rw[he]at h;cases k with
   |zero=>exact he
   |succ k=>exact Ahx c t k (by simp at h;omega)
def Ahw{c:C}:∀{l:List C},Bg l→∀k,AA c l≤k→k<l.length→Bp (l.getD k I) c=A
 |[],_,k,_,h=>by simp at h
 |e::t,hs,k,h1,h2=>by
  obtain⟨a1,a2⟩:=e8_.1 (Ez.1 hs);simp only[AA]at h1;cases he:Bp e c with
  |true=>
   rw[he,H]at h1;cases k with
   |zero=>omega
   |succ k=>exact Ahw (Ez.2 a2) k ω (by simp at h2;omega)
  |false=>
   cases k with
   |zero=>exact he
   |succ k=>
    cases hq:Bp ((e::t).getD (k+1) I) c with
    |false=>rfl
    |true=>
     have hm:t.getD k I∈t:=BU I (by simp at h2;omega)
     have:=RG (a1 _ hm) hq
     rw[he]at this;cases this
def XB{a:C}(h:isC c.D0 c.I0 a=B):Bp a c=A∧Bp c a=A:=by
 unfold isC at h;simp only[e_,U_]at h;constructor
 all_goals
  apply Bool.eq_false_iff.2;intro hh;rw[HU]at hh;omega
def An3{a:C}(h:isC c.D0 c.I0 a=A)(h':Bp a c=A):Bp c a=B:=by
 rw[HU];have h1:¬(a.D0<c.D0∨(a.D0=c.D0∧a.I0<c.I0)):=λhh=>by rw[HU.2 hh]at h';cases h'
 unfold isC at h;simp only[Bool.and_eq_false_iff,beq_eq_false_iff_ne]at h;omega
def Ajh{a:C}(h:Bp a c=B):Bp c a=A:=by apply Bool.eq_false_iff.2;intro hh;rw[HU]at*;omega
def Xk{F D:Int}:∀{l:List C}{i:Nat},(∀x∈l,isC F D x=A)→DR F D l i=-1
 |[],_,_=>rfl
 |e::t,i,h=>by simp only[DR];rw[h e (q_ ..),E];exact Xk λx hx=>h x (r_ _ hx)
def Gf(c:C)(l:List C):Bool:=aC (AA c l) l.length&&isC c.D0 c.I0 (l.getD (AA c l) I)
def Sd{c:C}:∀{l:List C}(i:Nat),Bg l→DR c.D0 c.I0 l i=bif Gf c l then((i+AA c l:Nat):Int)else -1
 |[],_,_=>rfl
 |e::t,i,hs=>by
  obtain⟨a1,a2⟩:=e8_.1 (Ez.1 hs);have hpos:AA c (e::t)=bif Bp e c then AA c t+1 else 0:=rfl;unfold Gf;simp only[DR];rw[hpos];cases he:isC c.D0 c.I0 e with
  |true=>rw[(XB he).1];simp[he,show aC 0 (t.length+1)=B from rfl]
  |false=>
   cases hl:Bp e c with
   |true=>rw[E,H,Sd (i+1) (Ez.2 a2)];unfold Gf;rw[show((e::t).getD (AA c t+1) I)=t.getD (AA c t) I from rfl,C_,show aC (AA c t+1) (t.length+1)=aC (AA c t) t.length from rfl];rw[show i+1+AA c t=i+(AA c t+1)by omega]
   |false=>
    rw[E,E,show((e::t).getD 0 I)=e from rfl,he,c1_,E];refine Xk λx hx=>?_;cases hq:isC c.D0 c.I0 x with
    |false=>rfl
    |true=>have h1:=RG (An3 he hl) (a1 x hx);rw[(XB hq).2]at h1;cases h1
def Xx{c:C}:∀{l:List C},(∀x∈l,isC c.D0 c.I0 x=A)→HF c A l=l.take (AA c l)++[c]++l.drop (AA c l)
 |[],_=>rfl
 |e::t,h=>by
  simp only[HF,AA];cases hl:Bp e c with
  |true=>rw[Ajh hl,E,Xx λx hx=>h x (r_ _ hx)];simp
  |false=>rw[An3 (h e (q_ ..)) hl,H,Vk];simp
def Aja(hs:Bg l)(h:Gf c l=A):∀x∈l,isC c.D0 c.I0 x=A:=by
 have h1:=Sd (c:=c) 0 hs;rw[h,E]at h1;rcases Td c.D0 c.I0 l 0 with⟨_,h2⟩ | ⟨k,_,h2,_⟩
 ·exact h2
 ·rw[h1]at h2;omega
def Aw(F D:Int):C:=⟨F,D,0,0,A⟩
def Ai9{i j:Nat}(h:i+j<9223372036854775808):aB.wrap (Int.fdiv (aE IntKind.u64 (aE aB ((i:Int)+(j:Int)))) ((2:Int)^(Min.min (aA (1:Int)) (IntKind.bits IntKind.u64))))=(((i+j)/2:Nat):Int):=by rw[Aa (n:=(i:Int)+(j:Int)) ω ω,EG ω ω];rw[show((2:Int)^(Min.min (aA (1:Int)) (IntKind.bits IntKind.u64)))=2 from rfl];rw[a6_ _ ω];rw[Aa ω ω];omega
def Aqy(hs:Bg l)(hl:l.length≤100000)(F D:Int):
  AC ((l,(),(),(l.length:Int),(0:Int),(l.length:Int),()),((F,D,0,0,A,()),()))=L ((l,(),(),(l.length:Int),((AA (Aw F D) l:Nat):Int),()),((F,D,0,0,A,()),())):=by
 refine Bkw (λx y=>∃i j:Nat,i≤AA (Aw F D) l∧AA (Aw F D) l≤j∧j≤l.length∧x=((l,(),(),(l.length:Int),(i:Int),(j:Int),()),((F,D,(0:Int),(0:Int),A,()),()))∧y=((l,(),(),(l.length:Int),((AA (Aw F D) l:Nat):Int),()),((F,D,(0:Int),(0:Int),A,()),()))) (λx=>x.1.2.2.2.2.2.1.toNat-x.1.2.2.2.2.1.toNat) ?_ (x:=((l,(),(),(l.length:Int),(0:Int),(l.length:Int),()),((F,D,0,0,A,()),()))) (y:=((l,(),(),(l.length:Int),((AA (Aw F D) l:Nat):Int),()),((F,D,0,0,A,()),()))) ⟨0,l.length,a5_ _,TB _ _,A_ _,rfl,rfl⟩ (by show((l.length:Int).toNat-aA 0)<_;omega);rintro _ _ ⟨i,j,h1,h2,h3,rfl,rfl⟩;show(∃x',AD l (l.length:Int) (i:Int) (j:Int) F D 0 0 A=_∧_)∨AD l (l.length:Int) (i:Int) (j:Int) F D 0 0 A=_;unfold AD;rw[Ai9 ω];by_cases hij:i<j
 ·left;have hh:(i+j)/2<l.length:=ω;obtain⟨n,c1,c2,_⟩:=QW (l.getD ((i+j)/2) I) (Aw F D);unfold Aw at c1;unfold I at c1;simp only[b_ (ω:(i:Int)<(j:Int)),Ac (ω:(0:Int)≤(((i+j)/2:Nat):Int)) (ω:(((i+j)/2:Nat):Int)<(l.length:Int)),h_,H,c1,a_];have c2':decide (n<0)=Bp (l.getD ((i+j)/2) I) (Aw F D):=by rw[Ue,c2,Bool.not_not]
  rw[c2'];cases hq:Bp (l.getD ((i+j)/2) I) (Aw F D)with
  |true=>
   have:(i+j)/2<AA (Aw F D) l:=by
    rcases g3_ ((i+j)/2) (AA (Aw F D) l)with h | h
    ·exact h
    ·have:=Ahw hs _ h hh
     rw[hq]at this;cases this
   rw[H,show aB.wrap ((((i+j)/2:Nat):Int)+1)=(((i+j)/2+1:Nat):Int)by rw[Aa ω ω];omega];exact⟨_,rfl,⟨(i+j)/2+1,j,ω,h2,h3,rfl,trivial⟩,by show aA (j:Int)-aA (((i+j)/2+1:Nat):Int)<aA (j:Int)-aA (i:Int);omega⟩
  |false=>
   have:AA (Aw F D) l≤(i+j)/2:=by
    rcases g3_ ((i+j)/2) (AA (Aw F D) l)with h | h
    ·have:=Ahx (Aw F D) l _ h
     rw[hq]at this;cases this
    ·exact h
   rw[E];exact⟨_,rfl,⟨i,(i+j)/2,h1,this,ω,rfl,trivial⟩,by show aA (((i+j)/2:Nat):Int)-aA (i:Int)<aA (j:Int)-aA (i:Int);omega⟩
 ·right;rw[f_ (ω:¬(i:Int)<(j:Int)),show i=AA (Aw F D) l by omega];rfl
def Abk(m:J)(hs:Bg m.A0)(hl:m.A0.length≤100000)(F D:Int):Py m.G0 m.O0 m.J0 m.A0 F D=L ((((AA (Aw F D) m.A0:Nat):Int),Gf (Aw F D) m.A0,()),()):=by
 unfold Py AY;simp only;rw[Aqy hs hl F D];simp only[a_];have hp:=TB (Aw F D) m.A0;unfold Gf;by_cases h:AA (Aw F D) m.A0<m.A0.length
 ·obtain⟨n,c1,_,c3⟩:=QW (m.A0.getD (AA (Aw F D) m.A0) I) (Aw F D);rw[b_ (ω:((AA (Aw F D) m.A0:Nat):Int)<(m.A0.length:Int)),Ac (ω:(0:Int)≤((AA (Aw F D) m.A0:Nat):Int)) (ω:((AA (Aw F D) m.A0:Nat):Int)<(m.A0.length:Int)),h_,show aC (AA (Aw F D) m.A0) m.A0.length=B by rw[h0_];exact h];have e:(n==0)=isC (Aw F D).D0 (Aw F D).I0 (m.A0.getD (AA (Aw F D) m.A0) I):=by
   rw[Bool.eq_iff_iff,U_,c3];unfold isC;rw[e_,U_,U_]
  rw[← e];generalize AA (Aw F D) m.A0=p at*;unfold I at c1;unfold Aw at c1;simp only[H,c1,a_,u_]
 ·rw[f_ (ω:¬((AA (Aw F D) m.A0:Nat):Int)<(m.A0.length:Int)),show aC (AA (Aw F D) m.A0) m.A0.length=A by rw[← Bool.not_eq_true,h0_];exact h];rfl
def Bbc(x:C)(e:C):Bp x (Aw e.D0 e.I0)=Bp x e:=rfl
def Ux(e:C):∀l:List C,AA (Aw e.D0 e.I0) l=AA e l
 |[]=>rfl
 |x::t=>by simp only[AA,Bbc,Ux e t]
def Ye(hs:Bg m.A0)(hl:m.A0.length≤100000)(r:Record)(hc:(r.Q0=4∨r.Q0=5∨r.Q0=6)→0≤r.R0∧r.R0<(m.G0.length:Int)∧r.R0<(m.O0.length:Int)∧r.R0<(m.J0.length:Int)):
  MH r.Q0 r.D0 r.I0 r.R0 r.S1 m.G0 m.O0 m.J0 m.A0=L ((),((Am m r).tup,())):=by
 unfold MH Am;rw[Abk m hs hl];simp only[a_];by_cases k4:r.Q0=4
 ·obtain⟨c0,c1,c2,c3⟩:=hc (.inl k4);rw[k4];simp only[l_,H,Ac c0 c1];rfl
 rw[Ao k4];by_cases k5:r.Q0=5
 ·obtain⟨c0,c1,c2,c3⟩:=hc (.inr (.inl k5));rw[k5];simp only[l_,H,E,Ac c0 c2];rfl
 rw[Ao k5];by_cases k6:r.Q0=6
 ·obtain⟨c0,c1,c2,c3⟩:=hc (.inr (.inr k6));rw[k6];simp only[l_,H,E,Ac c0 c3];rfl
 rw[Ao k6];simp only[E];have hf:=Sd (c:=Aw r.D0 r.I0) 0 hs;simp only[p_]at hf;rw[show DR r.D0 r.I0 m.A0 0=_ from hf];have hp:=TB (Aw r.D0 r.I0) m.A0;cases hq:Gf (Aw r.D0 r.I0) m.A0 with
 |false=>
  have hn:=Aja hs hq;simp only[E,H,d4_,l_];by_cases k1:r.Q0=1
  ·rw[k1];simp only[l_,H];unfold DE Aci;rw[b_ (ω:(0:Int)≤((AA (Aw r.D0 r.I0) m.A0:Nat):Int)),b_ (ω:((AA (Aw r.D0 r.I0) m.A0:Nat):Int)≤(m.A0.length:Int))];rw[show aC 0 [O r.D0 r.I0 (-1) 0 A].length=B from rfl,Az (show m.A0.length+[O r.D0 r.I0 (-1) 0 A].length≤2147483648 by rw[G_];omega)];have hi:=Xx (c:=⟨r.D0,r.I0,-1,0,A⟩) (l:=m.A0) hn;rw[hi,show AA ⟨r.D0,r.I0,-1,0,A⟩ m.A0=AA (Aw r.D0 r.I0) m.A0 from(Ux ⟨r.D0,r.I0,-1,0,A⟩ m.A0).symm];rfl
  ·rw[Ao k1];cases r.Q0==2<;>cases r.Q0==3<;>cases r.Q0==7<;>rfl
 |true=>
  have hlt:AA (Aw r.D0 r.I0) m.A0<m.A0.length:=by unfold Gf at hq;rw[e_,h0_]at hq;exact hq.1
  simp only[H,o_,E,Ao (ω:¬((AA (Aw r.D0 r.I0) m.A0:Nat):Int)=-1),h_];generalize AA (Aw r.D0 r.I0) m.A0=p at hp hlt⊢;have w:aB.wrap ((p:Int)+1)=((p+1:Nat):Int):=by rw[Aa ω ω];omega
  have ib:inB (p:Int) m.A0.length=B:=Ac ω ω;by_cases k1:r.Q0=1
  ·simp only[k1,l_,H,E,show((1:Int)==2)=A from rfl,show((1:Int)==3)=A from rfl,show((1:Int)==7)=A from rfl];rfl
  rw[Ao k1,E];cases r.Q0==2 with
  |true=>unfold DD Am0;simp only[H,w,b_ (ω:(0:Int)≤(p:Int)),b_ (ω:(p:Int)<((p+1:Nat):Int)),b_ (ω:((p+1:Nat):Int)≤(m.A0.length:Int)),a0_,a_,h_];rfl
  |false=>
   simp only[E];cases r.Q0==3 with
   |true=>simp only[H,ib];rfl
   |false=>
    simp only[E];cases r.Q0==7 with
    |true=>
     have ib2:∀y:C,inB (p:Int) (m.A0.set p y).length=B:=λy=>Ac ω (by rw[y_];omega);have hg:∀y:C,(m.A0.set p y).getD p (O 0 0 0 0 A)=y:=λy=>by simp[k_,hlt]
     simp only[H,ib,ib2,hg,List.set_set];rfl
    |false=>rfl
def Zc(hb:b.small)(hcl:b.B0.length≤100)(m:J)(hp:m.G0.length≤100000)(hl:m.A0.length≤10000)(r:Record):
  NP b.C0 b.F0 b.H0 b.M0 b.K0 b.L0 b.N0 b.B0 m.G0 m.O0 m.J0 m.A0 r.Q0 r.D0 r.I0 r.R0 r.S1=L (Yw b m r):=by
 have hmx:100000≤maxLen:=by decide
 unfold NP Yw;rw[Db hb m ω ω];simp only[a_];cases hok:m.ok b with
 |false=>rfl
 |true=>
  rw[Qv hb hcl r];simp only[o_,E,a_,u_];cases hv:Au b r with
  |false=>rfl
  |true=>
   have hm:=Img.ok_iff.1 hok;have h1:=hm.lp;have h2:=hm.lf;have h3:=hm.ll;simp only[o_,E,H];rw[Zf m hp ω ω ω];simp only[a_,Img.tup];rw[Ye hm.so ω r λhk=>by
    have:=Af9 hv hk
    omega]
   rfl
def Ahk(b:Bldg):Oc b.C0 b.F0 b.H0 b.M0 b.K0 b.L0 b.N0 b.B0=L (((),()),((bif b.code==0 then(EQ b).tup else Img.none.tup),())):=by
 unfold Oc;rw[AR];simp only[a_,bne];cases hc:b.code==0 with
 |false=>rfl
 |true=>
  have hlen:b.B0.length≤8:=by
   have hc':b.code=0:=by simpa using hc
   unfold Bldg.code at hc';cases h1:inR 1 8 (b.B0.length:Int)with
   |true=>have:=(As.1 h1).2;omega
   |false=>rw[h1]at hc';cases h2:inR 2 32 b.C0<;>rw[h2]at hc'<;>simp at hc'
  simp only[o_,E,H,b_ (ω:(0:Int)≤(b.B0.length:Int)),b_ (c7_ (b.B0.length:Int)),b_ (ω:(b.B0.length:Int)≤2147483648),a0_,h_];rfl
def Bwk{a b:Nat}(h:a≤100000)(h':b≤100000):aB.wrap (aE aB (18*aB.wrap (aE aB ((a:Int)+(b:Int))+1))+6)=18*((a:Int)+(b:Int)+1)+6:=by rw[Aa (n:=(a:Int)+(b:Int)) ω ω,Aa (n:=(a:Int)+(b:Int)+1) ω ω,Aa (n:=18*((a:Int)+(b:Int)+1)) ω ω,Aa ω ω]
def JY(b:Bldg)(m:J):Bool:=m.ok b&&decide (18*((b.B0.length:Int)+(m.A0.length:Int)+1)+6≤b.H0)
def Abj(hb:b.small)(m:J)(hc:b.B0.length≤100000)(hp:m.G0.length≤100000)(hl:m.A0.length≤100000):
  Nl b.C0 b.F0 b.H0 b.M0 b.K0 b.L0 b.N0 b.B0 m.G0 m.O0 m.J0 m.A0=L ((JY b m,()),()):=by
 have hmx:100000≤maxLen:=by decide
 unfold Nl JY;rw[Db hb m ω ω];simp only[a_,Bwk hc hl];cases m.ok b<;>rfl
def Qc(p:Nat→Bool):Nat→Nat→Bool
 |0,_=>B
 |m+1,i=>p i&&Qc p m (i+1)
def Vl{X Y:Type}{step:X→Option (Sum X Y)}(N:Nat)(g:Nat→X)(p:Nat→Bool)(y0 y1:Y)(h1:∀i,i<N→step (g i)=L (bif p i then .inl (g (i+1))else .inr y1))(h2:step (g N)=L (.inr y0)) :
  ∀m i:Nat,i+m=N→BX step (m+1) (g i)=L (bif Qc p m i then y0 else y1)
 |0,i,hi=>by obtain rfl:i=N:=ω;exact AE h2
 |m+1,i,hi=>by
  have h:=h1 i ω;simp only[Qc];cases hp:p i with
  |true=>rw[hp]at h;rw[BO h,u_];exact Vl N g p y0 y1 h1 h2 m (i+1) ω
  |false=>rw[hp]at h;rw[AE h];rfl
def Aq9{α:Type}(f:α→α→Bool)(hf:∀x y,f x y=B↔x=y)(d:α)(a b:List α)(hl:a.length=b.length):∀m i:Nat,i+m=a.length→(Qc (λi=>f (a.getD i d) (b.getD i d)) m i=B↔a.drop i=b.drop i)
 |0,i,hi=>by obtain rfl:i=a.length:=ω;rw[a7_,hl,a7_];exact⟨λ_=>rfl,λ_=>rfl⟩
 |m+1,i,hi=>by simp only[Qc,e_,hf];rw[Aq9 f hf d a b hl m (i+1) ω,BT d (ω:i<a.length),BT d (ω:i<b.length),List.cons.injEq]
def Bdq(f:α→α→Bool)(hf:∀x y,f x y=B↔x=y)(d:α){a b:List α}(hl:a.length=b.length):Qc (λi=>f (a.getD i d) (b.getD i d)) a.length 0=@decide (a=b) (Classical.propDecidable _):=by rw[Bool.eq_iff_iff,Aq9 f hf d a b hl a.length 0 ω];simp
noncomputable def eqL{α:Type}(a b:List α):Bool:=@decide (a=b) (Classical.propDecidable _)
def Ag5{a b:List α}(h:¬a.length=b.length):eqL a b=A:=by
 have:¬a=b:=λe=>h (by rw[e])
 unfold eqL;simp[this]
def Bep(a:List α):eqL a a=B:=by unfold eqL;simp
def Am6(f:α→α→Bool)(hf:∀x y,f x y=B↔x=y)(d:α){a b:List α}(hl:a.length=b.length):Qc (λi=>f (a.getD i d) (b.getD i d)) a.length 0=eqL a b:=Bdq f hf d hl
def An1(a b:List α):(((a.length:Int) !=(b.length:Int))=B)↔¬a.length=b.length:=by simp;omega
def Aek(x y:C):Bool:=(x.D0==y.D0)&&((x.I0==y.I0)&&((x.R0==y.R0)&&((x.Z0==y.Z0)&&((x.R1==y.R1)&&B))))
def Ba3(x y:C):Aek x y=B↔x=y:=by cases x;cases y;simp[Aek]
def Ame [BEq α][LawfulBEq α](x y:α):(x==y)=B↔x=y:=U_
def AL:Nat:=10000000
def ER{i n:Nat}(h:i<n)(hn:n≤AL):aB.wrap ((i:Int)+1)=((i+1:Nat):Int):=by unfold AL at hn;rw[Aa ω ω];omega
section
variable{α:Type}
def Ade{a b:List Int}(ha:a.length≤AL):Fs a b=L ((eqL a b,()),()):=by
 unfold Fs;by_cases hl:a.length=b.length
 ·rw[show((a.length:Int) !=(b.length:Int))=A by simp[hl],E];have h:=Ak (Vl (step:=λx=>CA x.1.1 x.1.2.1 x.1.2.2.1 x.1.2.2.2.1) a.length (λi=>((a,b,(a.length:Int),(i:Int),()),())) (λi=>a.getD i 0==b.getD i 0) (Sum.inl ((),())) (Sum.inr ((A,()),())) (λi hi=>by
   show CA a b (a.length:Int) (i:Int)=_;unfold CA;simp only[b_ (ω:(i:Int)<(a.length:Int)),Ac (ω:(0:Int)≤(i:Int)) (ω:(i:Int)<(a.length:Int)),Ac (ω:(0:Int)≤(i:Int)) (ω:(i:Int)<(b.length:Int)),H,h_,ER hi ha,bne];cases a.getD i 0==b.getD i 0<;>rfl) (by
   show CA a b (a.length:Int) (a.length:Int)=_;unfold CA;simp only[f_ (M_ (a.length:Int)),E]) a.length 0 ω) (by unfold AL at ha;omega)
  rw[Am6 (λx y=>x==y) Ame 0 hl]at h;rw[show EN ((a,b,(a.length:Int),(0:Int),()),())=_ from h];cases eqL a b<;>rfl
 ·rw[(An1 a b).2 hl,Ag5 hl];rfl
def SH{a b:List Bool}(ha:a.length≤AL):Dg a b=L ((eqL a b,()),()):=by
 unfold Dg;by_cases hl:a.length=b.length
 ·rw[show((a.length:Int) !=(b.length:Int))=A by simp[hl],E];have h:=Ak (Vl (step:=λx=>Cg x.1.1 x.1.2.1 x.1.2.2.1 x.1.2.2.2.1) a.length (λi=>((a,b,(a.length:Int),(i:Int),()),())) (λi=>a.getD i A==b.getD i A) (Sum.inl ((),())) (Sum.inr ((A,()),())) (λi hi=>by
   show Cg a b (a.length:Int) (i:Int)=_;unfold Cg;simp only[b_ (ω:(i:Int)<(a.length:Int)),Ac (ω:(0:Int)≤(i:Int)) (ω:(i:Int)<(a.length:Int)),Ac (ω:(0:Int)≤(i:Int)) (ω:(i:Int)<(b.length:Int)),H,h_,ER hi ha];cases a.getD i A==b.getD i A<;>rfl) (by
   show Cg a b (a.length:Int) (a.length:Int)=_;unfold Cg;simp only[f_ (M_ (a.length:Int)),E]) a.length 0 ω) (by unfold AL at ha;omega)
  rw[Am6 (λx y=>x==y) Ame A hl]at h;rw[show Ea ((a,b,(a.length:Int),(0:Int),()),())=_ from h];cases eqL a b<;>rfl
 ·rw[(An1 a b).2 hl,Ag5 hl];rfl
def ZA{a b:List C}(ha:a.length≤AL):CG a b=L ((eqL a b,()),()):=by
 unfold CG;by_cases hl:a.length=b.length
 ·rw[show((a.length:Int) !=(b.length:Int))=A by simp[hl],E];have h:=Ak (Vl (step:=λx=>Ba x.1.1 x.1.2.1 x.1.2.2.1 x.1.2.2.2.1) a.length (λi=>((a,b,(a.length:Int),(i:Int),()),())) (λi=>Aek (a.getD i I) (b.getD i I)) (Sum.inl ((),())) (Sum.inr ((A,()),())) (λi hi=>by
   show Ba a b (a.length:Int) (i:Int)=_;unfold Ba Aek I;simp only[b_ (ω:(i:Int)<(a.length:Int)),Ac (ω:(0:Int)≤(i:Int)) (ω:(i:Int)<(a.length:Int)),Ac (ω:(0:Int)≤(i:Int)) (ω:(i:Int)<(b.length:Int)),H,h_,ER hi ha];generalize((a.getD i (O 0 0 0 0 A)).D0==(b.getD i (O 0 0 0 0 A)).D0&&((a.getD i (O 0 0 0 0 A)).I0==(b.getD i (O 0 0 0 0 A)).I0&&((a.getD i (O 0 0 0 0 A)).R0==(b.getD i (O 0 0 0 0 A)).R0&&((a.getD i (O 0 0 0 0 A)).Z0==(b.getD i (O 0 0 0 0 A)).Z0&&((a.getD i (O 0 0 0 0 A)).R1==(b.getD i (O 0 0 0 0 A)).R1&&B)))))=q;cases q<;>rfl) (by
   show Ba a b (a.length:Int) (a.length:Int)=_;unfold Ba;simp only[f_ (M_ (a.length:Int)),E]) a.length 0 ω) (by unfold AL at ha;omega)
  rw[Am6 Aek Ba3 I hl]at h;rw[show Cr ((a,b,(a.length:Int),(0:Int),()),())=_ from h];cases eqL a b<;>rfl
 ·rw[(An1 a b).2 hl,Ag5 hl];rfl
end
structure Img.fit(m:Img):Prop where
 p:m.G0.length≤100000
 f:m.O0.length≤100000
 l:m.J0.length≤100000
 e:m.A0.length≤100000
noncomputable def Alq(a c:J):Bool:=eqL a.G0 c.G0&&(eqL a.O0 c.O0&&(eqL a.J0 c.J0&&eqL a.A0 c.A0))
def Av4(a:J):Alq a a=B:=by unfold Alq;simp[Bep]
def Aqj{a c:J}(ha:a.fit):SM a.G0 a.O0 a.J0 a.A0 c.G0 c.O0 c.J0 c.A0=L ((Alq a c,()),()):=by
 have h5:100000≤AL:=by decide
 unfold SM Alq;rw[Ade (by have:=ha.p;omega),SH (by have:=ha.f;omega),SH (by have:=ha.l;omega),ZA (by have:=ha.e;omega)];cases eqL a.G0 c.G0<;>cases eqL a.O0 c.O0<;>cases eqL a.J0 c.J0<;>rfl
section
variable{a c:J}(ha:a.fit)
include ha
end
end Go.Ovl
