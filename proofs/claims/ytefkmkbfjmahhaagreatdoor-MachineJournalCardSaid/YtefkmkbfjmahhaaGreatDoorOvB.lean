import Derived.Test.YtefkmkbfjmahhaaGreatDoorOvA
set_option linter.all false
open Bool renaming false->A,true->B
open Go.Ovl renaming Entry->C,noE->I,Be->L,Am->O,Img->P
open Go renaming b_->E,d_->H
open Option renaming some->J
open Go.Ovl.Entry renaming mk->Q
open Go.IntKind renaming i64->R,wrap->aD
open Int renaming toNat->S
open Nat renaming ble->aA,blt->aB,le_succ->aC
namespace Go.Ovl
open Go Go.Ab
set_option maxRecDepth 100000
variable{l:List C}{b:Bldg}{α:Type}{r:Record}{e c:C}{m:P}{k:Nat}
def isC(F D:Int)(e:C):Bool:=e.E0==F&&e.J0==D
def CV(F D:Int):List C→Nat→Int
 |[],_=>-1
 |e::t,i=>bif isC F D e then(i:Int)else CV F D t (i+1)
def Qb(F D:Int):∀(l:List C) (i:Nat),(CV F D l i=-1∧∀e∈l,isC F D e=A)∨∃k:Nat,k<l.length∧CV F D l i=((i+k:Nat):Int)∧isC F D (l.getD k I)=B
 |[],_=>.inl ⟨rfl,λ_ h=>by cases h⟩
 |e::t,i=>by
  simp only[CV];cases h:isC F D e with
  |true=>exact .inr ⟨0,σ,rfl,h⟩
  |false=>
   rcases Qb F D t (i+1)with⟨h1,h2⟩ | ⟨k,h1,h2,h3⟩
   ·refine .inl ⟨h1,λx hx=>?_⟩;rcases t_.1 hx with rfl | hx
    ·exact h
    ·exact h2 x hx
   ·refine .inr ⟨k+1,by simp;omega,?_,h3⟩;rw[E,h2];congr 1;omega
def Ap6(m:P)(hm:m.A0.length≤2000)(F D:Int):SD m.F0 m.K0 m.H0 m.A0 F D=J ((CV F D m.A0 0,()),()):=by
 have key:∀(k i:Nat),i+k=m.A0.length→BJ (λx=>JU x.1.1 x.1.2.1 x.1.2.2.2.1 x.2.1.1 x.2.1.2.1 x.2.1.2.2.1 x.2.1.2.2.2.1) (k+1) ((F,D,(),(i:Int),()),(m.tup,()))=J (bif CV F D (m.A0.drop i) i==-1 then .inl ((),())else .inr ((CV F D (m.A0.drop i) i,()),())):=by
  intro k;induction k with
  |zero=>intro i hi;refine AA ?_;show JU F D (i:Int) m.F0 m.K0 m.H0 m.A0=_;unfold JU;rw[show decide ((i:Int)<(m.A0.length:Int))=A by simp;omega,show i=m.A0.length by omega,a3_];rfl
  |succ k ih=>
   intro i hi;have hi':i<m.A0.length:=ω;have w:R.wrap ((i:Int)+1)=((i+1:Nat):Int):=by rw[Aa ω ω];omega
   have hs:JU F D (i:Int) m.F0 m.K0 m.H0 m.A0=J (bif isC F D (m.A0.getD i I)then .inr (.inr (((i:Int),()),()))else .inl ((F,D,(),((i+1:Nat):Int),()),(m.tup,()))):=by
    unfold JU isC;rw[show decide ((i:Int)<(m.A0.length:Int))=B by simp;omega,Ac (ω:(0:Int)≤(i:Int)) (ω:(i:Int)<(m.A0.length:Int)),show Q 0 0 0 0 A=I from rfl];simp only[H,i_];cases(m.A0.getD i I).E0==F with
    |false=>simp only[E,a_,w,a7_];rfl
    |true=>
     simp only[H,a_,q_];cases(m.A0.getD i I).J0==D with
     |false=>simp only[E,w];rfl
     |true=>rfl
   rw[BN I hi'];simp only[CV];cases hq:isC F D (m.A0.getD i I)with
   |true=>rw[hq]at hs;rw[H,O (ω:¬(i:Int)=-1)];exact AA hs
   |false=>rw[hq]at hs;exact(Bt hs).trans (ih (i+1) ω)
 have h:Pt ((F,D,(),(0:Int),()),(m.tup,()))=_:=Aj (key m.A0.length 0 ω) ω;rw[P_]at h;unfold Img.tup at h;unfold SD;rw[h];cases hq:CV F D m.A0 0==-1 with
 |true=>
  have:CV F D m.A0 0=-1:=by simpa using hq
  rw[this];rfl
 |false=>rfl
def Fa(e:C):Bool→List C→List C
 |d,[]=>bif d then []else [e]
 |true,x::t=>x::Fa e B t
 |false,x::t=>bif L e x then e::x::Fa e B t else x::Fa e A t
def Ab1(e:C):∀(l:List C) (d:Bool),(Fa e d l).length≤l.length+1
 |[],B=>by simp[Fa]
 |[],A=>by simp[Fa]
 |x::t,B=>by simp only[Fa,E_];have:=Ab1 e t B;omega
 |x::t,A=>by
  simp only[Fa];cases L e x with
  |true=>
   simp only[H,E_]
   have:∀t:List C,Fa e B t=t:=λt=>by
    induction t with
    |nil=>rfl
    |cons a t ih=>simp only[Fa,ih]
   rw[this];omega
  |false=>simp only[E,E_];have:=Ab1 e t A;omega
def UU(e:C):∀t:List C,Fa e B t=t
 |[]=>rfl
 |a::t=>by simp only[Fa,UU e t]
def Entry.tup5(e:C):Int×Int×Int×Int×Bool×Unit:=(e.E0,e.J0,e.R0,e.B1,e.N1,())
def Aho(e:C)(hl:l.length≤2000):NK l e.E0 e.J0 e.R0 e.B1 e.N1=J ((Fa e A l,()),()):=by
 have key:∀(k i:Nat) (out:List C) (d:Bool),i+k=l.length→out.length≤i+d.toNat→∃(o:List C) (d':Bool),BJ (λx=>letI a:=x.2.1.2;GQ x.1.1 x.1.2.2.1 x.1.2.2.2.1 x.1.2.2.2.2.1 x.2.1.1 a.1 a.2.1 a.2.2.1 a.2.2.2.1) (k+1) ((l,(),out,d,(i:Int),()),(e.tup5,()))=J (((),o,d',()),(e.tup5,()))∧o.length≤2001∧o++(bif d' then []else [e])=out++Fa e d (l.drop i):=by
  intro k;induction k with
  |zero=>
   intro i out d hi ho;refine⟨out,d,AA ?_,by have:=Bool.toNat_le d;omega,?_⟩
   ·show GQ l out d (i:Int) e.E0 e.J0 e.R0 e.B1 e.N1=_;unfold GQ;rw[show decide ((i:Int)<(l.length:Int))=A by simp;omega];rfl
   ·rw[show i=l.length by omega,a3_];cases d<;>rfl
  |succ k ih=>
   intro i out d hi ho;have hi':i<l.length:=ω;have hd1:=Bool.toNat_le d;have w:R.wrap ((i:Int)+1)=((i+1:Nat):Int):=by rw[Aa ω ω];omega
   have b1:∀y:C,aA (out.length+[y].length) 2147483648=B:=λ_=>Ap (by simp;omega);have b2:∀y z:C,aA ((out++[z]).length+[y].length) 2147483648=B:=λ_ _=>Ap (by simp;omega);have ib:inB (i:Int) l.length=B:=Ac ω ω;have hle:=Aa4 e (l.getD i I);have hs:GQ l out d (i:Int) e.E0 e.J0 e.R0 e.B1 e.N1=J (.inl ((l,(),(bif !d&&L e (l.getD i I)then out++[e]else out)++[l.getD i I],d||Be e (l.getD i I),((i+1:Nat):Int),()),(e.tup5,()))):=by
    unfold GQ;rw[show decide ((i:Int)<(l.length:Int))=B by simp;omega,ib,show Q 0 0 0 0 A=I from rfl];cases d with
    |true=>simp only[H,E,m_,a_,ib,i_,b1,w,a7_,Bool.true_or];rfl
    |false=>
     simp only[H,c1_,i_,hle,a_,q_,Bool.false_or];cases L e (l.getD i I)with
     |true=>simp only[H,b1,a_,ib,i_,b2,w];rfl
     |false=>simp only[E,a_,ib,H,i_,b1,w];rfl
   rw[BN I hi'];cases d with
   |true=>obtain⟨o,d',h1,h2,h3⟩:=ih (i+1) (out++[l.getD i I]) B ω (by rw[h_];simp only[Bool.toNat_true,D_]at ho⊢;omega);refine⟨o,d',(Bt hs).trans h1,h2,?_⟩;rw[h3];simp only[Fa,F_,c5_]
   |false=>
    simp only[Bool.toNat_false]at ho;cases hq:L e (l.getD i I)with
    |true=>rw[hq]at hs;obtain⟨o,d',h1,h2,h3⟩:=ih (i+1) ((out++[e])++[l.getD i I]) B ω (by simp only[h_,D_,Bool.toNat_true];omega);refine⟨o,d',(Bt hs).trans h1,h2,?_⟩;rw[h3];simp only[Fa,hq,H,F_,List.cons_append,W_]
    |false=>rw[hq]at hs;obtain⟨o,d',h1,h2,h3⟩:=ih (i+1) (out++[l.getD i I]) A ω (by simp only[h_,D_,Bool.toNat_false];omega);refine⟨o,d',(Bt hs).trans h1,h2,?_⟩;rw[h3];simp only[Fa,hq,E,F_,c5_]
 obtain⟨o,d',h1,h2,h3⟩:=key l.length 0 [] A ω σ;have h:LV ((l,(),([]:List C),A,(0:Int),()),(e.tup5,()))=_:=Aj h1 ω;rw[P_,W_]at h3;unfold Entry.tup5 at h;unfold NK;rw[h,← h3];have b1:aA (o.length+[e].length) 2147483648=B:=Ap (by simp;omega);cases d' with
 |true=>simp only[a_,m_,E,H,a0_]
 |false=>simp only[a_,c1_,H,E,b1]
def Img.put(m:P)(l:List C):P:=⟨m.F0,m.K0,m.H0,l⟩
def Afc(e:C)(c:Int):C:=⟨e.E0,e.J0,c,e.B1,e.N1⟩
def Us(e:C)(n c:Int):C:=⟨e.E0,e.J0,e.R0,n,c==1⟩
def Ak(m:P)(r:Record):P:=
 bif r.Q0==4 then⟨m.F0.set r.R0.toNat r.J1,m.K0,m.H0,m.A0⟩
 else bif r.Q0==5 then⟨m.F0,m.K0.set r.R0.toNat (r.J1==1),m.H0,m.A0⟩
 else bif r.Q0==6 then⟨m.F0,m.K0,m.H0.set r.R0.toNat (r.J1==1),m.A0⟩
 else bif CV r.E0 r.J0 m.A0 0==-1 then(bif r.Q0==1 then m.put (Fa ⟨r.E0,r.J0,-1,0,A⟩ A m.A0)else m)
 else bif r.Q0==2 then m.put (m.A0.take (CV r.E0 r.J0 m.A0 0).toNat++m.A0.drop ((CV r.E0 r.J0 m.A0 0).toNat+1))
 else bif r.Q0==3 then m.put (m.A0.set (CV r.E0 r.J0 m.A0 0).toNat (Afc (m.A0.getD (CV r.E0 r.J0 m.A0 0).toNat I) r.R0))
 else bif r.Q0==7 then m.put (m.A0.set (CV r.E0 r.J0 m.A0 0).toNat (Us (m.A0.getD (CV r.E0 r.J0 m.A0 0).toNat I) r.J1 r.R0))
 else m
def PP(b:Bldg)(m:P)(r:Record):(Unit×Int×Unit)×((List Int×List Bool×List Bool×List C×Unit)×Unit):=bif m.ok b&&As b r then(((),0,()),((Ak m r).tup,()))else(((),1,()),(Img.none.tup,()))
def Td(h:As b r=B)(hk:r.Q0=4∨r.Q0=5∨r.Q0=6):0≤r.R0∧r.R0<(b.B0.length:Int):=by
  unfold As TO at h;have k:∀q:Bool,(r.R0≥0∧r.R0≤(b.B0.length:Int)-1)→0≤r.R0∧r.R0<(b.B0.length:Int):=λ_ h=>by omega
  rcases hk with hk | hk | hk<;>rw[hk]at h<;>
    (simp only[e_]at h
     have h':=h.2;simp only[show((4:Int)==1)=A from rfl,show((4:Int)==2)=A from rfl,show((4:Int)==3)=A from rfl,show((5:Int)==1)=A from rfl,show((5:Int)==2)=A from rfl,show((5:Int)==3)=A from rfl,show((5:Int)==4)=A from rfl,show((6:Int)==1)=A from rfl,show((6:Int)==2)=A from rfl,show((6:Int)==3)=A from rfl,show((6:Int)==4)=A from rfl,show((6:Int)==5)=A from rfl,l_,E,H,e_]at h'
     have:=Ar.1 h'.1.1
     exact k B ⟨this.1,this.2⟩)
section
variable{b:Bldg}(hb:b.small)(m:P)(hm:m.A0.length≤1000)(r:Record)
include hb hm
theorem An7(hp:m.F0.length≤maxLen)(hcl:b.B0.length≤100):Ri b.D0 b.G0 b.I0 b.M0 b.L0 b.N0 b.O0 b.B0 m.F0 m.K0 m.H0 m.A0 r.Q0 r.E0 r.J0 r.R0 r.J1=J (PP b m r):=by
 have hmx:1000≤maxLen:=by decide
 unfold Ri PP;rw[Nc hb m hp ω];simp only[a_];cases hok:m.ok b with
 |false=>rfl
 |true=>
  rw[Ui hb hcl r];simp only[m_,E,a_,q_];cases hv:As b r with
  |false=>rfl
  |true=>
   obtain⟨_,l1,l2,l3,_⟩:b.code=0∧m.F0.length=b.B0.length∧m.K0.length=b.B0.length∧m.H0.length=b.B0.length∧True:=by unfold Img.ok at hok;simp only[e_,U_]at hok;obtain⟨h0,h1,h2,h3,h4,h5⟩:=hok;exact⟨h0,ω,ω,ω,trivial⟩
   have b1:aA (([]:List Int).length+m.F0.length) 2147483648=B:=Ap (by simp;omega);have b2:aA (([]:List Bool).length+m.K0.length) 2147483648=B:=Ap (by simp;omega);have b3:aA (([]:List Bool).length+m.H0.length) 2147483648=B:=Ap (by simp;omega);have b4:aA (([]:List C).length+m.A0.length) 2147483648=B:=Ap (by simp;omega);simp only[m_,E,H,b1,b2,b3,b4,W_];rw[Ap6 m ω];simp only[a_];unfold Ak;by_cases k4:r.Q0=4
   ·have hc:=Td hv (.inl k4);rw[k4];simp only[l_,H,Ac hc.1 (ω:r.R0<(m.F0.length:Int))];rfl
   rw[O k4];by_cases k5:r.Q0=5
   ·have hc:=Td hv (.inr (.inl k5));rw[k5];simp only[l_,H,E,Ac hc.1 (ω:r.R0<(m.K0.length:Int))];rfl
   rw[O k5];by_cases k6:r.Q0=6
   ·have hc:=Td hv (.inr (.inr k6));rw[k6];simp only[l_,H,E,Ac hc.1 (ω:r.R0<(m.H0.length:Int))];rfl
   rw[O k6];simp only[E];have hent:=Aho ⟨r.E0,r.J0,-1,0,A⟩ (l:=m.A0) ω;simp only at hent;rcases Qb r.E0 r.J0 m.A0 0 with⟨h1,_⟩ | ⟨k,h1,h2,_⟩
   ·rw[h1,show decide ((-1:Int)<0)=B from rfl,show((-1:Int)==-1)=B from rfl];simp only[H];cases r.Q0==1 with
    |true=>simp only[H,a_,hent];rfl
    |false=>simp only[E,a_];rfl
   ·rw[p_]at h2;have hk:S (k:Int)=k:=ω;rw[h2,O (ω:¬(k:Int)=-1),f_ (ω:¬(k:Int)<0),show Q 0 0 0 0 A=I from rfl];simp only[E,hk];have e1:(bif r.Q0==1 then J (((),(),(),(k:Int),A,()),((m.F0,m.K0,m.H0,m.A0,()),(r.Q0,r.E0,r.J0,r.R0,r.J1,()),(([]:List Int),([]:List Bool),([]:List Bool),([]:List C),()),()))else J (((),(),(),(k:Int),A,()),((m.F0,m.K0,m.H0,m.A0,()),(r.Q0,r.E0,r.J0,r.R0,r.J1,()),(([]:List Int),([]:List Bool),([]:List Bool),([]:List C),()),())))=J (((),(),(),(k:Int),A,()),((m.F0,m.K0,m.H0,m.A0,()),(r.Q0,r.E0,r.J0,r.R0,r.J1,()),(([]:List Int),([]:List Bool),([]:List Bool),([]:List C),()),())):=by cases r.Q0==1<;>rfl
    rw[e1];simp only[a_,E,f_ (ω:¬(k:Int)<0),hk];have ib:inB (k:Int) m.A0.length=B:=Ac ω ω;cases r.Q0==2 with
    |true=>
     have w:R.wrap ((k:Int)+1)=((k+1:Nat):Int):=by rw[Aa ω ω];omega
     have b5:aA (([]:List C).length+(m.A0.take k).length) 2147483648=B:=Ap (by simp;omega);have b6:aA ((m.A0.take k).length+(m.A0.drop (k+1)).length) 2147483648=B:=Ap (by simp;omega);simp only[H,c_ (ω:(0:Int)≤(k:Int)),c_ (ω:(k:Int)≤(m.A0.length:Int)),S_,b5,w,c_ (ω:(0:Int)≤((k+1:Nat):Int)),c_ (ω:((k+1:Nat):Int)≤(m.A0.length:Int)),i_,List.take_length,b6,P_];rfl
    |false=>
     simp only[E];cases r.Q0==3 with
     |true=>simp only[H,ib];rfl
     |false=>
      simp only[E];cases r.Q0==7 with
      |true=>
       have ib2:∀y:C,inB (k:Int) (m.A0.set k y).length=B:=λy=>Ac ω (by rw[r_];omega);have hg:∀y:C,(m.A0.set k y).getD k I=y:=λy=>by simp[k_,h1]
       simp only[H,ib,ib2,hg,h1_];rfl
      |false=>rfl
end
def Hr{a:C}:L a c=B↔a.E0<c.E0∨(a.E0=c.E0∧a.J0<c.J0):=by unfold L;simp only[a2_,e_,v_,U_]
def Rv{a d:C}(h:L a c=B)(h':L c d=B):L a d=B:=by rw[Hr]at*;omega
def Dm(e:C):Int×Int:=(e.E0,e.J0)
def ltC(a c:Int×Int):Prop:=a.1<c.1∨(a.1=c.1∧a.2<c.2)
def Bz(l:List C):Prop:=(l.map Dm).Pairwise ltC
def Ev:Bz l↔l.Pairwise λx y=>L x y=B:=by unfold Bz;rw[List.pairwise_map];exact⟨λh=>h.imp λhh=>Hr.2 hh,λh=>h.imp λhh=>Hr.1 hh⟩
def Aii{b:Bldg}:∀{l:List C}{p:Option C},FL b p l=B↔(∀e∈l,Hk b e=B)∧Bz l∧(∀q,p=J q→∀e∈l,L q e=B)
 |[],p=>by simp[FL,Bz]
 |a::t,p=>by
  simp only[FL,e_];rw[Aii (l:=t),Ev,Ev,f3_];constructor
  ·rintro⟨h1,h2,h3,h4,h5⟩;refine⟨λe he=>?_,⟨λe he=>h5 a rfl e he,h4⟩,λq hq e he=>?_⟩
   ·rcases t_.1 he with rfl | he
    ·exact h1
    ·exact h3 e he
   ·subst hq;simp only at h2;rcases t_.1 he with rfl | he
    ·exact h2
    ·exact Rv h2 (h5 a rfl e he)
  ·rintro⟨h1,⟨h2,h3⟩,h4⟩;refine⟨h1 a (s_ ..),?_,λe he=>h1 e (u_ _ he),h3,λq hq e he=>?_⟩
   ·cases p with
    |none=>rfl
    |some q=>exact h4 q rfl a (s_ ..)
   ·obtain rfl:=N_ hq;exact h2 e he
def Adt:FL b none l=B↔(∀e∈l,Hk b e=B)∧Bz l:=by rw[Aii];exact⟨λh=>⟨h.1,h.2.1⟩,λh=>⟨h.1,h.2,λ_ hq=>by cases hq⟩⟩
def Avg(h:Bz l)(k:Nat):Bz (l.take k++l.drop (k+1)):=by rw[Ev]at*;exact h.sublist (by rw[← List.eraseIdx_eq_take_drop_succ];exact List.eraseIdx_sublist ..)
def Uc(hk:k<l.length)(he:Dm e=Dm (l.getD k I)):(l.set k e).map Dm=l.map Dm:=by
 rw[List.map_set,he];apply List.ext_getElem?;intro i;rw[List.getElem?_set];by_cases h:k=i
 ·subst h;rw[if_pos rfl];simp[hk,k_]
 ·rw[if_neg h]
def Afg(h:Bz l)(hk:k<l.length)(he:Dm e=Dm (l.getD k I)):Bz (l.set k e):=by unfold Bz at*;rw[Uc hk he];exact h
def Acb{e x:C}:∀{l:List C},x∈Fa e A l→x=e∨x∈l
 |[],h=>by simp[Fa]at h;exact .inl h
 |a::t,h=>by
  simp only[Fa]at h;cases hq:L e a with
  |true=>
   rw[hq,H,UU]at h;rcases t_.1 h with h | h
   ·exact .inl h
   ·exact .inr h
  |false=>
   rw[hq,E]at h;rcases t_.1 h with h | h
   ·exact .inr (by rw[h];exact s_ ..)
   ·rcases Acb h with h | h
    ·exact .inl h
    ·exact .inr (u_ _ h)
def Aff{e:C}:∀{l:List C},Bz l→(∀x∈l,isC e.E0 e.J0 x=A)→Bz (Fa e A l)
 |[],_,_=>by simp[Fa,Bz]
 |a::t,h,hn=>by
  rw[Ev]at*;obtain⟨h1,h2⟩:=f3_.1 h;simp only[Fa];cases hq:L e a with
  |true=>
   rw[H,UU];refine f3_.2 ⟨λx hx=>?_,h⟩;rcases t_.1 hx with rfl | hx
   ·exact hq
   ·exact Rv hq (h1 x hx)
  |false=>
   rw[E];refine f3_.2 ⟨λx hx=>?_,Ev.1 (Aff (Ev.2 h2) λx hx=>hn x (u_ _ hx))⟩;rcases Acb hx with rfl | hx
   ·rw[Hr];have h3:¬(x.E0<a.E0∨(x.E0=a.E0∧x.J0<a.J0)):=λhh=>by rw[Hr.2 hh]at hq;cases hq
    have h4:=hn a (s_ ..);unfold isC at h4;simp only[Bool.and_eq_false_iff,beq_eq_false_iff_ne]at h4;omega
   ·exact h1 x hx
structure ImgOK(b:Bldg)(m:Img):Prop where
 code:b.code=0
 lp:m.F0.length=b.B0.length
 lf:m.K0.length=b.B0.length
 ll:m.H0.length=b.B0.length
 ph:∀p∈m.F0,0≤p∧p≤4
 en:∀e∈m.A0,Hk b e=true
 so:Bz m.A0
def Img.ok_iff:m.ok b=B↔ImgOK b m:=by
 unfold Img.ok;simp only[e_,U_];constructor
 ·rintro⟨h0,h1,h2,h3,h4,h5⟩;have h6:=Adt.1 h5;exact⟨h0,ω,ω,ω,λp hp=>Ar.1 (M_.1 h4 p hp),h6.1,h6.2⟩
 ·rintro⟨h0,h1,h2,h3,h4,h5,h6⟩;exact⟨h0,ω,ω,ω,M_.2 λp hp=>Ar.2 (h4 p hp),Adt.2 ⟨h5,h6⟩⟩
def DL:Hk b e=B↔Ao b e.E0 e.J0=B∧(-2≤e.R0∧e.R0<(b.B0.length:Int))∧0≤e.B1∧e.B1≤255:=by
 unfold Hk;simp only[e_,v_];constructor
 ·rintro⟨h1,h2,h3,h4,h5⟩;exact⟨h1,⟨h2,h3⟩,h4,h5⟩
 ·rintro⟨h1,⟨h2,h3⟩,h4,h5⟩;exact⟨h1,h2,h3,h4,h5⟩
def Ag5{l:List α}{a x:α}(h:x∈l.set k a):x=a∨x∈l:=by
 rcases List.mem_or_eq_of_mem_set h with h | h
 ·exact .inr h
 ·exact .inl h
def VK(h:As b r=B):b.code=0∧
    ((r.Q0=1∧Ao b r.E0 r.J0=B∧r.R0=0∧r.J1=0)∨(r.Q0=2∧Ao b r.E0 r.J0=B∧r.R0=0∧r.J1=0)∨
     (r.Q0=3∧Ao b r.E0 r.J0=B∧(-2≤r.R0∧r.R0<(b.B0.length:Int))∧r.J1=0)∨
     (r.Q0=4∧(0≤r.R0∧r.R0<(b.B0.length:Int))∧(0≤r.J1∧r.J1≤4))∨
     (r.Q0=5∧(0≤r.R0∧r.R0<(b.B0.length:Int))∧(0≤r.J1∧r.J1≤1))∨
     (r.Q0=6∧(0≤r.R0∧r.R0<(b.B0.length:Int))∧(0≤r.J1∧r.J1≤1))∨
     (r.Q0=7∧Ao b r.E0 r.J0=B∧(0≤r.R0∧r.R0≤1)∧(0≤r.J1∧r.J1≤255))):=by
  unfold As TO at h;simp only[e_,U_]at h;obtain⟨h0,h⟩:=h;refine⟨h0,?_⟩;by_cases k1:r.Q0=1
  · rw[k1]at h;simp only[l_,H,e_,U_]at h;exact .inl ⟨k1,h.1,h.2⟩
  rw[O k1,E]at h;by_cases k2:r.Q0=2
  · rw[k2]at h;simp only[l_,H,e_,U_]at h;exact .inr (.inl ⟨k2,h.1,h.2⟩)
  rw[O k2,E]at h;by_cases k3:r.Q0=3
  · rw[k3]at h;simp only[l_,H,e_,U_,Ar]at h;exact .inr (.inr (.inl ⟨k3,h.1,ω,h.2.2⟩))
  rw[O k3,E]at h;by_cases k4:r.Q0=4
  · rw[k4]at h;simp only[l_,H,e_,U_,Ar]at h;exact .inr (.inr (.inr (.inl ⟨k4,ω,h.2⟩)))
  rw[O k4,E]at h;by_cases k5:r.Q0=5
  · rw[k5]at h;simp only[l_,H,e_,U_,Ar]at h;exact .inr (.inr (.inr (.inr (.inl ⟨k5,ω,h.2⟩))))
  rw[O k5,E]at h;by_cases k6:r.Q0=6
  · rw[k6]at h;simp only[l_,H,e_,U_,Ar]at h;exact .inr (.inr (.inr (.inr (.inr (.inl ⟨k6,ω,h.2⟩)))))
  rw[O k6,E]at h;by_cases k7:r.Q0=7
  · rw[k7]at h;simp only[l_,H,e_,Ar]at h;exact .inr (.inr (.inr (.inr (.inr (.inr ⟨k7,h.1,h.2.1,h.2.2⟩)))))
  rw[O k7]at h;cases h
def Aex(h:ImgOK b m)(h1:∀e∈l,Hk b e=B)(h2:Bz l):ImgOK b (m.put l):=⟨h.code,h.lp,h.lf,h.ll,h.ph,h1,h2⟩
def Arc{F D:Int}:isC F D e=B↔Dm e=(F,D):=by unfold isC Dm;simp only[e_,U_,f7_]
def Kl(h:ImgOK b m)(hv:As b r=B):ImgOK b (Ak m r)∧(Ak m r).A0.length≤m.A0.length+1:=by
 obtain⟨_,hk⟩:=VK hv;unfold Ak;by_cases k4:r.Q0=4
 ·rw[show(r.Q0==4)=B by rw[k4];rfl];refine⟨⟨h.code,by show(m.F0.set _ _).length=_;rw[r_];exact h.lp,h.lf,h.ll,λp hp=>?_,h.en,h.so⟩,aC _⟩;rcases Ag5 hp with rfl | hp
  ·omega
  ·exact h.ph p hp
 rw[O k4,E];by_cases k5:r.Q0=5
 ·rw[show(r.Q0==5)=B by rw[k5];rfl];exact⟨⟨h.code,h.lp,by show(m.K0.set _ _).length=_;rw[r_];exact h.lf,h.ll,h.ph,h.en,h.so⟩,aC _⟩
 rw[O k5,E];by_cases k6:r.Q0=6
 ·rw[show(r.Q0==6)=B by rw[k6];rfl];exact⟨⟨h.code,h.lp,h.lf,by show(m.H0.set _ _).length=_;rw[r_];exact h.ll,h.ph,h.en,h.so⟩,aC _⟩
 rw[O k6,E];rcases Qb r.E0 r.J0 m.A0 0 with⟨h1,h2⟩ | ⟨k,h1,h2,h3⟩
 ·rw[h1,show((-1:Int)==-1)=B from rfl,H];by_cases k1:r.Q0=1
  ·rw[show(r.Q0==1)=B by rw[k1];rfl,H];refine⟨Aex h (λe he=>?_) (Aff h.so h2),Ab1 _ _ _⟩;rcases Acb he with rfl | he
   ·rw[DL];have hc:Ao b r.E0 r.J0=B:=by
     rcases hk with hk | hk | hk | hk | hk | hk | hk
     ·exact hk.2.1
     all_goals omega
    exact⟨hc,⟨by show(-2:Int)≤-1;omega,by show(-1:Int)<_;omega⟩,by show(0:Int)≤0;omega,by show(0:Int)≤255;omega⟩
   ·exact h.en e he
  ·rw[O k1,E];exact⟨h,aC _⟩
 ·rw[p_]at h2;rw[h2,O (ω:¬(k:Int)=-1),E,i_];have hmem:=CD I h1;have hent:=DL.1 (h.en _ hmem);cases r.Q0==2 with
  |true=>
   refine⟨Aex h (λe he=>?_) (Avg h.so k),?_⟩
   ·rcases o_.1 he with he | he
    ·exact h.en e (T_ he)
    ·exact h.en e (d9_ he)
   ·show(m.A0.take k++m.A0.drop (k+1)).length≤_;rw[h_,w_,Y_];omega
  |false=>
   rw[E];by_cases k3:r.Q0=3
   ·rw[show(r.Q0==3)=B by rw[k3];rfl,H];refine⟨Aex h (λe he=>?_) (Afg h.so h1 rfl),by show(m.A0.set _ _).length≤_;rw[r_];omega⟩;rcases Ag5 he with rfl | he
    ·rw[DL];refine⟨hent.1,?_,hent.2.2⟩;show -2≤r.R0∧r.R0<_;rcases hk with hk | hk | hk | hk | hk | hk | hk
     all_goals first
      |exact hk.2.2.1
      |omega
    ·exact h.en e he
   ·rw[O k3,E];by_cases k7:r.Q0=7
    ·rw[show(r.Q0==7)=B by rw[k7];rfl,H];refine⟨Aex h (λe he=>?_) (Afg h.so h1 rfl),by show(m.A0.set _ _).length≤_;rw[r_];omega⟩;rcases Ag5 he with rfl | he
     ·rw[DL];refine⟨hent.1,hent.2.1,?_⟩;show 0≤r.J1∧r.J1≤255;rcases hk with hk | hk | hk | hk | hk | hk | hk
      all_goals first
       |exact hk.2.2.2
       |omega
     ·exact h.en e he
    ·rw[O k7,E];exact⟨h,aC _⟩
def FN(b:Bldg):P:=⟨List.replicate b.B0.length 0,List.replicate b.B0.length A,List.replicate b.B0.length A,[]⟩
def Wi(hcode:b.code=0)(hc:b.B0.length≤100):NI b.D0 b.G0 b.I0 b.M0 b.L0 b.N0 b.O0 b.B0=J (((),()),((FN b).tup,())):=by unfold NI;rw[FY,hcode];simp only[a_,Q_,E,c_ (ω:(0:Int)≤(b.B0.length:Int)),c_ (e0_ (b.B0.length:Int)),c_ (ω:(b.B0.length:Int)≤2147483648),S_,H,i_];rfl
def Xi(hcode:b.code=0):ImgOK b (FN b):=⟨hcode,V_,V_,V_,(λp hp=>by rw[List.eq_of_mem_replicate hp];omega),(λ_ h=>by cases h),by simp[FN,Bz]⟩
def Ag(m:P):List Record→P
 |[]=>m
 |r::t=>Ag (Ak m r) t
def UH{b:Bldg}:∀{rs:List Record}{m:P},ImgOK b m→(∀r∈rs,As b r=B)→ImgOK b (Ag m rs)∧(Ag m rs).A0.length≤m.A0.length+rs.length
 |[],_,h,_=>⟨h,A_ _⟩
 |r::t,m,h,hv=>by obtain⟨h1,h2⟩:=Kl h (hv r (s_ ..));obtain⟨h3,h4⟩:=UH (rs:=t) h1 λx hx=>hv x (u_ _ hx);exact⟨h3,by show(Ag (Ak m r) t).A0.length≤_;rw[E_];omega⟩
def Ay2(h:ImgOK b m)(hv:As b r=B):PP b m r=(((),0,()),((Ak m r).tup,())):=by unfold PP;rw[Img.ok_iff.2 h,hv];rfl
def Acm(n lo hi:Int):Fl n lo hi=J ((inR lo hi n,()),()):=by unfold Fl inR;cases decide (lo≤n)<;>rfl
def Ve(hb:b.small)(hc:b.B0.length≤100)(r:Record):JJ b.D0 b.G0 b.I0 b.M0 b.L0 b.N0 b.O0 b.B0 r.Q0 r.E0 r.J0 r.R0 r.J1=J ((As b r,()),()):=by
  have w:R.wrap ((b.B0.length:Int)-1)=(b.B0.length:Int)-1:=Aa ω ω;unfold JJ As TO;rw[Bk,Mm hb];simp only[a_,bne,Acm,w];cases b.code==0 with
  |false=>rfl
  |true=>
    simp only[m_,E,q_];cases inR 0 ((b.B0.length:Int)-1) r.R0<;>cases r.E0==0<;>cases r.J0==0<;>
      (simp only[a_,H,E,S_,d5_,c2_,a7_,q_,w]
       by_cases k1:r.Q0=1
       · simp only[k1,l_,H]
         cases Ao b r.E0 r.J0<;>cases r.R0==0<;>rfl
       by_cases k2:r.Q0=2
       · simp only[k2,l_,H,E,show((2:Int)==1)=A from rfl]
         cases Ao b r.E0 r.J0<;>cases r.R0==0<;>rfl
       by_cases k3:r.Q0=3
       · simp only[k3,l_,H,E,show((3:Int)==1)=A from rfl,show((3:Int)==2)=A from rfl]
         cases Ao b r.E0 r.J0<;>cases inR (-2) ((b.B0.length:Int)-1) r.R0<;>rfl
       by_cases k4:r.Q0=4
       · simp only[k4,l_,H,E,show((4:Int)==1)=A from rfl,show((4:Int)==2)=A from rfl,show((4:Int)==3)=A from rfl,show((4:Int)==7)=A from rfl]
       by_cases k5:r.Q0=5
       · simp only[k5,l_,H,E,show((5:Int)==1)=A from rfl,show((5:Int)==2)=A from rfl,show((5:Int)==3)=A from rfl,show((5:Int)==7)=A from rfl,show((5:Int)==4)=A from rfl]
       by_cases k6:r.Q0=6
       · simp only[k6,l_,H,E,show((6:Int)==1)=A from rfl,show((6:Int)==2)=A from rfl,show((6:Int)==3)=A from rfl,show((6:Int)==7)=A from rfl,show((6:Int)==4)=A from rfl,show((6:Int)==5)=A from rfl]
       by_cases k7:r.Q0=7
       · simp only[k7,l_,H,E,show((7:Int)==1)=A from rfl,show((7:Int)==2)=A from rfl,show((7:Int)==3)=A from rfl,show((7:Int)==4)=A from rfl,show((7:Int)==5)=A from rfl,show((7:Int)==6)=A from rfl]
         cases Ao b r.E0 r.J0<;>cases inR 0 1 r.R0<;>rfl
       simp only[O k1,O k2,O k3,O k4,O k5,O k6,O k7,E])
def YQ(m:P)(h1:m.F0.length≤100000)(h2:m.K0.length≤100000)(h3:m.H0.length≤100000)(h4:m.A0.length≤100000):Nr m.F0 m.K0 m.H0 m.A0=J (((),()),(m.tup,())):=by
 have k:∀{α:Type}(l:List α),l.length≤100000→PX l=J ((l,()),()):=λl h=>by unfold PX;rw[Ap (ω:l.length≤2147483648)];rfl
 unfold Nr BX Bg Br;rw[k _ h1,k _ h2,k _ h3,k _ h4];rfl
def Ay(c:C):List C→Nat
 |[]=>0
 |e::t=>bif L e c then Ay c t+1 else 0
def Tm(c:C):∀l:List C,Ay c l≤l.length
 |[]=>A_ _
 |e::t=>by
  have:=Tm c t
  simp only[Ay,E_];cases L e c<;>simp<;>omega
def Ahe(c:C):∀(l:List C) (k:Nat),k<Ay c l→L (l.getD k I) c=B
 |[],k,h=>by simp[Ay]at h
 |e::t,k,h=>by
  simp only[Ay]at h;cases he:L e c with
  |false=>rw[he]at h;simp at h
  |true=>
   rw[he]at h;cases k with
   |zero=>exact he
   |succ k=>exact Ahe c t k (by simp at h;omega)
def Ahd{c:C}:∀{l:List C},Bz l→∀k,Ay c l≤k→k<l.length→L (l.getD k I) c=A
 |[],_,k,_,h=>by simp at h
 |e::t,hs,k,h1,h2=>by
  obtain⟨a1,a2⟩:=f3_.1 (Ev.1 hs);simp only[Ay]at h1;cases he:L e c with
  |true=>
   rw[he,H]at h1;cases k with
   |zero=>omega
   |succ k=>exact Ahd (Ev.2 a2) k ω (by simp at h2;omega)
  |false=>
   cases k with
   |zero=>exact he
   |succ k=>
    cases hq:L ((e::t).getD (k+1) I) c with
    |false=>rfl
    |true=>
     have hm:t.getD k I∈t:=CD I (by simp at h2;omega)
     have:=Rv (a1 _ hm) hq
     rw[he]at this;cases this
def Xn{a:C}(h:isC c.E0 c.J0 a=B):L a c=A∧L c a=A:=by
 unfold isC at h;simp only[e_,U_]at h;constructor
 all_goals
  apply Bool.eq_false_iff.2;intro hh;rw[Hr]at hh;omega
def Anj{a:C}(h:isC c.E0 c.J0 a=A)(h':L a c=A):L c a=B:=by
 rw[Hr];have h1:¬(a.E0<c.E0∨(a.E0=c.E0∧a.J0<c.J0)):=λhh=>by rw[Hr.2 hh]at h';cases h'
 unfold isC at h;simp only[Bool.and_eq_false_iff,beq_eq_false_iff_ne]at h;omega
def Ai3{a:C}(h:L a c=B):L c a=A:=by apply Bool.eq_false_iff.2;intro hh;rw[Hr]at*;omega
def WX{F D:Int}:∀{l:List C}{i:Nat},(∀x∈l,isC F D x=A)→CV F D l i=-1
 |[],_,_=>rfl
 |e::t,i,h=>by simp only[CV];rw[h e (s_ ..),E];exact WX λx hx=>h x (u_ _ hx)
def FI(c:C)(l:List C):Bool:=aB (Ay c l) l.length&&isC c.E0 c.J0 (l.getD (Ay c l) I)
def RR{c:C}:∀{l:List C}(i:Nat),Bz l→CV c.E0 c.J0 l i=bif FI c l then((i+Ay c l:Nat):Int)else -1
 |[],_,_=>rfl
 |e::t,i,hs=>by
  obtain⟨a1,a2⟩:=f3_.1 (Ev.1 hs);have hpos:Ay c (e::t)=bif L e c then Ay c t+1 else 0:=rfl;unfold FI;simp only[CV];rw[hpos];cases he:isC c.E0 c.J0 e with
  |true=>rw[(Xn he).1];simp[he,show aB 0 (t.length+1)=B from rfl]
  |false=>
   cases hl:L e c with
   |true=>rw[E,H,RR (i+1) (Ev.2 a2)];unfold FI;rw[show((e::t).getD (Ay c t+1) I)=t.getD (Ay c t) I from rfl,E_,show aB (Ay c t+1) (t.length+1)=aB (Ay c t) t.length from rfl];rw[show i+1+Ay c t=i+(Ay c t+1)by omega]
   |false=>
    rw[E,E,show((e::t).getD 0 I)=e from rfl,he,c2_,E];refine WX λx hx=>?_;cases hq:isC c.E0 c.J0 x with
    |false=>rfl
    |true=>have h1:=Rv (Anj he hl) (a1 x hx);rw[(Xn hq).2]at h1;cases h1
def Xk{c:C}:∀{l:List C},(∀x∈l,isC c.E0 c.J0 x=A)→Fa c A l=l.take (Ay c l)++[c]++l.drop (Ay c l)
 |[],_=>rfl
 |e::t,h=>by
  simp only[Fa,Ay];cases hl:L e c with
  |true=>rw[Ai3 hl,E,Xk λx hx=>h x (u_ _ hx)];simp
  |false=>rw[Anj (h e (s_ ..)) hl,H,UU];simp
def Aiw(hs:Bz l)(h:FI c l=A):∀x∈l,isC c.E0 c.J0 x=A:=by
 have h1:=RR (c:=c) 0 hs;rw[h,E]at h1;rcases Qb c.E0 c.J0 l 0 with⟨_,h2⟩ | ⟨k,_,h2,_⟩
 ·exact h2
 ·rw[h1]at h2;omega
def Av(F D:Int):C:=⟨F,D,0,0,A⟩
def Aiv{i j:Nat}(h:i+j<9223372036854775808):R.wrap (Int.fdiv (aD IntKind.u64 (aD R ((i:Int)+(j:Int)))) ((2:Int)^(Min.min (S (1:Int)) (IntKind.bits IntKind.u64))))=(((i+j)/2:Nat):Int):=by rw[Aa (n:=(i:Int)+(j:Int)) ω ω,En ω ω];rw[show((2:Int)^(Min.min (S (1:Int)) (IntKind.bits IntKind.u64)))=2 from rfl];rw[a9_ _ ω];rw[Aa ω ω];omega
def Aqb(hs:Bz l)(hl:l.length≤100000)(F D:Int):
  AC ((l,(),(),(l.length:Int),(0:Int),(l.length:Int),()),((F,D,0,0,A,()),()))=J ((l,(),(),(l.length:Int),((Ay (Av F D) l:Nat):Int),()),((F,D,0,0,A,()),())):=by
 refine Bje (λx y=>∃i j:Nat,i≤Ay (Av F D) l∧Ay (Av F D) l≤j∧j≤l.length∧x=((l,(),(),(l.length:Int),(i:Int),(j:Int),()),((F,D,(0:Int),(0:Int),A,()),()))∧y=((l,(),(),(l.length:Int),((Ay (Av F D) l:Nat):Int),()),((F,D,(0:Int),(0:Int),A,()),()))) (λx=>x.1.2.2.2.2.2.1.toNat-x.1.2.2.2.2.1.toNat) ?_ (x:=((l,(),(),(l.length:Int),(0:Int),(l.length:Int),()),((F,D,0,0,A,()),()))) (y:=((l,(),(),(l.length:Int),((Ay (Av F D) l:Nat):Int),()),((F,D,0,0,A,()),()))) ⟨0,l.length,a6_ _,Tm _ _,A_ _,rfl,rfl⟩ (by show((l.length:Int).toNat-S 0)<_;omega);rintro _ _ ⟨i,j,h1,h2,h3,rfl,rfl⟩;show(∃x',AD l (l.length:Int) (i:Int) (j:Int) F D 0 0 A=_∧_)∨AD l (l.length:Int) (i:Int) (j:Int) F D 0 0 A=_;unfold AD;rw[Aiv ω];by_cases hij:i<j
 ·left;have hh:(i+j)/2<l.length:=ω;obtain⟨n,c1,c2,_⟩:=QM (l.getD ((i+j)/2) I) (Av F D);unfold Av at c1;unfold I at c1;simp only[c_ (ω:(i:Int)<(j:Int)),Ac (ω:(0:Int)≤(((i+j)/2:Nat):Int)) (ω:(((i+j)/2:Nat):Int)<(l.length:Int)),i_,H,c1,a_];have c2':decide (n<0)=L (l.getD ((i+j)/2) I) (Av F D):=by rw[TR,c2,Bool.not_not]
  rw[c2'];cases hq:L (l.getD ((i+j)/2) I) (Av F D)with
  |true=>
   have:(i+j)/2<Ay (Av F D) l:=by
    rcases g1_ ((i+j)/2) (Ay (Av F D) l)with h | h
    ·exact h
    ·have:=Ahd hs _ h hh
     rw[hq]at this;cases this
   rw[H,show R.wrap ((((i+j)/2:Nat):Int)+1)=(((i+j)/2+1:Nat):Int)by rw[Aa ω ω];omega];exact⟨_,rfl,⟨(i+j)/2+1,j,ω,h2,h3,rfl,trivial⟩,by show S (j:Int)-S (((i+j)/2+1:Nat):Int)<S (j:Int)-S (i:Int);omega⟩
  |false=>
   have:Ay (Av F D) l≤(i+j)/2:=by
    rcases g1_ ((i+j)/2) (Ay (Av F D) l)with h | h
    ·have:=Ahe (Av F D) l _ h
     rw[hq]at this;cases this
    ·exact h
   rw[E];exact⟨_,rfl,⟨i,(i+j)/2,h1,this,ω,rfl,trivial⟩,by show S (((i+j)/2:Nat):Int)-S (i:Int)<S (j:Int)-S (i:Int);omega⟩
 ·right;rw[f_ (ω:¬(i:Int)<(j:Int)),show i=Ay (Av F D) l by omega];rfl
def Aaz(m:P)(hs:Bz m.A0)(hl:m.A0.length≤100000)(F D:Int):OW m.F0 m.K0 m.H0 m.A0 F D=J ((((Ay (Av F D) m.A0:Nat):Int),FI (Av F D) m.A0,()),()):=by
 unfold OW Bc;simp only;rw[Aqb hs hl F D];simp only[a_];have hp:=Tm (Av F D) m.A0;unfold FI;by_cases h:Ay (Av F D) m.A0<m.A0.length
 ·obtain⟨n,c1,_,c3⟩:=QM (m.A0.getD (Ay (Av F D) m.A0) I) (Av F D);rw[c_ (ω:((Ay (Av F D) m.A0:Nat):Int)<(m.A0.length:Int)),Ac (ω:(0:Int)≤((Ay (Av F D) m.A0:Nat):Int)) (ω:((Ay (Av F D) m.A0:Nat):Int)<(m.A0.length:Int)),i_,show aB (Ay (Av F D) m.A0) m.A0.length=B by rw[g7_];exact h];have e:(n==0)=isC (Av F D).E0 (Av F D).J0 (m.A0.getD (Ay (Av F D) m.A0) I):=by
   rw[Bool.eq_iff_iff,U_,c3];unfold isC;rw[e_,U_,U_]
  rw[← e];generalize Ay (Av F D) m.A0=p at*;unfold I at c1;unfold Av at c1;simp only[H,c1,a_,q_]
 ·rw[f_ (ω:¬((Ay (Av F D) m.A0:Nat):Int)<(m.A0.length:Int)),show aB (Ay (Av F D) m.A0) m.A0.length=A by rw[← Bool.not_eq_true,g7_];exact h];rfl
def Az1(x:C)(e:C):L x (Av e.E0 e.J0)=L x e:=rfl
def Uh(e:C):∀l:List C,Ay (Av e.E0 e.J0) l=Ay e l
 |[]=>rfl
 |x::t=>by simp only[Ay,Az1,Uh e t]
def Aj8(hs:Bz m.A0)(hl:m.A0.length≤100000)(r:Record)(hc:(r.Q0=4∨r.Q0=5∨r.Q0=6)→0≤r.R0∧r.R0<(m.F0.length:Int)∧r.R0<(m.K0.length:Int)∧r.R0<(m.H0.length:Int)):
  OV r.Q0 r.E0 r.J0 r.R0 r.J1 m.F0 m.K0 m.H0 m.A0=J ((),((Ak m r).tup,())):=by
 unfold OV Ak;rw[Aaz m hs hl];simp only[a_];by_cases k4:r.Q0=4
 ·obtain⟨c0,c1,c2,c3⟩:=hc (.inl k4);rw[k4];simp only[l_,H,Ac c0 c1];rfl
 rw[O k4];by_cases k5:r.Q0=5
 ·obtain⟨c0,c1,c2,c3⟩:=hc (.inr (.inl k5));rw[k5];simp only[l_,H,E,Ac c0 c2];rfl
 rw[O k5];by_cases k6:r.Q0=6
 ·obtain⟨c0,c1,c2,c3⟩:=hc (.inr (.inr k6));rw[k6];simp only[l_,H,E,Ac c0 c3];rfl
 rw[O k6];simp only[E];have hf:=RR (c:=Av r.E0 r.J0) 0 hs;simp only[p_]at hf;rw[show CV r.E0 r.J0 m.A0 0=_ from hf];have hp:=Tm (Av r.E0 r.J0) m.A0;cases hq:FI (Av r.E0 r.J0) m.A0 with
 |false=>
  have hn:=Aiw hs hq;simp only[E,H,c1_,l_];by_cases k1:r.Q0=1
  ·rw[k1];simp only[l_,H];unfold DP Ab0;rw[c_ (ω:(0:Int)≤((Ay (Av r.E0 r.J0) m.A0:Nat):Int)),c_ (ω:((Ay (Av r.E0 r.J0) m.A0:Nat):Int)≤(m.A0.length:Int))];rw[show aB 0 [Q r.E0 r.J0 (-1) 0 A].length=B from rfl,Ap (show m.A0.length+[Q r.E0 r.J0 (-1) 0 A].length≤2147483648 by rw[D_];omega)];have hi:=Xk (c:=⟨r.E0,r.J0,-1,0,A⟩) (l:=m.A0) hn;rw[hi,show Ay ⟨r.E0,r.J0,-1,0,A⟩ m.A0=Ay (Av r.E0 r.J0) m.A0 from(Uh ⟨r.E0,r.J0,-1,0,A⟩ m.A0).symm];rfl
  ·rw[O k1];cases r.Q0==2<;>cases r.Q0==3<;>cases r.Q0==7<;>rfl
 |true=>
  have hlt:Ay (Av r.E0 r.J0) m.A0<m.A0.length:=by unfold FI at hq;rw[e_,g7_]at hq;exact hq.1
  simp only[H,m_,E,O (ω:¬((Ay (Av r.E0 r.J0) m.A0:Nat):Int)=-1),i_];generalize Ay (Av r.E0 r.J0) m.A0=p at hp hlt⊢;have w:R.wrap ((p:Int)+1)=((p+1:Nat):Int):=by rw[Aa ω ω];omega
  have ib:inB (p:Int) m.A0.length=B:=Ac ω ω;by_cases k1:r.Q0=1
  ·simp only[k1,l_,H,E,show((1:Int)==2)=A from rfl,show((1:Int)==3)=A from rfl,show((1:Int)==7)=A from rfl];rfl
  rw[O k1,E];cases r.Q0==2 with
  |true=>unfold DO Amf;simp only[H,w,c_ (ω:(0:Int)≤(p:Int)),c_ (ω:(p:Int)<((p+1:Nat):Int)),c_ (ω:((p+1:Nat):Int)≤(m.A0.length:Int)),S_,a_,i_];rfl
  |false=>
   simp only[E];cases r.Q0==3 with
   |true=>simp only[H,ib];rfl
   |false=>
    simp only[E];cases r.Q0==7 with
    |true=>
     have ib2:∀y:C,inB (p:Int) (m.A0.set p y).length=B:=λy=>Ac ω (by rw[r_];omega);have hg:∀y:C,(m.A0.set p y).getD p (Q 0 0 0 0 A)=y:=λy=>by simp[k_,hlt]
     simp only[H,ib,ib2,hg,h1_];rfl
    |false=>rfl
def YN(hb:b.small)(hcl:b.B0.length≤100)(m:P)(hp:m.F0.length≤100000)(hl:m.A0.length≤10000)(r:Record):
  Nq b.D0 b.G0 b.I0 b.M0 b.L0 b.N0 b.O0 b.B0 m.F0 m.K0 m.H0 m.A0 r.Q0 r.E0 r.J0 r.R0 r.J1=J (PP b m r):=by
 have hmx:100000≤maxLen:=by decide
 unfold Nq PP;rw[Do hb m ω ω];simp only[a_];cases hok:m.ok b with
 |false=>rfl
 |true=>
  rw[Ve hb hcl r];simp only[m_,E,a_,q_];cases hv:As b r with
  |false=>rfl
  |true=>
   have hm:=Img.ok_iff.1 hok;have h1:=hm.lp;have h2:=hm.lf;have h3:=hm.ll;simp only[m_,E,H];rw[YQ m hp ω ω ω];simp only[a_,Img.tup];rw[Aj8 hm.so ω r λhk=>by
    have:=Td hv hk
    omega]
   rfl
def Bum{a b:Nat}(h:a≤100000)(h':b≤100000):R.wrap (aD R (18*R.wrap (aD R ((a:Int)+(b:Int))+1))+6)=18*((a:Int)+(b:Int)+1)+6:=by rw[Aa (n:=(a:Int)+(b:Int)) ω ω,Aa (n:=(a:Int)+(b:Int)+1) ω ω,Aa (n:=18*((a:Int)+(b:Int)+1)) ω ω,Aa ω ω]
def Oc(b:Bldg)(m:P):Bool:=m.ok b&&decide (18*((b.B0.length:Int)+(m.A0.length:Int)+1)+6≤b.I0)
def Aay(hb:b.small)(m:P)(hc:b.B0.length≤100000)(hp:m.F0.length≤100000)(hl:m.A0.length≤100000):
  MG b.D0 b.G0 b.I0 b.M0 b.L0 b.N0 b.O0 b.B0 m.F0 m.K0 m.H0 m.A0=J ((Oc b m,()),()):=by
 have hmx:100000≤maxLen:=by decide
 unfold MG Oc;rw[Do hb m ω ω];simp only[a_,Bum hc hl];cases m.ok b<;>rfl
def PO(p:Nat→Bool):Nat→Nat→Bool
 |0,_=>B
 |m+1,i=>p i&&PO p m (i+1)
def RT{X Y:Type}{step:X→Option (Sum X Y)}(N:Nat)(g:Nat→X)(p:Nat→Bool)(y0 y1:Y)(h1:∀i,i<N→step (g i)=J (bif p i then .inl (g (i+1))else .inr y1))(h2:step (g N)=J (.inr y0)) :
  ∀m i:Nat,i+m=N→BJ step (m+1) (g i)=J (bif PO p m i then y0 else y1)
 |0,i,hi=>by obtain rfl:i=N:=ω;exact AA h2
 |m+1,i,hi=>by
  have h:=h1 i ω;simp only[PO];cases hp:p i with
  |true=>rw[hp]at h;rw[Bt h,q_];exact RT N g p y0 y1 h1 h2 m (i+1) ω
  |false=>rw[hp]at h;rw[AA h];rfl
def Aql{α:Type}(f:α→α→Bool)(hf:∀x y,f x y=B↔x=y)(d:α)(a b:List α)(hl:a.length=b.length):∀m i:Nat,i+m=a.length→(PO (λi=>f (a.getD i d) (b.getD i d)) m i=B↔a.drop i=b.drop i)
 |0,i,hi=>by obtain rfl:i=a.length:=ω;rw[a3_,hl,a3_];exact⟨λ_=>rfl,λ_=>rfl⟩
 |m+1,i,hi=>by simp only[PO,e_,hf];rw[Aql f hf d a b hl m (i+1) ω,BN d (ω:i<a.length),BN d (ω:i<b.length),List.cons.injEq]
def Bcg(f:α→α→Bool)(hf:∀x y,f x y=B↔x=y)(d:α){a b:List α}(hl:a.length=b.length):PO (λi=>f (a.getD i d) (b.getD i d)) a.length 0=@decide (a=b) (Classical.propDecidable _):=by rw[Bool.eq_iff_iff,Aql f hf d a b hl a.length 0 ω];simp
noncomputable def eqL{α:Type}(a b:List α):Bool:=@decide (a=b) (Classical.propDecidable _)
def ZP{a b:List α}(h:¬a.length=b.length):eqL a b=A:=by
 have:¬a=b:=λe=>h (by rw[e])
 unfold eqL;simp[this]
def Bdd(a:List α):eqL a a=B:=by unfold eqL;simp
def Adw(f:α→α→Bool)(hf:∀x y,f x y=B↔x=y)(d:α){a b:List α}(hl:a.length=b.length):PO (λi=>f (a.getD i d) (b.getD i d)) a.length 0=eqL a b:=Bcg f hf d hl
def Aei(a b:List α):(((a.length:Int) !=(b.length:Int))=B)↔¬a.length=b.length:=by simp;omega
def Adv(x y:C):Bool:=(x.E0==y.E0)&&((x.J0==y.J0)&&((x.R0==y.R0)&&((x.B1==y.B1)&&((x.N1==y.N1)&&B))))
def Azq(x y:C):Adv x y=B↔x=y:=by cases x;cases y;simp[Adv]
def Abe [BEq α][LawfulBEq α](x y:α):(x==y)=B↔x=y:=U_
def AN:Nat:=10000000
def Ef{i n:Nat}(h:i<n)(hn:n≤AN):R.wrap ((i:Int)+1)=((i+1:Nat):Int):=by unfold AN at hn;rw[Aa ω ω];omega
section
variable{α:Type}
end
structure Img.fit(m:Img):Prop where
 p:m.F0.length≤100000
 f:m.K0.length≤100000
 l:m.H0.length≤100000
 e:m.A0.length≤100000
noncomputable def Ae9(a c:P):Bool:=eqL a.F0 c.F0&&(eqL a.K0 c.K0&&(eqL a.H0 c.H0&&eqL a.A0 c.A0))
def Afa(a:P):Ae9 a a=B:=by unfold Ae9;simp[Bdd]
section
variable{a c:P}(ha:a.fit)
include ha
theorem Ahk(hl:a.F0.length=c.F0.length):Pu (((),(),(0:Int),()),(a.tup,c.tup,()))=J (bif eqL a.F0 c.F0 then .inl (((),(),()),(a.tup,c.tup,()))else .inr ((A,()),())):=by
 have hs:=ha.p;have h5:100000≤AN:=by decide
 have h:=Aj (RT (step:=λx=>letI b:=x.2.2.1;JV x.1.2.2.1 x.2.1.1 x.2.1.2.1 x.2.1.2.2.1 x.2.1.2.2.2.1 b.1 b.2.1 b.2.2.1 b.2.2.2.1) a.F0.length (λi=>(((),(),(i:Int),()),(a.tup,c.tup,()))) (λi=>a.F0.getD i 0==c.F0.getD i 0) (Sum.inl (((),(),()),(a.tup,c.tup,()))) (Sum.inr ((A,()),())) (λi hi=>by
  show JV (i:Int) a.F0 a.K0 a.H0 a.A0 c.F0 c.K0 c.H0 c.A0=_;unfold JV;simp only[c_ (ω:(i:Int)<(a.F0.length:Int)),Ac (ω:(0:Int)≤(i:Int)) (ω:(i:Int)<(a.F0.length:Int)),Ac (ω:(0:Int)≤(i:Int)) (ω:(i:Int)<(c.F0.length:Int)),H,i_,Ef hi ω,bne];cases a.F0.getD i 0==c.F0.getD i 0<;>rfl) (by
  show JV (a.F0.length:Int) a.F0 a.K0 a.H0 a.A0 c.F0 c.K0 c.H0 c.A0=_;unfold JV;simp only[f_ (J_ (a.F0.length:Int)),E];rfl) a.F0.length 0 ω) ω
 rw[Adw (λx y=>x==y) Abe 0 hl]at h;exact h
theorem Ahl(hl:a.K0.length=c.K0.length):Pw (((),(),(0:Int),()),(a.tup,c.tup,()))=J (bif eqL a.K0 c.K0 then .inl (((),(),()),(a.tup,c.tup,()))else .inr ((A,()),())):=by
 have hs:=ha.f;have h5:100000≤AN:=by decide
 have h:=Aj (RT (step:=λx=>letI b:=x.2.2.1;JW x.1.2.2.1 x.2.1.1 x.2.1.2.1 x.2.1.2.2.1 x.2.1.2.2.2.1 b.1 b.2.1 b.2.2.1 b.2.2.2.1) a.K0.length (λi=>(((),(),(i:Int),()),(a.tup,c.tup,()))) (λi=>a.K0.getD i A==c.K0.getD i A) (Sum.inl (((),(),()),(a.tup,c.tup,()))) (Sum.inr ((A,()),())) (λi hi=>by
  show JW (i:Int) a.F0 a.K0 a.H0 a.A0 c.F0 c.K0 c.H0 c.A0=_;unfold JW;simp only[c_ (ω:(i:Int)<(a.K0.length:Int)),Ac (ω:(0:Int)≤(i:Int)) (ω:(i:Int)<(a.K0.length:Int)),Ac (ω:(0:Int)≤(i:Int)) (ω:(i:Int)<(c.K0.length:Int)),H,i_,Ef hi ω];cases a.K0.getD i A==c.K0.getD i A<;>rfl) (by
  show JW (a.K0.length:Int) a.F0 a.K0 a.H0 a.A0 c.F0 c.K0 c.H0 c.A0=_;unfold JW;simp only[f_ (J_ (a.K0.length:Int)),E];rfl) a.K0.length 0 ω) ω
 rw[Adw (λx y=>x==y) Abe A hl]at h;exact h
theorem Ahm(hl:a.H0.length=c.H0.length):Px (((),(),(0:Int),()),(a.tup,c.tup,()))=J (bif eqL a.H0 c.H0 then .inl (((),(),()),(a.tup,c.tup,()))else .inr ((A,()),())):=by
 have hs:=ha.l;have h5:100000≤AN:=by decide
 have h:=Aj (RT (step:=λx=>letI b:=x.2.2.1;JX x.1.2.2.1 x.2.1.1 x.2.1.2.1 x.2.1.2.2.1 x.2.1.2.2.2.1 b.1 b.2.1 b.2.2.1 b.2.2.2.1) a.H0.length (λi=>(((),(),(i:Int),()),(a.tup,c.tup,()))) (λi=>a.H0.getD i A==c.H0.getD i A) (Sum.inl (((),(),()),(a.tup,c.tup,()))) (Sum.inr ((A,()),())) (λi hi=>by
  show JX (i:Int) a.F0 a.K0 a.H0 a.A0 c.F0 c.K0 c.H0 c.A0=_;unfold JX;simp only[c_ (ω:(i:Int)<(a.H0.length:Int)),Ac (ω:(0:Int)≤(i:Int)) (ω:(i:Int)<(a.H0.length:Int)),Ac (ω:(0:Int)≤(i:Int)) (ω:(i:Int)<(c.H0.length:Int)),H,i_,Ef hi ω];cases a.H0.getD i A==c.H0.getD i A<;>rfl) (by
  show JX (a.H0.length:Int) a.F0 a.K0 a.H0 a.A0 c.F0 c.K0 c.H0 c.A0=_;unfold JX;simp only[f_ (J_ (a.H0.length:Int)),E];rfl) a.H0.length 0 ω) ω
 rw[Adw (λx y=>x==y) Abe A hl]at h;exact h
theorem Ahn(hl:a.A0.length=c.A0.length):Py (((),(),(0:Int),()),(a.tup,c.tup,()))=J (bif eqL a.A0 c.A0 then .inl ((),())else .inr ((A,()),())):=by
 have hs:=ha.e;have h5:100000≤AN:=by decide
 have h:=Aj (RT (step:=λx=>letI b:=x.2.2.1;JY x.1.2.2.1 x.2.1.1 x.2.1.2.1 x.2.1.2.2.1 x.2.1.2.2.2.1 b.1 b.2.1 b.2.2.1 b.2.2.2.1) a.A0.length (λi=>(((),(),(i:Int),()),(a.tup,c.tup,()))) (λi=>Adv (a.A0.getD i I) (c.A0.getD i I)) (Sum.inl ((),())) (Sum.inr ((A,()),())) (λi hi=>by
  show JY (i:Int) a.F0 a.K0 a.H0 a.A0 c.F0 c.K0 c.H0 c.A0=_;unfold JY Adv I;simp only[c_ (ω:(i:Int)<(a.A0.length:Int)),Ac (ω:(0:Int)≤(i:Int)) (ω:(i:Int)<(a.A0.length:Int)),Ac (ω:(0:Int)≤(i:Int)) (ω:(i:Int)<(c.A0.length:Int)),H,i_,Ef hi ω];generalize((a.A0.getD i (Q 0 0 0 0 A)).E0==(c.A0.getD i (Q 0 0 0 0 A)).E0&&((a.A0.getD i (Q 0 0 0 0 A)).J0==(c.A0.getD i (Q 0 0 0 0 A)).J0&&((a.A0.getD i (Q 0 0 0 0 A)).R0==(c.A0.getD i (Q 0 0 0 0 A)).R0&&((a.A0.getD i (Q 0 0 0 0 A)).B1==(c.A0.getD i (Q 0 0 0 0 A)).B1&&((a.A0.getD i (Q 0 0 0 0 A)).N1==(c.A0.getD i (Q 0 0 0 0 A)).N1&&B)))))=q;cases q<;>rfl) (by
  show JY (a.A0.length:Int) a.F0 a.K0 a.H0 a.A0 c.F0 c.K0 c.H0 c.A0=_;unfold JY;simp only[f_ (J_ (a.A0.length:Int)),E]) a.A0.length 0 ω) ω
 rw[Adw Adv Azq I hl]at h;exact h
theorem Aa3:ML a.F0 a.K0 a.H0 a.A0 c.F0 c.K0 c.H0 c.A0=J ((Ae9 a c,()),()):=by
 unfold ML Ae9;by_cases h0:a.F0.length=c.F0.length
 ·rw[show((a.F0.length:Int) !=(c.F0.length:Int))=A by simp[h0],E];by_cases h1:a.K0.length=c.K0.length
  ·rw[show((a.K0.length:Int) !=(c.K0.length:Int))=A by simp[h1],E];by_cases h2:a.H0.length=c.H0.length
   ·rw[show((a.H0.length:Int) !=(c.H0.length:Int))=A by simp[h2],E];by_cases h3:a.A0.length=c.A0.length
    ·rw[show((a.A0.length:Int) !=(c.A0.length:Int))=A by simp[h3],E];have l0:=Ahk ha (c:=c) h0;have l1:=Ahl ha (c:=c) h1;have l2:=Ahm ha (c:=c) h2;have l3:=Ahn ha (c:=c) h3;simp only[Img.tup]at l0 l1 l2 l3;rw[l0];cases eqL a.F0 c.F0
     ·rfl
     simp only[a_,H,q_,l1];cases eqL a.K0 c.K0
     ·rfl
     simp only[a_,H,q_,l2];cases eqL a.H0 c.H0
     ·rfl
     simp only[a_,H,q_,l3];cases eqL a.A0 c.A0<;>rfl
    ·rw[(Aei _ _).2 h3,ZP h3];simp
   ·rw[(Aei _ _).2 h2,ZP h2];simp
  ·rw[(Aei _ _).2 h1,ZP h1];simp
 ·rw[(Aei _ _).2 h0,ZP h0];simp
end
end Go.Ovl
