import Derived.Test.YtdaocffjgcokgaaGreatDoorAbC
import Derived.Test.YtdaocffjgcokgaaGreatDoorAbH
import Derived.Test.YtdaocffjgcokgaaGreatDoorDefs4
set_option linter.all false
open Option renaming some->A,none->Z,bind->aZ
open Bool renaming false->B,true->E,and_true->aP,and_false->aV
open Go.Ab renaming Ac->H,iter->aB
open Go.IntKind renaming i64->J,wrap->aE,u8->aH,u32->aR
open Go renaming e_->O,d_->R,g_->V
open Go.Ovl renaming Event->U,Debounced->aI
open Int renaming tmod->aA,tdiv->aG,tmod_nonneg->aJ,toNat->aK,tmod_lt_of_pos->aL,lt_irrefl->aW,eq_ofNat_of_zero_le->bA
open Array renaming mk->aC
open ByteArray renaming mk->aD
open Nat renaming blt->aF,ble->aO,succ_pos->aU
open List renaming forall_mem_cons->aM,range->aN,all_nil->aQ,length_set->aS,cons_append->aT,findSome?->aX,length_nil->aY,drop_eq_nil_of_le->bB,take_add_one->bC
open Go.Ovl.script_form renaming mk->bD
namespace Go.Ovl
open Go Go.Ab
variable{f:Nat}{α:Type}
def Af{n:Int}(h:-9223372036854775808≤n)(h':n<9223372036854775808):J.wrap n=n:=by rw[IntKind.wrap_i64];omega
def Db{i:Int}{n:Nat}(h:0≤i)(h':i<n):inB i n=E:=by simp[inB];omega
def ED{a b:Nat}(h:a≤b):aO a b=E:=Nat.ble_eq.symm▸h
def toList_data(s:ByteArray):s.toList=s.data.toList:=ByteArray.toList_eq s
def Acw{a b:ByteArray}:eqB a b=E↔a=b:=by
 constructor
 ·intro h;simp[eqB,toList_data]at h;exact ByteArray.ext h
 ·rintro rfl;simp[eqB]
def Ank(a:ByteArray):eqB a a=E:=Acw.2 rfl
def VR [BEq α][LawfulBEq α]{a b:α}(h:¬a=b):(a !=b)=E:=by simpa using h
def Iw [BEq α][LawfulBEq α]{a b:α}(h:¬a=b):(a==b)=B:=by simpa using h
section
variable{X Y:Type}{step:X→Option (Sum X Y)}
def Ap{x x':X}(h:step x=A (.inl x')):aB step (f+1) x=aB step f x':=by simp only[aB,h,Mc]
def Az{x:X}{y:Y}(h:step x=A (.inr y)):aB step (f+1) x=A y:=by simp only[aB,h,Mc]
def XX:∀{f:Nat}{x:X}{y:Y},aB step f x=A y→∀{g:Nat},f≤g→aB step g x=A y
 |0,_,_,h,_,_=>by simp[aB]at h
 |f+1,x,y,h,0,hg=>by omega
 |f+1,x,y,h,g+1,hg=>by
  simp only[aB]at h⊢;cases hs:step x with
  |none=>rw[hs]at h;simp[Mc]at h
  |some z=>
   rw[hs]at h;cases z with
   |inl x'=>exact XX (f:=f) (g:=g) h ω
   |inr y'=>exact h
def Bo{x:X}{y:Y}(h:aB step f x=A y)(hf:f≤18446744073709551616):aB step BY x=A y:=XX h hf
def QW{S:Type}(h:Nat→S→S):Nat→Nat→S→S
 |0,_,s=>s
 |m+1,i,s=>QW h m (i+1) (h i s)
def Nj{S:Type}(N:Nat)(g:Nat→S→X)(h:Nat→S→S)(inv:Nat→S→Prop)(y:S→Y)(h1:∀i s,i<N→inv i s→step (g i s)=A (.inl (g (i+1) (h i s)))∧inv (i+1) (h i s))
  (h2:∀s,inv N s→step (g N s)=A (.inr (y s))):∀(m i:Nat) (s:S),i+m=N→inv i s→aB step (m+1) (g i s)=A (y (QW h m i s))∧inv N (QW h m i s)
 |0,i,s,hi,hs=>by
  have:i=N:=ω
  subst this;exact⟨Az (h2 s hs),hs⟩
 |m+1,i,s,hi,hs=>by obtain⟨q1,q2⟩:=h1 i s ω hs;rw[Ap q1];exact Nj N g h inv y h1 h2 m (i+1) (h i s) ω q2
end
end Go.Ovl
namespace Go.Ovl
open Go Go.Ab
def MP{i n:Nat}(h:i<n):decide ((i:Int)<(n:Int))=E:=q_ ω
def IC{i n:Nat}(h:i<n):inB (i:Int) n=E:=Db ω ω
def Nn(n:Nat):decide ((n:Int)<(n:Int))=B:=u_ (aW _)
def At{α β:Type}{o:Option α}{a:α}{f:α→Option β}{r:Option β}(h:o=A a)(h2:f a=r):aZ o f=r:=by subst h;exact h2
def GG{α:Type}{l:List α}{i:Nat}(d:α)(hi:i<l.length):l.drop i=l.getD i d::l.drop (i+1):=by rw[List.drop_eq_getElem_cons hi,m_,c_ hi];rfl
def Aas{X Y:Type}{step:X→Option (Sum X Y)}(N:Nat)(g:Nat→X)(y:Y)(h1:∀i,i<N→step (g i)=A (.inl (g (i+1))))(h2:step (g N)=A (.inr y)):∀m i:Nat,i+m=N→aB step (m+1) (g i)=A y
 |0,i,hi=>by obtain rfl:i=N:=ω;exact Az h2
 |m+1,i,hi=>(Ap (h1 i ω)).trans (Aas N g y h1 h2 m (i+1) ω)
def XW{X Y α:Type}{step:X→Option (Sum X Y)}(l:List α)(d:α)(p:α→Bool)(g:Nat→X)(y:Y)(z:α→Y)
  (h1:∀i,i<l.length→step (g i)=A (bif p (l.getD i d)then .inl (g (i+1))else .inr (z (l.getD i d)))) (h2:step (g l.length)=A (.inr y)) :
  ∀m i:Nat,i+m=l.length→aB step (m+1) (g i)=A (match(l.drop i).find? (λx=>!p x)with | none=>y | some x=>z x)
 |0,i,hi=>by obtain rfl:i=l.length:=ω;rw[b1_];exact Az h2
 |m+1,i,hi=>by
  have hlt:i<l.length:=ω;rw[GG d hlt];have h:=h1 i hlt;cases hp:p (l.getD i d)with
  |true=>rw[hp,R]at h;rw[Ap h,XW l d p g y z h1 h2 m (i+1) ω,List.find?_cons,hp];rfl
  |false=>rw[hp,O]at h;rw[Az h,List.find?_cons,hp];rfl
end Go.Ovl
namespace Go.Ovl
open Go Go.Ab
variable{n:Int}
abbrev Bs:=List UInt8
def Yq{c:UInt8}:∀{a:Bs},c∉a→Bt c a=[a]
 |[],_=>rfl
 |b::a,h=>by rw[Bt,show(b==c)=B from beq_eq_false_iff_ne.2 λe=>h (by rw[e];exact S_),O,Yq λe=>h (R_ _ e)]
def XG{c:UInt8}{r:Bs}:∀{a:Bs},c∉a→Bt c (a++c::r)=a::Bt c r
 |[],_=>by rw[b5_,Bt,N_,R]
 |b::a,h=>by rw[aT,Bt,show(b==c)=B from beq_eq_false_iff_ne.2 λe=>h (by rw[e];exact S_),O,XG λe=>h (R_ _ e)]
def Jf{c:UInt8}:∀{a:Bs},c∉a→BF c a=a
 |[],_=>rfl
 |b::a,h=>by rw[BF,show(b==c)=B from beq_eq_false_iff_ne.2 λe=>h (by rw[e];exact S_),O,Jf λe=>h (R_ _ e)]
def Yp{c:UInt8}:∀{ws:List Bs},ws≠[]→(∀w∈ws,c∉w)→Bt c (DG [c] ws)=ws
 |[],h,_=>absurd rfl h
 |[w],_,h=>Yq (h w S_)
 |w::v::r,_,h=>by rw[DG,C_,List.singleton_append,XG (h w S_),Yp (by simp) λx hx=>h x (R_ _ hx)]
def BE:List Bs→Bs
 |[]=>[]
 |l::r=>l++10::BE r
def WK:∀{ls:List Bs},(∀l∈ls,10∉l)→Bt 10 (BE ls)=ls++[[]]
 |[],_=>rfl
 |l::r,h=>by rw[BE,XG (h l S_),WK λx hx=>h x (R_ _ hx)];rfl
def Rh{c b:UInt8}:∀{ws:List Bs},b∈DG [c] ws→b=c∨∃w∈ws,b∈w
 |[w],h=>.inr ⟨w,S_,h⟩
 |w::v::r,h=>by
  rw[DG]at h;simp only[z_,Q_]at h;rcases h with(h | h) | h
  ·exact .inr ⟨w,S_,h⟩
  ·exact .inl h
  ·rcases Rh h with h | ⟨x,hx,h⟩
   ·exact .inl h
   ·exact .inr ⟨x,R_ _ hx,h⟩
def Dj(l:Bs):List Bs:=(Bt 32 (BF 35 l)).filter λw=>!w.isEmpty
def Acl{ws:List Bs}(h0:ws≠[])(h:∀w∈ws,w≠[]∧32∉w∧35∉w):Dj (DG [32] ws)=ws:=by
 have h35:35∉DG [32] ws:=λe=>by
  rcases Rh e with e | ⟨w,hw,e⟩
  ·exact absurd e (by decide)
  ·exact(h w hw).2.2 e
 rw[Dj,Jf h35,Yp h0 λw hw=>(h w hw).2.1];refine List.filter_eq_self.2 λw hw=>?_
 have:=(h w hw).1
 cases w with
 |nil=>exact absurd rfl this
 |cons _ _=>rfl
def AI(l:Bs):(H l).size=l.length:=List.size_toArray
def Ad7{a b:Bs}(h:H a=H b):a=b:=by
 have:(H a).data.toList=(H b).data.toList:=by rw[h]
 simpa[H]using this
def OU(a b:Bs):eqB (H a) (H b)=decide (a=b):=by
 by_cases h:a=b
 ·subst h;rw[q_ rfl];exact Ank _
 ·rw[u_ h];cases he:eqB (H a) (H b)with
  |false=>rfl
  |true=>exact absurd (Ad7 (Acw.1 he)) h
def CF(n:Int):Bs→Option Int
 |[]=>A n
 |b::r=>bif aF b.toNat 48||Nat.blt 57 b.toNat then Z else CF (10*n+(b.toNat-48:Int)) r
def Am(l:Bs):Option Int:=match l with
 |[]=>Z
 |b::r=>bif aF 5 r.length||(b==48&&aF 0 r.length)then Z else CF 0 (b::r)
def Aca(a b:Bs)(n:Int):CF n (a++b)=(CF n a).bind λm=>CF m b:=by
 induction a generalizing n with
 |nil=>rfl
 |cons x a ih=>
  rw[aT,CF,CF];cases aF x.toNat 48||Nat.blt 57 x.toNat with
  |true=>rfl
  |false=>exact ih _
def TB(d:Nat)(h:d<10):(UInt8.ofNat (48+d)).toNat=48+d:=by rw[UInt8.toNat_ofNat'];omega
def Uk(n:Int)(d:Nat)(h:d<10):CF n [UInt8.ofNat (48+d)]=A (10*n+d):=by rw[CF,TB d h,show aF (48+d) 48=B from Bool.eq_false_iff.2 λe=>by rw[c2_]at e;omega,show aF 57 (48+d)=B from Bool.eq_false_iff.2 λe=>by rw[c2_]at e;omega];show CF _ []=_;rw[CF];congr 1;omega
def MZ{a b:Nat}(h:b≤a):aF a b=B:=Bool.eq_false_iff.2 λe=>by rw[c2_]at e;omega
def FO{a b:Nat}(h:a<b):aF a b=E:=by rw[c2_];exact h
def ZT:∀(k u:Nat),u<10^k→0<k→CF 0 (HB k u)=A (u:Int)
 |0,_,_,h=>absurd h (by decide)
 |k+1,u,hu,_=>by
  rw[HB];by_cases h:u<10
  ·rw[FO h,R,Uk 0 u h];simp
  ·have hk:0<k:=by
    cases k with
    |zero=>simp at hu;omega
    |succ k=>exact aU k
   rw[MZ ω,O,Aca,ZT k (u/10) (by rw[Nat.pow_succ]at hu;omega) hk,V,Uk _ _ (Nat.mod_lt _ (by decide))];congr 1;omega
def QI:∀(j k u:Nat),u<10^(j+1)→(HB k u).length≤j+1
 |_,0,_,_=>K_ _
 |0,k+1,u,hu=>by rw[HB,FO (by simpa using hu),R];exact B_ _
 |j+1,k+1,u,hu=>by
  rw[HB];by_cases h:u<10
  ·rw[FO h,R];simp
  ·rw[MZ ω,O,f_]
   have:=QI j k (u/10) (by rw[Nat.pow_succ]at hu;omega)
   simp;omega
def ZS:∀(k u:Nat) {b:UInt8},b∈HB k u→48≤b.toNat∧b.toNat≤57
 |k+1,u,b,h=>by
  rw[HB]at h;by_cases hu:u<10
  ·rw[FO hu,R]at h;obtain rfl:=Q_.1 h;rw[TB u hu];omega
  ·rw[MZ ω,O]at h;rcases z_.1 h with h | h
   ·exact ZS k _ h
   ·obtain rfl:=Q_.1 h;rw[TB _ (Nat.mod_lt _ (by decide))];omega
def SF:∀(k u:Nat),u<10^k→0<k→∃b r,HB k u=b::r∧(b=48→u=0)
 |0,_,_,h=>absurd h (by decide)
 |k+1,u,hu,_=>by
  rw[HB];by_cases h:u<10
  ·rw[FO h,R];refine⟨_,_,rfl,λe=>?_⟩
   have:=y_ UInt8.toNat e
   rw[TB u h]at this;simpa using this
  ·have hk:0<k:=by
    cases k with
    |zero=>simp at hu;omega
    |succ k=>exact aU k
   rw[MZ ω,O];obtain⟨b,r,e,hb⟩:=SF k (u/10) (by rw[Nat.pow_succ]at hu;omega) hk;rw[e];exact⟨b,_,rfl,λe=>by have:=hb e;omega⟩
def Ak8{u:Nat}(h:u<1000000):Am (HB 20 u)=A (u:Int):=by
 obtain⟨b,r,e,hb⟩:=SF 20 u ω (by decide);have hv:=ZT 20 u ω (by decide);have hl:=QI 5 20 u ω;rw[e]at hv hl⊢;rw[p_]at hl;show(bif aF 5 r.length||(b==48&&aF 0 r.length)then Z else CF 0 (b::r))=_;rw[MZ ω,Bool.false_or];by_cases h48:b=48
 ·have hu:=hb h48;subst hu
  have:HB 20 0=[48]:=by decide
  rw[this]at e;obtain⟨rfl,rfl⟩:=List.cons.inj e;rfl
 ·rw[Iw h48,b8_,O,hv]
def Aat(u:Nat):CW (u:Int)=HB 20 u:=rfl
def Eu(h0:0≤n)(h:n<1000000):Am (CW n)=A n:=by
 obtain⟨u,rfl⟩:∃u:Nat,n=(u:Int):=⟨n.toNat,ω⟩
 rw[Aat,Ak8 ω]
def XY(h0:0≤n)(h:n<1000000):CW n≠[]∧(∀b∈CW n,48≤b.toNat∧b.toNat≤57)∧(CW n).length≤6:=by
 obtain⟨u,rfl⟩:∃u:Nat,n=(u:Int):=⟨n.toNat,ω⟩
 rw[Aat];obtain⟨b,r,e,_⟩:=SF 20 u ω (by decide);exact⟨by rw[e];simp,λb hb=>ZS 20 u hb,QI 5 20 u ω⟩
end Go.Ovl
namespace Go.Ovl
open Go Go.Ab
set_option maxRecDepth 100000
variable{c:Bool}{i:Nat}
def Sat{α:Type}(o:Option α)(P:α→Prop):Prop:=∃a,o=A a∧P a
section
variable{α β:Type}{P:α→Prop}{Q:β→Prop}
def Sat.ret{a:α}(h:P a):Sat (A a) P:=⟨a,rfl,h⟩
def Sat.bindE{o:Option β}{b:β}{f:β→Option α}(h:o=A b)(h2:Sat (f b) P):Sat (aZ o f) P:=by subst h;exact h2
def Sat.bindS{o:Option β}{f:β→Option α}(h:Sat o Q)(h2:∀b,Q b→Sat (f b) P):Sat (aZ o f) P:=by obtain⟨b,h,hq⟩:=h;subst h;exact h2 b hq
def Sat.bic{x y:Option α}(h1:c=E→Sat x P)(h2:c=B→Sat y P):Sat (bif c then x else y) P:=by
 cases c with
 |true=>exact h1 rfl
 |false=>exact h2 rfl
def Sat.bifT{x y:Option α}(h:c=E)(h1:Sat x P):Sat (bif c then x else y) P:=by subst h;exact h1
def Sat.bifF{x y:Option α}(h:c=B)(h1:Sat y P):Sat (bif c then x else y) P:=by subst h;exact h1
def Sat.eq{o:Option α}{a:α}(h:Sat o λx=>x=a):o=A a:=by obtain⟨_,h,rfl⟩:=h;exact h
end
def Sat.iterN{X Y:Type}{step:X→Option (Sum X Y)}(I:Nat→X→Prop)(P:Y→Prop)(hs:∀k x,I k x→Sat (step x) λr=>match r with | .inl x'=>∃k',k=k'+1∧I k' x' | .inr y=>P y):∀(k:Nat) (x:X),I k x→Sat (aB step (k+1) x) P
 |k,x,hi=>by
  obtain⟨r,h1,h2⟩:=hs k x hi
  match r,h1,h2 with
  | .inr y,h1,h2=>exact⟨y,Az h1,h2⟩
  | .inl x',h1,⟨k',hk,hi'⟩=>subst hk;rw[Ap h1];exact Sat.iterN I P hs k' x' hi'
def Sat.loop{X Y:Type}{step:X→Option (Sum X Y)}(I:Nat→X→Prop){P:Y→Prop}(hs:∀k x,I k x→Sat (step x) λr=>match r with | .inl x'=>∃k',k=k'+1∧I k' x' | .inr y=>P y)(k:Nat){x:X}(hi:I k x)(hk:k<18446744073709551616):Sat (aB step BY x) P:=by obtain⟨y,h1,h2⟩:=Sat.iterN I P hs k x hi;exact⟨y,Bo h1 ω,h2⟩
def Alq(n:Int):decide ((0:Int)≤IntKind.u64.wrap n)=E:=by simp only[aE,IntKind.signed,IntKind.bits];simp;exact Int.emod_nonneg _ (by decide)
class SatT {α:Type}(o:Option α):Prop where
 out:Sat o λ_=>True
section
variable{α β:Type}{P:α→Prop}
end
def As1{n:Int}(h:0≤n)(h':n<256):aH.wrap n=n:=by simp only[aE,IntKind.signed,IntKind.bits];simp;omega
def SB{l:Bs}(h:i<l.length):DE (H l) i=((l.getD i 0).toNat:Int):=by unfold DE H;simp[j_,m_]
def Aok(b:UInt8):decide (((b.toNat:Nat):Int)<48)=aF b.toNat 48:=by
 by_cases h:b.toNat<48
 ·rw[FO h];exact q_ ω
 ·rw[MZ ω];exact u_ ω
def Ayv(b:UInt8):decide ((57:Int)<((b.toNat:Nat):Int))=aF 57 b.toNat:=by
 by_cases h:57<b.toNat
 ·rw[FO h];exact q_ ω
 ·rw[MZ ω];exact u_ ω
noncomputable abbrev Bcy(x:(ByteArray×Int×Int×Int×Unit)×Unit):=Bu x.1.1 x.1.2.1 x.1.2.2.1 x.1.2.2.2.1
def Ut{l:Bs}(hl:l.length≤6):∀(m i:Nat) (n:Int),i+m=l.length→0≤n→n<10^i→
  aB Bcy (m+1) ((H l,n,(l.length:Int),(i:Int),()),())=A (match CF n (l.drop i)with | some k=>Sum.inl ((k,()),()) | none=>Sum.inr ((0,B,()),()))
 |0,i,n,hi,_,_=>by obtain rfl:i=l.length:=ω;rw[b1_];refine Az ?_;show Bu _ _ _ _=_;simp only[lp,Un.u,Bu,Nn,O];rfl
 |m+1,i,n,hi,h0,hn=>by
  have hlt:i<l.length:=ω;have h6:(10:Int)^i≤100000:=by
   have:i≤5:=ω
   rcases i with _ | _ | _ | _ | _ | _ | i
   all_goals first | decide | omega
  rw[GG 0 hlt,CF];generalize hb:l.getD i 0=b;have hby:DE (H l) i=(b.toNat:Int):=by rw[SB hlt,hb]
  have hin:inB (i:Int) (H l).size=E:=by rw[AI];exact IC hlt
  cases h1:aF b.toNat 48 with
  |true=>refine Az ?_;show Bu _ _ _ _=_;simp only[lp,Un.u,Bu,MP hlt,hin,R,D_,hby,Aok,h1,Bool.true_or]
  |false=>
   cases h2:aF 57 b.toNat with
   |true=>refine Az ?_;show Bu _ _ _ _=_;simp only[lp,Un.u,Bu,MP hlt,hin,R,O,D_,hby,Aok,Ayv,h1,h2,Bool.or_true]
   |false=>
    have hb1:¬b.toNat<48:=λe=>by rw[FO e]at h1;cases h1
    have hb2:¬57<b.toNat:=λe=>by rw[FO e]at h2;cases h2
    have hs:Bcy ((H l,n,(l.length:Int),(i:Int),()),())=A (.inl ((H l,10*n+(b.toNat-48:Int),(l.length:Int),((i+1:Nat):Int),()),())):=by show Bu _ _ _ _=_;simp only[lp,Un.u,Bu,MP hlt,hin,R,O,D_,hby,Aok,Ayv,h1,h2];rw[Af (n:=10*n) ω ω,As1 (n:=(b.toNat:Int)-48) ω ω,Af (n:=(b.toNat:Int)-48) ω ω,Af (n:=10*n+_) ω ω,Af (n:=(i:Int)+1) ω ω];rfl
    rw[Ap hs,Ut hl m (i+1) _ ω ω (by rw[Int.pow_succ];omega)];rfl
def Ak9(l:Bs):Ev (H l)=A (match Am l with | some n=>((n,E,()),()) | none=>((0,B,()),())):=by
 unfold Ev;rw[AI];cases l with
 |nil=>rfl
 |cons b r=>
  rw[u_ (show ¬(((b::r).length:Nat):Int)<1 by rw[p_];omega),O];rw[show Am (b::r)=bif aF 5 r.length||(b==48&&aF 0 r.length)then Z else CF 0 (b::r)from rfl];by_cases h6:5<r.length
  ·rw[q_ (show(6:Int)<(((b::r).length:Nat):Int)by rw[p_];omega),FO h6];rfl
  ·rw[u_ (show ¬(6:Int)<(((b::r).length:Nat):Int)by rw[p_];omega),O,MZ ω,Db ω (by rw[p_];omega),R,Bool.false_or];have hb:DE (H (b::r)) (aK 0)=(b.toNat:Int):=SB (l:=b::r) (i:=0) (by simp);rw[hb];have hl:EH ((H (b::r),0,(((b::r).length:Nat):Int),0,()),())=A (match CF 0 (b::r)with | some k=>.inl ((k,()),()) | none=>.inr ((0,B,()),())):=
    Bo (Ut (l:=b::r) (by rw[p_];omega) (b::r).length 0 0 ω (by decide) (by decide)) (by rw[p_];omega)
   have h48:(((b.toNat:Nat):Int)==48)=(b==48):=by
    by_cases h:b=48
    ·subst h;rfl
    ·rw[Iw h];exact Iw λe=>h (UInt8.toNat_inj.1 (by show b.toNat=48;omega))
   have fin:((EH ((H (b::r),0,(((b::r).length:Nat):Int),0,()),())).bind λy2=>(match y2 with | .inl y3=>A ((y3.1.1,E,()),()) | .inr y3=>A ((y3.1.1,y3.1.2.1,()),())))=A (match CF 0 (b::r)with | some n=>((n,E,()),()) | none=>((0,B,()),())):=by rw[hl,V];cases CF 0 (b::r)<;>rfl
   rw[h48];cases h:b==48 with
   |true=>
    cases r with
    |nil=>simp only[R,a6_];rw[u_ (show ¬(1:Int)<((([b]:Bs).length:Nat):Int)by simp)];simp only[V,O,AI,aY,MZ (B_ 0)];exact fin
    |cons c r=>simp only[R,a6_];rw[q_ (show(1:Int)<(((b::c::r).length:Nat):Int)by simp only[p_];omega),FO (show 0<(c::r).length by simp)];rfl
   |false=>simp only[O,b8_,V,AI];exact fin
abbrev Event.tup(e:U):Int×Int×Int×Int×Int×Unit:=(e.K0,e.D0,e.E0,e.R0,e.N,())
def Aac(w:Bs)(e:U):ET (H w) e.K0 e.D0 e.E0 e.R0 e.N=A (if w=[78]then .inr (.inr (.inr (((),()),(e.tup,()))))else if w=[70]then .inr (.inl (((),()),(e.tup,())))else if w=[67]then .inr (.inr (.inl (((),()),(e.tup,()))))else .inl (((),()),(e.tup,()))):=by
 unfold ET;rw[show aD (aC [78])=H [78]from rfl,show aD (aC [70])=H [70]from rfl,show aD (aC [67])=H [67]from rfl,OU,OU,OU];by_cases h1:w=[78]
 ·rw[q_ h1,if_pos h1];rfl
 ·rw[u_ h1,if_neg h1];by_cases h2:w=[70]
  ·rw[q_ h2,if_pos h2];rfl
  ·rw[u_ h2,if_neg h2];by_cases h3:w=[67]
   ·rw[q_ h3,if_pos h3];rfl
   ·rw[u_ h3,if_neg h3];rfl
def readL(e:U):List Bs→List Bs→Option U
 |f::fs,w::ws=>if f=[78]then(Am w).bind λn=>readL { e with N:=n } fs ws else if f=[70]then(Am w).bind λn=>readL { e with D0:=n } fs ws else if f=[67]then(Am w).bind λn=>readL { e with R0:=n } fs ws else if f=w then readL e fs ws else Z
 |_,_=>A e
noncomputable abbrev WF(x:((List ByteArray×Unit×Unit×List ByteArray×Int×Int×Unit)×((Int×Int×Int×Int×Int×Unit)×(Int×Int×Int×Int×Int×Unit)×Unit))):=DA x.1.1 x.1.2.2.2.1 x.1.2.2.2.2.1 x.1.2.2.2.2.2.1 x.2.1.1 x.2.1.2.1 x.2.1.2.2.1 x.2.1.2.2.2.1 x.2.1.2.2.2.2.1 x.2.2.1.1 x.2.2.1.2.1 x.2.2.1.2.2.1 x.2.2.1.2.2.2.1 x.2.2.1.2.2.2.2.1
def IA{l:List Bs}(h:i<l.length):(l.map H).getD i (aD (aC []))=H (l.getD i []):=by simp[m_,c_ h]
def Yj{fs ws:List Bs}(hl:fs.length=ws.length)(hs:fs.length≤1000)(b4:Int×Int×Int×Int×Int×Unit):∀(m i:Nat) (e:U),i+m=fs.length→
  Sat (aB WF (m+1) ((ws.map H,(),(),fs.map H,(fs.length:Int),(i:Int),()),(b4,e.tup,()))) λr=>match readL e (fs.drop i) (ws.drop i)with
   |some e'=>∃q,r=.inl (q,(b4,e'.tup,()))
   |none=>∃t,r=.inr (((),B,()),t)
 |0,i,e,hi=>by obtain rfl:i=fs.length:=ω;rw[b1_,show ws.drop fs.length=[]from bB ω,readL.eq_def];refine⟨_,Az (y:=.inl (((),(),()),(b4,e.tup,()))) ?_,_,rfl⟩;show DA _ _ _ _ _ _ _ _ _ _ _ _ _ _=_;simp only[lp,Un.u,DA,Nn,O]
 |m+1,i,e,hi=>by
  have hlt:i<fs.length:=ω;have hlw:i<ws.length:=ω;rw[GG ([]:Bs) hlt,GG ([]:Bs) hlw,readL];have g1:=IA hlt;have g2:=IA hlw;generalize fs.getD i []=f at g1⊢;generalize ws.getD i []=w at g2⊢;have hin1:inB (i:Int) (fs.map H).length=E:=by rw[F_];exact IC hlt
  have hin2:inB (i:Int) (ws.map H).length=E:=by rw[F_];exact IC hlw
  have hw:J.wrap ((i:Int)+1)=((i+1:Nat):Int):=Af ω ω;obtain⟨r0,hr0⟩:∃r0,WF ((ws.map H,(),(),fs.map H,(fs.length:Int),(i:Int),()),(b4,e.tup,()))=r0:=⟨_,rfl⟩;have hstep:=hr0;unfold WF DA at hstep;simp only[MP hlt,hin1,hin2,R,D_,g1,g2,Aac,Ak9,V,hw]at hstep;have go:∀e':U,WF ((ws.map H,(),(),fs.map H,(fs.length:Int),(i:Int),()),(b4,e.tup,()))=A (.inl ((ws.map H,(),(),fs.map H,(fs.length:Int),((i+1:Nat):Int),()),(b4,e'.tup,())))→
    Sat (aB WF (m+1+1) ((ws.map H,(),(),fs.map H,(fs.length:Int),(i:Int),()),(b4,e.tup,()))) λr=>match readL e' (fs.drop (i+1)) (ws.drop (i+1))with
     |some e'=>∃q,r=.inl (q,(b4,e'.tup,()))
     |none=>∃t,r=.inr (((),B,()),t):=λe' h=>by
   rw[Ap h];exact Yj hl hs b4 m (i+1) e' ω
  by_cases h1:f=[78]
  ·rw[if_pos h1];simp only[if_pos h1]at hstep;cases hn:Am w with
   |none=>rw[hn]at hstep;exact⟨_,Az (hr0.trans hstep.symm),_,rfl⟩
   |some n=>rw[hn]at hstep;exact go { e with N:=n } (hr0.trans hstep.symm)
  ·rw[if_neg h1];simp only[if_neg h1]at hstep;by_cases h2:f=[70]
   ·rw[if_pos h2];simp only[if_pos h2]at hstep;cases hn:Am w with
    |none=>rw[hn]at hstep;exact⟨_,Az (hr0.trans hstep.symm),_,rfl⟩
    |some n=>rw[hn]at hstep;exact go { e with D0:=n } (hr0.trans hstep.symm)
   ·rw[if_neg h2];simp only[if_neg h2]at hstep;by_cases h3:f=[67]
    ·rw[if_pos h3];simp only[if_pos h3]at hstep;cases hn:Am w with
     |none=>rw[hn]at hstep;exact⟨_,Az (hr0.trans hstep.symm),_,rfl⟩
     |some n=>rw[hn]at hstep;exact go { e with R0:=n } (hr0.trans hstep.symm)
    ·rw[if_neg h3];simp only[if_neg h3,OU]at hstep;by_cases h4:f=w
     ·rw[if_pos h4];rw[q_ h4]at hstep;exact go e (hr0.trans hstep.symm)
     ·rw[if_neg h4];rw[u_ h4]at hstep;exact⟨_,Az (hr0.trans hstep.symm),_,rfl⟩
def LO(f:List Bs)(e:U)(ws:List Bs):Option U:=if f.length=ws.length then readL e f ws else Z
def Acc{f:Bs}(hf:f.length≤100∧f.all (λb=>aF b.toNat 128)=E)(e:U){ws:List Bs}(hws:ws.length≤4294967296):Sat (De (H f) e.K0 e.D0 e.E0 e.R0 e.N (ws.map H)) λy=>match LO (Cu [] f) e ws with
  |some e'=>y=(((),E,()),(e'.tup,()))
  |none=>y.1.2.1=B:=by
 unfold De;have hfl:DW (H f)=A (((Cu [] f).map H,()),()):=by show(bif aF (H f).size 4294967281&&_ then _ else Z)=_;rw[AI,FO ω,show(H f).data.toList=f from rfl,hf.2];rfl
 refine Sat.bindE hfl ?_;have hlen:=QV f [];simp only[F_];unfold LO;by_cases hl:(Cu [] f).length=ws.length
 ·rw[if_pos hl,show((((Cu [] f).length:Nat):Int) !=(ws.length:Int))=B by rw[hl];simp];refine Sat.bifF rfl ?_;refine Sat.bindS (Q:=λr=>match readL e (Cu [] f) ws with
   |some e'=>∃q,r=.inl (q,((0,0,0,0,0,()),e'.tup,()))
   |none=>∃t,r=.inr (((),B,()),t)) ?_ λr hr=>?_
  ·obtain⟨r,h1,h2⟩:=Yj hl ω (0,0,0,0,0,()) (Cu [] f).length 0 e ω;exact⟨r,Bo h1 ω,h2⟩
  ·cases he:readL e (Cu [] f) ws with
   |some e'=>rw[he]at hr;obtain⟨q,rfl⟩:=hr;exact Sat.ret rfl
   |none=>rw[he]at hr;obtain⟨q,rfl⟩:=hr;exact Sat.ret rfl
 ·rw[if_neg hl,show((((Cu [] f).length:Nat):Int) !=(ws.length:Int))=E from VR ω];exact Sat.bifT rfl (Sat.ret rfl)
def formsB:List (Bs×U):=[([119,97,105,116,32,78],⟨1,0,0,0,0⟩),([112,114,101,115,115,32,70,32,117,112],⟨2,0,1,0,0⟩),([112,114,101,115,115,32,70,32,100,111,119,110],⟨2,0,2,0,0⟩),([99,97,114,32,67,32,70],⟨3,0,0,0,0⟩),
 ([108,111,97,100,32,67,32,78],⟨4,0,0,0,0⟩),([98,108,111,99,107,32,67,32,78],⟨5,0,0,0,0⟩),([98,97,100],⟨7,0,0,0,0⟩),([99,114,97,115,104,32,78],⟨8,0,0,0,0⟩),
 ([100,114,97,105,110,32,67],⟨6,0,0,0,1⟩),([99,97,110,99,101,108,32,67],⟨6,0,0,0,2⟩),([114,101,99,111,110,110,101,99,116,32,67],⟨6,0,0,0,3⟩),([99,111,109,109,105,115,115,105,111,110,32,67],⟨6,0,0,0,4⟩),
 ([97,98,111,114,116,32,67],⟨6,0,0,0,5⟩),([97,99,99,101,112,116,32,67],⟨6,0,0,0,6⟩),([108,101,97,118,101,32,67],⟨6,0,0,0,7⟩),([114,101,115,101,116,32,67],⟨6,0,0,0,8⟩)]
def AQ(p:Bs×U):script_form:=bD (H p.1) p.2.K0 p.2.D0 p.2.E0 p.2.R0 p.2.N
def formsF:List (List Bs×U):=[([[119,97,105,116],[78]],⟨1,0,0,0,0⟩),([[112,114,101,115,115],[70],[117,112]],⟨2,0,1,0,0⟩),([[112,114,101,115,115],[70],[100,111,119,110]],⟨2,0,2,0,0⟩),([[99,97,114],[67],[70]],⟨3,0,0,0,0⟩),
 ([[108,111,97,100],[67],[78]],⟨4,0,0,0,0⟩),([[98,108,111,99,107],[67],[78]],⟨5,0,0,0,0⟩),([[98,97,100]],⟨7,0,0,0,0⟩),([[99,114,97,115,104],[78]],⟨8,0,0,0,0⟩),
 ([[100,114,97,105,110],[67]],⟨6,0,0,0,1⟩),([[99,97,110,99,101,108],[67]],⟨6,0,0,0,2⟩),([[114,101,99,111,110,110,101,99,116],[67]],⟨6,0,0,0,3⟩),([[99,111,109,109,105,115,115,105,111,110],[67]],⟨6,0,0,0,4⟩),
 ([[97,98,111,114,116],[67]],⟨6,0,0,0,5⟩),([[97,99,99,101,112,116],[67]],⟨6,0,0,0,6⟩),([[108,101,97,118,101],[67]],⟨6,0,0,0,7⟩),([[114,101,115,101,116],[67]],⟨6,0,0,0,8⟩)]
def Aks:formsB.map (λp=>(Cu [] p.1,p.2))=formsF:=κ
def Aah:CD=A ((formsB.map AQ,()),()):=κ
def ZY(ws:List Bs):Option U:=formsF.findSome? λp=>LO p.1 p.2 ws
def UP(a:Bs):Int:=if a=[100,114,97,105,110]then 1 else if a=[99,97,110,99,101,108]then 2 else if a=[114,101,99,111,110,110,101,99,116]then 3 else if a=[99,111,109,109,105,115,115,105,111,110]then 4 else if a=[97,98,111,114,116]then 5 else if a=[97,99,99,101,112,116]then 6 else if a=[108,101,97,118,101]then 7 else if a=[114,101,115,101,116]then 8 else 0
def evR:List Bs→Option U
 |[a]=>if a=[98,97,100]then A ⟨7,0,0,0,0⟩else Z
 |[a,x]=>if a=[119,97,105,116]then(Am x).map λn=>⟨1,0,0,0,n⟩else if a=[99,114,97,115,104]then(Am x).map λn=>⟨8,0,0,0,n⟩else if UP a=0 then Z else(Am x).map λn=>⟨6,0,0,n,UP a⟩
 |[a,x,y]=>if a=[112,114,101,115,115]then(if y=[117,112]then(Am x).map λn=>⟨2,n,1,0,0⟩else if y=[100,111,119,110]then(Am x).map λn=>⟨2,n,2,0,0⟩else Z)
  else if a=[99,97,114]then(Am x).bind λn=>(Am y).map λm=>⟨3,m,0,n,0⟩else if a=[108,111,97,100]then(Am x).bind λn=>(Am y).map λm=>⟨4,0,0,n,m⟩else if a=[98,108,111,99,107]then(Am x).bind λn=>(Am y).map λm=>⟨5,0,0,n,m⟩else Z
 |_=>Z
def Bk{e:U}{f w:Bs}{fs ws:List Bs}(h:f≠[78]∧f≠[70]∧f≠[67]):readL e (f::fs) (w::ws)=if f=w then readL e fs ws else Z:=by rw[readL,if_neg h.1,if_neg h.2.1,if_neg h.2.2]
def Bel(a:Bs):evR [a]=if a=[98,97,100]then A ⟨7,0,0,0,0⟩else Z:=rfl
def YT(a x:Bs):evR [a,x]=if a=[119,97,105,116]then(Am x).map λn=>⟨1,0,0,0,n⟩else if a=[99,114,97,115,104]then(Am x).map λn=>⟨8,0,0,0,n⟩else if UP a=0 then Z else(Am x).map λn=>⟨6,0,0,n,UP a⟩:=rfl
def TF(a x y:Bs):evR [a,x,y]=if a=[112,114,101,115,115]then(if y=[117,112]then(Am x).map λn=>⟨2,n,1,0,0⟩else if y=[100,111,119,110]then(Am x).map λn=>⟨2,n,2,0,0⟩else Z)
  else if a=[99,97,114]then(Am x).bind λn=>(Am y).map λm=>⟨3,m,0,n,0⟩else if a=[108,111,97,100]then(Am x).bind λn=>(Am y).map λm=>⟨4,0,0,n,m⟩else if a=[98,108,111,99,107]then(Am x).bind λn=>(Am y).map λm=>⟨5,0,0,n,m⟩else Z:=rfl
def TJ(k:U)(w:Bs)(fs ws:List Bs):readL k ([78]::fs) (w::ws)=(Am w).bind λn=>readL { k with N:=n } fs ws:=by rw[readL,if_pos rfl]
def XF(k:U)(w:Bs)(fs ws:List Bs):readL k ([70]::fs) (w::ws)=(Am w).bind λn=>readL { k with D0:=n } fs ws:=by rw[readL,if_neg (by decide),if_pos rfl]
def GJ(k:U)(w:Bs)(fs ws:List Bs):readL k ([67]::fs) (w::ws)=(Am w).bind λn=>readL { k with R0:=n } fs ws:=by rw[readL,if_neg (by decide),if_neg (by decide),if_pos rfl]
def Nz(k:U):readL k [] []=A k:=by rw[readL.eq_def]
def Akk(ws:List Bs):ZY ws=evR ws:=by
 unfold ZY formsF
 match ws with
 |[]=>rfl
 |[a]=>
  have w:readL ⟨7,0,0,0,0⟩ [[98,97,100]] [a]=if [98,97,100]=a then A ⟨7,0,0,0,0⟩else Z:=by rw[Bk (by decide),Nz]
  simp only[aX,LO,p_,aY,Nat.reduceAdd,Nat.reduceEqDiff,if_false,if_true,w,Bel];by_cases h:a=[98,97,100]
  ·rw[if_pos h,if_pos h.symm]
  ·rw[if_neg h,if_neg (Z_ h)]
 |[a,x]=>
  have w0:readL ⟨1,0,0,0,0⟩ [[119,97,105,116],[78]] [a,x]=if [119,97,105,116]=a then(Am x).map λn=>⟨1,0,0,0,n⟩else Z:=by rw[Bk (by decide),TJ];cases Am x<;>rfl
  have w1:readL ⟨8,0,0,0,0⟩ [[99,114,97,115,104],[78]] [a,x]=if [99,114,97,115,104]=a then(Am x).map λn=>⟨8,0,0,0,n⟩else Z:=by rw[Bk (by decide),TJ];cases Am x<;>rfl
  have w2:readL ⟨6,0,0,0,1⟩ [[100,114,97,105,110],[67]] [a,x]=if [100,114,97,105,110]=a then(Am x).map λn=>⟨6,0,0,n,1⟩else Z:=by rw[Bk (by decide),GJ];cases Am x<;>rfl
  have w3:readL ⟨6,0,0,0,2⟩ [[99,97,110,99,101,108],[67]] [a,x]=if [99,97,110,99,101,108]=a then(Am x).map λn=>⟨6,0,0,n,2⟩else Z:=by rw[Bk (by decide),GJ];cases Am x<;>rfl
  have w4:readL ⟨6,0,0,0,3⟩ [[114,101,99,111,110,110,101,99,116],[67]] [a,x]=if [114,101,99,111,110,110,101,99,116]=a then(Am x).map λn=>⟨6,0,0,n,3⟩else Z:=by rw[Bk (by decide),GJ];cases Am x<;>rfl
  have w5:readL ⟨6,0,0,0,4⟩ [[99,111,109,109,105,115,115,105,111,110],[67]] [a,x]=if [99,111,109,109,105,115,115,105,111,110]=a then(Am x).map λn=>⟨6,0,0,n,4⟩else Z:=by rw[Bk (by decide),GJ];cases Am x<;>rfl
  have w6:readL ⟨6,0,0,0,5⟩ [[97,98,111,114,116],[67]] [a,x]=if [97,98,111,114,116]=a then(Am x).map λn=>⟨6,0,0,n,5⟩else Z:=by rw[Bk (by decide),GJ];cases Am x<;>rfl
  have w7:readL ⟨6,0,0,0,6⟩ [[97,99,99,101,112,116],[67]] [a,x]=if [97,99,99,101,112,116]=a then(Am x).map λn=>⟨6,0,0,n,6⟩else Z:=by rw[Bk (by decide),GJ];cases Am x<;>rfl
  have w8:readL ⟨6,0,0,0,7⟩ [[108,101,97,118,101],[67]] [a,x]=if [108,101,97,118,101]=a then(Am x).map λn=>⟨6,0,0,n,7⟩else Z:=by rw[Bk (by decide),GJ];cases Am x<;>rfl
  have w9:readL ⟨6,0,0,0,8⟩ [[114,101,115,101,116],[67]] [a,x]=if [114,101,115,101,116]=a then(Am x).map λn=>⟨6,0,0,n,8⟩else Z:=by rw[Bk (by decide),GJ];cases Am x<;>rfl
  simp only[aX,LO,p_,aY,Nat.reduceAdd,Nat.reduceEqDiff,if_false,if_true,w0,w1,w2,w3,w4,w5,w6,w7,w8,w9,YT];by_cases h0:a=[119,97,105,116]
  ·subst h0;cases Am x<;>rfl
  by_cases h1:a=[99,114,97,115,104]
  ·subst h1;cases Am x<;>rfl
  by_cases h2:a=[100,114,97,105,110]
  ·subst h2;cases Am x<;>rfl
  by_cases h3:a=[99,97,110,99,101,108]
  ·subst h3;cases Am x<;>rfl
  by_cases h4:a=[114,101,99,111,110,110,101,99,116]
  ·subst h4;cases Am x<;>rfl
  by_cases h5:a=[99,111,109,109,105,115,115,105,111,110]
  ·subst h5;cases Am x<;>rfl
  by_cases h6:a=[97,98,111,114,116]
  ·subst h6;cases Am x<;>rfl
  by_cases h7:a=[97,99,99,101,112,116]
  ·subst h7;cases Am x<;>rfl
  by_cases h8:a=[108,101,97,118,101]
  ·subst h8;cases Am x<;>rfl
  by_cases h9:a=[114,101,115,101,116]
  ·subst h9;cases Am x<;>rfl
  simp only[UP,if_neg h0,if_neg (Z_ h0),if_neg h1,if_neg (Z_ h1),if_neg h2,if_neg (Z_ h2),if_neg h3,if_neg (Z_ h3),if_neg h4,if_neg (Z_ h4),if_neg h5,if_neg (Z_ h5),if_neg h6,if_neg (Z_ h6),if_neg h7,if_neg (Z_ h7),if_neg h8,if_neg (Z_ h8),if_neg h9,if_neg (Z_ h9),if_true]
 |[a,x,y]=>
  have w0:readL ⟨2,0,1,0,0⟩ [[112,114,101,115,115],[70],[117,112]] [a,x,y]=if [112,114,101,115,115]=a then(if [117,112]=y then(Am x).map λn=>⟨2,n,1,0,0⟩else Z)else Z:=by
   rw[Bk (by decide),XF];simp only[Bk (f:=[117,112]) (by decide),Nz];split
   ·by_cases hy:[117,112]=y
    ·simp only[if_pos hy];cases Am x<;>rfl
    ·simp only[if_neg hy];cases Am x<;>rfl
   ·rfl
  have w1:readL ⟨2,0,2,0,0⟩ [[112,114,101,115,115],[70],[100,111,119,110]] [a,x,y]=if [112,114,101,115,115]=a then(if [100,111,119,110]=y then(Am x).map λn=>⟨2,n,2,0,0⟩else Z)else Z:=by
   rw[Bk (by decide),XF];simp only[Bk (f:=[100,111,119,110]) (by decide),Nz];split
   ·by_cases hy:[100,111,119,110]=y
    ·simp only[if_pos hy];cases Am x<;>rfl
    ·simp only[if_neg hy];cases Am x<;>rfl
   ·rfl
  have w2:readL ⟨3,0,0,0,0⟩ [[99,97,114],[67],[70]] [a,x,y]=if [99,97,114]=a then((Am x).bind λn=>(Am y).map λm=>⟨3,m,0,n,0⟩)else Z:=by rw[Bk (by decide),GJ];simp only[XF,Nz];cases Am x<;>cases Am y<;>rfl
  have w3:readL ⟨4,0,0,0,0⟩ [[108,111,97,100],[67],[78]] [a,x,y]=if [108,111,97,100]=a then((Am x).bind λn=>(Am y).map λm=>⟨4,0,0,n,m⟩)else Z:=by rw[Bk (by decide),GJ];simp only[TJ,Nz];cases Am x<;>cases Am y<;>rfl
  have w4:readL ⟨5,0,0,0,0⟩ [[98,108,111,99,107],[67],[78]] [a,x,y]=if [98,108,111,99,107]=a then((Am x).bind λn=>(Am y).map λm=>⟨5,0,0,n,m⟩)else Z:=by rw[Bk (by decide),GJ];simp only[TJ,Nz];cases Am x<;>cases Am y<;>rfl
  simp only[aX,LO,p_,aY,Nat.reduceAdd,Nat.reduceEqDiff,if_false,if_true,w0,w1,w2,w3,w4,TF];by_cases h1:a=[112,114,101,115,115]
  ·subst h1;by_cases h2:y=[117,112]
   ·subst h2;cases Am x<;>rfl
   ·by_cases h3:y=[100,111,119,110]
    ·subst h3;cases Am x<;>rfl
    ·rw[if_neg h2,if_neg h3,if_neg (Z_ h2),if_neg (Z_ h3)];rfl
  by_cases h4:a=[99,97,114]
  ·subst h4;cases Am x<;>cases Am y<;>rfl
  by_cases h5:a=[108,111,97,100]
  ·subst h5;cases Am x<;>cases Am y<;>rfl
  by_cases h6:a=[98,108,111,99,107]
  ·subst h6;cases Am x<;>cases Am y<;>rfl
  simp only[if_neg h1,if_neg (Z_ h1),if_neg h4,if_neg (Z_ h4),if_neg h5,if_neg (Z_ h5),if_neg h6,if_neg (Z_ h6)]
 |_::_::_::_::_=>simp[aX,LO,evR]
structure Bldg where
 A0:Int
 B0:Int
 O0:Int
 J0:Int
 I0:Nat
 M0:Nat
 L0:Nat
 C0:List Car
def OT{α:Type}{l:List α}(d:α)(h:i<l.length):l.drop i=l.getD i d::l.drop (i+1):=by rw[List.drop_eq_getElem_cons h];simp[h]
def inR(lo hi n:Int):Bool:=decide (lo≤n)&&decide (n≤hi)
def Dh{lo hi n:Int}:inR lo hi n=E↔lo≤n∧n≤hi:=by simp[inR]
def Ba(lo hi:Int){l:List Int}(hl:l.length≤maxLen):AR lo hi l=A ((l.all (inR lo hi),()),()):=by
 have hm:maxLen≤9223372036854775807:=by decide
 have key:∀(m i:Nat),i+m=l.length→aB (λx=>AY x.1.1 x.1.2.1 x.1.2.2.1 x.1.2.2.2.1 x.1.2.2.2.2.1) (m+1) ((lo,hi,l,(l.length:Int),(i:Int),()),())=A (if(l.drop i).all (inR lo hi)then .inl ((),())else .inr ((B,()),())):=by
  intro m;induction m with
  |zero=>
   intro i hi';refine Az ?_;show AY lo hi l (l.length:Int) (i:Int)=_;unfold AY;have e:decide ((i:Int)<(l.length:Int))=B:=by simp;omega
   rw[e,show i=l.length by omega];simp
  |succ m ih=>
   intro i hi';have e:decide ((i:Int)<(l.length:Int))=E:=by simp;omega
   have ib:inB (i:Int) l.length=E:=Db ω ω;have tn:aK (i:Int)=i:=ω;have w:J.wrap ((i:Int)+1)=((i+1:Nat):Int):=by rw[Af ω ω];omega
   rw[OT (0:Int) (ω:i<l.length)];by_cases h1:l.getD i 0<lo
   ·refine(Az (y:=.inr ((B,()),())) ?_).trans ?_
    ·show AY lo hi l (l.length:Int) (i:Int)=_;unfold AY;have d1:decide (l.getD i 0<lo)=E:=by simpa using h1
     simp only[e,ib,tn,d1,R]
    ·have:inR lo hi (l.getD i 0)=B:=by rw[inR,show decide (lo≤l.getD i 0)=B from u_ ω,b8_]
     rw[M_,this];rfl
   ·have d1:decide (l.getD i 0<lo)=B:=by simpa using h1
    by_cases h2:hi<l.getD i 0
    ·refine(Az (y:=.inr ((B,()),())) ?_).trans ?_
     ·show AY lo hi l (l.length:Int) (i:Int)=_;unfold AY;have d2:decide (hi<l.getD i 0)=E:=by simpa using h2
      simp only[e,ib,tn,d1,d2,R,O]
     ·have:inR lo hi (l.getD i 0)=B:=by rw[inR,show decide (l.getD i 0≤hi)=B from u_ ω,aV]
      rw[M_,this];rfl
    ·have d2:decide (hi<l.getD i 0)=B:=by simpa using h2
     refine(Ap (x':=((lo,hi,l,(l.length:Int),((i+1:Nat):Int),()),())) ?_).trans ?_
     ·show AY lo hi l (l.length:Int) (i:Int)=_;unfold AY;simp only[e,ib,tn,d1,d2,w,R,O]
     ·have:inR lo hi (l.getD i 0)=E:=Dh.2 ⟨ω,ω⟩
      rw[ih (i+1) ω,M_,this];rfl
 unfold AR;have h0:Fp ((lo,hi,l,(l.length:Int),(0:Int),()),())=_:=Bo (key l.length 0 ω) ω;rw[h0];rw[b7_];cases l.all (inR lo hi)<;>rfl
def LD(n lo hi:Int):FU n lo hi=A ((inR lo hi n,()),()):=by unfold FU inR;cases h:decide (lo≤n)<;>simp
def Bp(fl:Int)(c:Car):Bool:=[c.F0,c.S0,c.U0,c.W0,c.H0,c.G0,c.T0].all (inR 1 10000)&&(inR 0 10000 c.N0&&(decide (c.G0≤c.T0)&&inR 0 (aE J (fl-1)) c.E1))
def RW(fl:Int)(c:Car):GW c.F0 c.S0 c.U0 c.N0 c.W0 c.H0 c.G0 c.T0 c.E1 fl=A ((Bp fl c,()),()):=by
 have hm:7≤maxLen:=by decide
 unfold GW Bp;rw[Ba 1 10000 (l:=[c.F0,c.S0,c.U0,c.W0,c.H0,c.G0,c.T0]) (by simpa using hm)];generalize [c.F0,c.S0,c.U0,c.W0,c.H0,c.G0,c.T0].all (inR 1 10000)=a;rw[Ba 0 10000 (l:=[c.N0]) (by simp;omega),Ba 0 _ (l:=[c.E1]) (by simp;omega)];simp only[V,M_,aQ,aP];cases a
 ·rfl
 ·cases inR 0 10000 c.N0
  ·rfl
  ·by_cases h:c.G0≤c.T0
   ·have:decide (c.G0≤c.T0)=E:=by simpa using h
    simp only[this,R,V,a6_]
   ·have:decide (c.G0≤c.T0)=B:=by simpa using h
    simp only[this,R,O,V,a6_,b8_]
def Bldg.tup(b:Bldg):Int×Int×Int×Int×Nat×Nat×Nat×List Car×Unit:=(b.A0,b.B0,b.O0,b.J0,b.I0,b.M0,b.L0,b.C0,())
def Car.tup(c:Car):Int×Int×Int×Int×Int×Int×Int×Int×Int×Unit:=(c.F0,c.S0,c.U0,c.N0,c.W0,c.H0,c.G0,c.T0,c.E1,())
def XB(b:Bldg)(c:Car){L:List Int}(hL:L.length=8) :
  Jm (((),(),L,(0:Int),()),(b.tup,c.tup,()))=A (if(L.take 7).all (inR 1 10000)then .inl (((),(),()),(b.tup,c.tup,()))else .inr ((B,()),())):=by
 have key:∀(m i:Nat),i+m=7→aB (λx=>letI a:=x.2.2.1.2.2;letI d:=x.2.1.2.2;letI f:=a.2.2;letI g:=d.2.2;DI x.1.2.2.1 x.1.2.2.2.1 x.2.1.1 x.2.1.2.1 d.1 d.2.1 g.1 g.2.1 g.2.2.1 g.2.2.2.1 x.2.2.1.1 x.2.2.1.2.1 a.1 a.2.1 f.1 f.2.1 f.2.2.1 f.2.2.2.1 f.2.2.2.2.1) (m+1) (((),(),L,(i:Int),()),(b.tup,c.tup,()))=A (if((L.take 7).drop i).all (inR 1 10000)then .inl (((),(),()),(b.tup,c.tup,()))else .inr ((B,()),())):=by
  intro m;induction m with
  |zero=>
   intro i hi';refine Az ?_;show DI L (i:Int) b.A0 b.B0 b.O0 b.J0 b.I0 b.M0 b.L0 b.C0 c.F0 c.S0 c.U0 c.N0 c.W0 c.H0 c.G0 c.T0 c.E1=_;unfold DI;have e:decide ((i:Int)<7)=B:=by simp;omega
   have hd:(L.take 7).drop i=[]:=bB (by simp;omega);rw[e,hd];rfl
  |succ m ih=>
   intro i hi';have e:decide ((i:Int)<7)=E:=by simp;omega
   have ib:inB (i:Int) L.length=E:=Db ω ω;have tn:aK (i:Int)=i:=ω;have w:J.wrap ((i:Int)+1)=((i+1:Nat):Int):=by rw[Af ω ω];omega
   have hg:(L.take 7).getD i 0=L.getD i 0:=by simp only[m_,List.getElem?_take];rw[if_pos ω]
   rw[OT (0:Int) (show i<(L.take 7).length by simp;omega),hg,M_];cases hr:inR 1 10000 (L.getD i 0)with
   |false=>refine(Az (y:=.inr ((B,()),())) ?_).trans rfl;show DI L (i:Int) b.A0 b.B0 b.O0 b.J0 b.I0 b.M0 b.L0 b.C0 c.F0 c.S0 c.U0 c.N0 c.W0 c.H0 c.G0 c.T0 c.E1=_;unfold DI;simp only[e,ib,tn,LD,hr,R,V,Bool.not_false]
   |true=>
    refine(Ap (x':=(((),(),L,((i+1:Nat):Int),()),(b.tup,c.tup,()))) ?_).trans ?_
    ·show DI L (i:Int) b.A0 b.B0 b.O0 b.J0 b.I0 b.M0 b.L0 b.C0 c.F0 c.S0 c.U0 c.N0 c.W0 c.H0 c.G0 c.T0 c.E1=_;unfold DI;simp only[e,ib,tn,w,LD,hr,R,O,V,b2_];rfl
    ·rw[ih (i+1) ω,a6_]
 have h0:=key 7 0 rfl;rw[b7_]at h0;exact Bo h0 ω
def WY(b:Bldg)(c:Car):LE b.A0 b.B0 b.O0 b.J0 b.I0 b.M0 b.L0 b.C0 c.F0 c.S0 c.U0 c.N0 c.W0 c.H0 c.G0 c.T0 c.E1=A ((Bp b.A0 c,()),()):=by
 unfold LE Bp;by_cases h1:c.N0<0
 ·have d1:decide (c.N0<0)=E:=by simpa using h1
  have d2:inR 0 10000 c.N0=B:=by rw[inR,show decide (0≤c.N0)=B from u_ ω,b8_]
  rw[d1,R,d2,b8_,aV]
 ·have d1:decide (c.N0<0)=B:=by simpa using h1
  rw[d1,O];by_cases h2:10000<c.N0
  ·have d1:decide (10000<c.N0)=E:=by simpa using h2
   have d2:inR 0 10000 c.N0=B:=by rw[inR,show decide (c.N0≤10000)=B from u_ ω,aV]
   rw[d1,R,d2,b8_,aV]
  ·have d1:decide (10000<c.N0)=B:=by simpa using h2
   have d2:inR 0 10000 c.N0=E:=Dh.2 ⟨ω,ω⟩;rw[d1,O,d2,a6_];have hl:=XB b c (L:=[c.F0,c.S0,c.U0,c.W0,c.H0,c.G0,c.T0,J.wrap (c.N0+1)]) rfl;rw[show([c.F0,c.S0,c.U0,c.W0,c.H0,c.G0,c.T0,J.wrap (c.N0+1)].take 7)=[c.F0,c.S0,c.U0,c.W0,c.H0,c.G0,c.T0]from rfl]at hl;simp only[Bldg.tup,Car.tup]at hl;rw[hl];cases [c.F0,c.S0,c.U0,c.W0,c.H0,c.G0,c.T0].all (inR 1 10000)with
   |false=>rfl
   |true=>
    simp only[if_true,V,a6_,LD];by_cases h:c.G0≤c.T0
    ·have:decide (c.G0≤c.T0)=E:=by simpa using h
     simp only[this,R,V,a6_]
    ·have:decide (c.G0≤c.T0)=B:=by simpa using h
     simp only[this,O,V,b8_]
def Bldg.loadsOK(b:Bldg):Bool:=((Go.FloatKind.format Go.FloatKind.f64).order 0 b.I0==A Ordering.lt)&&(((Go.FloatKind.format Go.FloatKind.f64).order b.I0 b.M0==A Ordering.lt)&&(((Go.FloatKind.format Go.FloatKind.f64).order b.M0 b.L0==A Ordering.lt)&&((Go.FloatKind.format Go.FloatKind.f64).order b.L0 9218868437227405311==A Ordering.lt||(Go.FloatKind.format Go.FloatKind.f64).order b.L0 9218868437227405311==A Ordering.eq)))
def Bldg.code(b:Bldg):Int:=
 bif !inR 2 32 b.A0 then 10 else bif !inR 1 8 (b.C0.length:Int)then 11 else
 bif !(inR 1 16 b.B0&&inR 1 10000 b.J0&&b.C0.all (Bp b.A0))then 12 else bif !b.loadsOK then 13 else
 bif !inR (18*(b.C0.length:Int)+24) 65536 b.O0 then 14 else 0
def DN:Car:=⟨0,0,0,0,0,0,0,0,0⟩
def RZ(b:Bldg)(hl:b.C0.length≤8)(g:Bool) :
  FH (((),g,b.C0,(b.C0.length:Int),(0:Int),()),(b.tup,()))=A (((),g&&b.C0.all (Bp b.A0),()),(b.tup,())):=by
 have key:∀(m i:Nat) (g:Bool),i+m=b.C0.length→aB (λx=>letI a:=x.2.1.2.2;letI c:=a.2.2;Df x.1.2.1 x.1.2.2.1 x.1.2.2.2.1 x.1.2.2.2.2.1 x.2.1.1 x.2.1.2.1 a.1 a.2.1 c.1 c.2.1 c.2.2.1 c.2.2.2.1) (m+1) (((),g,b.C0,(b.C0.length:Int),(i:Int),()),(b.tup,()))=A (((),g&&(b.C0.drop i).all (Bp b.A0),()),(b.tup,())):=by
  intro m;induction m with
  |zero=>
   intro i g hi';refine Az ?_;show Df g b.C0 (b.C0.length:Int) (i:Int) b.A0 b.B0 b.O0 b.J0 b.I0 b.M0 b.L0 b.C0=_;unfold Df;have e:decide ((i:Int)<(b.C0.length:Int))=B:=by simp;omega
   rw[e,show i=b.C0.length by omega,b1_];simp only[O,aQ,aP,Bldg.tup]
  |succ m ih=>
   intro i g hi';have e:decide ((i:Int)<(b.C0.length:Int))=E:=by simp;omega
   have ib:inB (i:Int) b.C0.length=E:=Db ω ω;have tn:aK (i:Int)=i:=ω;have w:J.wrap ((i:Int)+1)=((i+1:Nat):Int):=by rw[Af ω ω];omega
   rw[OT DN (ω:i<b.C0.length),M_];refine(Ap (x':=(((),g&&Bp b.A0 (b.C0.getD i DN),b.C0,(b.C0.length:Int),((i+1:Nat):Int),()),(b.tup,()))) ?_).trans ?_
   ·show Df g b.C0 (b.C0.length:Int) (i:Int) b.A0 b.B0 b.O0 b.J0 b.I0 b.M0 b.L0 b.C0=_;unfold Df;simp only[e,ib,tn,R];rw[RW b.A0 (b.C0.getD i ⟨0,0,0,0,0,0,0,0,0⟩)];cases g
    ·simp only[O,V,b8_,w];rfl
    ·simp only[R,V,a6_,w];rfl
   ·rw[ih (i+1) _ ω,Bool.and_assoc]
 have h0:=key b.C0.length 0 g ω;rw[b7_]at h0;exact Bo h0 ω
def XA(b:Bldg)(hl:b.C0.length≤8)(g:Bool) :
  Jl (((),g,(0:Int),()),(b.tup,()))=A (((),g&&b.C0.all (Bp b.A0),()),(b.tup,())):=by
 have key:∀(m i:Nat) (g:Bool),i+m=b.C0.length→aB (λx=>letI a:=x.2.1.2.2;letI c:=a.2.2;Fy x.1.2.1 x.1.2.2.1 x.2.1.1 x.2.1.2.1 a.1 a.2.1 c.1 c.2.1 c.2.2.1 c.2.2.2.1) (m+1) (((),g,(i:Int),()),(b.tup,()))=A (((),g&&(b.C0.drop i).all (Bp b.A0),()),(b.tup,())):=by
  intro m;induction m with
  |zero=>
   intro i g hi';refine Az ?_;show Fy g (i:Int) b.A0 b.B0 b.O0 b.J0 b.I0 b.M0 b.L0 b.C0=_;unfold Fy;have e:decide ((i:Int)<(b.C0.length:Int))=B:=by simp;omega
   rw[e,show i=b.C0.length by omega,b1_];simp only[O,aQ,aP,Bldg.tup]
  |succ m ih=>
   intro i g hi';have e:decide ((i:Int)<(b.C0.length:Int))=E:=by simp;omega
   have ib:inB (i:Int) b.C0.length=E:=Db ω ω;have tn:aK (i:Int)=i:=ω;have w:J.wrap ((i:Int)+1)=((i+1:Nat):Int):=by rw[Af ω ω];omega
   rw[OT DN (ω:i<b.C0.length),M_];refine(Ap (x':=(((),g&&Bp b.A0 (b.C0.getD i DN),((i+1:Nat):Int),()),(b.tup,()))) ?_).trans ?_
   ·show Fy g (i:Int) b.A0 b.B0 b.O0 b.J0 b.I0 b.M0 b.L0 b.C0=_;unfold Fy;simp only[e,ib,tn,R];rw[WY b (b.C0.getD i ⟨0,0,0,0,0,0,0,0,0⟩)];cases g
    ·simp only[O,V,b8_,w];rfl
    ·simp only[R,V,a6_,w];rfl
   ·rw[ih (i+1) _ ω,Bool.and_assoc]
 have h0:=key b.C0.length 0 g ω;rw[b7_]at h0;exact Bo h0 ω
def RV(b:Bldg):GV b.A0 b.B0 b.O0 b.J0 b.I0 b.M0 b.L0 b.C0=A ((b.loadsOK,()),()):=by
 unfold GV Bldg.loadsOK;cases(Go.FloatKind.format Go.FloatKind.f64).order 0 b.I0==A Ordering.lt
 ·rfl
 cases(Go.FloatKind.format Go.FloatKind.f64).order b.I0 b.M0==A Ordering.lt
 ·rfl
 cases(Go.FloatKind.format Go.FloatKind.f64).order b.M0 b.L0==A Ordering.lt
 ·rfl
 rfl
def Hu(b:Bldg):Aj b.A0 b.B0 b.O0 b.J0 b.I0 b.M0 b.L0 b.C0=A ((b.code,()),()):=by
 have hm:8≤maxLen:=by decide
 unfold Aj Bldg.code;rw[Ba 2 32 (l:=[b.A0]) (by simp;omega),Ba 1 8 (l:=[(b.C0.length:Int)]) (by simp;omega),Ba 1 16 (l:=[b.B0]) (by simp;omega),Ba 1 10000 (l:=[b.J0]) (by simp;omega)];simp only[V,M_,aQ,aP];cases inR 2 32 b.A0
 ·rfl
 cases hc:inR 1 8 (b.C0.length:Int)
 ·rfl
 have hlen:b.C0.length≤8:=by have:=(Dh.1 hc).2;omega
 have hg:(bif inR 1 16 b.B0 then A (((),inR 1 10000 b.J0,()),(b.tup,()))else A (((),B,()),(b.tup,())))=A (((),inR 1 16 b.B0&&inR 1 10000 b.J0,()),(b.tup,())):=by cases inR 1 16 b.B0<;>rfl
 simp only[Bldg.tup]at hg;simp only[b2_,O,hg,V];have hl:=RZ b hlen (inR 1 16 b.B0&&inR 1 10000 b.J0);simp only[Bldg.tup]at hl;rw[hl,V];cases inR 1 16 b.B0&&inR 1 10000 b.J0&&b.C0.all (Bp b.A0)
 ·rfl
 simp only[b2_,O];rw[RV b,V];cases b.loadsOK
 ·rfl
 simp only[b2_,O];rw[show J.wrap (aE J (18*(b.C0.length:Int))+24)=18*(b.C0.length:Int)+24 by rw[Af (n:=18*(b.C0.length:Int)) ω ω,Af ω ω],
  Ba _ 65536 (l:=[b.O0]) (by simp;omega)]
 simp only[V,M_,aQ,aP];cases inR (18*(b.C0.length:Int)+24) 65536 b.O0<;>rfl
def PX(b:Bldg):IX b.A0 b.B0 b.O0 b.J0 b.I0 b.M0 b.L0 b.C0=A ((b.code,()),()):=by
 unfold IX Bldg.code;simp only[LD,V];cases inR 2 32 b.A0
 ·rfl
 cases hc:inR 1 8 (b.C0.length:Int)
 ·rfl
 have hlen:b.C0.length≤8:=by have:=(Dh.1 hc).2;omega
 have hg:(bif inR 1 16 b.B0 then A (((),inR 1 10000 b.J0,()),(b.tup,()))else A (((),B,()),(b.tup,())))=A (((),inR 1 16 b.B0&&inR 1 10000 b.J0,()),(b.tup,())):=by cases inR 1 16 b.B0<;>rfl
 simp only[Bldg.tup]at hg;simp only[b2_,O,hg,V];have hl:=XA b hlen (inR 1 16 b.B0&&inR 1 10000 b.J0);simp only[Bldg.tup]at hl;rw[hl,V];cases inR 1 16 b.B0&&inR 1 10000 b.J0&&b.C0.all (Bp b.A0)
 ·rfl
 simp only[b2_,O];unfold Bldg.loadsOK;cases(Go.FloatKind.format Go.FloatKind.f64).order 0 b.I0==A Ordering.lt
 ·rfl
 cases(Go.FloatKind.format Go.FloatKind.f64).order b.I0 b.M0==A Ordering.lt
 ·rfl
 cases(Go.FloatKind.format Go.FloatKind.f64).order b.M0 b.L0==A Ordering.lt
 ·rfl
 simp only[R,a6_];cases((Go.FloatKind.format Go.FloatKind.f64).order b.L0 9218868437227405311==A Ordering.lt||(Go.FloatKind.format Go.FloatKind.f64).order b.L0 9218868437227405311==A Ordering.eq)
 ·rfl
 simp only[b2_,O];rw[show J.wrap (aE J (18*(b.C0.length:Int))+24)=18*(b.C0.length:Int)+24 by rw[Af (n:=18*(b.C0.length:Int)) ω ω,Af ω ω]];cases inR (18*(b.C0.length:Int)+24) 65536 b.O0<;>rfl
def ER(fl i:Nat):Car:=⟨100,2,6,5,4,2,3,10,((i%fl:Nat):Int)⟩
def As(fl ca:Nat):Bldg:=⟨fl,1,4000,30,4591870180066957722,4605380978949069210,4607632778762754458,(aN ca).map (ER fl)⟩
def Bldg.none:Bldg:=⟨0,0,0,0,0,0,0,[]⟩
def Vw{fl ca:Nat}(h1:1≤fl)(h2:ca≤8):Kn fl ca=A (((),()),((As fl ca).tup,())):=by
 have key:∀(m i:Nat),i+m=ca→aB (λx=>letI a:=x.2.2.1.2.2;letI b:=x.2.1.2.2;letI d:=b.2.2;letI f:=a.2.2;EW x.1.1 x.1.2.1 x.1.2.2.2.2.1 x.2.1.1 x.2.1.2.1 b.1 b.2.1 d.1 d.2.1 d.2.2.1 d.2.2.2.1 x.2.2.1.1 x.2.2.1.2.1 a.1 a.2.1 f.1 f.2.1 f.2.2.1 f.2.2.2.1) (m+1) (((fl:Int),(ca:Int),(),(),(i:Int),()),(Bldg.none.tup,(As fl i).tup,()))=A (((),(),()),(Bldg.none.tup,(As fl ca).tup,())):=by
  intro m;induction m with
  |zero=>
   intro i hi';refine Az ?_;show EW (fl:Int) (ca:Int) (i:Int) Bldg.none.A0 Bldg.none.B0 Bldg.none.O0 Bldg.none.J0 Bldg.none.I0 Bldg.none.M0 Bldg.none.L0 Bldg.none.C0 (As fl i).A0 (As fl i).B0 (As fl i).O0 (As fl i).J0 (As fl i).I0 (As fl i).M0 (As fl i).L0 (As fl i).C0=_;unfold EW;have e:decide ((i:Int)<(ca:Int))=B:=by simp;omega
   rw[e,show i=ca by omega];rfl
  |succ m ih=>
   intro i hi';refine(Ap (x':=(((fl:Int),(ca:Int),(),(),((i+1:Nat):Int),()),(Bldg.none.tup,(As fl (i+1)).tup,()))) ?_).trans (ih (i+1) ω);show EW (fl:Int) (ca:Int) (i:Int) Bldg.none.A0 Bldg.none.B0 Bldg.none.O0 Bldg.none.J0 Bldg.none.I0 Bldg.none.M0 Bldg.none.L0 Bldg.none.C0 (As fl i).A0 (As fl i).B0 (As fl i).O0 (As fl i).J0 (As fl i).I0 (As fl i).M0 (As fl i).L0 (As fl i).C0=_;unfold EW;have e:decide ((i:Int)<(ca:Int))=E:=by simp;omega
   have w:J.wrap ((i:Int)+1)=((i+1:Nat):Int):=by rw[Af ω ω];omega
   have hz:((fl:Int) !=0)=E:=by simp;omega
   have hc:∀c:Car,aO ((As fl i).C0.length+[c].length) 2147483648=E:=λc=>ED (by simp[As];omega);have ht:aA (i:Int) (fl:Int)=((i%fl:Nat):Int):=by rw[Int.tmod_eq_emod_of_nonneg ω];norm_cast
   simp only[e,hz,hc,w,ht,R];have hs:(As fl (i+1)).C0=(As fl i).C0++[ER fl i]:=by simp[As,List.range_succ]
   simp only[Bldg.tup,hs];rfl
 unfold Kn;have h0:Gy (((fl:Int),(ca:Int),(),(),(0:Int),()),(Bldg.none.tup,(As fl 0).tup,()))=_:=Bo (key ca 0 ω) ω;rw[show Gy (((fl:Int),(ca:Int),(),(),(0:Int),()),(((0:Int),(0:Int),(0:Int),(0:Int),0,0,0,([]:List Car),()),((fl:Int),(1:Int),(4000:Int),(30:Int),4591870180066957722,4605380978949069210,4607632778762754458,([]:List Car),()),()))=_ from h0];rfl
end Go.Ovl
namespace Go.Ovl
open Go Go.Ab
variable{e:U}{b:Bldg}{α:Type}{i:Nat}{l:List α}
structure Bldg.small(b:Bldg):Prop where
 lo:2≤b.A0
 hi:b.A0≤8
def FZ(d:α)(hi:i<l.length):l.getD i d∈l:=by simp only[m_,c_ hi,Option.getD_some];exact b0_ hi
def Ans{P:α→Prop}(h:∀e∈l,P e){d:α}(hi:i<l.length):P (l.getD i d):=h _ (FZ d hi)
def FP(h:b.code=0):1≤b.C0.length∧b.C0.length≤8:=by
 unfold Bldg.code at h;cases h1:inR 1 8 (b.C0.length:Int)with
 |true=>have:=Dh.1 h1;omega
 |false=>rw[h1]at h;cases h2:inR 2 32 b.A0<;>rw[h2]at h<;>simp at h
structure Img where
 K5:List Int
 L5:List Bool
 M5:List Bool
 B5:List Entry
def QE(fl floor dir:Int):Bool:=(dir==1&&inR 0 (fl-2) floor)||(dir==2&&inR 1 (fl-1) floor)
def SA{fl:Int}(h:0≤fl∧fl<100)(floor dir:Int):Gk fl floor dir=A ((QE fl floor dir,()),()):=by
 have w1:J.wrap (fl-1)=fl-1:=Af ω ω;have w2:J.wrap (fl-2)=fl-2:=Af ω ω;have k:∀lo hi:Int,AR lo hi [floor]=A ((inR lo hi floor,()),()):=λlo hi=>by rw[Ba lo hi (show [floor].length≤maxLen from(show 1≤maxLen by decide))];simp
 unfold Gk QE;rw[w1,w2,k,k];cases dir==1<;>cases dir==2<;>cases inR 0 (fl-2) floor<;>rfl
def Qf(b:Bldg)(floor dir:Int):Bool:=b.code==0&&QE b.A0 floor dir
def Sy(hb:b.small)(floor dir:Int):CL b.A0 b.B0 b.O0 b.J0 b.I0 b.M0 b.L0 b.C0 floor dir=A ((Qf b floor dir,()),()):=by unfold CL Qf;rw[Hu,SA ⟨by have:=hb.lo;omega,by have:=hb.hi;omega⟩];simp only[V];cases b.code==0<;>rfl
section
variable{b:Bldg}(hb:b.small)(m:Img)
include hb
end
def BB(n lo hi:Int):Bool:=decide (lo≤n)&&decide (n≤hi)
def Als(n lo hi:Int):Ew n lo hi=A ((BB n lo hi,()),()):=by unfold Ew BB;cases decide (lo≤n)<;>rfl
def BI(b:Bldg)(e:U):Bool:=
 let car:=BB e.R0 0 ((b.C0.length:Int)-1)
 let plain:=e.D0==0&&e.E0==0
 bif e.K0==1 then plain&&(e.R0==0&&BB e.N 1 5000)else
 bif e.K0==2 then Qf b e.D0 e.E0&&(e.R0==0&&e.N==0)else
 bif e.K0==3 then car&&(BB e.D0 0 (b.A0-1)&&(e.E0==0&&e.N==0))else
 bif e.K0==4 then plain&&(car&&BB e.N 0 1000)else
 bif e.K0==5 then plain&&(car&&BB e.N 0 10000)else
 bif e.K0==6 then plain&&(car&&BB e.N 1 8)else
 bif e.K0==7 then plain&&(e.R0==0&&e.N==0)else
 bif e.K0==8 then plain&&(e.R0==0&&BB e.N 0 100000)else B
def Abp(hb:b.small)(hc:b.C0.length≤1000)(e:U):EU b.A0 b.B0 b.O0 b.J0 b.I0 b.M0 b.L0 b.C0 e.K0 e.D0 e.E0 e.R0 e.N=A ((BI b e,()),()):=by
 have hf:=hb.1;have hf2:=hb.2;unfold EU BI;simp only[Als,V,Af (n:=(b.C0.length:Int)-1) ω ω,Af (n:=b.A0-1) ω ω];have hI:=Sy hb e.D0 e.E0;generalize BB e.R0 0 ((b.C0.length:Int)-1)=car;cases h1:e.K0==1
 ·cases h2:e.K0==2
  ·cases h3:e.K0==3
   ·cases h4:e.K0==4
    ·cases h5:e.K0==5
     ·cases h6:e.K0==6
      ·cases h7:e.K0==7
       ·cases h8:e.K0==8
        ·cases e.D0==0<;>simp only[R,O,V,h1,h2,h3,h4,h5,h6,h7,h8]
        ·cases e.D0==0<;>(try simp only[R,O,V,h1,h2,h3,h4,h5,h6,h7,h8])<;>cases e.E0==0<;>(try simp only[R,O,V])<;>cases e.R0==0<;>rfl
       ·cases e.D0==0<;>(try simp only[R,O,V,h1,h2,h3,h4,h5,h6,h7])<;>cases e.E0==0<;>(try simp only[R,O,V])<;>cases e.R0==0<;>rfl
      ·cases e.D0==0<;>(try simp only[R,O,V,h1,h2,h3,h4,h5,h6])<;>cases e.E0==0<;>(try simp only[R,O,V])<;>cases car<;>rfl
     ·cases e.D0==0<;>(try simp only[R,O,V,h1,h2,h3,h4,h5])<;>cases e.E0==0<;>(try simp only[R,O,V])<;>cases car<;>rfl
    ·cases e.D0==0<;>(try simp only[R,O,V,h1,h2,h3,h4])<;>cases e.E0==0<;>(try simp only[R,O,V])<;>cases car<;>rfl
   ·have hw:J.wrap (b.A0-1)=b.A0-1:=Af ω ω;cases e.D0==0<;>(try simp only[R,O,V,h1,h2,h3,hw])<;>generalize BB e.D0 0 (b.A0-1)=fl<;>cases car<;>cases fl<;>cases e.E0==0<;>rfl
  ·generalize Qf b e.D0 e.E0=ic at hI⊢;cases e.D0==0<;>(try simp only[R,O,V,h1,h2,hI])<;>cases ic<;>cases e.R0==0<;>rfl
 ·cases e.D0==0<;>(try simp only[R,O,V,h1])<;>cases e.E0==0<;>(try simp only[R,O,V])<;>cases e.R0==0<;>rfl
abbrev Bldg.tp(b:Bldg):Int×Int×Int×Int×Nat×Nat×Nat×List Car×Unit:=(b.A0,b.B0,b.O0,b.J0,b.I0,b.M0,b.L0,b.C0,())
def noEv:U:=⟨0,0,0,0,0⟩
def Wa(b:Bldg):Option U→Sum ((Unit×Unit)×((Int×Int×Int×Int×Int×Unit)×Unit)) ((Unit×Int×Unit)×((Int×Int×Int×Int×Int×Unit)×Unit))
 |none=>.inl (((),()),(noEv.tup,()))
 |some e=>.inr (bif BI b e then(((),0,()),(e.tup,()))else(((),2,()),(noEv.tup,())))
noncomputable abbrev sEv(x:(List ByteArray×Unit×Unit×List script_form×Int×Int×Unit)×((Int×Int×Int×Int×Nat×Nat×Nat×List Car×Unit)×(Int×Int×Int×Int×Int×Unit)×Unit)):=JH x.1.1 x.1.2.2.2.1 x.1.2.2.2.2.1 x.1.2.2.2.2.2.1 x.2.1.1 x.2.1.2.1 x.2.1.2.2.1 x.2.1.2.2.2.1 x.2.1.2.2.2.2.1 x.2.1.2.2.2.2.2.1 x.2.1.2.2.2.2.2.2.1 x.2.1.2.2.2.2.2.2.2.1 x.2.2.1.1 x.2.2.1.2.1 x.2.2.1.2.2.1 x.2.2.1.2.2.2.1 x.2.2.1.2.2.2.2.1
def Aai:∀p∈formsB,p.1.length≤100∧p.1.all (λb=>aF b.toNat 128)=E:=by decide
section
variable{b:Bldg}(hb:b.small)(hc:b.C0.length≤1000)
include hb hc
theorem Wb{ws:List Bs}(hws:ws.length≤4294967296):∀(m i:Nat),i+m=16→aB sEv (m+1) ((ws.map H,(),(),formsB.map AQ,16,(i:Int),()),(b.tp,noEv.tup,()))=A (Wa b ((formsB.drop i).findSome? λp=>LO (Cu [] p.1) p.2 ws))
 |0,i,hi=>by obtain rfl:i=16:=ω;rfl
 |m+1,i,hi=>by
  have hlt:i<formsB.length:=by rw[show formsB.length=16 from rfl];omega
  have hm:formsB.getD i ([],noEv)∈formsB:=by rw[m_,c_ hlt];exact b0_ hlt
  have hg:(formsB.map AQ).getD i (bD (aD (aC [])) 0 0 0 0 0)=AQ (formsB.getD i ([],noEv)):=by simp[m_,c_ hlt]
  rw[GG ([],noEv) hlt,List.findSome?_cons];generalize formsB.getD i ([],noEv)=p at hm hg⊢;obtain⟨y,h1,h2⟩:=Acc (Aai p hm) p.2 hws;have hin:inB (i:Int) (formsB.map AQ).length=E:=by rw[F_];exact IC hlt
  have hd:decide ((i:Int)<16)=E:=q_ ω;obtain⟨r0,hr0⟩:∃r0,sEv ((ws.map H,(),(),formsB.map AQ,16,(i:Int),()),(b.tp,noEv.tup,()))=r0:=⟨_,rfl⟩;have hs:=hr0;unfold sEv JH at hs;have h1':De (AQ p).words (AQ p).event_Kind (AQ p).event_Floor (AQ p).event_Dir (AQ p).event_Car (AQ p).event_N (ws.map H)=A y:=h1;simp only[hd,hin,R,D_,hg,h1',V]at hs;cases hr:LO (Cu [] p.1) p.2 ws with
  |none=>rw[hr]at h2;simp only[h2,O,Af (n:=(i:Int)+1) ω ω]at hs;rw[Ap (hr0.trans hs.symm)];exact Wb hws m (i+1) ω
  |some e=>
   rw[hr]at h2;have h2:y=(((),E,()),(e.tup,())):=h2;subst h2;simp only[R,Abp hb hc e,V]at hs;have hv:=hr0.trans hs.symm;cases hve:BI b e with
   |true=>rw[hve]at hv;rw[Az hv,Wa,hve];rfl
   |false=>rw[hve]at hv;rw[Az hv,Wa,hve];rfl
def Ae5(b:Bldg):Option U→(Unit×Int×Unit)×((Int×Int×Int×Int×Int×Unit)×Unit)
 |none=>(((),300,()),(noEv.tup,()))
 |some e=>bif BI b e then(((),0,()),(e.tup,()))else(((),2,()),(noEv.tup,()))
theorem Anl{ws:List Bs}(hws:ws.length≤4294967296):It b.A0 b.B0 b.O0 b.J0 b.I0 b.M0 b.L0 b.C0 (ws.map H)=A (Ae5 b (evR ws)):=by
 have he:(formsB.findSome? λp=>LO (Cu [] p.1) p.2 ws)=evR ws:=by rw[← Akk,ZY,← Aks,List.findSome?_map];rfl
 have hl:Ff ((ws.map H,(),(),formsB.map AQ,16,0,()),(b.tp,noEv.tup,()))=A (Wa b (evR ws)):=by rw[← he];exact Bo (Wb hb hc hws 16 0 rfl) (by decide)
 unfold It;rw[Aah];refine At rfl ?_;refine At hl ?_;cases evR ws with
 |none=>rfl
 |some e=>simp only[Wa,Ae5]
omit hb hc in
theorem Aph{l:Bs}(hl:l.length<4294967281):Iu (H l)=A (((Dj l).map H,()),()):=by
 have hu:(BF 35 l).length≤l.length:=by
  induction l with
  |nil=>exact B_ _
  |cons b l ih=>
   rw[BF];cases b==35 with
   |true=>exact K_ _
   |false=>rw[O,p_,p_];have:=ih (by rw[p_]at hl;omega);omega
 have h1:MA (H l) (aD (aC [35]))=A ((H (BF 35 l),H (Ns 35 l),Ra 35 l,()),()):=by show(bif aF (H l).size 4294967281&&E then _ else Z)=_;rw[AI,FO hl];rfl
 have h2:FG (H (BF 35 l)) (aD (aC [32]))=A (((Bt 32 (BF 35 l)).map H,()),()):=by show(bif aF (H (BF 35 l)).size 4294967281&&E then _ else Z)=_;rw[AI,FO ω];rfl
 have hs:=Rw 32 (BF 35 l);have hne:0<(Bt 32 (BF 35 l)).length:=by
  cases BF 35 l with
  |nil=>exact aU _
  |cons b l=>
   rw[Bt];cases b==32 with
   |true=>exact aU _
   |false=>cases Bt 32 l<;>exact aU _
 have h3:Co ((Bt 32 (BF 35 l)).map H)=A (((Dj l).map H,()),()):=by
  show ZR _=_;unfold ZR Dj;rw[F_,FO hne,ED ω,List.filter_map]
  have:((λs:ByteArray=>!Nat.beq s.size 0)∘H)=λw=>!w.isEmpty:=by funext w;show(!Nat.beq (H w).size 0)=_;rw[AI];cases w<;>rfl
  rw[this];rfl
 unfold Iu;exact At h1 (At h2 (At h3 rfl))
def Fm(b:Bldg):Nat→List U→List Bs→List U×Int×Int
 |_,out,[]=>(out,0,0)
 |i,out,l::r=>match Dj l with
  |[]=>Fm b (i+1) out r
  |w::ws=>match evR (w::ws)with
   |none=>([],(i:Int)+1,300)
   |some e=>bif BI b e then Fm b (i+1) (out++[e]) r else([],(i:Int)+1,2)
noncomputable abbrev Aov(x:(Unit×List U×List ByteArray×Int×Int×Unit)×((Int×Int×Int×Int×Nat×Nat×Nat×List Car×Unit)×Unit)):=Fg x.1.2.1 x.1.2.2.1 x.1.2.2.2.1 x.1.2.2.2.2.1 x.2.1.1 x.2.1.2.1 x.2.1.2.2.1 x.2.1.2.2.2.1 x.2.1.2.2.2.2.1 x.2.1.2.2.2.2.2.1 x.2.1.2.2.2.2.2.2.1 x.2.1.2.2.2.2.2.2.2.1
def Bcv(r:List U×Int×Int):Sum ((List U×Unit)×Unit) ((List U×Int×Int×Unit)×Unit):=bif r.2.2==0 then .inl ((r.1,()),())else .inr ((r.1,r.2.1,r.2.2,()),())
theorem Rm{ls:List Bs}(hn:ls.length≤100000)(hl:∀l∈ls,l.length≤100000):∀(m i:Nat) (out:List U),i+m=ls.length→out.length≤i→
  aB Aov (m+1) (((),out,ls.map H,(ls.length:Int),(i:Int),()),(b.tp,()))=A (Bcv (Fm b i out (ls.drop i)))
 |0,i,out,hi,_=>by obtain rfl:i=ls.length:=ω;rw[b1_];refine Az ?_;show Fg _ _ _ _ _ _ _ _ _ _ _ _=_;simp only[lp,Un.u,Fg,Nn,O];rfl
 |m+1,i,out,hi,ho=>by
  have hlt:i<ls.length:=ω;have hg:=IA hlt;rw[GG ([]:Bs) hlt,Fm];have hll:(ls.getD i []).length≤100000:=by rw[m_,c_ hlt];exact hl _ (b0_ hlt)
  generalize ls.getD i []=l at hg hll⊢;have hin:inB (i:Int) ls.length=E:=IC hlt;have hw:J.wrap ((i:Int)+1)=((i+1:Nat):Int):=Af ω ω;have hws:(Dj l).length≤4294967296:=by
   refine a4_ (List.length_filter_le _ _) (a4_ (Rw _ _) ?_)
   have:(BF 35 l).length≤l.length:=by
    clear hg hll;induction l with
    |nil=>exact B_ _
    |cons b l ih=>
     rw[BF];cases b==35 with
     |true=>exact K_ _
     |false=>rw[O,p_,p_];omega
   omega
  obtain⟨r0,hr0⟩:∃r0,Aov (((),out,ls.map H,(ls.length:Int),(i:Int),()),(b.tp,()))=r0:=⟨_,rfl⟩;have hs:=hr0;unfold Aov Fg at hs;simp only[MP hlt,hin,R,D_,hg,Aph (l:=l) ω,V,F_,hw]at hs;cases hwv:Dj l with
  |nil=>rw[hwv]at hs;rw[Ap (hr0.trans hs.symm)];exact Rm hn hl m (i+1) out ω ω
  |cons w ws=>
   rw[hwv]at hs hws;rw[show((((w::ws).length:Nat):Int)==0)=B from Iw (by rw[p_];omega),Anl hb hc hws]at hs;simp only[O,V]at hs;cases he:evR (w::ws)with
   |none=>rw[he]at hs;rw[Az (hr0.trans hs.symm)];simp only[he];rfl
   |some e=>
    rw[he]at hs;simp only[Ae5]at hs;cases hv:BI b e with
    |false=>rw[hv]at hs;rw[Az (hr0.trans hs.symm)];simp only[he,hv];rfl
    |true=>rw[hv]at hs;simp only[R,P_,ED (ω:out.length+1≤2147483648),bne_self_eq_false,O]at hs;rw[Ap (hr0.trans hs.symm)];simp only[he,hv,R];exact Rm hn hl m (i+1) (out++[e]) ω (by rw[f_,P_];omega)
end
def mt(e:U)(p:Bs×U):Bool:=p.2.K0==e.K0&&(p.2.E0==e.E0&&(bif e.K0==6 then p.2.N==e.N else E))
def Fx(e:U)(w:Bs):Bs:=if w=[78]then CW e.N else if w=[70]then CW e.D0 else if w=[67]then CW e.R0 else w
def wsV(e:U):List Bs:=match formsB.find? (mt e)with
 |some p=>(Cu [] p.1).map (Fx e)
 |none=>[]
def Cl(e:U):Bs:=DG [32] (wsV e)
inductive Vev:Event→Prop
 |wait (n:Int) (h:0≤n∧n<1000000):Vev ⟨1,0,0,0,n⟩
 |up (f:Int) (h:0≤f∧f<1000000):Vev ⟨2,f,1,0,0⟩
 |down (f:Int) (h:0≤f∧f<1000000):Vev ⟨2,f,2,0,0⟩
 |car (c f:Int) (h:0≤c∧c<1000000) (h2:0≤f∧f<1000000):Vev ⟨3,f,0,c,0⟩
 |load (c n:Int) (h:0≤c∧c<1000000) (h2:0≤n∧n<1000000):Vev ⟨4,0,0,c,n⟩
 |block (c n:Int) (h:0≤c∧c<1000000) (h2:0≤n∧n<1000000):Vev ⟨5,0,0,c,n⟩
 |cmd (c:Int) (k:Fin 8) (h:0≤c∧c<1000000):Vev ⟨6,0,0,c,(k.val:Int)+1⟩
 |bad:Vev ⟨7,0,0,0,0⟩
 |crash (n:Int) (h:0≤n∧n<1000000):Vev ⟨8,0,0,0,n⟩
def CI{n lo hi:Int}:BB n lo hi=E↔lo≤n∧n≤hi:=by simp[BB]
def WR(hb:b.small)(hc:b.C0.length≤1000)(h:BI b e=E):Vev e:=by
 obtain⟨K,F,D,C,N⟩:=e;have hf:=hb.1;have hf2:=hb.2;unfold BI at h;simp only at h;by_cases h1:K=1
 ·subst h1;simp only[N_,R,b_,beq_iff_eq,CI]at h;obtain⟨⟨rfl,rfl⟩,rfl,h⟩:=h;exact .wait N ⟨ω,ω⟩
 rw[Iw h1,O]at h;by_cases h2:K=2
 ·subst h2;simp only[N_,R,b_,beq_iff_eq,Qf,QE]at h;obtain⟨⟨_,hcl⟩,rfl,rfl⟩:=h;by_cases d1:D=1
  ·subst d1;refine .up F ?_;simp[Dh]at hcl;omega
  ·by_cases d2:D=2
   ·subst d2;refine .down F ?_;simp[Dh]at hcl;omega
   ·simp[d1,d2]at hcl
 rw[Iw h2,O]at h;by_cases h3:K=3
 ·subst h3;simp only[N_,R,b_,beq_iff_eq,CI]at h;obtain⟨hC,hF,rfl,rfl⟩:=h;exact .car C F ⟨ω,ω⟩ ⟨ω,ω⟩
 rw[Iw h3,O]at h;by_cases h4:K=4
 ·subst h4;simp only[N_,R,b_,beq_iff_eq,CI]at h;obtain⟨⟨rfl,rfl⟩,hC,hN⟩:=h;exact .load C N ⟨ω,ω⟩ ⟨ω,ω⟩
 rw[Iw h4,O]at h;by_cases h5:K=5
 ·subst h5;simp only[N_,R,b_,beq_iff_eq,CI]at h;obtain⟨⟨rfl,rfl⟩,hC,hN⟩:=h;exact .block C N ⟨ω,ω⟩ ⟨ω,ω⟩
 rw[Iw h5,O]at h;by_cases h6:K=6
 ·subst h6;simp only[N_,R,b_,beq_iff_eq,CI]at h;obtain⟨⟨rfl,rfl⟩,hC,hN⟩:=h;obtain⟨k,rfl⟩:∃k:Fin 8,N=(k.val:Int)+1:=⟨⟨(N-1).toNat,ω⟩,by show N=((N-1).toNat:Int)+1;omega⟩
  exact .cmd C k ⟨ω,ω⟩
 rw[Iw h6,O]at h;by_cases h7:K=7
 ·subst h7;simp only[N_,R,b_,beq_iff_eq]at h;obtain⟨⟨rfl,rfl⟩,rfl,rfl⟩:=h;exact .bad
 rw[Iw h7,O]at h;by_cases h8:K=8
 ·subst h8;simp only[N_,R,b_,beq_iff_eq,CI]at h;obtain⟨⟨rfl,rfl⟩,rfl,h⟩:=h;exact .crash N ⟨ω,ω⟩
 rw[Iw h8]at h;cases h
def Afd(e:U):Fx e [78]=CW e.N∧Fx e [70]=CW e.D0∧Fx e [67]=CW e.R0:=⟨if_pos rfl,by rw[Fx,if_neg (by decide),if_pos rfl],by rw[Fx,if_neg (by decide),if_neg (by decide),if_pos rfl]⟩
def Akq{w:Bs}(h:w≠[78]∧w≠[70]∧w≠[67]):Fx e w=w:=by rw[Fx,if_neg h.1,if_neg h.2.1,if_neg h.2.2]
def Abu(n:Int):wsV ⟨1,0,0,0,n⟩=[[119,97,105,116],CW n]:=rfl
def Alt(f:Int):wsV ⟨2,f,1,0,0⟩=[[112,114,101,115,115],CW f,[117,112]]:=rfl
def Abs(f:Int):wsV ⟨2,f,2,0,0⟩=[[112,114,101,115,115],CW f,[100,111,119,110]]:=rfl
def Add(c f:Int):wsV ⟨3,f,0,c,0⟩=[[99,97,114],CW c,CW f]:=rfl
def Abt(c n:Int):wsV ⟨4,0,0,c,n⟩=[[108,111,97,100],CW c,CW n]:=rfl
def Yy(c n:Int):wsV ⟨5,0,0,c,n⟩=[[98,108,111,99,107],CW c,CW n]:=rfl
def As3:wsV ⟨7,0,0,0,0⟩=[[98,97,100]]:=rfl
def Yz(n:Int):wsV ⟨8,0,0,0,n⟩=[[99,114,97,115,104],CW n]:=rfl
def ZM:Fin 8→Bs:=λk=>[[100,114,97,105,110],[99,97,110,99,101,108],[114,101,99,111,110,110,101,99,116],[99,111,109,109,105,115,115,105,111,110],[97,98,111,114,116],[97,99,99,101,112,116],[108,101,97,118,101],[114,101,115,101,116]].getD k.val []
def Ade(c:Int)(k:Fin 8):wsV ⟨6,0,0,c,(k.val:Int)+1⟩=[ZM k,CW c]:=by
 obtain⟨k,hk⟩:=k
 match k,hk with
 |0,_=>rfl
 |1,_=>rfl
 |2,_=>rfl
 |3,_=>rfl
 |4,_=>rfl
 |5,_=>rfl
 |6,_=>rfl
 |7,_=>rfl
def Ase(h:Vev e):evR (wsV e)=A e:=by
 cases h with
 |wait n h=>rw[Abu,YT,if_pos rfl,Eu h.1 h.2];rfl
 |up f h=>rw[Alt,TF,if_pos rfl,if_pos rfl,Eu h.1 h.2];rfl
 |down f h=>rw[Abs,TF,if_pos rfl,if_neg (by decide),if_pos rfl,Eu h.1 h.2];rfl
 |car c f h h2=>rw[Add,TF,if_neg (by decide),if_pos rfl,Eu h.1 h.2,Eu h2.1 h2.2];rfl
 |load c n h h2=>rw[Abt,TF,if_neg (by decide),if_neg (by decide),if_pos rfl,Eu h.1 h.2,Eu h2.1 h2.2];rfl
 |block c n h h2=>rw[Yy,TF,if_neg (by decide),if_neg (by decide),if_neg (by decide),if_pos rfl,Eu h.1 h.2,Eu h2.1 h2.2];rfl
 |cmd c k h=>
  have hk:ZM k≠[119,97,105,116]∧ZM k≠[99,114,97,115,104]∧UP (ZM k)≠0∧UP (ZM k)=(k.val:Int)+1:=by revert k;decide
  rw[Ade,YT,if_neg hk.1,if_neg hk.2.1,if_neg hk.2.2.1,Eu h.1 h.2,hk.2.2.2];rfl
 |bad=>rfl
 |crash n h=>rw[Yz,YT,if_neg (by decide),if_pos rfl,Eu h.1 h.2];rfl
def Abr(w:Bs):Prop:=w≠[]∧32∉w∧35∉w∧10∉w∧w.length≤10
def DH{n:Int}(h:0≤n∧n<1000000):Abr (CW n):=by obtain⟨h1,h2,h3⟩:=XY h.1 h.2;exact⟨h1,λe=>absurd (h2 _ e).1 (by decide),λe=>absurd (h2 _ e).1 (by decide),λe=>absurd (h2 _ e).1 (by decide),ω⟩
def Tq(h:Vev e):wsV e≠[]∧(wsV e).length≤3∧∀w∈wsV e,Abr w:=by
 have W:∀w:Bs,(w≠[]∧32∉w∧35∉w∧10∉w∧w.length≤10)→Abr w:=λ_ h=>h;cases h with
 |wait n h=>rw[Abu];exact⟨by simp,by simp,by simp only[aM];exact⟨W _ (by decide),DH h,by simp⟩⟩
 |up f h=>rw[Alt];exact⟨by simp,by simp,by simp only[aM];exact⟨W _ (by decide),DH h,W _ (by decide),by simp⟩⟩
 |down f h=>rw[Abs];exact⟨by simp,by simp,by simp only[aM];exact⟨W _ (by decide),DH h,W _ (by decide),by simp⟩⟩
 |car c f h h2=>rw[Add];exact⟨by simp,by simp,by simp only[aM];exact⟨W _ (by decide),DH h,DH h2,by simp⟩⟩
 |load c n h h2=>rw[Abt];exact⟨by simp,by simp,by simp only[aM];exact⟨W _ (by decide),DH h,DH h2,by simp⟩⟩
 |block c n h h2=>rw[Yy];exact⟨by simp,by simp,by simp only[aM];exact⟨W _ (by decide),DH h,DH h2,by simp⟩⟩
 |cmd c k h=>rw[Ade];exact⟨by simp,by simp,by simp only[aM];exact⟨W _ (by revert k;decide),DH h,by simp⟩⟩
 |bad=>rw[As3];exact⟨by simp,by simp,by simp only[aM];exact⟨W _ (by decide),by simp⟩⟩
 |crash n h=>rw[Yz];exact⟨by simp,by simp,by simp only[aM];exact⟨W _ (by decide),DH h,by simp⟩⟩
def PA{c:UInt8}{K:Nat}:∀{ws:List Bs},(∀w∈ws,w.length≤K)→(DG [c] ws).length≤ws.length*(K+1)
 |[],_=>K_ _
 |[w],h=>by rw[DG,P_];have:=h w S_;omega
 |w::v::r,h=>by have h1:=h w S_;have h2:=PA (c:=c) (ws:=v::r) λx hx=>h x (R_ _ hx);rw[DG,f_,f_,show(w::v::r).length=(v::r).length+1 from rfl,I_,P_];omega
def Ol(h:Vev e):Dj (Cl e)=wsV e∧10∉Cl e∧(Cl e).length≤33:=by
 obtain⟨h1,h2,h3⟩:=Tq h;refine⟨Acl h1 λw hw=>⟨(h3 w hw).1,(h3 w hw).2.1,(h3 w hw).2.2.1⟩,λe=>?_,?_⟩
 ·rcases Rh e with e | ⟨w,hw,e⟩
  ·exact absurd e (by decide)
  ·exact(h3 w hw).2.2.2.1 e
 ·have:=PA (c:=32) (K:=10) (ws:=wsV e) λw hw=>(h3 w hw).2.2.2.2
  rw[Cl];omega
def Av0{a b:Bs}(ha:a.length≤1000)(hb:b.length≤1000):aO ((H a).size+(H b).size) 4611686018427387904=E:=by rw[AI,AI];exact ED ω
end Go.Ovl
namespace Go.Ovl
open Go Go.Ab
variable{e:U}{i t k:Nat}{cs:List Car}{b:Bldg}{l out:List U}{α:Type}{n:Int}{x:Bs}{ws r:List Bs}{c:Car}
def Zu{X Y:Type}{step:X→Option (Sum X Y)}{N:Nat}(hN:N≤100000)(g:Nat→X){y:Y}(h1:∀i,i<N→step (g i)=A (.inl (g (i+1))))(h2:step (g N)=A (.inr y)):aB step BY (g 0)=A y:=Bo (Aas N g y h1 h2 N 0 (n_ N)) ω
def Qs{n:Nat}(hn:n≤100000)(h:i<n):J.wrap ((i:Int)+1)=((i+1:Nat):Int):=by rw[Af ω ω];omega
def XH{X Y:Type}{s:X→Option (Sum X Y)}(L:X→Option Y)(_:L=aB s BY):X→Option (Sum X Y):=s
def Agp{X Y:Type}{s:X→Option (Sum X Y)}{L:X→Option Y}(h:L=aB s BY){n:Nat}{x:X}{y:Y}(hi:aB (XH L h) n x=A y)(hn:n≤18446744073709551616):L x=A y:=by rw[h];exact Bo hi hn
def JP{α:Type}(f:α→α)(l:List α)(i:Nat):List α:=(l.take i).map f++l.drop i
section
variable{α:Type}(f:α→α)(l:List α)
theorem Ack(i:Nat):(JP f l i).length=l.length:=by simp[JP];omega
theorem Apf:JP f l l.length=l.map f:=by simp[JP]
variable{l}(d:α)
theorem XI(h:i<l.length):JP f l i=(l.take i).map f++l.getD i d::l.drop (i+1):=by rw[JP,GG d h]
theorem Yw(h:i<l.length):JP f l (i+1)=(l.take i).map f++f (l.getD i d)::l.drop (i+1):=by rw[JP,bC,m_,c_ h,List.map_append,Option.toList_some,Option.getD_some,C_];rfl
theorem Apg(h:i<l.length):(JP f l i).getD i d=l.getD i d:=by
 rw[XI f d h]
 have:((l.take i).map f).length=i:=by rw[F_,o_];omega
 rw[m_,a3_ ω,this];simp
theorem Vs(h:i<l.length)(x:α)(hx:x=f (l.getD i d)):(JP f l i).set i x=JP f l (i+1):=by
 subst hx
 have:((l.take i).map f).length=i:=by rw[F_,o_];omega
 rw[XI f d h,Yw f d h,List.set_append_right _ _ ω,this];simp
theorem Alr(h:i<l.length)(hx:f (l.getD i d)=l.getD i d):JP f l (i+1)=JP f l i:=by rw[XI f d h,Yw f d h,hx]
end
def Tl(e:U):Prop:=(0≤e.D0∧e.D0<1000000)∧(0≤e.R0∧e.R0<1000000)∧(0≤e.N∧e.N<1000000)
def Vev.small(h:Vev e):Tl e:=by
 cases h with
 |cmd c k h=>exact⟨⟨Int.le_refl 0,show(0:Int)<1000000 by decide⟩,h,by show 0≤(k.val:Int)+1;omega,by show(k.val:Int)+1<1000000;omega⟩
 |_=>refine⟨⟨?_,?_⟩,⟨?_,?_⟩,?_,?_⟩<;>simp<;>omega
def Xv(h:0≤n∧n<1000000):Bf n=A ((H (CW n),()),()):=by show(bif decide (-9223372036854775808≤n)&&decide (n≤9223372036854775807)then _ else Z)=_;rw[q_ (ω:-9223372036854775808≤n),q_ (ω:n≤9223372036854775807)];rfl
def map_set(l:List Bs)(i:Nat)(x:Bs):(l.map H).set i (H x)=(l.set i x).map H:=by rw[List.map_set]
def Agt(he:Tl e)(hl:ws.length≤1000):FJ (((),ws.map H,(),(ws.length:Int),0,()),(e.tup,()))=A ((((ws.map (Fx e)).map H,()),())):=by
 have h:=Zu (step:=λx:(Unit×List ByteArray×Unit×Int×Int×Unit)×((Int×Int×Int×Int×Int×Unit)×Unit)=>HH x.1.2.1 x.1.2.2.2.1 x.1.2.2.2.2.1 x.2.1.1 x.2.1.2.1 x.2.1.2.2.1 x.2.1.2.2.2.1 x.2.1.2.2.2.2.1) (N:=ws.length) ω (λi=>(((),(JP (Fx e) ws i).map H,(),(ws.length:Int),(i:Int),()),(e.tup,()))) (y:=(((ws.map (Fx e)).map H,()),())) (λi hi=>by
  have hu:=Ack (Fx e) ws i;have hg:((JP (Fx e) ws i).map H).getD i (aD (aC []))=H (ws.getD i []):=by rw[IA ω,Apg _ _ hi]
  obtain⟨c1,c2,c3⟩:=Afd e;unfold HH;simp only[F_,hu,MP hi,IC hi,R,D_,hg,Aac,V,Qs (ω:ws.length≤100000) hi];by_cases k1:ws.getD i []=[78]
  ·rw[if_pos k1];simp only[Event.tup,Xv he.2.2,V];rw[map_set,Vs (Fx e) [] hi _ (by rw[k1,c1])]
  rw[if_neg k1];by_cases k2:ws.getD i []=[70]
  ·rw[if_pos k2];simp only[Event.tup,Xv he.1,V];rw[map_set,Vs (Fx e) [] hi _ (by rw[k2,c2])]
  rw[if_neg k2];by_cases k3:ws.getD i []=[67]
  ·rw[if_pos k3];simp only[Event.tup,Xv he.2.1,V];rw[map_set,Vs (Fx e) [] hi _ (by rw[k3,c3])]
  rw[if_neg k3,Alr (Fx e) [] hi (Akq ⟨k1,k2,k3⟩)]) (by
  unfold HH;simp only[F_,Apf,Nn,O])
 exact h
def LT(e:U):Bs:=Cl e++[10]
def Ano(h:Tl e){w:Bs}(hw:w.length≤10):(Fx e w).length≤10:=by
 have L:∀{n:Int},0≤n∧n<1000000→(CW n).length≤10:=λh=>by have:=(XY h.1 h.2).2.2;omega
 unfold Fx;split
 ·exact L h.2.2
 split
 ·exact L h.1
 split
 ·exact L h.2.1
 ·exact hw
def Uo:∀p∈formsB,(Cu [] p.1).length≤3∧∀w∈Cu [] p.1,w.length≤10:=by decide
def Akr(h:Tl e){p:Bs×U}(hp:p∈formsB):(DG [32] ((Cu [] p.1).map (Fx e))).length≤33:=by
 obtain⟨h1,h2⟩:=Uo p hp
 have:=PA (c:=32) (K:=10) (ws:=(Cu [] p.1).map (Fx e)) λw hw=>by obtain⟨v,hv,rfl⟩:=c4_.1 hw;exact Ano h (h2 v hv)
 rw[F_]at this;omega
def Akn{f:Bs}(hf:f.length≤100∧f.all (λb=>aF b.toNat 128)=E):DW (H f)=A (((Cu [] f).map H,()),()):=by show(bif aF (H f).size 4294967281&&_ then _ else Z)=_;rw[AI,FO ω,show(H f).data.toList=f from rfl,hf.2];rfl
def Asi(h1:ws.length≤1000)(h2:(DG [32] ws).length≤1000):EV (ws.map H) (aD (aC [32]))=A ((H (DG [32] ws),()),()):=by
 show Xw _ _=_
 have:(ws.map H).map (·.data.toList)=ws:=by rw[List.map_map];exact List.map_id' _
 unfold Xw;rw[this,F_,ED ω,ED (show(DG _ ws).length≤2147483648 by exact a4_ h2 (by decide))];rfl
def Aag(e:U)(p:Bs×U):Bs:=DG [32] ((Cu [] p.1).map (Fx e))++[10]
noncomputable abbrev Aox(x:(Unit×List script_form×Int×Int×Unit)×((Int×Int×Int×Int×Int×Unit)×Unit)):=FK x.1.2.1 x.1.2.2.1 x.1.2.2.2.1 x.2.1.1 x.2.1.2.1 x.2.1.2.2.1 x.2.1.2.2.2.1 x.2.1.2.2.2.2.1
def Alp(h:Tl e)(hi:i<formsB.length):Aox (((),formsB.map AQ,16,(i:Int),()),(e.tup,()))=A (bif !mt e (formsB.getD i ([],noEv))then .inl (((),formsB.map AQ,16,((i+1:Nat):Int),()),(e.tup,()))else .inr (.inr ((H (Aag e (formsB.getD i ([],noEv))),()),()))):=by
 have hm:formsB.getD i ([],noEv)∈formsB:=by rw[m_,c_ hi];exact b0_ hi
 have hg:(formsB.map AQ).getD i (bD (aD (aC [])) 0 0 0 0 0)=AQ (formsB.getD i ([],noEv)):=by simp[m_,c_ hi]
 have hin:inB (i:Int) (formsB.map AQ).length=E:=by rw[F_];exact IC hi
 have h16:formsB.length=16:=rfl;generalize formsB.getD i ([],noEv)=p at hm hg⊢;have hjl:=Akr h hm;have hwl:=(Uo p hm).1;have hb:∀{α:Type}(g:Bool→α),(bif(AQ p).event_Kind !=e.K0 then A (g E)else bif(AQ p).event_Dir !=e.E0 then A (g E)else bif e.K0==6 then A (g ((AQ p).event_N !=e.N))else A (g B))=A (g !mt e p):=by intro α g;show(bif !(p.2.K0==e.K0)then _ else bif !(p.2.E0==e.E0)then _ else bif e.K0==6 then A (g !(p.2.N==e.N))else _)=_;unfold mt;generalize(p.2.K0==e.K0)=x;generalize(p.2.E0==e.E0)=y;generalize(e.K0==6)=z;generalize(p.2.N==e.N)=w;cases x<;>cases y<;>cases z<;>cases w<;>rfl
 unfold Aox FK;have hd:decide ((i:Int)<16)=E:=q_ ω;simp only[hd,hin,R,D_,hg];refine At (a:=(((),(),formsB.map AQ,(16:Int),(i:Int),!mt e p,()),(e.tup,((AQ p).words,(AQ p).event_Kind,(AQ p).event_Floor,(AQ p).event_Dir,(AQ p).event_Car,(AQ p).event_N,()),()))) ?_ ?_
 ·exact hb λc=>(((),(),formsB.map AQ,(16:Int),(i:Int),c,()),(e.tup,((AQ p).words,(AQ p).event_Kind,(AQ p).event_Floor,(AQ p).event_Dir,(AQ p).event_Car,(AQ p).event_N,()),()))
 ·cases hm':mt e p with
  |false=>simp only[Bool.not_false,R,Qs (show 16≤100000 by decide) (ω:i<16)]
  |true=>simp only[b2_,O];refine At (Akn (Aai p hm)) ?_;simp only[F_];refine At (Agt h ω) ?_;refine At (Asi (by rw[F_];omega) ω) ?_;show(bif aO ((H _).size+(H [10]).size) 4611686018427387904 then A (Sum.inr (Sum.inr ((H _++H [10],()),())))else Z)=_;rw[Av0 ω (by decide),VT];rfl
def Asy(h:Vev e):Jj e.K0 e.D0 e.E0 e.R0 e.N=A ((H (LT e),()),()):=by
 have hs:=h.small;have loop:=XW (step:=Aox) formsB ([],noEv) (λp=>!mt e p) (λi=>(((),formsB.map AQ,16,(i:Int),()),(e.tup,()))) (.inl ((),())) (λp=>.inr ((H (Aag e p),()),()))
  (λi hi=>Alp hs hi) (by show FK _ _ _ _ _ _ _ _=_;unfold FK;rfl) 16 0 rfl
 have hne:=(Tq h).1;unfold Jj;rw[Aah];refine At rfl ?_;refine At (Bo loop (by decide)) ?_;rw[b7_];simp only[Bool.not_not];unfold LT Cl;unfold wsV at hne⊢;cases hf:formsB.find? (mt e)with
 |none=>rw[hf]at hne;exact absurd rfl hne
 |some p=>rfl
section
variable{b:Bldg}(hb:b.small)(hc:b.C0.length≤1000)
include hb hc
noncomputable abbrev Aou(x:(List U×Unit×Int×Int×Unit)×((Int×Int×Int×Int×Nat×Nat×Nat×List Car×Unit)×Unit)):=Ak x.1.1 x.1.2.2.1 x.1.2.2.2.1 x.2.1.1 x.2.1.2.1 x.2.1.2.2.1 x.2.1.2.2.2.1 x.2.1.2.2.2.2.1 x.2.1.2.2.2.2.2.1 x.2.1.2.2.2.2.2.2.1 x.2.1.2.2.2.2.2.2.2.1
theorem Aam{l:List U}(hl:l.length≤100000):∀(m i:Nat),i+m=l.length→Sat (aB Aou (m+1) ((l,(),(l.length:Int),(i:Int),()),(b.tp,()))) λy=>bif(l.drop i).all (BI b)then y=.inl ((),(b.tp,()))else ∃k:Nat,y=.inr (((k:Int),()),(b.tp,()))
 |0,i,hi=>by obtain rfl:i=l.length:=ω;rw[b1_];refine⟨.inl ((),(b.tp,())),Az ?_,rfl⟩;show Ak _ _ _ _ _ _ _ _ _ _ _=_;simp only[lp,Un.u,Ak,Nn,O]
 |m+1,i,hi=>by
  have hlt:i<l.length:=ω;rw[GG noEv hlt,M_];obtain⟨r0,hr0⟩:∃r0,Aou ((l,(),(l.length:Int),(i:Int),()),(b.tp,()))=r0:=⟨_,rfl⟩;have hs:=hr0;unfold Aou Ak Fv at hs;simp only[MP hlt,IC hlt,R,D_,Abp hb hc,V,Qs hl hlt]at hs;rw[show(Event.mk 0 0 0 0 0)=noEv from rfl]at hs;cases hv:BI b (l.getD i noEv)with
  |true=>rw[hv]at hs;rw[Ap (hr0.trans hs.symm),a6_];exact Aam hl m (i+1) ω
  |false=>rw[hv]at hs;exact⟨_,Az (hr0.trans hs.symm),i,rfl⟩
theorem Amd(hl:l.length≤100000):Gx b.A0 b.B0 b.O0 b.J0 b.I0 b.M0 b.L0 b.C0 l=A ((b.code==0&&l.all (BI b),()),()):=by
 unfold Gx;refine At (a:=((b.code==0&&l.all (BI b),()),())) (At (Hu b) ?_) rfl;show(bif b.code==0 then _ else _)=_;cases b.code==0 with
 |false=>rfl
 |true=>
  obtain⟨y,h1,h2⟩:=Aam hb hc hl l.length 0 (n_ _);have h1:Aq ((l,(),(l.length:Int),0,()),(b.tp,()))=A y:=Bo h1 ω;rw[b7_]at h2;rw[R,a6_];unfold AB AD;rw[h1];cases hv:l.all (BI b)with
  |true=>rw[hv]at h2;have h2:y=_:=h2;subst h2;rfl
  |false=>rw[hv]at h2;obtain⟨k,rfl⟩:=h2;show A ((!decide ((0:Int)≤(k:Int)),()),())=_;rw[q_ (Int.natCast_nonneg k)];rfl
end
def mil(n:Int):Int:=bif decide ((1000000:Int)<n)then 1000000 else n
def tkE(n:Int)(e:U):Int:=bif e.K0==1 then mil (n+mil (bif decide (e.N<0)then 0 else e.N))else bif e.K0==7 then mil (n+1)else bif e.K0==8 then mil (n+1)else n
def TI(h:0≤n):0≤mil n∧mil n≤1000000:=by
 unfold mil;cases h2:decide ((1000000:Int)<n)with
 |true=>exact⟨show(0:Int)≤1000000 by decide,show(1000000:Int)≤1000000 by decide⟩
 |false=>exact⟨h,by have:=of_decide_eq_false h2;rw[O];omega⟩
def Bcf(h:n≤1000000):mil n=n:=by rw[mil,u_ ω];rfl
def Arq(n:Int):0≤(bif decide (n<0)then(0:Int)else n):=by
 cases h:decide (n<0)with
 |true=>exact Int.le_refl 0
 |false=>have:=of_decide_eq_false h;rw[O];omega
def Ary(h:0≤n∧n≤1000000)(e:U):0≤tkE n e∧tkE n e≤1000000:=by
 unfold tkE;cases e.K0==1 with
 |true=>exact TI (Int.add_nonneg h.1 (TI (Arq _)).1)
 |false=>cases e.K0==7 with
  |true=>exact TI ω
  |false=>cases e.K0==8 with
   |true=>exact TI ω
   |false=>exact h
def Bc4(l:List U):Int:=l.foldl tkE 0
noncomputable abbrev Aow(x:(List U×Int×Int×Unit)×Unit):=Hp x.1.1 x.1.2.1 x.1.2.2.1
def Abo{l:List U}(hl:l.length≤100000):∀(m i:Nat) (n:Int),i+m=l.length→0≤n∧n≤1000000→aB Aow (m+1) ((l,n,(i:Int),()),())=A (((l.drop i).foldl tkE n,()),())
 |0,i,n,hi,_=>by obtain rfl:i=l.length:=ω;rw[b1_];refine Az ?_;show Hp _ _ _=_;simp only[lp,Un.u,Hp,Nn,O,List.foldl_nil]
 |m+1,i,n,hi,hn=>by
  have hlt:i<l.length:=ω;rw[GG noEv hlt,List.foldl_cons];obtain⟨r0,hr0⟩:∃r0,Aow ((l,n,(i:Int),()),())=r0:=⟨_,rfl⟩;have hs:=hr0;have hp:=TI (Arq (l.getD i noEv).N);have w1:J.wrap (n+mil (bif decide ((l.getD i noEv).N<0)then 0 else(l.getD i noEv).N))=_:=Af ω ω;have w2:J.wrap (n+1)=_:=Af ω ω;have hq:(bif decide (0<mil (l.getD i noEv).N)then mil (l.getD i noEv).N else 0)=mil (bif decide ((l.getD i noEv).N<0)then 0 else(l.getD i noEv).N):=by
   generalize(l.getD i noEv).N=k;by_cases h0:k<0
   ·rw[Bcf (ω:k≤1000000),q_ h0,u_ (ω:¬0<k)];rfl
   ·rw[u_ h0,O]
    have:=TI (ω:0≤k)
    by_cases h1:0<mil k
    ·rw[q_ h1];rfl
    ·rw[u_ h1,O];omega
  unfold Aow Hp at hs;simp only[MP hlt,IC hlt,R,D_,Qs hl hlt]at hs;rw[show(Event.mk 0 0 0 0 0)=noEv from rfl]at hs;have hs:A (Sum.inl ((l,tkE n (l.getD i noEv),((i+1:Nat):Int),()),()))=r0:=by
   rw[← hs];unfold tkE;cases(l.getD i noEv).K0==1 with
   |true=>rw[← hq]at w1⊢;unfold mil at w1;simp only[R,w1];rfl
   |false=>cases(l.getD i noEv).K0==7 with
    |true=>simp only[R,O,w2];rfl
    |false=>cases(l.getD i noEv).K0==8 with
     |true=>simp only[R,O,w2];rfl
     |false=>simp only[O];rw[u_ (ω:¬(1000000:Int)<n)];rfl
  rw[Ap (hr0.trans hs.symm)];exact Abo hl m (i+1) _ ω (Ary hn _)
def Abc(hl:l.length≤100000):LG l=A ((Bc4 l,()),()):=by unfold LG;exact At (Bo (Abo hl l.length 0 0 (n_ _) ⟨by decide,by decide⟩) ω) rfl
def VK(a:List U)(h:a.length≤100000):Fc a a=A ((E,()),()):=by have l:FI ((a,a,(0:Int),()),())=A (.inl ((),())):=Zu h (λi=>((a,a,(i:Int),()),())) (λi hi=>by simp only[lp,Un.u,HT,MP hi,IC hi,Qs h hi,N_,Bool.and_self,b2_,R,O]) (by simp only[lp,Un.u,HT,Nn,O]);unfold Fc;rw[l];simp
def Qg(l:List U):Bs:=BE (l.map Cl)
def RT{K:Nat}:∀{ls:List Bs},(∀l∈ls,l.length≤K)→(BE ls).length≤ls.length*(K+1)
 |[],_=>K_ _
 |l::r,h=>by have h1:=h l S_;have h2:=RT (ls:=r) λx hx=>h x (R_ _ hx);rw[BE,f_,p_,p_,I_];omega
def JM(l:Bs):List Int:=l.map λb=>(b.toNat:Int)
def Ags(l:Bs):TN (JM l)=H l:=by
 show(aD (aC ((JM l).map _)):ByteArray)=_;rw[JM,List.map_map]
 have:∀f:Int→UInt8,(∀b:UInt8,f (b.toNat:Int)=b)→l.map (f∘λb=>(b.toNat:Int))=l:=λf h=>by rw[show(f∘λb:UInt8=>(b.toNat:Int))=id from funext h];exact List.map_id _
 rw[this _ λb=>by simp];rfl
def Amh(l:Bs):(JM l).all (λn=>decide (0≤n)&&decide (n<256))=E:=by
 rw[E_];intro x hx;obtain⟨b,_,rfl⟩:=c4_.1 hx
 have:=b.toNat_lt
 rw[q_ (Int.natCast_nonneg _),q_ ω];rfl
noncomputable abbrev Aot(x:(Unit×List U×Int×Int×Unit)×((Unit×List Int×Unit)×Unit)):=EI x.1.2.1 x.1.2.2.1 x.1.2.2.2.1 x.2.1.2.1
def Aad{l:List U}(hl:l.length≤1000)(hv:∀e∈l,Vev e):∀(m i:Nat) (acc:Bs),i+m=l.length→acc.length≤34*i→aB Aot (m+1) (((),l,(l.length:Int),(i:Int),()),(((),JM acc,()),()))=A (((),()),(((),JM (acc++Qg (l.drop i)),()),()))
 |0,i,acc,hi,_=>by obtain rfl:i=l.length:=ω;rw[b1_];refine Az ?_;show EI _ _ _ _=_;simp only[lp,Un.u,EI,Nn,O];rw[show Qg []=[]from rfl,List.append_nil]
 |m+1,i,acc,hi,ha=>by
  have hlt:i<l.length:=ω;have hm:Vev (l.getD i noEv):=hv _ (FZ noEv hlt);rw[GG noEv hlt];have hle:=(Ol hm).2.2;obtain⟨r0,hr0⟩:∃r0,Aot (((),l,(l.length:Int),(i:Int),()),(((),JM acc,()),()))=r0:=⟨_,rfl⟩;have hs:=hr0;have hw:Cj (H (LT (l.getD i noEv))) (JM acc)=A ((((H (LT (l.getD i noEv))).size:Int),(),()),(((),JM (acc++LT (l.getD i noEv)),()),())):=by show wsF _ _ _=_;unfold wsF;rw[ED (show(JM acc).length+(H (LT (l.getD i noEv))).size≤2147483648 by rw[AI,JM,F_,LT,f_,P_];omega),R];unfold JM;rw[List.map_append];rfl
  unfold Aot EI at hs;simp only[MP hlt,IC hlt,R,D_,Qs (ω:l.length≤100000) hlt]at hs;rw[show(Event.mk 0 0 0 0 0)=noEv from rfl,Asy hm]at hs;simp only[V,hw]at hs;rw[Ap (hr0.trans hs.symm),Aad hl hv m (i+1) _ ω (by rw[LT,f_,f_,P_];omega)];show A (((),()),(((),JM (acc++LT (l.getD i noEv)++Qg (l.drop (i+1))),()),()))=A (((),()),(((),JM (acc++(Cl (l.getD i noEv)++10::Qg (l.drop (i+1)))),()),()));rw[LT,C_,C_];rfl
section
variable{b:Bldg}(hb:b.small)(hc:b.C0.length≤1000)
include hb hc
def Afe(b:Bldg)(l:List U):(ByteArray×Int×Unit)×Unit:=bif b.code==0&&l.all (BI b)then((H (Qg l),0,()),())else((H [],1,()),())
theorem Agw(hl:l.length≤1000):Dt b.A0 b.B0 b.O0 b.J0 b.I0 b.M0 b.L0 b.C0 l=A (Afe b l):=by
 unfold Dt Afe;refine At (Amd hb hc ω) ?_;show(bif !(b.code==0&&l.all (BI b))then _ else _)=_;cases hv:b.code==0&&l.all (BI b)with
 |false=>rfl
 |true=>rw[b_,E_]at hv;rw[b2_,O,R];refine At (Bo (Aad hl (λe he=>WR hb hc (hv.2 e he)) l.length 0 [] (n_ _) (K_ _)) ω) ?_;show aZ (Cp (JM ([]++Qg l))) _=_;rw[b5_];unfold Cp;rw[Amh,Ags];rfl
end
section
variable{b:Bldg}(hb:b.small)(m:Img)(hm:m.B5.length≤1000)(r:Record)
include hb hm
end
def JN{α:Type}(d:α)(g:Nat→α→α)(i:Nat)(l:List α):List α:=l.set i (g i (l.getD i d))
def XR{α:Type}(d:α)(g:Nat→α→α):∀(m i:Nat) (l:List α),i+m=l.length→QW (JN d g) m i l=l.take i++(List.range' i m).map (λj=>g j (l.getD j d))
 |0,i,l,h=>by rw[show i=l.length by omega,List.take_length];simp[QW]
 |m+1,i,l,h=>by
  have hi:i<l.length:=ω;unfold QW;rw[XR d g m (i+1) _ (by rw[JN,aS];omega)];have e1:(JN d g i l).take (i+1)=l.take i++[g i (l.getD i d)]:=by unfold JN;rw[bC,List.take_set_of_le ω,List.getElem?_set_self ω];rfl
  rw[e1,List.range'_succ,List.map_cons,C_,List.singleton_append];congr 2;apply List.map_congr_left;intro j hj;rw[List.mem_range']at hj;obtain⟨k,hk,rfl⟩:=hj;unfold JN;rw[m_,List.getElem?_set_ne ω,← m_]
def QX(d:α)(g:Nat→α→α)(f:Nat→α)(n:Nat):QW (JN d g) n 0 ((aN n).map f)=(aN n).map (λj=>g j (f j)):=by rw[XR d g n 0 _ (by simp),List.take_zero,b5_,← List.range_eq_range'];apply List.map_congr_left;intro j hj;rw[List.mem_range]at hj;simp[m_,hj]
def MN{l:List α}(d x:α)(h:i<l.length):(l.set i x).getD i d=x:=by rw[m_,List.getElem?_set_self h];rfl
def g15(fl t i:Nat)(c:Car):Car:=⟨c.F0,c.S0,c.U0,c.N0,((1+t%3:Nat):Int),((1+t/3%3:Nat):Int),((1+t/9%3:Nat):Int),((1+t/9%3+t/27%5:Nat):Int),(((i+t)%fl:Nat):Int)⟩
def g18(t:Nat)(_:Nat)(c:Car):Car:={ c with F0:=((1+t%16:Nat):Int) }
def g27(n1 n2:Nat)(_:Nat)(c:Car):Car:={ c with U0:=((1+n2%4:Nat):Int),N0:=((n1%5:Nat):Int) }
def CY(fl ca t:Nat):Bldg:={ As fl ca with J0:=((1+t%7:Nat):Int),C0:=(aN ca).map λi=>g15 fl t i (ER fl i) }
def OS(fl ca t:Nat):Bldg:={ CY fl ca t with C0:=(aN ca).map λi=>g18 t i (g15 fl t i (ER fl i)) }
def DD(fl ca n1 n2:Nat):Bldg:={ CY fl ca n1 with B0:=((1+n2%3:Nat):Int),O0:=((18*ca+24+6*(n2/3):Nat):Int),C0:=(aN ca).map λi=>g27 n1 n2 i (g18 n1 i (g15 fl n1 i (ER fl i))) }
def Ape(h:0≤n)(h':n<256):aH.wrap n=n:=by simp only[aE,IntKind.signed,IntKind.bits];simp;omega
def Ox(a b:Nat):aA (a:Int) (b:Int)=((a%b:Nat):Int):=by rw[Int.tmod_eq_emod_of_nonneg ω];norm_cast
def Apc(a b:Nat):aG (a:Int) (b:Int)=((a/b:Nat):Int):=by rw[Int.tdiv_eq_ediv_of_nonneg ω];norm_cast
def JX(k:Nat)(ht:t<100000):J.wrap ((1:Int)+J.wrap (aA (t:Int) (k:Int)))=((1+t%k:Nat):Int):=by
 have:t%k≤t:=Nat.mod_le _ _
 rw[Ox];generalize t%k=q at this⊢;rw[Af (n:=(q:Int)) ω ω,Af ω ω];norm_cast
def SG(k:Nat)(ht:t<256):aH.wrap (aG (t:Int) (k:Int))=((t/k:Nat):Int):=by
 have:t/k≤t:=Nat.div_le_self _ _
 generalize hq:t/k=q at this;rw[Apc,hq,Ape ω ω]
def Ad2{fl ca:Nat}(h1:1≤fl)(hf:fl≤100)(h2:ca≤8)(ht:t<256):
  Hc (((t:Int),(),(),(0:Int),()),(Bldg.none.tup,(As fl ca).tup,()))=A (((t:Int),(),(),()),(Bldg.none.tup,({ As fl ca with C0:=(CY fl ca t).C0 }:Bldg).tup,())):=by
 have hl:(As fl ca).C0.length=ca:=by simp[As]
 have h:=Nj (step:=λx=>letI a:=x.2.2.1.2.2;letI b:=x.2.1.2.2;letI c:=b.2.2;letI d:=a.2.2;DX x.1.1 x.1.2.2.2.1 x.2.1.1 x.2.1.2.1 b.1 b.2.1 c.1 c.2.1 c.2.2.1 c.2.2.2.1 x.2.2.1.1 x.2.2.1.2.1 a.1 a.2.1 d.1 d.2.1 d.2.2.1 d.2.2.2.1) ca
  (λi l=>(((t:Int),(),(),(i:Int),()),(Bldg.none.tup,({ As fl ca with C0:=l }:Bldg).tup,()))) (JN DN (g15 fl t)) (λ_ l=>l.length=ca) (λl=>(((t:Int),(),(),()),(Bldg.none.tup,({ As fl ca with C0:=l }:Bldg).tup,())))
  (λi l hi hll=>by
   refine⟨?_,by rw[JN,aS,hll]⟩;show DX (t:Int) (i:Int) Bldg.none.A0 Bldg.none.B0 Bldg.none.O0 Bldg.none.J0 Bldg.none.I0 Bldg.none.M0 Bldg.none.L0 Bldg.none.C0 (As fl ca).A0 (As fl ca).B0 (As fl ca).O0 (As fl ca).J0 (As fl ca).I0 (As fl ca).M0 (As fl ca).L0 l=_;unfold DX;have hil:i<l.length:=ω;have hz:((As fl ca).A0 !=0)=E:=by show((fl:Int) !=0)=E;simp;omega
   have w:J.wrap ((i:Int)+1)=((i+1:Nat):Int):=by rw[Af ω ω];omega
   have e1:J.wrap ((1:Int)+J.wrap (aA (t:Int) 3))=((1+t%3:Nat):Int):=JX 3 ω;have e2:J.wrap ((1:Int)+J.wrap (aA (aE aH (aG (t:Int) 3)) 3))=((1+t/3%3:Nat):Int):=by rw[show aH.wrap (aG (t:Int) 3)=((t/3:Nat):Int)from SG 3 ht];exact JX 3 ω
   have e3:J.wrap ((1:Int)+J.wrap (aA (aE aH (aG (t:Int) 9)) 3))=((1+t/9%3:Nat):Int):=by rw[show aH.wrap (aG (t:Int) 9)=((t/9:Nat):Int)from SG 9 ht];exact JX 3 ω
   have e4:J.wrap (((1+t/9%3:Nat):Int)+J.wrap (aA (aE aH (aG (t:Int) 27)) 5))=((1+t/9%3+t/27%5:Nat):Int):=by rw[show aH.wrap (aG (t:Int) 27)=((t/27:Nat):Int)from SG 27 ht,show aA ((t/27:Nat):Int) 5=((t/27%5:Nat):Int)from Ox _ 5,Af (n:=((t/27%5:Nat):Int)) ω ω,Af ω ω];norm_cast
   have e5:aA (aE J ((i:Int)+J.wrap (t:Int))) (As fl ca).A0=(((i+t)%fl:Nat):Int):=by show aA _ (fl:Int)=_;rw[Af (n:=(t:Int)) ω ω,Af ω ω];exact Ox (i+t) fl
   rw[show Car.mk 0 0 0 0 0 0 0 0 0=DN from rfl];simp only[q_ (ω:(i:Int)<(l.length:Int)),Db (ω:(0:Int)≤(i:Int)) (ω:(i:Int)<(l.length:Int)),R,D_,hz,w,MN DN _ hil,List.set_set,e1,e2,e3,e4,e5];unfold JN g15;rfl)
  (λl hll=>by show DX (t:Int) (ca:Int) Bldg.none.A0 Bldg.none.B0 Bldg.none.O0 Bldg.none.J0 Bldg.none.I0 Bldg.none.M0 Bldg.none.L0 Bldg.none.C0 (As fl ca).A0 (As fl ca).B0 (As fl ca).O0 (As fl ca).J0 (As fl ca).I0 (As fl ca).M0 (As fl ca).L0 l=_;unfold DX;rw[hll,u_ (aW (ca:Int))];rfl)
  ca 0 (As fl ca).C0 ω hl
 have h2:=Bo h.1 ω;rw[show(As fl ca).C0=(aN ca).map (ER fl)from rfl,QX]at h2;exact h2
def Ad3{fl ca:Nat}(_hf:fl≤100)(h2:ca≤8)(ht:t<256):
  Hd (((t:Int),(),(),(0:Int),()),(Bldg.none.tup,(CY fl ca t).tup,()))=A (((),(),()),(Bldg.none.tup,(OS fl ca t).tup,())):=by
 have hl:(CY fl ca t).C0.length=ca:=by simp[CY]
 have h:=Nj (step:=λx=>letI a:=x.2.2.1.2.2;letI b:=x.2.1.2.2;letI c:=b.2.2;letI d:=a.2.2;DY x.1.1 x.1.2.2.2.1 x.2.1.1 x.2.1.2.1 b.1 b.2.1 c.1 c.2.1 c.2.2.1 c.2.2.2.1 x.2.2.1.1 x.2.2.1.2.1 a.1 a.2.1 d.1 d.2.1 d.2.2.1 d.2.2.2.1) ca
  (λi l=>(((t:Int),(),(),(i:Int),()),(Bldg.none.tup,({ CY fl ca t with C0:=l }:Bldg).tup,()))) (JN DN (g18 t)) (λ_ l=>l.length=ca) (λl=>(((),(),()),(Bldg.none.tup,({ CY fl ca t with C0:=l }:Bldg).tup,())))
  (λi l hi hll=>by
   refine⟨?_,by rw[JN,aS,hll]⟩;show DY (t:Int) (i:Int) Bldg.none.A0 Bldg.none.B0 Bldg.none.O0 Bldg.none.J0 Bldg.none.I0 Bldg.none.M0 Bldg.none.L0 Bldg.none.C0 (CY fl ca t).A0 (CY fl ca t).B0 (CY fl ca t).O0 (CY fl ca t).J0 (CY fl ca t).I0 (CY fl ca t).M0 (CY fl ca t).L0 l=_;unfold DY;have w:J.wrap ((i:Int)+1)=((i+1:Nat):Int):=by rw[Af ω ω];omega
   have e1:J.wrap ((1:Int)+J.wrap (aA (t:Int) 16))=((1+t%16:Nat):Int):=JX 16 ω;rw[show Car.mk 0 0 0 0 0 0 0 0 0=DN from rfl];simp only[q_ (ω:(i:Int)<(l.length:Int)),Db (ω:(0:Int)≤(i:Int)) (ω:(i:Int)<(l.length:Int)),R,D_,w,e1];unfold JN g18;rfl)
  (λl hll=>by show DY (t:Int) (ca:Int) Bldg.none.A0 Bldg.none.B0 Bldg.none.O0 Bldg.none.J0 Bldg.none.I0 Bldg.none.M0 Bldg.none.L0 Bldg.none.C0 (CY fl ca t).A0 (CY fl ca t).B0 (CY fl ca t).O0 (CY fl ca t).J0 (CY fl ca t).I0 (CY fl ca t).M0 (CY fl ca t).L0 l=_;unfold DY;rw[hll,u_ (aW (ca:Int))];rfl)
  ca 0 (CY fl ca t).C0 ω hl
 have h2:=Bo h.1 ω;rw[show(CY fl ca t).C0=(aN ca).map (λi=>g15 fl t i (ER fl i))from rfl,QX]at h2;exact h2
def Ej(fl ca n1 n2:Nat):Bldg:={ DD fl ca n1 n2 with C0:=(OS fl ca n1).C0 }
def Ad4{fl ca n0 n1 n2:Nat}(h2:ca≤8)(_h3:n1<256)(h4:n2<256) :
  Fd (((),(),(),(0:Int),()),(((n0:Int),(n1:Int),(n2:Int),()),Bldg.none.tup,(Ej fl ca n1 n2).tup,()))=A (((),(),()),(Bldg.none.tup,(DD fl ca n1 n2).tup,())):=by
 have hl:(Ej fl ca n1 n2).C0.length=ca:=by simp[Ej,OS]
 have h:=Nj (step:=λx=>letI a:=x.2.2;letI b:=a.2.1.2.2;letI c:=a.1.2.2;letI d:=c.2.2;letI e:=b.2.2;DZ x.1.2.2.2.1 x.2.1.1 x.2.1.2.1 x.2.1.2.2.1 a.1.1 a.1.2.1 c.1 c.2.1 d.1 d.2.1 d.2.2.1 d.2.2.2.1 a.2.1.1 a.2.1.2.1 b.1 b.2.1 e.1 e.2.1 e.2.2.1 e.2.2.2.1) ca
  (λi l=>(((),(),(),(i:Int),()),(((n0:Int),(n1:Int),(n2:Int),()),Bldg.none.tup,({ Ej fl ca n1 n2 with C0:=l }:Bldg).tup,()))) (JN DN (g27 n1 n2)) (λ_ l=>l.length=ca) (λl=>(((),(),()),(Bldg.none.tup,({ Ej fl ca n1 n2 with C0:=l }:Bldg).tup,())))
  (λi l hi hll=>by
   refine⟨?_,by rw[JN,aS,hll]⟩;show DZ (i:Int) (n0:Int) (n1:Int) (n2:Int) Bldg.none.A0 Bldg.none.B0 Bldg.none.O0 Bldg.none.J0 Bldg.none.I0 Bldg.none.M0 Bldg.none.L0 Bldg.none.C0 (Ej fl ca n1 n2).A0 (Ej fl ca n1 n2).B0 (Ej fl ca n1 n2).O0 (Ej fl ca n1 n2).J0 (Ej fl ca n1 n2).I0 (Ej fl ca n1 n2).M0 (Ej fl ca n1 n2).L0 l=_;unfold DZ;have hil:i<l.length:=ω;have w:J.wrap ((i:Int)+1)=((i+1:Nat):Int):=by rw[Af ω ω];omega
   have e1:J.wrap ((1:Int)+J.wrap (aA (n2:Int) 4))=((1+n2%4:Nat):Int):=JX 4 ω;have e2:J.wrap (aA (n1:Int) 5)=((n1%5:Nat):Int):=by rw[show aA (n1:Int) 5=((n1%5:Nat):Int)from Ox n1 5,Af ω ω]
   rw[show Car.mk 0 0 0 0 0 0 0 0 0=DN from rfl];simp only[q_ (ω:(i:Int)<(l.length:Int)),Db (ω:(0:Int)≤(i:Int)) (ω:(i:Int)<(l.length:Int)),R,D_,w,e1,e2,MN DN _ hil,List.set_set,aS];unfold JN g27;rfl)
  (λl hll=>by show DZ (ca:Int) (n0:Int) (n1:Int) (n2:Int) Bldg.none.A0 Bldg.none.B0 Bldg.none.O0 Bldg.none.J0 Bldg.none.I0 Bldg.none.M0 Bldg.none.L0 Bldg.none.C0 (Ej fl ca n1 n2).A0 (Ej fl ca n1 n2).B0 (Ej fl ca n1 n2).O0 (Ej fl ca n1 n2).J0 (Ej fl ca n1 n2).I0 (Ej fl ca n1 n2).M0 (Ej fl ca n1 n2).L0 l=_;unfold DZ;rw[hll,u_ (aW (ca:Int))];rfl)
  ca 0 (Ej fl ca n1 n2).C0 ω hl
 have h2:=Bo h.1 ω;rw[show(Ej fl ca n1 n2).C0=(aN ca).map (λi=>g18 n1 i (g15 fl n1 i (ER fl i)))from rfl,QX]at h2;exact h2
def EO(n0:Nat):Nat:=2+n0%5
def EE(n0:Nat):Nat:=1+n0/5%3
def TO{n0:Nat}(hn:n0<256)(ht:t<256):Ii (n0:Int) (t:Int)=A (((),()),((CY (EO n0) (EE n0) t).tup,())):=by
 have e1:J.wrap ((2:Int)+J.wrap (aA (n0:Int) 5))=((EO n0:Nat):Int):=by rw[show aA (n0:Int) 5=((n0%5:Nat):Int)from Ox n0 5,Af (n:=((n0%5:Nat):Int)) ω ω,Af ω ω];unfold EO;norm_cast
 have e2:J.wrap ((1:Int)+J.wrap (aA (aE aH (aG (n0:Int) 5)) 3))=((EE n0:Nat):Int):=by rw[show aH.wrap (aG (n0:Int) 5)=((n0/5:Nat):Int)from SG 5 hn];exact JX 3 ω
 have hf:2≤EO n0∧EO n0≤6:=by unfold EO;omega
 have hc:1≤EE n0∧EE n0≤3:=by unfold EE;omega
 have e3:J.wrap ((1:Int)+J.wrap (aA (t:Int) 7))=((1+t%7:Nat):Int):=JX 7 ω;unfold Ii;rw[e1,e2];refine At (Vw ω ω) ?_;refine At (Ad2 ω ω ω ht) ?_;show A (((),()),(((EO n0:Nat):Int),(1:Int),(4000:Int),J.wrap ((1:Int)+J.wrap (aA (t:Int) 7)),_,_,_,_,()),())=_;rw[e3];rfl
def TP{n0:Nat}(hn:n0<256)(ht:t<256):Ij (n0:Int) (t:Int)=A (((),()),((OS (EO n0) (EE n0) t).tup,())):=by
 have hf:2≤EO n0∧EO n0≤6:=by unfold EO;omega
 have hc:1≤EE n0∧EE n0≤3:=by unfold EE;omega
 unfold Ij;refine At (TO hn ht) ?_;exact At (Ad3 ω ω ht) rfl
def TQ{n0 n1 n2:Nat}(h0:n0<256)(h1:n1<256)(h2:n2<256):Ik (n0:Int) (n1:Int) (n2:Int)=A (((),()),((DD (EO n0) (EE n0) n1 n2).tup,())):=by
 have hf:2≤EO n0∧EO n0≤6:=by unfold EO;omega
 have hc:1≤EE n0∧EE n0≤3:=by unfold EE;omega
 have e1:J.wrap ((1:Int)+J.wrap (aA (n2:Int) 3))=((1+n2%3:Nat):Int):=JX 3 ω;have hl:(OS (EO n0) (EE n0) n1).C0.length=EE n0:=by simp[OS]
 have e2:J.wrap (aE J (aE J (18*(((OS (EO n0) (EE n0) n1).C0.length:Nat):Int))+24)+J.wrap (6*J.wrap (aE aH (aG (n2:Int) 3))))=((18*EE n0+24+6*(n2/3):Nat):Int):=by
  rw[hl,show aH.wrap (aG (n2:Int) 3)=((n2/3:Nat):Int)from SG 3 h2,Af (n:=18*((EE n0:Nat):Int)) ω ω,Af (n:=18*((EE n0:Nat):Int)+24) ω ω,Af (n:=((n2/3:Nat):Int)) ω ω,Af (n:=6*((n2/3:Nat):Int)) ω ω,Af ω ω]
  norm_cast
 unfold Ik;refine At (TP h0 h1) ?_;refine At (a:=(((),(),()),(Bldg.none.tup,(DD (EO n0) (EE n0) n1 n2).tup,()))) ?_ rfl;show Fd (((),(),(),(0:Int),()),(((n0:Int),(n1:Int),(n2:Int),()),Bldg.none.tup,(((EO n0:Nat):Int),J.wrap ((1:Int)+J.wrap (aA (n2:Int) 3)),J.wrap (aE J (aE J (18*(((OS (EO n0) (EE n0) n1).C0.length:Nat):Int))+24)+J.wrap (6*J.wrap (aE aH (aG (n2:Int) 3)))),_,_,_,_,_,()),()))=_;rw[e1,e2];exact Ad4 ω h1 h2
def Abx{fl ca n1 n2:Nat}(hf:2≤fl∧fl≤6)(hc:1≤ca∧ca≤3)(_h1:n1<256)(h2:n2<256):(DD fl ca n1 n2).small∧(DD fl ca n1 n2).code=0∧(DD fl ca n1 n2).C0.length=ca∧(DD fl ca n1 n2).A0=(fl:Int)∧18*(ca:Int)+24≤(DD fl ca n1 n2).O0∧(DD fl ca n1 n2).O0≤600:=by
 have hl:(DD fl ca n1 n2).C0.length=ca:=by simp[DD]
 have hr:(DD fl ca n1 n2).O0=((18*ca+24+6*(n2/3):Nat):Int):=rfl;refine⟨⟨by show(2:Int)≤(fl:Int);omega,by show(fl:Int)≤8;omega⟩,?_,hl,rfl,by rw[hr];omega,by rw[hr];omega⟩;unfold Bldg.code;have e1:inR 2 32 (DD fl ca n1 n2).A0=E:=Dh.2 (by show(2:Int)≤(fl:Int)∧(fl:Int)≤32;omega);have e2:inR 1 8 ((DD fl ca n1 n2).C0.length:Int)=E:=Dh.2 ω;have e3:inR 1 16 (DD fl ca n1 n2).B0=E:=Dh.2 (by show(1:Int)≤((1+n2%3:Nat):Int)∧((1+n2%3:Nat):Int)≤16;omega);have e4:inR 1 10000 (DD fl ca n1 n2).J0=E:=Dh.2 (by show(1:Int)≤((1+n1%7:Nat):Int)∧((1+n1%7:Nat):Int)≤10000;omega);have e5:(DD fl ca n1 n2).C0.all (Bp (DD fl ca n1 n2).A0)=E:=by rw[E_];intro c hc';obtain⟨i,_,rfl⟩:=c4_.1 hc';have hm:(i+n1)%fl<fl:=Nat.mod_lt _ ω;show Bp (fl:Int) (g27 n1 n2 i (g18 n1 i (g15 fl n1 i (ER fl i))))=E;unfold Bp g27 g18 g15 ER;simp only[M_,aQ,aP,b_,Dh,b4_];rw[Af (n:=(fl:Int)-1) ω ω];refine⟨⟨?_,?_,?_,?_,?_,?_,?_⟩,?_,?_,?_⟩<;>omega
 have e6:(DD fl ca n1 n2).loadsOK=E:=by
  show(As 2 1).loadsOK=E
  kernel_rfl
 have e7:inR (18*((DD fl ca n1 n2).C0.length:Int)+24) 65536 (DD fl ca n1 n2).O0=E:=Dh.2 (by rw[hl,hr];omega);rw[e1,e2,e3,e4,e5,e6,e7];rfl
def Nc(h:b.code=0):inR 2 32 b.A0=E∧inR 1 8 (b.C0.length:Int)=E∧inR 1 16 b.B0=E∧inR 1 10000 b.J0=E∧b.C0.all (Bp b.A0)=E∧b.loadsOK=E:=by unfold Bldg.code at h;revert h;cases inR 2 32 b.A0<;>cases inR 1 8 (b.C0.length:Int)<;>cases inR 1 16 b.B0<;>cases inR 1 10000 b.J0<;>cases b.C0.all (Bp b.A0)<;>cases b.loadsOK<;>(intro h;first | exact⟨rfl,rfl,rfl,rfl,rfl,rfl⟩ | (exact absurd h (by simp)))
def ZN(h:b.code=0)(hc:c∈b.C0):Bp b.A0 c=E:=E_.1 (Nc h).2.2.2.2.1 c hc
def Ze{n:Nat}(h:n<1000000000):J.wrap ((n:Int)+1)=((n+1:Nat):Int):=by rw[Af ω ω];omega
structure CrsOK(b:Bldg)(cs:List Car):Prop where
 len:cs.length=b.C0.length
 ok:∀c∈cs,Bp b.A0 c=true
def CrsOK.code(h:b.code=0)(hc:CrsOK b cs):({ b with O0:=4000,C0:=cs }:Bldg).code=0:=by
 obtain⟨e1,e2,e3,e4,e5,e6⟩:=Nc h;have hcc:=FP h;have e2':inR 1 8 (cs.length:Int)=E:=by rw[hc.len];exact e2
 have e5':cs.all (Bp b.A0)=E:=E_.2 hc.ok;have e6':({ b with O0:=4000,C0:=cs }:Bldg).loadsOK=E:=e6;have e7:inR (18*(cs.length:Int)+24) 65536 4000=E:=Dh.2 (by rw[hc.len];omega);unfold Bldg.code;rw[e6'];show(bif !inR 2 32 b.A0 then(10:Int)else bif !inR 1 8 (cs.length:Int)then 11 else bif !(inR 1 16 b.B0&&inR 1 10000 b.J0&&cs.all (Bp b.A0))then 12 else bif !E then 13 else bif !inR (18*(cs.length:Int)+24) 65536 4000 then 14 else 0)=0;rw[e1,e2',e3,e4,e5',e7];rfl
def CrsOK.self(h:b.code=0):CrsOK b b.C0:=⟨rfl,λ_ hc=>ZN h hc⟩
def CrsOK.set(hc:CrsOK b cs)(h:Bp b.A0 c=E)(i:Nat):CrsOK b (cs.set i c):=⟨by rw[aS];exact hc.len,λx hx=>(List.mem_or_eq_of_mem_set hx).elim (hc.ok x) λe=>by rw[e];exact h⟩
def Ic{fl:Int}:Bp fl c=E↔((1≤c.F0∧c.F0≤10000)∧(1≤c.S0∧c.S0≤10000)∧(1≤c.U0∧c.U0≤10000)∧(1≤c.W0∧c.W0≤10000)∧(1≤c.H0∧c.H0≤10000)∧(1≤c.G0∧c.G0≤10000)∧(1≤c.T0∧c.T0≤10000))∧(0≤c.N0∧c.N0≤10000)∧c.G0≤c.T0∧0≤c.E1∧c.E1≤J.wrap (fl-1):=by unfold Bp;simp only[M_,aQ,aP,b_,Dh,b4_]
section
variable{b:Bldg}(hb:b.small)(hcode:b.code=0)
include hcode
theorem Ako(h:CrsOK b cs):Sat (IZ (((),(),(0:Int),()),((b.A0,b.B0,4000,b.J0,b.I0,b.M0,b.L0,cs,()),(0,0,0,0,0,0,0,[],()),()))) λy=>∃cs',y.2.1=(b.A0,b.B0,4000,b.J0,b.I0,b.M0,b.L0,cs',())∧y.2.2.1=(0,0,0,0,0,0,0,[],())∧CrsOK b cs':=by
 have hcc:=FP hcode;have hd:=Dh.1 (Nc hcode).2.2.1;have wd:J.wrap (b.B0+1)=b.B0+1:=Af ω ω;have hl:=h.len;unfold IZ;refine Sat.loop (λ(k:Nat) z=>∃(i:Nat) (cs:List Car),z=(((),(),(i:Int),()),((b.A0,b.B0,4000,b.J0,b.I0,b.M0,b.L0,cs,()),(0,0,0,0,0,0,0,[],()),()))∧i+k=b.C0.length∧CrsOK b cs) (λk z hz=>?_) b.C0.length ⟨0,cs,rfl,n_ _,h⟩ ω;obtain⟨i,cs,rfl,hk,h⟩:=hz;have hl:=h.len;show Sat (Pn (i:Int) b.A0 b.B0 4000 b.J0 b.I0 b.M0 b.L0 cs 0 0 0 0 0 0 0 []) _;unfold Pn;refine Sat.bic (λq=>?_) λ_=>Sat.ret ⟨cs,rfl,rfl,h⟩;have q:(i:Int)<(cs.length:Int):=c7_ q;have wr:=Ze (n:=i) ω;have ht:=Ic.1 (h.ok _ (FZ DN (ω:i<cs.length)));refine Sat.bifT (Db ω q) (Sat.ret ⟨k-1,ω,i+1,_,by first | (rw[← wr];rfl) | rw[← wr],ω,?_⟩);simp only[D_,wd];rw[show Car.mk 0 0 0 0 0 0 0 0 0=DN from rfl];generalize hc:cs.getD i DN=c at ht;simp only[MN DN _ (ω:i<cs.length)];have e:∀D:Int,(D=c.G0∨D=b.B0+1)→c.G0≤D→Bp b.A0 (Car.mk c.F0 c.S0 c.U0 c.N0 c.W0 c.H0 D (bif decide (c.T0<D)then D else c.T0) c.E1)=E:=λD h1 h2=>by
  by_cases q:c.T0<D
  ·rw[q_ q];refine Ic.2 ?_;simp only[R];omega
  ·rw[u_ q];refine Ic.2 ?_;simp only[O];omega
 rw[List.set_set];refine h.set ?_ i;by_cases q:c.G0<b.B0+1
 ·rw[q_ q];exact e _ (.inr rfl) (by show c.G0≤b.B0+1;omega)
 ·rw[u_ q];exact e _ (.inl rfl) (Int.le_refl _)
include hb
theorem Af1(h:CrsOK b cs)(hi:i<cs.length):Sat (Ji b.A0 b.B0 4000 b.J0 b.I0 b.M0 b.L0 cs (i:Int)) λy=>1≤y.1.1∧y.1.1≤100000000:=by
 have lo:=hb.lo;have hif:=hb.hi;have hl:=h.len;have hcc:=FP hcode;have ht:=Ic.1 (h.ok _ (FZ DN (ω:i<cs.length)));unfold Ji;refine Sat.bindE (PX { b with O0:=4000,C0:=cs }) (Sat.bifF (by show(({ b with O0:=4000,C0:=cs }:Bldg).code !=0)=B;rw[h.code hcode];rfl) (Sat.bifF (u_ ω) (Sat.bifF (u_ ω) (Sat.bifT (Db ω ω) (Sat.ret ?_)))));simp only[D_];rw[show Car.mk 0 0 0 0 0 0 0 0 0=DN from rfl];generalize cs.getD i DN=c at ht;have w1:J.wrap (3*b.A0)=3*b.A0:=Af ω ω;have w2:J.wrap (3*b.A0+1)=3*b.A0+1:=Af ω ω;have w3:J.wrap (2*c.H0)=2*c.H0:=Af ω ω;have w4:J.wrap (2*c.H0+c.G0)=2*c.H0+c.G0:=Af ω ω;have w5:J.wrap (3*(2*c.H0+c.G0))=3*(2*c.H0+c.G0):=Af ω ω;have w6:J.wrap (3*(2*c.H0+c.G0)+c.W0)=3*(2*c.H0+c.G0)+c.W0:=Af ω ω;have w7:J.wrap (3*(2*c.H0+c.G0)+c.W0+2)=3*(2*c.H0+c.G0)+c.W0+2:=Af ω ω;rw[w1,w2,w3,w4,w5,w6,w7];generalize hy:3*(2*c.H0+c.G0)+c.W0+2=y;have hy1:1≤y∧y≤200000:=ω;have hf:b.A0=2∨b.A0=3∨b.A0=4∨b.A0=5∨b.A0=6∨b.A0=7∨b.A0=8:=ω;have k:1≤(3*b.A0+1)*y∧(3*b.A0+1)*y≤100000000:=by rcases hf with e | e | e | e | e | e | e<;>rw[e]<;>omega
 rw[Af ω ω];exact k
theorem Akp(h:CrsOK b cs):Sat (Ja (((),(),(0:Int),()),((b.A0,b.B0,4000,b.J0,b.I0,b.M0,b.L0,cs,()),(0,0,0,0,0,0,0,[],()),()))) λy=>∃cs',y.2.1=(b.A0,b.B0,4000,b.J0,b.I0,b.M0,b.L0,cs',())∧CrsOK b cs':=by
 have hcc:=FP hcode;have hd:=Dh.1 (Nc hcode).2.2.1;have hl:=h.len;unfold Ja;refine Sat.loop (λ(k:Nat) z=>∃(i:Nat) (cs:List Car),z=(((),(),(i:Int),()),((b.A0,b.B0,4000,b.J0,b.I0,b.M0,b.L0,cs,()),(0,0,0,0,0,0,0,[],()),()))∧i+k=b.C0.length∧CrsOK b cs) (λk z hz=>?_) b.C0.length ⟨0,cs,rfl,n_ _,h⟩ ω;obtain⟨i,cs,rfl,hk,h⟩:=hz;have hl:=h.len;show Sat (Po (i:Int) b.A0 b.B0 4000 b.J0 b.I0 b.M0 b.L0 cs 0 0 0 0 0 0 0 []) _;unfold Po;refine Sat.bic (λq=>?_) λ_=>Sat.ret ⟨cs,rfl,h⟩;have q:(i:Int)<(cs.length:Int):=c7_ q;have wr:=Ze (n:=i) ω;have ht:=Ic.1 (h.ok _ (FZ DN (ω:i<cs.length)));refine Sat.bindS (Af1 hb hcode h (ω:i<cs.length)) λy1 hn1=>(Sat.bifT (Db ω q) (Sat.ret ⟨k-1,ω,i+1,_,by first | (rw[← wr];rfl) | rw[← wr],ω,?_⟩))
 generalize y1.1.1=n at hn1;have w1:J.wrap (n+b.B0)=n+b.B0:=Af ω ω;have w2:J.wrap (n+b.B0+2)=n+b.B0+2:=Af ω ω;simp only[D_,w1,w2];rw[show Car.mk 0 0 0 0 0 0 0 0 0=DN from rfl];generalize cs.getD i DN=c at ht;refine h.set ?_ i;by_cases q:(10000:Int)<n+b.B0+2
 ·rw[q_ q];refine Ic.2 ?_;simp only[R];omega
 ·rw[u_ q];refine Ic.2 ?_;simp only[O];omega
end
def Bca{n0 n1 n2:Int}(h0:0≤n0∧n0<256)(h1:0≤n1∧n1<256)(h2:0≤n2∧n2<256):Sat (DU n0 n1 n2) λy=>∃b:Bldg,y=(((),()),(b.tup,()))∧b.small∧b.code=0:=by
 obtain⟨k0,rfl⟩:=bA h0.1;obtain⟨k1,rfl⟩:=bA h1.1;obtain⟨k2,rfl⟩:=bA h2.1;have hf:(2≤EO k0∧EO k0≤6)∧1≤EE k0∧EE k0≤3:=by unfold EO EE;omega
 obtain⟨hs,hw,_⟩:=Abx (n1:=k1) (n2:=k2) hf.1 hf.2 ω ω;have e:=TQ (n0:=k0) (n1:=k1) (n2:=k2) ω ω ω;generalize DD (EO k0) (EE k0) k1 k2=b at hs hw e;have hcc:=FP hw;unfold DU;refine Sat.bindE e (Sat.bindE rfl (Sat.bindS (Q:=λy=>∃cs,y.2.1=(b.A0,b.B0,4000,b.J0,b.I0,b.M0,b.L0,cs,())∧CrsOK b cs) ?_ λy hy=>?_))
 ·show Sat (OI b.A0 b.B0 4000 b.J0 b.I0 b.M0 b.L0 b.C0) _;unfold OI;refine Sat.bindE (PX { b with O0:=4000,C0:=b.C0 }) (Sat.bifF (by show(({ b with O0:=4000,C0:=b.C0 }:Bldg).code !=0)=B;rw[(CrsOK.self hw).code hw];rfl) (Sat.bifT (ED (by show 0+b.C0.length≤_;omega)) (Sat.bindS (Ako hw (cs:=b.C0) (CrsOK.self hw)) λy2 h2=>?_)));obtain⟨c1,e1,e2,e3⟩:=h2;rw[e1,e2];refine Sat.bindS (Akp hs hw e3) λy3 h3=>?_;obtain⟨c2,e4,e5⟩:=h3;exact Sat.ret ⟨c2,e4,e5⟩
 ·obtain⟨cs,e1,e2⟩:=hy;exact Sat.ret ⟨{ b with O0:=4000,C0:=cs },by rw[e1];rfl,⟨hs.lo,hs.hi⟩,e2.code hw⟩
def Arw(F:Int):Option ((List Entry×Unit)×Unit)→Bool
 |some y=>!y.1.1.isEmpty&&y.1.1.all λe=>QE F e.D0 e.E0
 |none=>B
def Aku{F:Int}(h:2≤F∧F≤8):Arw F (MV (aE aR ((aE aR ((1:Int)*((2:Int)^(Min.min (aK (aE IntKind.u64 (aE J (F-(1:Int))))) (IntKind.bits aR)))))-(1:Int))) (aE aR ((aE aR ((1:Int)*((2:Int)^(Min.min (aK (aE IntKind.u64 F)) (IntKind.bits aR)))))-(2:Int))))=E:=by have hf:F=2∨F=3∨F=4∨F=5∨F=6∨F=7∨F=8:=ω;rcases hf with rfl | rfl | rfl | rfl | rfl | rfl | rfl<;>decide+kernel
def Alw(hb:b.small)(hcode:b.code=0){l:List Int}(hl:∀x∈l,0≤x∧x<256):Sat (HO b.A0 b.B0 b.O0 b.J0 b.I0 b.M0 b.L0 b.C0 l 2000) λy=>y.1.1.length≤300∧∀e∈y.1.1,BI b e=E:=by
 have hcc:=FP hcode;have lo:=hb.lo;have hi:=hb.hi;have hk:=Aku (F:=b.A0) ⟨lo,hi⟩;unfold HO Iv;refine Sat.bindS (Q:=λy=>y.1.1.length≤300∧∀e∈y.1.1,BI b e=E) (Sat.loop (λ(k:Nat) z=>∃(out:List U) (left:Int) (i:Nat),z=((l,(),out,left,(i:Int),()),(b.tp,()))∧out.length+k=300∧i=2*out.length∧(-1000000≤left∧left≤2000)∧∀e∈out,BI b e=E) (λk z hz=>?_) 300 ⟨[],2000,0,rfl,rfl,rfl,⟨by decide,by decide⟩,λ_ h=>by cases h⟩ (by decide)) λy hy=>Sat.ret hy;obtain⟨out,left,i,rfl,h1,h2,h3,hv⟩:=hz;show Sat (Ls l out left (i:Int) b.A0 b.B0 b.O0 b.J0 b.I0 b.M0 b.L0 b.C0) _;have w1:J.wrap ((i:Int)+1)=((i+1:Nat):Int):=Ze ω;unfold Ls;rw[w1];refine Sat.bic (λq1=>?_) λ_=>Sat.ret ⟨by show out.length≤300;omega,hv⟩;have q1:=c7_ q1;refine Sat.bic (λq2=>?_) λ_=>Sat.ret ⟨by show out.length≤300;omega,hv⟩;have q2:=c7_ q2;refine Sat.bic (λq3=>?_) λ_=>Sat.ret ⟨by show out.length≤300;omega,hv⟩;have q3:=c7_ q3;have g:∀j,j<l.length→0≤l.getD j 0∧l.getD j 0<256:=λj hj=>hl _ (FZ 0 hj);have g0:=g i ω;have g1:=g (i+1) ω;refine Sat.bifT (Db ω ω) (Sat.bifT (Db ω ω) ?_);simp only[D_];generalize l.getD i 0=x at g0;generalize l.getD (i+1) 0=y at g1;rw[Af (n:=x) ω ω,Af (n:=y) ω ω];refine Sat.bifT (VR ω) ?_;refine Sat.bindS (Q:=λr=>∃e:U,r=((l,(),out,left,(i:Int),(),()),(b.tp,e.tup,()))∧BI b e=E) ?_ λr hr=>?_
 ·have hx:=aJ (a:=x) 8 g0.1;have hx2:=aL x (show(0:Int)<8 by decide);have hz3:1≤J.wrap (1+aA x 8)∧J.wrap (1+aA x 8)≤8:=by rw[Af ω ω];omega
  have hcr0:0≤J.wrap (aG x 8):=by
   have:=Int.tdiv_nonneg (a:=x) (b:=8) g0.1 (by decide)
   have h9:aG x 8≤255:=by rw[Int.tdiv_eq_ediv_of_nonneg g0.1];omega
   rw[Af ω ω];exact this
  have hcr:=aJ (a:=J.wrap (aG x 8)) (b.C0.length:Int) hcr0;have hcr2:=aL (aE J (aG x 8)) (ω:(0:Int)<(b.C0.length:Int));generalize J.wrap (1+aA x 8)=z3 at hz3;generalize aA (aE J (aG x 8)) (b.C0.length:Int)=cr at hcr hcr2;have car:BB cr 0 ((b.C0.length:Int)-1)=E:=CI.2 ω;refine Sat.bic (λq=>?_) λn1=>Sat.bic (λq=>?_) λn2=>Sat.bic (λq=>?_) λn3=>Sat.bic (λq=>Sat.ret ⟨⟨z3,0,0,cr,y⟩,rfl,?_⟩) λn4=>Sat.bic (λq=>Sat.ret ⟨⟨z3,0,0,cr,aA y 60⟩,rfl,?_⟩) λn5=>Sat.bic (λq=>Sat.ret ⟨⟨z3,0,0,cr,J.wrap (1+aA y 8)⟩,rfl,?_⟩) λn6=>Sat.bic (λq=>Sat.ret ⟨⟨z3,0,0,0,aA y 50⟩,rfl,?_⟩) λn8=>Sat.ret ⟨⟨z3,0,0,0,0⟩,rfl,?_⟩
  ·have q:=eq_of_beq q;have hm:0<(bif decide ((40:Int)<left)then(40:Int)else left)∧(bif decide ((40:Int)<left)then(40:Int)else left)≤40:=by
    by_cases h:(40:Int)<left
    ·rw[q_ h];exact⟨show(0:Int)<40 by decide,show(40:Int)≤40 by decide⟩
    ·rw[u_ h,O];omega
   generalize(bif decide ((40:Int)<left)then(40:Int)else left)=z at hm;have t1:=aJ (a:=y) z g1.1;have t2:=aL y hm.1;refine Sat.bifT (VR ω) (Sat.ret ⟨⟨z3,0,0,0,J.wrap (1+aA y z)⟩,rfl,?_⟩);rw[q,Af (n:=1+aA y z) ω ω];show(((0:Int)==0&&(0:Int)==0)&&((0:Int)==0&&BB (1+aA y z) 1 5000))=E;rw[CI.2 ω];rfl
  ·have q:=eq_of_beq q;refine Sat.bifT (Alq _) (Sat.bifT (Alq _) ?_);refine Sat.bindS (Q:=λy=>y.1.1≠[]∧∀e∈y.1.1,QE b.A0 e.D0 e.E0=E) ?_ λy1 hy1=>?_
   ·revert hk;generalize MV _ _=o;intro hk;cases o with
    |none=>cases hk
    |some v=>rw[Arw,b_,E_]at hk;exact Sat.ret ⟨λe=>by rw[e]at hk;exact absurd hk.1 (by decide),hk.2⟩
   ·have hn:0<y1.1.1.length:=List.length_pos_iff.2 hy1.1;have hm:=aJ (a:=y) (y1.1.1.length:Int) g1.1;have hm2:=aL y (ω:(0:Int)<(y1.1.1.length:Int));have e1:((y1.1.1.length:Int) !=0)=E:=VR ω;have e2:inB (aA y (y1.1.1.length:Int)) y1.1.1.length=E:=Db hm hm2;have hc:=Ans (d:=Entry.mk 0 0 0 0 B) hy1.2 (ω:aK (aA y (y1.1.1.length:Int))<y1.1.1.length);refine Sat.bifT e1 (Sat.bifT e2 (Sat.bifT e1 (Sat.bifT e2 (Sat.ret ⟨⟨z3,(y1.1.1.getD (aK (aA y (y1.1.1.length:Int))) (Entry.mk 0 0 0 0 B)).D0,(y1.1.1.getD (aK (aA y (y1.1.1.length:Int))) (Entry.mk 0 0 0 0 B)).E0,0,0⟩,rfl,?_⟩))));rw[q];show((b.code==0&&QE b.A0 _ _)&&((0:Int)==0&&(0:Int)==0))=E;rw[hc,hcode];rfl
  ·have q:=eq_of_beq q;have t1:=aJ (a:=y) b.A0 g1.1;have t2:=aL y (ω:0<b.A0);refine Sat.bifT (VR ω) (Sat.ret ⟨⟨z3,aA y b.A0,0,cr,0⟩,rfl,?_⟩);rw[q];show(BB cr 0 ((b.C0.length:Int)-1)&&(BB (aA y b.A0) 0 (b.A0-1)&&((0:Int)==0&&(0:Int)==0)))=E;rw[car,CI.2 ω];rfl
  ·rw[eq_of_beq q];show(((0:Int)==0&&(0:Int)==0)&&(BB cr 0 ((b.C0.length:Int)-1)&&BB y 0 1000))=E;rw[car,CI.2 ω];rfl
  ·rw[eq_of_beq q];have t1:=aJ (a:=y) 60 g1.1;have t2:=aL y (show(0:Int)<60 by decide);show(((0:Int)==0&&(0:Int)==0)&&(BB cr 0 ((b.C0.length:Int)-1)&&BB (aA y 60) 0 10000))=E;rw[car,CI.2 ω];rfl
  ·rw[eq_of_beq q];have t1:=aJ (a:=y) 8 g1.1;have t2:=aL y (show(0:Int)<8 by decide);rw[Af (n:=1+aA y 8) ω ω];show(((0:Int)==0&&(0:Int)==0)&&(BB cr 0 ((b.C0.length:Int)-1)&&BB (1+aA y 8) 1 8))=E;rw[car,CI.2 ω];rfl
  ·rw[eq_of_beq q];have t1:=aJ (a:=y) 50 g1.1;have t2:=aL y (show(0:Int)<50 by decide);show(((0:Int)==0&&(0:Int)==0)&&((0:Int)==0&&BB (aA y 50) 0 100000))=E;rw[CI.2 ω];rfl
  ·have n:∀k:Int,(z3==k)=B→z3≠k:=λk h e=>by rw[e,N_]at h;cases h
   have:=n _ n1
   have:=n _ n2
   have:=n _ n3
   have:=n _ n4
   have:=n _ n5
   have:=n _ n6
   have:=n _ n8
   obtain rfl:z3=7:=ω;rfl
 ·obtain⟨e,rfl,hve⟩:=hr;have ht:=Ary (n:=0) ⟨Int.le_refl 0,by decide⟩ e;refine Sat.bindE (Abc (l:=[e]) (by rw[P_];omega)) ?_;show Sat (bif aO (out.length+1) 2147483648 then A (Sum.inl ((l,(),out++[e],J.wrap (left-tkE 0 e),J.wrap ((i:Int)+2),()),(b.tp,())))else Z) _;rw[Af (n:=left-tkE 0 e) ω ω,Af (n:=(i:Int)+2) ω ω];exact Sat.bifT (ED ω) (Sat.ret ⟨k-1,ω,out++[e],left-tkE 0 e,i+2,rfl,by rw[f_,P_];omega,by rw[f_,P_];omega,⟨ω,ω⟩,λq hq=>(z_.1 hq).elim (hv q) λh=>by rw[Q_.1 h];exact hve⟩)
def WM{X Y:Type}{s:X→Option (Sum X Y)}(L:X→Option Y)(_:L=aB s BY):X→Option (Sum X Y):=s
def Yr{X Y:Type}{s:X→Option (Sum X Y)}{L:X→Option Y}(h:L=aB s BY){n:Nat}{x:X}{y:Y}(hi:aB (WM L h) n x=A y)(hn:n≤18446744073709551616):L x=A y:=by rw[h];exact Bo hi hn
noncomputable abbrev sR1:=WM Gz rfl
noncomputable abbrev sR2:=WM GA rfl
def evS:List U:=[⟨2,1,1,0,0⟩,⟨1,0,0,0,20⟩]
def Amr:List Car:=[⟨198,2,1,0,1,1,2,2,0⟩]
def b4S:List Int×List Bool×List Bool×List Entry×ByteArray×ByteArray×Int×List aI×List Belief×List NewCar×List Loaded×List Int×List Calls×Int×Int×Int×List Relay×List Rig×Unit:=([],[],[],[],H [],H [],0,[],[],[],[],[],[],0,0,0,[],[],())
def deS(f:Int)(u o c:Bool):aI:=⟨f,u,B,o,c,0,0,0,0,0,0,0,0,0,0,0,0,0,0,0,0,0,0,0,0,0,0,0,0,0,0,0,0,0,0,0,0,0,0,0,0⟩
def pS(e:List Entry)(h:ByteArray)(c:aI)(q:Belief)(d:Int)(x:List Int)(u:Calls)(t:Int)(r:Relay)(k:Int)(l:List Line):Int×Int×Int×Int×Nat×Nat×Nat×List Car×List Int×List Bool×List Bool×List Entry×ByteArray×ByteArray×Int×List aI×List Belief×List NewCar×List Loaded×List Int×List Calls×Int×Int×Int×List Relay×List Rig×Int×Int×Int×Int×List Int×List Int×List Bool×List Nat×Bool×List Int×Int×List Line×Unit:=(4,1,4000,1,4591870180066957722,4605380978949069210,4607632778762754458,Amr,[0],[B],[B],e,H [],h,1,[c],[q],[⟨0,0,0,0,0,B,0,0,0,0,0,0,0,B⟩],[⟨d⟩],x,[u],t,0,0,[r],[⟨0,0,0,2,0,0⟩],k,0,0,0,[0],[1],[],[0],B,[0],t,l,())
def zS(i:Int)(p:Int×Int×Int×Int×Nat×Nat×Nat×List Car×List Int×List Bool×List Bool×List Entry×ByteArray×ByteArray×Int×List aI×List Belief×List NewCar×List Loaded×List Int×List Calls×Int×Int×Int×List Relay×List Rig×Int×Int×Int×Int×List Int×List Int×List Bool×List Nat×Bool×List Int×Int×List Line×Unit):(Unit×Unit×List U×Int×Int×Int×Int×Unit)×((List Int×List Bool×List Bool×List Entry×ByteArray×ByteArray×Int×List aI×List Belief×List NewCar×List Loaded×List Int×List Calls×Int×Int×Int×List Relay×List Rig×Unit)×(Int×Int×Int×Int×Nat×Nat×Nat×List Car×List Int×List Bool×List Bool×List Entry×ByteArray×ByteArray×Int×List aI×List Belief×List NewCar×List Loaded×List Int×List Calls×Int×Int×Int×List Relay×List Rig×Int×Int×Int×Int×List Int×List Int×List Bool×List Nat×Bool×List Int×Int×List Line×Unit)×Unit):=(((),(),evS,2,1,20,i,()),(b4S,p,()))
def hA:ByteArray:=H [4,0,0,2,0,165,5,0,0,2,0,199,6,0,0,2,0,97]
def hB:ByteArray:=H [4,0,0,2,0,165,5,0,0,2,0,199,6,0,0,2,0,97,1,1,1,2,0,53,3,1,1,2,0,241]
def hC:ByteArray:=H [4,0,0,2,0,165,5,0,0,2,0,199,6,0,0,2,0,97,1,1,1,2,0,53,3,1,1,2,0,241,2,1,1,2,0,147]
def lS:List Line:=[⟨4,H [115,101,114,118,101,100,32,49,32,117,112]⟩]
def p0S:=pS [] hA (deS 0 B B B) ⟨(-1),0,0,[],0,B⟩ 0 [] ⟨0,0⟩ 0 ⟨0,0,0,0,2,0,0,0,0⟩ 2 []
def p1S:=pS [⟨1,1,0,0,B⟩] hB (deS 1 B B E) ⟨0,0,2,[⟨1,1,0⟩],1,B⟩ 1 [1] ⟨0,0⟩ 1 ⟨1,0,1,0,2,1,2,0,0⟩ 0 []
def p2S:=pS [⟨1,1,0,0,B⟩] hB (deS 0 E B E) ⟨0,1,2,[⟨1,1,1⟩],0,B⟩ 1 [0] ⟨0,0⟩ 2 ⟨2,1,1,2,0,1,2,0,0⟩ 0 []
def p3S:=pS [⟨1,1,0,0,B⟩] hB (deS 2 E B B) ⟨1,1,0,[⟨1,1,2⟩],0,B⟩ 1 [0] ⟨0,0⟩ 3 ⟨3,1,1,2,1,2,0,0,0⟩ 0 []
def p4S:=pS [] hC (deS 2 E E B) ⟨1,1,1,[],0,B⟩ 1 [] ⟨2,0⟩ 4 ⟨3,1,1,2,1,1,0,0,0⟩ 0 lS
def p5S:=pS [] hC (deS 2 E E B) ⟨1,1,1,[],0,B⟩ 1 [] ⟨2,0⟩ 5 ⟨4,1,1,2,0,1,0,0,0⟩ 0 lS
def p6S:=pS [] hC (deS 2 E B B) ⟨1,1,0,[],0,B⟩ 1 [] ⟨0,0⟩ 6 ⟨0,1,0,0,2,0,0,0,0⟩ 0 lS
def p7S:=pS [] hC (deS 2 B B E) ⟨1,0,2,[],1,B⟩ 1 [] ⟨0,0⟩ 7 ⟨0,1,0,0,2,0,0,0,0⟩ 0 lS
def p8S:=pS [] hC (deS 2 B B E) ⟨1,0,2,[],2,B⟩ 1 [] ⟨0,0⟩ 8 ⟨0,1,0,0,2,0,0,0,0⟩ 0 lS
def p9S:=pS [] hC (deS 2 B B E) ⟨1,0,2,[],3,B⟩ 1 [] ⟨0,0⟩ 9 ⟨0,1,0,0,2,0,0,0,0⟩ 0 lS
def Bcl:=pS [] hC (deS 2 B B E) ⟨1,0,2,[],4,B⟩ 1 [] ⟨0,0⟩ 10 ⟨0,1,0,0,2,0,0,0,0⟩ 0 lS
def Bcm:=pS [] hC (deS 2 B B E) ⟨1,0,2,[],5,B⟩ 1 [] ⟨0,0⟩ 11 ⟨0,1,0,0,2,0,0,0,0⟩ 0 lS
def Bcn:=pS [] hC (deS 2 B B E) ⟨1,0,2,[],6,B⟩ 1 [] ⟨0,0⟩ 12 ⟨0,1,0,0,2,0,0,0,0⟩ 0 lS
def Bco:=pS [] hC (deS 2 B B E) ⟨1,0,2,[],7,B⟩ 1 [] ⟨0,0⟩ 13 ⟨0,1,0,0,2,0,0,0,0⟩ 0 lS
def Bcp:=pS [] hC (deS 2 B B E) ⟨1,0,2,[],8,B⟩ 1 [] ⟨0,0⟩ 14 ⟨0,1,0,0,2,0,0,0,0⟩ 0 lS
def Bcq:=pS [] hC (deS 2 B B E) ⟨1,0,2,[],9,B⟩ 1 [] ⟨0,0⟩ 15 ⟨0,1,0,0,2,0,0,0,0⟩ 0 lS
def Bcr:=pS [] hC (deS 2 B B E) ⟨1,0,2,[],10,B⟩ 1 [] ⟨0,0⟩ 16 ⟨0,1,0,0,2,0,0,0,0⟩ 0 lS
def Bcs:=pS [] hC (deS 2 B B E) ⟨1,0,2,[],11,B⟩ 1 [] ⟨0,0⟩ 17 ⟨0,1,0,0,2,0,0,0,0⟩ 0 lS
def Bct:=pS [] hC (deS 2 B B E) ⟨1,0,2,[],12,B⟩ 1 [] ⟨0,0⟩ 18 ⟨0,1,0,0,2,0,0,0,0⟩ 0 lS
def Bcu:=pS [] hC (deS 2 B B E) ⟨1,0,2,[],13,B⟩ 1 [] ⟨0,0⟩ 19 ⟨0,1,0,0,2,0,0,0,0⟩ 0 lS
def Vj:=pS [] hC (deS 2 B B E) ⟨1,0,2,[],14,B⟩ 1 [] ⟨0,0⟩ 20 ⟨0,1,0,0,2,0,0,0,0⟩ 0 lS
def tk0:sR2 (zS 0 p0S)=A (.inl (zS 1 p1S)):=κ
def tk1:sR2 (zS 1 p1S)=A (.inl (zS 2 p2S)):=κ
def tk2:sR2 (zS 2 p2S)=A (.inl (zS 3 p3S)):=κ
def tk3:sR2 (zS 3 p3S)=A (.inl (zS 4 p4S)):=κ
def tk4:sR2 (zS 4 p4S)=A (.inl (zS 5 p5S)):=κ
def tk5:sR2 (zS 5 p5S)=A (.inl (zS 6 p6S)):=κ
def tk6:sR2 (zS 6 p6S)=A (.inl (zS 7 p7S)):=κ
def tk7:sR2 (zS 7 p7S)=A (.inl (zS 8 p8S)):=κ
def tk8:sR2 (zS 8 p8S)=A (.inl (zS 9 p9S)):=κ
def tk9:sR2 (zS 9 p9S)=A (.inl (zS 10 Bcl)):=κ
def Bqy:sR2 (zS 10 Bcl)=A (.inl (zS 11 Bcm)):=κ
def Bqz:sR2 (zS 11 Bcm)=A (.inl (zS 12 Bcn)):=κ
def Bq0:sR2 (zS 12 Bcn)=A (.inl (zS 13 Bco)):=κ
def Bq1:sR2 (zS 13 Bco)=A (.inl (zS 14 Bcp)):=κ
def Bq2:sR2 (zS 14 Bcp)=A (.inl (zS 15 Bcq)):=κ
def Bq3:sR2 (zS 15 Bcq)=A (.inl (zS 16 Bcr)):=κ
def Bq4:sR2 (zS 16 Bcr)=A (.inl (zS 17 Bcs)):=κ
def Bq5:sR2 (zS 17 Bcs)=A (.inl (zS 18 Bct)):=κ
def Bq6:sR2 (zS 18 Bct)=A (.inl (zS 19 Bcu)):=κ
def Bq7:sR2 (zS 19 Bcu)=A (.inl (zS 20 Vj)):=κ
def wS:(Unit×Unit×List U×Int×Int×Unit)×((List Int×List Bool×List Bool×List Entry×ByteArray×ByteArray×Int×List aI×List Belief×List NewCar×List Loaded×List Int×List Calls×Int×Int×Int×List Relay×List Rig×Unit)×(Int×Int×Int×Int×Nat×Nat×Nat×List Car×List Int×List Bool×List Bool×List Entry×ByteArray×ByteArray×Int×List aI×List Belief×List NewCar×List Loaded×List Int×List Calls×Int×Int×Int×List Relay×List Rig×Int×Int×Int×Int×List Int×List Int×List Bool×List Nat×Bool×List Int×Int×List Line×Unit)×Unit):=(((),(),evS,2,1,()),(b4S,Vj,()))
def Bfv:GA (zS 0 p0S)=A wS:=Yr rfl (n:=21) ((Ap tk0).trans ((Ap tk1).trans ((Ap tk2).trans ((Ap tk3).trans ((Ap tk4).trans ((Ap tk5).trans ((Ap tk6).trans ((Ap tk7).trans ((Ap tk8).trans ((Ap tk9).trans ((Ap Bqy).trans ((Ap Bqz).trans ((Ap Bq0).trans ((Ap Bq1).trans ((Ap Bq2).trans ((Ap Bq3).trans ((Ap Bq4).trans ((Ap Bq5).trans ((Ap Bq6).trans ((Ap Bq7).trans (Az (show sR2 (zS 20 Vj)=A (.inr wS)by kernel_rfl)))))))))))))))))))))) (by decide)
def cnT{c:Bool}{x y r:α}(h:c=E)(h2:x=r):(bif c then x else y)=r:=by subst h;exact h2
def cnF{c:Bool}{x y r:α}(h:c=B)(h2:y=r):(bif c then x else y)=r:=by subst h;exact h2
def pBS:=pS [] hA (deS 0 B B B) ⟨(-1),0,0,[],0,B⟩ 0 [] ⟨0,0⟩ 0 ⟨0,0,0,0,2,0,0,0,0⟩ 0 []
def Bfu:Gz (((),(),evS,2,0,()),(b4S,pBS,()))=A (((),(),()),(b4S,Vj,())):=
 have h0:sR1 (((),(),evS,2,0,()),(b4S,pBS,()))=A (.inl (((),(),evS,2,1,()),(b4S,p0S,()))):=κ;have h1:sR1 (((),(),evS,2,1,()),(b4S,p0S,()))=A (.inl (((),(),evS,2,2,()),(b4S,Vj,()))):=by unfold sR1 WM Qa;exact cnT (by decide) (cnT (by decide) (cnT (by decide) (At Bfv κ)))
 have h2:sR1 (((),(),evS,2,2,()),(b4S,Vj,()))=A (.inr (((),(),()),(b4S,Vj,()))):=κ
 Yr rfl (n:=3) ((Ap h0).trans ((Ap h1).trans (Az h2))) (by decide)
def imS:List Int×List Bool×List Bool×List Entry×ByteArray×ByteArray×Int×List aI×List Belief×List NewCar×List Loaded×List Int×List Calls×Int×Int×Int×List Relay×List Rig×Unit:=([0],[B],[B],[],H [],hC,1,[⟨2,B,B,B,E,0,0,0,0,0,0,0,0,0,0,0,0,0,0,0,0,0,0,0,0,0,0,0,0,0,0,0,0,0,0,0,0,0,0,0,0⟩],[⟨1,0,2,[],14,B⟩],[⟨0,0,0,0,0,B,0,0,0,0,0,0,0,B⟩],[⟨1⟩],[],[⟨0,0⟩],20,0,0,[⟨0,1,0,0,2,0,0,0,0⟩],[⟨0,0,0,2,0,0⟩],())
def Bql:HP 4 1 4000 1 4591870180066957722 4605380978949069210 4607632778762754458 Amr evS=A (((),lS,0,()),(imS,())):=by unfold HP;refine At (a:=((E,()),())) κ (cnF rfl (At (a:=((20,()),())) κ (cnF (by decide) ?_)));refine cnT (by decide) (cnT (by decide) (cnT (by decide) (cnT (by decide) (cnT (by decide) ?_))));refine At (a:=(((),0,()),(([0],[B],[B],[],H [],hA,1,[⟨0,B,B,B,B,0,0,0,0,0,0,0,0,0,0,0,0,0,0,0,0,0,0,0,0,0,0,0,0,0,0,0,0,0,0,0,0,0,0,0,0⟩],[⟨(-1),0,0,[],0,B⟩],[⟨0,0,0,0,0,B,0,0,0,0,0,0,0,B⟩],[⟨0⟩],[],[⟨0,0⟩],0,0,0,[⟨0,0,0,0,2,0,0,0,0⟩],[⟨0,0,0,2,0,0⟩],()),()))) κ (At (a:=((evS,(),(),()),(b4S,pBS,()))) κ (At Bfu rfl))
def Bfw:Il=A ((E,()),()):=by
 unfold Il;refine At (a:=(((),()),((4,1,4000,1,4591870180066957722,4605380978949069210,4607632778762754458,Amr,()),()))) κ ?_;refine At (a:=((evS,0,0,()),())) κ ?_;refine At (a:=((H [112,114,101,115,115,32,49,32,117,112,10,119,97,105,116,32,50,48,10],0,()),())) κ ?_;refine At rfl ?_;refine At Bql ?_;refine At (a:=(([],2,300,()),())) κ ?_
 kernel_rfl
def Asv(c:UInt8)(s:Bs):Bt c s≠[]:=by
 cases s with
 |nil=>exact λh=>by cases h
 |cons b l=>
  rw[Bt];cases b==c with
  |true=>exact λh=>by cases h
  |false=>cases Bt c l<;>exact λh=>by cases h
def Abj(c:UInt8)(r:Bs):∀a:Bs,Bt c (a++c::r)=Bt c a++Bt c r
 |[]=>by show Bt c (c::r)=[]::Bt c r;rw[Bt,N_];rfl
 |b::a=>by
  have ih:=Abj c r a;rw[aT,Bt,Bt,ih];cases b==c with
  |true=>rfl
  |false=>
   cases h:Bt c a with
   |nil=>exact absurd h (Asv c a)
   |cons x t=>rfl
def Yv{c:UInt8}{r:Bs}:∀{a:Bs},c∉a→BF c (a++c::r)=a
 |[],_=>by rw[b5_,BF,N_];rfl
 |b::a,h=>by rw[aT,BF,Iw (show ¬b=c from λe=>h (by rw[e];exact S_)),O,Yv λhm=>h (R_ _ hm)]
def MO(k:Nat)(x:Bs):List Bs:=match k with
 |0=>[x]
 |1=>[32::(x++[32])]
 |2=>[[],x++[35]]
 |3=>[[35,32,110,111,116,101],x++[32,35,32,120],[]]
 |_=>[32::32::32::x]
def preV:List Bs:=[[],[32],[10],[35,32,110,111,116,101,10],[32,32,32]]
def sufV:List Bs:=[[10],[32,10],[35,10],[32,35,32,120,10,10],[10]]
def Aa2(hk:k<5)(x:Bs):preV.getD k []++x++sufV.getD k []=BE (MO k x):=by
 match k,hk with
 |0,_=>rfl
 |1,_=>simp[preV,sufV,MO,BE]
 |2,_=>simp[preV,sufV,MO,BE]
 |3,_=>simp[preV,sufV,MO,BE]
 |4,_=>rfl
def Wr:∀a c:List Bs,BE (a++c)=BE a++BE c
 |[],_=>rfl
 |l::a,c=>by rw[aT,BE,BE,Wr a c,C_];rfl
structure LnOK(e:Event)(l:List Bs):Prop where
 no:∀x∈l,10∉x
 le:∀x∈l,x.length≤50
 parse:∀(b:Bldg) (i:Nat) (out:List Event) (r:List Bs),BI b e=true→Fm b i out (l++r)=Fm b (i+l.length) (out++[e]) r
def Pd:Dj (32::x)=Dj x:=by unfold Dj;rw[show BF 35 (32::x)=32::BF 35 x from rfl,Bt,N_,R];rfl
def WV{r:Bs}(h:35∉x):Dj (x++35::r)=Dj x:=by unfold Dj;rw[Yv h,Jf h]
def Ux(h:35∉x):Dj (x++[32])=Dj x:=by unfold Dj;rw[Jf h,Jf (by simp[h]),Abj,List.filter_append];simp[Bt]
def KV(hw:Dj x=wsV e)(he:Vev e)(hv:BI b e=E):Fm b i out (x::r)=Fm b (i+1) (out++[e]) r:=by
 have hne:=(Tq he).1;have her:=Ase he;rw[Fm,hw];cases h:wsV e with
 |nil=>exact absurd h hne
 |cons w ws=>rw[h]at her;simp only[her,hv,R]
def Nr(hw:Dj x=[]):Fm b i out (x::r)=Fm b (i+1) out r:=by rw[Fm,hw]
def Asm(h:Vev e):35∉Cl e:=λhm=>by
 obtain⟨_,_,h3⟩:=Tq h;rcases Rh hm with e | ⟨w,hw,e⟩
 ·exact absurd e (by decide)
 ·exact(h3 w hw).2.2.1 e
def Bcc(he:Vev e)(hk:k<5):LnOK e (MO k (Cl e)):=by
 obtain⟨h1,h2,h3⟩:=Ol he;have h35:=Asm he
 match k,hk with
 |0,_=>exact⟨λx hx=>by rw[Q_.1 hx];exact h2,λx hx=>by rw[Q_.1 hx];omega,λb i out r hv=>KV h1 he hv⟩
 |1,_=>refine⟨λx hx=>by rw[Q_.1 hx];simp[h2],λx hx=>by rw[Q_.1 hx];simp;omega,λb i out r hv=>KV ?_ he hv⟩;rw[Pd,Ux h35,h1]
 |2,_=>
  refine⟨λx hx=>?_,λx hx=>?_,λb i out r hv=>(Nr (by decide)).trans (KV ?_ he hv)⟩
  ·rcases s_.1 hx with rfl | hx
   ·exact λh=>by cases h
   ·rw[Q_.1 hx];simp[h2]
  ·rcases s_.1 hx with rfl | hx
   ·exact K_ _
   ·rw[Q_.1 hx];simp;omega
  ·rw[WV h35,h1]
 |3,_=>
  refine⟨λx hx=>?_,λx hx=>?_,λb i out r hv=>(Nr (by decide)).trans ((KV ?_ he hv).trans (Nr (by decide)))⟩
  ·rcases s_.1 hx with rfl | hx
   ·decide
   rcases s_.1 hx with rfl | hx
   ·simp[h2]
   ·rw[Q_.1 hx];exact λh=>by cases h
  ·rcases s_.1 hx with rfl | hx
   ·decide
   rcases s_.1 hx with rfl | hx
   ·simp;omega
   ·rw[Q_.1 hx];exact K_ _
  ·rw[show Cl e++[32,35,32,120]=(Cl e++[32])++35::[32,120]by simp,WV (by simp[h35]),Ux h35,h1]
 |4,_=>refine⟨λx hx=>by rw[Q_.1 hx];simp[h2],λx hx=>by rw[Q_.1 hx];simp;omega,λb i out r hv=>KV ?_ he hv⟩;rw[Pd,Pd,Pd,h1]
def kOf(m:List Int)(i:Nat):Nat:=if i<m.length then(aA (m.getD i 0) 5).toNat else 0
def Cw(m:List Int):Nat→List U→List Bs
 |_,[]=>[]
 |i,e::r=>MO (kOf m i) (Cl e)++Cw m (i+1) r
def Wm{m:List Int}(hm:∀x∈m,0≤x∧x<256)(i:Nat):kOf m i<5:=by
 unfold kOf;split
 ·rename_i h
  have:=hm _ (FZ 0 h)
  have t1:=aJ (a:=m.getD i 0) 5 this.1;have t2:=aL (m.getD i 0) (show(0:Int)<5 by decide);omega
 ·decide
def Asn(k:Nat)(x:Bs):(MO k x).length≤3:=by unfold MO;split<;>simp
def Ye{b:Bldg}{m:List Int}(hm:∀x∈m,0≤x∧x<256):∀(i:Nat) (l:List U),(∀e∈l,Vev e∧BI b e=E)→(Cw m i l).length≤3*l.length∧(∀x∈Cw m i l,10∉x∧x.length≤50)∧∀(j:Nat) (out:List U),Fm b j out (Cw m i l++[[]])=(out++l,0,0)
 |_,[],_=>⟨B_ _,λx hx=>(by cases hx),λj out=>by show Fm b j out [[]]=_;rw[Nr (by decide),Fm,List.append_nil]⟩
 |i,e::r,h=>by
  obtain⟨he,hv⟩:=h e S_;obtain⟨g1,g2,g3⟩:=Ye hm (i+1) r λx hx=>h x (R_ _ hx);have hk:=Bcc he (Wm hm i);have hl:=Asn (kOf m i) (Cl e);refine⟨by rw[Cw,f_,p_];omega,λx hx=>?_,λj out=>?_⟩
  ·rw[Cw]at hx;rcases z_.1 hx with hx | hx
   ·exact⟨hk.no x hx,hk.le x hx⟩
   ·exact g2 x hx
  ·rw[Cw,C_,hk.parse b j out _ hv,g3,C_];rfl
def Bcj{l:List α}(d:α)(h:i<l.length):List.drop i (List.take (i+1) l)=[l.getD i d]:=by rw[bC,c_ h,List.drop_append_of_le_length (by rw[o_];omega),bB (by rw[o_];omega),m_,c_ h];rfl
def Amt(x:Bs):(H (x++[10])).extract 0 x.length=H x:=by apply ByteArray.ext;simp[H,ByteArray.data_extract]
def Aod(h:Vev e):Cl e≠[]:=λhn=>by have h1:=(Ol h).1;rw[hn]at h1;exact(Tq h).1 h1.symm
section
variable{b:Bldg}(hb:b.small)(hcode:b.code=0){m:List Int}(hm:∀x∈m,0≤x∧x<256)
include hb hcode hm
theorem Aci(hl:l.length≤300)(hv:∀e∈l,BI b e=E)(hi:i<l.length){acc:Bs}(ha:acc.length≤50*i):
  Dz m l (H acc) (i:Int) b.A0 b.B0 b.O0 b.J0 b.I0 b.M0 b.L0 b.C0=A (.inl ((m,(),l,H (acc++BE (MO (kOf m i) (Cl (l.getD i noEv)))),((i+1:Nat):Int),()),(b.tup,()))):=by
 have hcc:=FP hcode;have hc:b.C0.length≤1000:=ω;have hve:=hv _ (FZ noEv hi);have he:=WR hb hc hve;have hw:J.wrap ((i:Int)+1)=((i+1:Nat):Int):=Ze ω;have hk:=Wm hm i;have hle:=(Ol he).2.2;have hne:=List.length_pos_iff.2 (Aod he);unfold Dz;simp only[hw];refine cnT (MP hi) (cnT (by rw[q_ ω,q_ ω];rfl) (cnT (by rw[q_ ω,q_ (by rw[D_];omega)];rfl) ?_));simp only[D_,Bcj noEv hi];generalize l.getD i noEv=e at hve he hle hne;have hf:Afe b [e]=((H (Cl e++[10]),0,()),()):=by unfold Afe;rw[hcode,show([e]:List U).all (BI b)=E by simp[hve]];rfl
 have hF:=Agw hb hc (l:=[e]) (by rw[P_];omega);rw[hf]at hF;have hsz:(H (Cl e++[10])).size=(Cl e).length+1:=by rw[AI,f_,P_]
 refine At hF (cnF rfl (cnF (u_ (by rw[hsz];omega)) ?_));simp only[hsz];refine At (a:=((m,(),l,H acc,(i:Int),H (Cl e++[10]),((kOf m i:Nat):Int),()),(b.tup,()))) ?_ ?_
 ·unfold kOf;by_cases h:i<m.length
  ·have hx:=hm _ (FZ 0 h);have t1:=aJ (a:=m.getD i 0) 5 hx.1;rw[if_pos h,MP h,IC h,Af (n:=m.getD i 0) ω ω];simp only[R];rw[Int.toNat_of_nonneg t1];rfl
  ·rw[if_neg h,u_ ω];rfl
 ·have hin:inB ((kOf m i:Nat):Int) 5=E:=IC hk;have hp:List.getD (preV.map H) (kOf m i) (aD (aC []))=H (preV.getD (kOf m i) []):=IA hk;have hs:List.getD (sufV.map H) (kOf m i) (aD (aC []))=H (sufV.getD (kOf m i) []):=IA hk;have hpl:(preV.getD (kOf m i) []).length≤10:=by
   have:∀k,k<5→(preV.getD k []).length≤10:=by decide
   exact this _ hk
  have hsl:(sufV.getD (kOf m i) []).length≤10:=by
   have:∀k,k<5→(sufV.getD k []).length≤10:=by decide
   exact this _ hk
  have ht:=Aa2 hk (Cl e);have hw2:J.wrap (((((Cl e).length+1:Nat):Int))-1)=(((Cl e).length:Nat):Int):=by rw[Af ω ω];omega
  have q1:aO ((H acc).size+(H (preV.getD (kOf m i) [])).size) 4611686018427387904=E:=by rw[AI,AI];exact ED ω
  have q2:aO ((H (acc++preV.getD (kOf m i) [])).size+(H (Cl e)).size) 4611686018427387904=E:=by rw[AI,AI,f_];exact ED ω
  have q3:aO ((H (acc++preV.getD (kOf m i) []++Cl e)).size+(H (sufV.getD (kOf m i) [])).size) 4611686018427387904=E:=by rw[AI,AI,f_,f_];exact ED ω
  have hp':List.getD [(aD (aC [])),(aD (aC [32])),(aD (aC [10])),(aD (aC [35,32,110,111,116,101,10])),(aD (aC [32,32,32]))] (kOf m i) (aD (aC []))=H (preV.getD (kOf m i) []):=hp;have hs':List.getD [(aD (aC [10])),(aD (aC [32,10])),(aD (aC [35,10])),(aD (aC [32,35,32,120,10,10])),(aD (aC [10]))] (kOf m i) (aD (aC []))=H (sufV.getD (kOf m i) []):=hs;refine cnT hin ?_;simp only[D_,hp',hs',hsz,hw2,Amt,VT];refine cnT q1 (cnT (by rw[q_ ω,q_ ω];rfl) ?_);refine cnT q2 (cnT hin ?_);refine cnT q3 ?_;rw[hw,← ht,C_,C_,C_]
theorem Uu{l:List U}(hl:l.length≤300)(hv:∀e∈l,BI b e=E):∀(n i:Nat) (acc:Bs),i+n=l.length→acc.length≤50*i→
  ∃t,aB (XH BP rfl) (n+1) ((m,(),l,H acc,(i:Int),()),(b.tup,()))=A (.inl (((),l,H (acc++BE (Cw m i (l.drop i))),()),(b.tup,())))∧t=()
 |0,i,acc,hi,_=>by obtain rfl:i=l.length:=ω;rw[b1_];refine⟨(),Az ?_,rfl⟩;show Dz m l (H acc) (l.length:Int) b.A0 b.B0 b.O0 b.J0 b.I0 b.M0 b.L0 b.C0=_;unfold Dz;refine cnF (Nn _) ?_;rw[show BE (Cw m l.length [])=[]from rfl,List.append_nil];rfl
 |n+1,i,acc,hi,ha=>by
  have hlt:i<l.length:=ω;have hcc:=FP hcode;have hs:=Aci hb hcode hm hl hv hlt ha;have he:=WR hb ω (hv _ (FZ noEv hlt));have h50:(BE (MO (kOf m i) (Cl (l.getD i noEv)))).length≤50:=by
   have hle:=(Ol he).2.2
   have:∀k,k<5→(preV.getD k []).length+(sufV.getD k []).length≤16:=by decide
   have h2:=this _ (Wm hm i);rw[← Aa2 (Wm hm i),f_,f_];omega
  obtain⟨_,h1,_⟩:=Uu hl hv n (i+1) (acc++BE (MO (kOf m i) (Cl (l.getD i noEv)))) ω (by rw[f_];omega);have hs':XH BP rfl ((m,(),l,H acc,(i:Int),()),(b.tup,()))=A (.inl ((m,(),l,H (acc++BE (MO (kOf m i) (Cl (l.getD i noEv)))),((i+1:Nat):Int),()),(b.tup,()))):=hs;refine⟨(),(Ap hs').trans (h1.trans ?_),rfl⟩;rw[GG noEv hlt,Cw,Wr,C_]
end
def Vd(n_f0:Int)(n_f1:Int)(n_f2:Int)(l:List Int)(m:List Int)(h_n_f0:0≤n_f0∧n_f0<256)(h_n_f1:0≤n_f1∧n_f1<256)(h_n_f2:0≤n_f2∧n_f2<256)(h_l:l.length≤maxLen∧∀e∈l,(0≤e∧e<256))(h_m:m.length≤maxLen∧∀e∈m,(0≤e∧e<256)):F_l29_ScriptSpaces n_f0 n_f1 n_f2 l m=A ((E,()),()):=by
 refine Sat.eq ?_;unfold F_l29_ScriptSpaces;obtain⟨_,hbl,b,rfl,hb,hcode⟩:=Bca h_n_f0 h_n_f1 h_n_f2;have hcc:=FP hcode;have hc:b.C0.length≤1000:=ω;refine Sat.bindE hbl (Sat.bindS (Alw hb hcode h_l.2) λy2 h2=>?_);obtain⟨hl,hv⟩:=h2;generalize y2.1.1=x at hl hv;obtain⟨_,h1,_⟩:=Uu hb hcode h_m.2 hl hv x.length 0 [] (n_ _) (K_ _);rw[b7_,b5_]at h1;have hL:BP ((m,(),x,(aD (aC [])),(0:Int),()),(b.tup,()))=_:=Agp rfl h1 ω;obtain⟨g1,g2,g3⟩:=Ye (b:=b) h_m.2 0 x λe he=>⟨WR hb hc (hv e he),hv e he⟩
 have hlen:=RT (K:=50) λy hy=>(g2 y hy).2;have hsz:(H (BE (Cw m 0 x))).size≤60000:=by rw[AI];omega
 have hP:Dd b.A0 b.B0 b.O0 b.J0 b.I0 b.M0 b.L0 b.C0 (H (BE (Cw m 0 x)))=A ((x,0,0,()),()):=by
  unfold Dd;refine At (Hu b) ?_;simp only[hcode,bne_self_eq_false,O];rw[u_ (ω:¬(60000:Int)<((H (BE (Cw m 0 x))).size:Nat)),O];have hsp:Bt 10 (BE (Cw m 0 x))=Cw m 0 x++[[]]:=WK λy hy=>(g2 y hy).1;have e1:FG (H (BE (Cw m 0 x))) (aD (aC [10]))=A (((Cw m 0 x++[[]]).map H,()),()):=by show(bif aF (H (BE (Cw m 0 x))).size 4294967281&&E then A (((Bt 10 (BE (Cw m 0 x))).map H,()),())else Z)=_;rw[FO ω,hsp];rfl
  refine At e1 ?_;have hn:(Cw m 0 x++[[]]).length=(Cw m 0 x).length+1:=by rw[f_,P_]
  have h2:=Rm hb hc (ls:=Cw m 0 x++[[]]) ω (λy hy=>by
   rcases z_.1 hy with hy | hy
   ·exact a4_ (g2 y hy).2 (by decide)
   ·rw[Q_.1 hy];exact K_ _) ((Cw m 0 x).length+1) 0 [] ω (B_ _)
  rw[b7_,g3 0 [],b5_]at h2;refine At (a:=.inl ((x,()),())) ?_ rfl;rw[F_];exact Bo h2 ω
 refine Sat.bindE hL ?_;refine Sat.bindE hP (Sat.bindE (b:=((E,()),())) (cnT rfl (At (VK x ω) (cnT rfl (At Bfw rfl)))) (Sat.ret rfl))
end Go.Ovl
