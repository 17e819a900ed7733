import Derived.Test.YtggdhaajphngoaaGreatDoorAbC
import Derived.Test.YtggdhaajphngoaaGreatDoorAbH
import Derived.Test.YtggdhaajphngoaaGreatDoorDefs4
set_option linter.all false
open Option renaming some->A,none->Z,bind->aX
open Go.Ab renaming Ac->B,iter->aA
open Bool renaming false->E,true->H,and_true->aM,and_false->aT
open Go renaming f_->J,e_->O,d_->V
open Go.IntKind renaming i64->R,wrap->aB,u8->aF,u32->aQ
open Go.Ovl renaming Event->U,Debounced->aJ
open Nat renaming blt->aC,ble->aE,succ_pos->aS
open Int renaming tmod->aD,tdiv->aI,toNat->aO,lt_irrefl->aU,eq_ofNat_of_zero_le->aY
open Array renaming mk->aG
open ByteArray renaming mk->aH
open List renaming forall_mem_cons->aK,range->aL,all_nil->aN,length_set->aR,findSome?->aV,length_nil->aW,cons_append->aZ
open Go.Ovl.Event renaming mk->aP
open Go.Ovl.script_form renaming mk->bA
namespace Go.Ovl
open Go Go.Ab
variable{f:Nat}{α:Type}
def Af{n:Int}(h:-9223372036854775808≤n)(h':n<9223372036854775808):R.wrap n=n:=by rw[IntKind.wrap_i64];omega
def CP{i:Int}{n:Nat}(h:0≤i)(h':i<n):inB i n=H:=by simp[inB];omega
def Fp{a b:Nat}(h:a≤b):aE a b=H:=Nat.ble_eq.symm▸h
def toList_data(s:ByteArray):s.toList=s.data.toList:=ByteArray.toList_eq s
def Adh{a b:ByteArray}:eqB a b=H↔a=b:=by
 constructor
 ·intro h;simp[eqB,toList_data]at h;exact ByteArray.ext h
 ·rintro rfl;simp[eqB]
def Aar(a:ByteArray):eqB a a=H:=Adh.2 rfl
def Wl [BEq α][LawfulBEq α]{a b:α}(h:¬a=b):(a !=b)=H:=by simpa using h
def Js [BEq α][LawfulBEq α]{a b:α}(h:¬a=b):(a==b)=E:=by simpa using h
section
variable{X Y:Type}{step:X→Option (Sum X Y)}
def Ap{x x':X}(h:step x=A (.inl x')):aA step (f+1) x=aA step f x':=by simp only[aA,h,Mr]
def Au{x:X}{y:Y}(h:step x=A (.inr y)):aA step (f+1) x=A y:=by simp only[aA,h,Mr]
def Yo:∀{f:Nat}{x:X}{y:Y},aA step f x=A y→∀{g:Nat},f≤g→aA step g x=A y
 |0,_,_,h,_,_=>by simp[aA]at h
 |f+1,x,y,h,0,hg=>by omega
 |f+1,x,y,h,g+1,hg=>by
  simp only[aA]at h⊢;cases hs:step x with
  |none=>rw[hs]at h;simp[Mr]at h
  |some z=>
   rw[hs]at h;cases z with
   |inl x'=>exact Yo (f:=f) (g:=g) h ω
   |inr y'=>exact h
def AY{x:X}{y:Y}(h:aA step f x=A y)(hf:f≤18446744073709551616):aA step Cc x=A y:=Yo h hf
def Rl{S:Type}(h:Nat→S→S):Nat→Nat→S→S
 |0,_,s=>s
 |m+1,i,s=>Rl h m (i+1) (h i s)
def Nz{S:Type}(N:Nat)(g:Nat→S→X)(h:Nat→S→S)(inv:Nat→S→Prop)(y:S→Y)(h1:∀i s,i<N→inv i s→step (g i s)=A (.inl (g (i+1) (h i s)))∧inv (i+1) (h i s))
  (h2:∀s,inv N s→step (g N s)=A (.inr (y s))):∀(m i:Nat) (s:S),i+m=N→inv i s→aA step (m+1) (g i s)=A (y (Rl h m i s))∧inv N (Rl h m i s)
 |0,i,s,hi,hs=>by
  have:i=N:=ω
  subst this;exact⟨Au (h2 s hs),hs⟩
 |m+1,i,s,hi,hs=>by obtain⟨q1,q2⟩:=h1 i s ω hs;rw[Ap q1];exact Nz N g h inv y h1 h2 m (i+1) (h i s) ω q2
end
end Go.Ovl
namespace Go.Ovl
open Go Go.Ab
def LS{i n:Nat}(h:i<n):decide ((i:Int)<(n:Int))=H:=w_ ω
def HP{i n:Nat}(h:i<n):inB (i:Int) n=H:=CP ω ω
def La(n:Nat):decide ((n:Int)<(n:Int))=E:=v_ (aU _)
def Am{α β:Type}{o:Option α}{a:α}{f:α→Option β}{r:Option β}(h:o=A a)(h2:f a=r):aX o f=r:=by subst h;exact h2
def EZ{α:Type}{l:List α}{i:Nat}(d:α)(hi:i<l.length):l.drop i=l.getD i d::l.drop (i+1):=by rw[List.drop_eq_getElem_cons hi,n_,c_ hi];rfl
def Abe{X Y:Type}{step:X→Option (Sum X Y)}(N:Nat)(g:Nat→X)(y:Y)(h1:∀i,i<N→step (g i)=A (.inl (g (i+1))))(h2:step (g N)=A (.inr y)):∀m i:Nat,i+m=N→aA step (m+1) (g i)=A y
 |0,i,hi=>by obtain rfl:i=N:=ω;exact Au h2
 |m+1,i,hi=>(Ap (h1 i ω)).trans (Abe N g y h1 h2 m (i+1) ω)
def Yn{X Y α:Type}{step:X→Option (Sum X Y)}(l:List α)(d:α)(p:α→Bool)(g:Nat→X)(y:Y)(z:α→Y)
  (h1:∀i,i<l.length→step (g i)=A (bif p (l.getD i d)then .inl (g (i+1))else .inr (z (l.getD i d)))) (h2:step (g l.length)=A (.inr y)) :
  ∀m i:Nat,i+m=l.length→aA step (m+1) (g i)=A (match(l.drop i).find? (λx=>!p x)with | none=>y | some x=>z x)
 |0,i,hi=>by obtain rfl:i=l.length:=ω;rw[a4_];exact Au h2
 |m+1,i,hi=>by
  have hlt:i<l.length:=ω;rw[EZ d hlt];have h:=h1 i hlt;cases hp:p (l.getD i d)with
  |true=>rw[hp,O]at h;rw[Ap h,Yn l d p g y z h1 h2 m (i+1) ω,List.find?_cons,hp];rfl
  |false=>rw[hp,J]at h;rw[Au h,List.find?_cons,hp];rfl
end Go.Ovl
namespace Go.Ovl
open Go Go.Ab
variable{n:Int}
abbrev Bs:=List UInt8
def YF{c:UInt8}:∀{a:Bs},c∉a→CV c a=[a]
 |[],_=>rfl
 |b::a,h=>by rw[CV,show(b==c)=E from beq_eq_false_iff_ne.2 λe=>h (by rw[e];exact S_),J,YF λe=>h (R_ _ e)]
def XW{c:UInt8}{r:Bs}:∀{a:Bs},c∉a→CV c (a++c::r)=a::CV c r
 |[],_=>by rw[c4_,CV,V_,O]
 |b::a,h=>by rw[aZ,CV,show(b==c)=E from beq_eq_false_iff_ne.2 λe=>h (by rw[e];exact S_),J,XW λe=>h (R_ _ e)]
def UR{c:UInt8}:∀{a:Bs},c∉a→Cu c a=a
 |[],_=>rfl
 |b::a,h=>by rw[Cu,show(b==c)=E from beq_eq_false_iff_ne.2 λe=>h (by rw[e];exact S_),J,UR λe=>h (R_ _ e)]
def YE{c:UInt8}:∀{ws:List Bs},ws≠[]→(∀w∈ws,c∉w)→CV c (CE [c] ws)=ws
 |[],h,_=>absurd rfl h
 |[w],_,h=>YF (h w S_)
 |w::v::r,_,h=>by rw[CE,I_,List.singleton_append,XW (h w S_),YE (by simp) λx hx=>h x (R_ _ hx)]
def Qt:List Bs→Bs
 |[]=>[]
 |l::r=>l++10::Qt r
def Xd:∀{ls:List Bs},(∀l∈ls,10∉l)→CV 10 (Qt ls)=ls++[[]]
 |[],_=>rfl
 |l::r,h=>by rw[Qt,XW (h l S_),Xd λx hx=>h x (R_ _ hx)];rfl
def Vt{c b:UInt8}:∀{ws:List Bs},b∈CE [c] ws→b=c∨∃w∈ws,b∈w
 |[w],h=>.inr ⟨w,S_,h⟩
 |w::v::r,h=>by
  rw[CE]at h;simp only[A_,List.mem_singleton]at h;rcases h with(h | h) | h
  ·exact .inr ⟨w,S_,h⟩
  ·exact .inl h
  ·rcases Vt h with h | ⟨x,hx,h⟩
   ·exact .inl h
   ·exact .inr ⟨x,R_ _ hx,h⟩
def Jj(l:Bs):List Bs:=(CV 32 (Cu 35 l)).filter λw=>!w.isEmpty
def Ac7{ws:List Bs}(h0:ws≠[])(h:∀w∈ws,w≠[]∧32∉w∧35∉w):Jj (CE [32] ws)=ws:=by
 have h35:35∉CE [32] ws:=λe=>by
  rcases Vt e with e | ⟨w,hw,e⟩
  ·exact absurd e (by decide)
  ·exact(h w hw).2.2 e
 rw[Jj,UR h35,YE h0 λw hw=>(h w hw).2.1];refine List.filter_eq_self.2 λw hw=>?_
 have:=(h w hw).1
 cases w with
 |nil=>exact absurd rfl this
 |cons _ _=>rfl
def Be(l:Bs):(B l).size=l.length:=List.size_toArray
def Aeq{a b:Bs}(h:B a=B b):a=b:=by
 have:(B a).data.toList=(B b).data.toList:=by rw[h]
 simpa[B]using this
def Pj(a b:Bs):eqB (B a) (B b)=decide (a=b):=by
 by_cases h:a=b
 ·subst h;rw[w_ rfl];exact Aar _
 ·rw[v_ h];cases he:eqB (B a) (B b)with
  |false=>rfl
  |true=>exact absurd (Aeq (Adh.1 he)) h
def CD(n:Int):Bs→Option Int
 |[]=>A n
 |b::r=>bif aC b.toNat 48||Nat.blt 57 b.toNat then Z else CD (10*n+(b.toNat-48:Int)) r
def An(l:Bs):Option Int:=match l with
 |[]=>Z
 |b::r=>bif aC 5 r.length||(b==48&&aC 0 r.length)then Z else CD 0 (b::r)
def Acx(a b:Bs)(n:Int):CD n (a++b)=(CD n a).bind λm=>CD m b:=by
 induction a generalizing n with
 |nil=>rfl
 |cons x a ih=>
  rw[aZ,CD,CD];cases aC x.toNat 48||Nat.blt 57 x.toNat with
  |true=>rfl
  |false=>exact ih _
def TW(d:Nat)(h:d<10):(UInt8.ofNat (48+d)).toNat=48+d:=by rw[UInt8.toNat_ofNat'];omega
def UI(n:Int)(d:Nat)(h:d<10):CD n [UInt8.ofNat (48+d)]=A (10*n+d):=by rw[CD,TW d h,show aC (48+d) 48=E from Bool.eq_false_iff.2 λe=>by rw[b4_]at e;omega,show aC 57 (48+d)=E from Bool.eq_false_iff.2 λe=>by rw[b4_]at e;omega];show CD _ []=_;rw[CD];congr 1;omega
def Np{a b:Nat}(h:b≤a):aC a b=E:=Bool.eq_false_iff.2 λe=>by rw[b4_]at e;omega
def FR{a b:Nat}(h:a<b):aC a b=H:=by rw[b4_];exact h
def Aak:∀(k u:Nat),u<10^k→0<k→CD 0 (DK k u)=A (u:Int)
 |0,_,_,h=>absurd h (by decide)
 |k+1,u,hu,_=>by
  rw[DK];by_cases h:u<10
  ·rw[FR h,O,UI 0 u h];simp
  ·have hk:0<k:=by
    cases k with
    |zero=>simp at hu;omega
    |succ k=>exact aS k
   rw[Np ω,J,Acx,Aak k (u/10) (by rw[Nat.pow_succ]at hu;omega) hk,V,UI _ _ (Nat.mod_lt _ (by decide))];congr 1;omega
def QU:∀(j k u:Nat),u<10^(j+1)→(DK k u).length≤j+1
 |_,0,_,_=>N_ _
 |0,k+1,u,hu=>by rw[DK,FR (by simpa using hu),O];exact B_ _
 |j+1,k+1,u,hu=>by
  rw[DK];by_cases h:u<10
  ·rw[FR h,O];simp
  ·rw[Np ω,J,g_]
   have:=QU j k (u/10) (by rw[Nat.pow_succ]at hu;omega)
   simp;omega
def Aaj:∀(k u:Nat) {b:UInt8},b∈DK k u→48≤b.toNat∧b.toNat≤57
 |k+1,u,b,h=>by
  rw[DK]at h;by_cases hu:u<10
  ·rw[FR hu,O]at h;obtain rfl:=List.mem_singleton.1 h;rw[TW u hu];omega
  ·rw[Np ω,J]at h;rcases A_.1 h with h | h
   ·exact Aaj k _ h
   ·obtain rfl:=List.mem_singleton.1 h;rw[TW _ (Nat.mod_lt _ (by decide))];omega
def SU:∀(k u:Nat),u<10^k→0<k→∃b r,DK k u=b::r∧(b=48→u=0)
 |0,_,_,h=>absurd h (by decide)
 |k+1,u,hu,_=>by
  rw[DK];by_cases h:u<10
  ·rw[FR h,O];refine⟨_,_,rfl,λe=>?_⟩
   have:=x_ UInt8.toNat e
   rw[TW u h]at this;simpa using this
  ·have hk:0<k:=by
    cases k with
    |zero=>simp at hu;omega
    |succ k=>exact aS k
   rw[Np ω,J];obtain⟨b,r,e,hb⟩:=SU k (u/10) (by rw[Nat.pow_succ]at hu;omega) hk;rw[e];exact⟨b,_,rfl,λe=>by have:=hb e;omega⟩
def Al9{u:Nat}(h:u<1000000):An (DK 20 u)=A (u:Int):=by
 obtain⟨b,r,e,hb⟩:=SU 20 u ω (by decide);have hv:=Aak 20 u ω (by decide);have hl:=QU 5 20 u ω;rw[e]at hv hl⊢;rw[o_]at hl;show(bif aC 5 r.length||(b==48&&aC 0 r.length)then Z else CD 0 (b::r))=_;rw[Np ω,Bool.false_or];by_cases h48:b=48
 ·have hu:=hb h48;subst hu
  have:DK 20 0=[48]:=by decide
  rw[this]at e;obtain⟨rfl,rfl⟩:=List.cons.inj e;rfl
 ·rw[Js h48,b8_,J,hv]
def Abf(u:Nat):Bv (u:Int)=DK 20 u:=rfl
def Ew(h0:0≤n)(h:n<1000000):An (Bv n)=A n:=by
 obtain⟨u,rfl⟩:∃u:Nat,n=(u:Int):=⟨n.toNat,ω⟩
 rw[Abf,Al9 ω]
def My(h0:0≤n)(h:n<1000000):Bv n≠[]∧(∀b∈Bv n,48≤b.toNat∧b.toNat≤57)∧(Bv n).length≤6:=by
 obtain⟨u,rfl⟩:∃u:Nat,n=(u:Int):=⟨n.toNat,ω⟩
 rw[Abf];obtain⟨b,r,e,_⟩:=SU 20 u ω (by decide);exact⟨by rw[e];simp,λb hb=>Aaj 20 u hb,QU 5 20 u ω⟩
end Go.Ovl
namespace Go.Ovl
open Go Go.Ab
set_option maxRecDepth 100000
variable{c:Bool}{i:Nat}
def Sat{α:Type}(o:Option α)(P:α→Prop):Prop:=∃a,o=A a∧P a
section
variable{α β:Type}{P:α→Prop}{Q:β→Prop}
def Sat.ret{a:α}(h:P a):Sat (A a) P:=⟨a,rfl,h⟩
def Sat.bindE{o:Option β}{b:β}{f:β→Option α}(h:o=A b)(h2:Sat (f b) P):Sat (aX o f) P:=by subst h;exact h2
def Sat.bindS{o:Option β}{f:β→Option α}(h:Sat o Q)(h2:∀b,Q b→Sat (f b) P):Sat (aX o f) P:=by obtain⟨b,h,hq⟩:=h;subst h;exact h2 b hq
def Sat.bic{x y:Option α}(h1:c=H→Sat x P)(h2:c=E→Sat y P):Sat (bif c then x else y) P:=by
 cases c with
 |true=>exact h1 rfl
 |false=>exact h2 rfl
def Sat.bifT{x y:Option α}(h:c=H)(h1:Sat x P):Sat (bif c then x else y) P:=by subst h;exact h1
def Sat.bifF{x y:Option α}(h:c=E)(h1:Sat y P):Sat (bif c then x else y) P:=by subst h;exact h1
def Sat.eq{o:Option α}{a:α}(h:Sat o λx=>x=a):o=A a:=by obtain⟨_,h,rfl⟩:=h;exact h
end
def Sat.iterN{X Y:Type}{step:X→Option (Sum X Y)}(I:Nat→X→Prop)(P:Y→Prop)(hs:∀k x,I k x→Sat (step x) λr=>match r with | .inl x'=>∃k',k=k'+1∧I k' x' | .inr y=>P y):∀(k:Nat) (x:X),I k x→Sat (aA step (k+1) x) P
 |k,x,hi=>by
  obtain⟨r,h1,h2⟩:=hs k x hi
  match r,h1,h2 with
  | .inr y,h1,h2=>exact⟨y,Au h1,h2⟩
  | .inl x',h1,⟨k',hk,hi'⟩=>subst hk;rw[Ap h1];exact Sat.iterN I P hs k' x' hi'
def Sat.loop{X Y:Type}{step:X→Option (Sum X Y)}(I:Nat→X→Prop){P:Y→Prop}(hs:∀k x,I k x→Sat (step x) λr=>match r with | .inl x'=>∃k',k=k'+1∧I k' x' | .inr y=>P y)(k:Nat){x:X}(hi:I k x)(hk:k<18446744073709551616):Sat (aA step Cc x) P:=by obtain⟨y,h1,h2⟩:=Sat.iterN I P hs k x hi;exact⟨y,AY h1 ω,h2⟩
def Amt(n:Int):decide ((0:Int)≤IntKind.u64.wrap n)=H:=by simp only[aB,IntKind.signed,IntKind.bits];simp;exact Int.emod_nonneg _ (by decide)
class SatT {α:Type}(o:Option α):Prop where
 out:Sat o λ_=>True
section
variable{α β:Type}{P:α→Prop}
end
def Ats{n:Int}(h:0≤n)(h':n<256):aF.wrap n=n:=by simp only[aB,IntKind.signed,IntKind.bits];simp;omega
def SP{l:Bs}(h:i<l.length):DE (B l) i=((l.getD i 0).toNat:Int):=by unfold DE B;simp[j_,n_]
def Apl(b:UInt8):decide (((b.toNat:Nat):Int)<48)=aC b.toNat 48:=by
 by_cases h:b.toNat<48
 ·rw[FR h];exact w_ ω
 ·rw[Np ω];exact v_ ω
def Azt(b:UInt8):decide ((57:Int)<((b.toNat:Nat):Int))=aC 57 b.toNat:=by
 by_cases h:57<b.toNat
 ·rw[FR h];exact w_ ω
 ·rw[Np ω];exact v_ ω
noncomputable abbrev Bdz(x:(ByteArray×Int×Int×Int×Unit)×Unit):=Bt x.1.1 x.1.2.1 x.1.2.2.1 x.1.2.2.2.1
def UO{l:Bs}(hl:l.length≤6):∀(m i:Nat) (n:Int),i+m=l.length→0≤n→n<10^i→
  aA Bdz (m+1) ((B l,n,(l.length:Int),(i:Int),()),())=A (match CD n (l.drop i)with | some k=>Sum.inl ((k,()),()) | none=>Sum.inr ((0,E,()),()))
 |0,i,n,hi,_,_=>by obtain rfl:i=l.length:=ω;rw[a4_];refine Au ?_;show Bt _ _ _ _=_;simp only[lp,Un.u,Bt,La,J];rfl
 |m+1,i,n,hi,h0,hn=>by
  have hlt:i<l.length:=ω;have h6:(10:Int)^i≤100000:=by
   have:i≤5:=ω
   rcases i with _ | _ | _ | _ | _ | _ | i
   all_goals first | decide | omega
  rw[EZ 0 hlt,CD];generalize hb:l.getD i 0=b;have hby:DE (B l) i=(b.toNat:Int):=by rw[SP hlt,hb]
  have hin:inB (i:Int) (B l).size=H:=by rw[Be];exact HP hlt
  cases h1:aC b.toNat 48 with
  |true=>refine Au ?_;show Bt _ _ _ _=_;simp only[lp,Un.u,Bt,LS hlt,hin,O,C_,hby,Apl,h1,Bool.true_or]
  |false=>
   cases h2:aC 57 b.toNat with
   |true=>refine Au ?_;show Bt _ _ _ _=_;simp only[lp,Un.u,Bt,LS hlt,hin,O,J,C_,hby,Apl,Azt,h1,h2,Bool.or_true]
   |false=>
    have hb1:¬b.toNat<48:=λe=>by rw[FR e]at h1;cases h1
    have hb2:¬57<b.toNat:=λe=>by rw[FR e]at h2;cases h2
    have hs:Bdz ((B l,n,(l.length:Int),(i:Int),()),())=A (.inl ((B l,10*n+(b.toNat-48:Int),(l.length:Int),((i+1:Nat):Int),()),())):=by show Bt _ _ _ _=_;simp only[lp,Un.u,Bt,LS hlt,hin,O,J,C_,hby,Apl,Azt,h1,h2];rw[Af (n:=10*n) ω ω,Ats (n:=(b.toNat:Int)-48) ω ω,Af (n:=(b.toNat:Int)-48) ω ω,Af (n:=10*n+_) ω ω,Af (n:=(i:Int)+1) ω ω];rfl
    rw[Ap hs,UO hl m (i+1) _ ω ω (by rw[Int.pow_succ];omega)];rfl
def Ama(l:Bs):Ey (B l)=A (match An l with | some n=>((n,H,()),()) | none=>((0,E,()),())):=by
 unfold Ey;rw[Be];cases l with
 |nil=>rfl
 |cons b r=>
  rw[v_ (show ¬(((b::r).length:Nat):Int)<1 by rw[o_];omega),J];rw[show An (b::r)=bif aC 5 r.length||(b==48&&aC 0 r.length)then Z else CD 0 (b::r)from rfl];by_cases h6:5<r.length
  ·rw[w_ (show(6:Int)<(((b::r).length:Nat):Int)by rw[o_];omega),FR h6];rfl
  ·rw[v_ (show ¬(6:Int)<(((b::r).length:Nat):Int)by rw[o_];omega),J,Np ω,CP ω (by rw[o_];omega),O,Bool.false_or];have hb:DE (B (b::r)) (aO 0)=(b.toNat:Int):=SP (l:=b::r) (i:=0) (by simp);rw[hb];have hl:EJ ((B (b::r),0,(((b::r).length:Nat):Int),0,()),())=A (match CD 0 (b::r)with | some k=>.inl ((k,()),()) | none=>.inr ((0,E,()),())):=
    AY (UO (l:=b::r) (by rw[o_];omega) (b::r).length 0 0 ω (by decide) (by decide)) (by rw[o_];omega)
   have h48:(((b.toNat:Nat):Int)==48)=(b==48):=by
    by_cases h:b=48
    ·subst h;rfl
    ·rw[Js h];exact Js λe=>h (UInt8.toNat_inj.1 (by show b.toNat=48;omega))
   have fin:((EJ ((B (b::r),0,(((b::r).length:Nat):Int),0,()),())).bind λy2=>(match y2 with | .inl y3=>A ((y3.1.1,H,()),()) | .inr y3=>A ((y3.1.1,y3.1.2.1,()),())))=A (match CD 0 (b::r)with | some n=>((n,H,()),()) | none=>((0,E,()),())):=by rw[hl,V];cases CD 0 (b::r)<;>rfl
   rw[h48];cases h:b==48 with
   |true=>
    cases r with
    |nil=>simp only[O,a6_];rw[v_ (show ¬(1:Int)<((([b]:Bs).length:Nat):Int)by simp)];simp only[V,J,Be,aW,Np (B_ 0)];exact fin
    |cons c r=>simp only[O,a6_];rw[w_ (show(1:Int)<(((b::c::r).length:Nat):Int)by simp only[o_];omega),FR (show 0<(c::r).length by simp)];rfl
   |false=>simp only[J,b8_,V,Be];exact fin
abbrev Event.tup(e:U):Int×Int×Int×Int×Int×Unit:=(e.F0,e.C0,e.E0,e.N0,e.N,())
def Aaw(w:Bs)(e:U):EU (B w) e.F0 e.C0 e.E0 e.N0 e.N=A (if w=[78]then .inr (.inr (.inr (((),()),(e.tup,()))))else if w=[70]then .inr (.inl (((),()),(e.tup,())))else if w=[67]then .inr (.inr (.inl (((),()),(e.tup,()))))else .inl (((),()),(e.tup,()))):=by
 unfold EU;rw[show aH (aG [78])=B [78]from rfl,show aH (aG [70])=B [70]from rfl,show aH (aG [67])=B [67]from rfl,Pj,Pj,Pj];by_cases h1:w=[78]
 ·rw[w_ h1,if_pos h1];rfl
 ·rw[v_ h1,if_neg h1];by_cases h2:w=[70]
  ·rw[w_ h2,if_pos h2];rfl
  ·rw[v_ h2,if_neg h2];by_cases h3:w=[67]
   ·rw[w_ h3,if_pos h3];rfl
   ·rw[v_ h3,if_neg h3];rfl
def readL(e:U):List Bs→List Bs→Option U
 |f::fs,w::ws=>if f=[78]then(An w).bind λn=>readL { e with N:=n } fs ws else if f=[70]then(An w).bind λn=>readL { e with C0:=n } fs ws else if f=[67]then(An w).bind λn=>readL { e with N0:=n } fs ws else if f=w then readL e fs ws else Z
 |_,_=>A e
noncomputable abbrev WY(x:((List ByteArray×Unit×Unit×List ByteArray×Int×Int×Unit)×((Int×Int×Int×Int×Int×Unit)×(Int×Int×Int×Int×Int×Unit)×Unit))):=DA x.1.1 x.1.2.2.2.1 x.1.2.2.2.2.1 x.1.2.2.2.2.2.1 x.2.1.1 x.2.1.2.1 x.2.1.2.2.1 x.2.1.2.2.2.1 x.2.1.2.2.2.2.1 x.2.2.1.1 x.2.2.1.2.1 x.2.2.1.2.2.1 x.2.2.1.2.2.2.1 x.2.2.1.2.2.2.2.1
def Nx{l:List Bs}(h:i<l.length):(l.map B).getD i (aH (aG []))=B (l.getD i []):=by simp[n_,c_ h]
def Yy{fs ws:List Bs}(hl:fs.length=ws.length)(hs:fs.length≤1000)(b4:Int×Int×Int×Int×Int×Unit):∀(m i:Nat) (e:U),i+m=fs.length→
  Sat (aA WY (m+1) ((ws.map B,(),(),fs.map B,(fs.length:Int),(i:Int),()),(b4,e.tup,()))) λr=>match readL e (fs.drop i) (ws.drop i)with
   |some e'=>∃q,r=.inl (q,(b4,e'.tup,()))
   |none=>∃t,r=.inr (((),E,()),t)
 |0,i,e,hi=>by obtain rfl:i=fs.length:=ω;rw[a4_,show ws.drop fs.length=[]from List.drop_eq_nil_of_le ω,readL.eq_def];refine⟨_,Au (y:=.inl (((),(),()),(b4,e.tup,()))) ?_,_,rfl⟩;show DA _ _ _ _ _ _ _ _ _ _ _ _ _ _=_;simp only[lp,Un.u,DA,La,J]
 |m+1,i,e,hi=>by
  have hlt:i<fs.length:=ω;have hlw:i<ws.length:=ω;rw[EZ ([]:Bs) hlt,EZ ([]:Bs) hlw,readL];have g1:=Nx hlt;have g2:=Nx hlw;generalize fs.getD i []=f at g1⊢;generalize ws.getD i []=w at g2⊢;have hin1:inB (i:Int) (fs.map B).length=H:=by rw[D_];exact HP hlt
  have hin2:inB (i:Int) (ws.map B).length=H:=by rw[D_];exact HP hlw
  have hw:R.wrap ((i:Int)+1)=((i+1:Nat):Int):=Af ω ω;obtain⟨r0,hr0⟩:∃r0,WY ((ws.map B,(),(),fs.map B,(fs.length:Int),(i:Int),()),(b4,e.tup,()))=r0:=⟨_,rfl⟩;have hstep:=hr0;unfold WY DA at hstep;simp only[LS hlt,hin1,hin2,O,C_,g1,g2,Aaw,Ama,V,hw]at hstep;have go:∀e':U,WY ((ws.map B,(),(),fs.map B,(fs.length:Int),(i:Int),()),(b4,e.tup,()))=A (.inl ((ws.map B,(),(),fs.map B,(fs.length:Int),((i+1:Nat):Int),()),(b4,e'.tup,())))→
    Sat (aA WY (m+1+1) ((ws.map B,(),(),fs.map B,(fs.length:Int),(i:Int),()),(b4,e.tup,()))) λr=>match readL e' (fs.drop (i+1)) (ws.drop (i+1))with
     |some e'=>∃q,r=.inl (q,(b4,e'.tup,()))
     |none=>∃t,r=.inr (((),E,()),t):=λe' h=>by
   rw[Ap h];exact Yy hl hs b4 m (i+1) e' ω
  by_cases h1:f=[78]
  ·rw[if_pos h1];simp only[if_pos h1]at hstep;cases hn:An w with
   |none=>rw[hn]at hstep;exact⟨_,Au (hr0.trans hstep.symm),_,rfl⟩
   |some n=>rw[hn]at hstep;exact go { e with N:=n } (hr0.trans hstep.symm)
  ·rw[if_neg h1];simp only[if_neg h1]at hstep;by_cases h2:f=[70]
   ·rw[if_pos h2];simp only[if_pos h2]at hstep;cases hn:An w with
    |none=>rw[hn]at hstep;exact⟨_,Au (hr0.trans hstep.symm),_,rfl⟩
    |some n=>rw[hn]at hstep;exact go { e with C0:=n } (hr0.trans hstep.symm)
   ·rw[if_neg h2];simp only[if_neg h2]at hstep;by_cases h3:f=[67]
    ·rw[if_pos h3];simp only[if_pos h3]at hstep;cases hn:An w with
     |none=>rw[hn]at hstep;exact⟨_,Au (hr0.trans hstep.symm),_,rfl⟩
     |some n=>rw[hn]at hstep;exact go { e with N0:=n } (hr0.trans hstep.symm)
    ·rw[if_neg h3];simp only[if_neg h3,Pj]at hstep;by_cases h4:f=w
     ·rw[if_pos h4];rw[w_ h4]at hstep;exact go e (hr0.trans hstep.symm)
     ·rw[if_neg h4];rw[v_ h4]at hstep;exact⟨_,Au (hr0.trans hstep.symm),_,rfl⟩
def Mc(f:List Bs)(e:U)(ws:List Bs):Option U:=if f.length=ws.length then readL e f ws else Z
def Acz{f:Bs}(hf:f.length≤100∧f.all (λb=>aC b.toNat 128)=H)(e:U){ws:List Bs}(hws:ws.length≤4294967296):Sat (De (B f) e.F0 e.C0 e.E0 e.N0 e.N (ws.map B)) λy=>match Mc (Cr [] f) e ws with
  |some e'=>y=(((),H,()),(e'.tup,()))
  |none=>y.1.2.1=E:=by
 unfold De;have hfl:DX (B f)=A (((Cr [] f).map B,()),()):=by show(bif aC (B f).size 4294967281&&_ then _ else Z)=_;rw[Be,FR ω,show(B f).data.toList=f from rfl,hf.2];rfl
 refine Sat.bindE hfl ?_;have hlen:=Rk f [];simp only[D_];unfold Mc;by_cases hl:(Cr [] f).length=ws.length
 ·rw[if_pos hl,show((((Cr [] f).length:Nat):Int) !=(ws.length:Int))=E by rw[hl];simp];refine Sat.bifF rfl ?_;refine Sat.bindS (Q:=λr=>match readL e (Cr [] f) ws with
   |some e'=>∃q,r=.inl (q,((0,0,0,0,0,()),e'.tup,()))
   |none=>∃t,r=.inr (((),E,()),t)) ?_ λr hr=>?_
  ·obtain⟨r,h1,h2⟩:=Yy hl ω (0,0,0,0,0,()) (Cr [] f).length 0 e ω;exact⟨r,AY h1 ω,h2⟩
  ·cases he:readL e (Cr [] f) ws with
   |some e'=>rw[he]at hr;obtain⟨q,rfl⟩:=hr;exact Sat.ret rfl
   |none=>rw[he]at hr;obtain⟨q,rfl⟩:=hr;exact Sat.ret rfl
 ·rw[if_neg hl,show((((Cr [] f).length:Nat):Int) !=(ws.length:Int))=H from Wl ω];exact Sat.bifT rfl (Sat.ret rfl)
def formsB:List (Bs×U):=[([119,97,105,116,32,78],⟨1,0,0,0,0⟩),([112,114,101,115,115,32,70,32,117,112],⟨2,0,1,0,0⟩),([112,114,101,115,115,32,70,32,100,111,119,110],⟨2,0,2,0,0⟩),([99,97,114,32,67,32,70],⟨3,0,0,0,0⟩),
 ([108,111,97,100,32,67,32,78],⟨4,0,0,0,0⟩),([98,108,111,99,107,32,67,32,78],⟨5,0,0,0,0⟩),([98,97,100],⟨7,0,0,0,0⟩),([99,114,97,115,104,32,78],⟨8,0,0,0,0⟩),
 ([100,114,97,105,110,32,67],⟨6,0,0,0,1⟩),([99,97,110,99,101,108,32,67],⟨6,0,0,0,2⟩),([114,101,99,111,110,110,101,99,116,32,67],⟨6,0,0,0,3⟩),([99,111,109,109,105,115,115,105,111,110,32,67],⟨6,0,0,0,4⟩),
 ([97,98,111,114,116,32,67],⟨6,0,0,0,5⟩),([97,99,99,101,112,116,32,67],⟨6,0,0,0,6⟩),([108,101,97,118,101,32,67],⟨6,0,0,0,7⟩),([114,101,115,101,116,32,67],⟨6,0,0,0,8⟩)]
def AP(p:Bs×U):script_form:=bA (B p.1) p.2.F0 p.2.C0 p.2.E0 p.2.N0 p.2.N
def formsF:List (List Bs×U):=[([[119,97,105,116],[78]],⟨1,0,0,0,0⟩),([[112,114,101,115,115],[70],[117,112]],⟨2,0,1,0,0⟩),([[112,114,101,115,115],[70],[100,111,119,110]],⟨2,0,2,0,0⟩),([[99,97,114],[67],[70]],⟨3,0,0,0,0⟩),
 ([[108,111,97,100],[67],[78]],⟨4,0,0,0,0⟩),([[98,108,111,99,107],[67],[78]],⟨5,0,0,0,0⟩),([[98,97,100]],⟨7,0,0,0,0⟩),([[99,114,97,115,104],[78]],⟨8,0,0,0,0⟩),
 ([[100,114,97,105,110],[67]],⟨6,0,0,0,1⟩),([[99,97,110,99,101,108],[67]],⟨6,0,0,0,2⟩),([[114,101,99,111,110,110,101,99,116],[67]],⟨6,0,0,0,3⟩),([[99,111,109,109,105,115,115,105,111,110],[67]],⟨6,0,0,0,4⟩),
 ([[97,98,111,114,116],[67]],⟨6,0,0,0,5⟩),([[97,99,99,101,112,116],[67]],⟨6,0,0,0,6⟩),([[108,101,97,118,101],[67]],⟨6,0,0,0,7⟩),([[114,101,115,101,116],[67]],⟨6,0,0,0,8⟩)]
def Als:formsB.map (λp=>(Cr [] p.1,p.2))=formsF:=κ
def Aa3:CB=A ((formsB.map AP,()),()):=κ
def Aas(ws:List Bs):Option U:=formsF.findSome? λp=>Mc p.1 p.2 ws
def Vi(a:Bs):Int:=if a=[100,114,97,105,110]then 1 else if a=[99,97,110,99,101,108]then 2 else if a=[114,101,99,111,110,110,101,99,116]then 3 else if a=[99,111,109,109,105,115,115,105,111,110]then 4 else if a=[97,98,111,114,116]then 5 else if a=[97,99,99,101,112,116]then 6 else if a=[108,101,97,118,101]then 7 else if a=[114,101,115,101,116]then 8 else 0
def evR:List Bs→Option U
 |[a]=>if a=[98,97,100]then A ⟨7,0,0,0,0⟩else Z
 |[a,x]=>if a=[119,97,105,116]then(An x).map λn=>⟨1,0,0,0,n⟩else if a=[99,114,97,115,104]then(An x).map λn=>⟨8,0,0,0,n⟩else if Vi a=0 then Z else(An x).map λn=>⟨6,0,0,n,Vi a⟩
 |[a,x,y]=>if a=[112,114,101,115,115]then(if y=[117,112]then(An x).map λn=>⟨2,n,1,0,0⟩else if y=[100,111,119,110]then(An x).map λn=>⟨2,n,2,0,0⟩else Z)
  else if a=[99,97,114]then(An x).bind λn=>(An y).map λm=>⟨3,m,0,n,0⟩else if a=[108,111,97,100]then(An x).bind λn=>(An y).map λm=>⟨4,0,0,n,m⟩else if a=[98,108,111,99,107]then(An x).bind λn=>(An y).map λm=>⟨5,0,0,n,m⟩else Z
 |_=>Z
def Bl{e:U}{f w:Bs}{fs ws:List Bs}(h:f≠[78]∧f≠[70]∧f≠[67]):readL e (f::fs) (w::ws)=if f=w then readL e fs ws else Z:=by rw[readL,if_neg h.1,if_neg h.2.1,if_neg h.2.2]
def Bfo(a:Bs):evR [a]=if a=[98,97,100]then A ⟨7,0,0,0,0⟩else Z:=rfl
def Zh(a x:Bs):evR [a,x]=if a=[119,97,105,116]then(An x).map λn=>⟨1,0,0,0,n⟩else if a=[99,114,97,115,104]then(An x).map λn=>⟨8,0,0,0,n⟩else if Vi a=0 then Z else(An x).map λn=>⟨6,0,0,n,Vi a⟩:=rfl
def Ua(a x y:Bs):evR [a,x,y]=if a=[112,114,101,115,115]then(if y=[117,112]then(An x).map λn=>⟨2,n,1,0,0⟩else if y=[100,111,119,110]then(An x).map λn=>⟨2,n,2,0,0⟩else Z)
  else if a=[99,97,114]then(An x).bind λn=>(An y).map λm=>⟨3,m,0,n,0⟩else if a=[108,111,97,100]then(An x).bind λn=>(An y).map λm=>⟨4,0,0,n,m⟩else if a=[98,108,111,99,107]then(An x).bind λn=>(An y).map λm=>⟨5,0,0,n,m⟩else Z:=rfl
def Ud(k:U)(w:Bs)(fs ws:List Bs):readL k ([78]::fs) (w::ws)=(An w).bind λn=>readL { k with N:=n } fs ws:=by rw[readL,if_pos rfl]
def XV(k:U)(w:Bs)(fs ws:List Bs):readL k ([70]::fs) (w::ws)=(An w).bind λn=>readL { k with C0:=n } fs ws:=by rw[readL,if_neg (by decide),if_pos rfl]
def GJ(k:U)(w:Bs)(fs ws:List Bs):readL k ([67]::fs) (w::ws)=(An w).bind λn=>readL { k with N0:=n } fs ws:=by rw[readL,if_neg (by decide),if_neg (by decide),if_pos rfl]
def NM(k:U):readL k [] []=A k:=by rw[readL.eq_def]
def Alk(ws:List Bs):Aas ws=evR ws:=by
 unfold Aas formsF
 match ws with
 |[]=>rfl
 |[a]=>
  have w:readL ⟨7,0,0,0,0⟩ [[98,97,100]] [a]=if [98,97,100]=a then A ⟨7,0,0,0,0⟩else Z:=by rw[Bl (by decide),NM]
  simp only[aV,Mc,o_,aW,Nat.reduceAdd,Nat.reduceEqDiff,if_false,if_true,w,Bfo];by_cases h:a=[98,97,100]
  ·rw[if_pos h,if_pos h.symm]
  ·rw[if_neg h,if_neg (Y_ h)]
 |[a,x]=>
  have w0:readL ⟨1,0,0,0,0⟩ [[119,97,105,116],[78]] [a,x]=if [119,97,105,116]=a then(An x).map λn=>⟨1,0,0,0,n⟩else Z:=by rw[Bl (by decide),Ud];cases An x<;>rfl
  have w1:readL ⟨8,0,0,0,0⟩ [[99,114,97,115,104],[78]] [a,x]=if [99,114,97,115,104]=a then(An x).map λn=>⟨8,0,0,0,n⟩else Z:=by rw[Bl (by decide),Ud];cases An x<;>rfl
  have w2:readL ⟨6,0,0,0,1⟩ [[100,114,97,105,110],[67]] [a,x]=if [100,114,97,105,110]=a then(An x).map λn=>⟨6,0,0,n,1⟩else Z:=by rw[Bl (by decide),GJ];cases An x<;>rfl
  have w3:readL ⟨6,0,0,0,2⟩ [[99,97,110,99,101,108],[67]] [a,x]=if [99,97,110,99,101,108]=a then(An x).map λn=>⟨6,0,0,n,2⟩else Z:=by rw[Bl (by decide),GJ];cases An x<;>rfl
  have w4:readL ⟨6,0,0,0,3⟩ [[114,101,99,111,110,110,101,99,116],[67]] [a,x]=if [114,101,99,111,110,110,101,99,116]=a then(An x).map λn=>⟨6,0,0,n,3⟩else Z:=by rw[Bl (by decide),GJ];cases An x<;>rfl
  have w5:readL ⟨6,0,0,0,4⟩ [[99,111,109,109,105,115,115,105,111,110],[67]] [a,x]=if [99,111,109,109,105,115,115,105,111,110]=a then(An x).map λn=>⟨6,0,0,n,4⟩else Z:=by rw[Bl (by decide),GJ];cases An x<;>rfl
  have w6:readL ⟨6,0,0,0,5⟩ [[97,98,111,114,116],[67]] [a,x]=if [97,98,111,114,116]=a then(An x).map λn=>⟨6,0,0,n,5⟩else Z:=by rw[Bl (by decide),GJ];cases An x<;>rfl
  have w7:readL ⟨6,0,0,0,6⟩ [[97,99,99,101,112,116],[67]] [a,x]=if [97,99,99,101,112,116]=a then(An x).map λn=>⟨6,0,0,n,6⟩else Z:=by rw[Bl (by decide),GJ];cases An x<;>rfl
  have w8:readL ⟨6,0,0,0,7⟩ [[108,101,97,118,101],[67]] [a,x]=if [108,101,97,118,101]=a then(An x).map λn=>⟨6,0,0,n,7⟩else Z:=by rw[Bl (by decide),GJ];cases An x<;>rfl
  have w9:readL ⟨6,0,0,0,8⟩ [[114,101,115,101,116],[67]] [a,x]=if [114,101,115,101,116]=a then(An x).map λn=>⟨6,0,0,n,8⟩else Z:=by rw[Bl (by decide),GJ];cases An x<;>rfl
  simp only[aV,Mc,o_,aW,Nat.reduceAdd,Nat.reduceEqDiff,if_false,if_true,w0,w1,w2,w3,w4,w5,w6,w7,w8,w9,Zh];by_cases h0:a=[119,97,105,116]
  ·subst h0;cases An x<;>rfl
  by_cases h1:a=[99,114,97,115,104]
  ·subst h1;cases An x<;>rfl
  by_cases h2:a=[100,114,97,105,110]
  ·subst h2;cases An x<;>rfl
  by_cases h3:a=[99,97,110,99,101,108]
  ·subst h3;cases An x<;>rfl
  by_cases h4:a=[114,101,99,111,110,110,101,99,116]
  ·subst h4;cases An x<;>rfl
  by_cases h5:a=[99,111,109,109,105,115,115,105,111,110]
  ·subst h5;cases An x<;>rfl
  by_cases h6:a=[97,98,111,114,116]
  ·subst h6;cases An x<;>rfl
  by_cases h7:a=[97,99,99,101,112,116]
  ·subst h7;cases An x<;>rfl
  by_cases h8:a=[108,101,97,118,101]
  ·subst h8;cases An x<;>rfl
  by_cases h9:a=[114,101,115,101,116]
  ·subst h9;cases An x<;>rfl
  simp only[Vi,if_neg h0,if_neg (Y_ h0),if_neg h1,if_neg (Y_ h1),if_neg h2,if_neg (Y_ h2),if_neg h3,if_neg (Y_ h3),if_neg h4,if_neg (Y_ h4),if_neg h5,if_neg (Y_ h5),if_neg h6,if_neg (Y_ h6),if_neg h7,if_neg (Y_ h7),if_neg h8,if_neg (Y_ h8),if_neg h9,if_neg (Y_ h9),if_true]
 |[a,x,y]=>
  have w0:readL ⟨2,0,1,0,0⟩ [[112,114,101,115,115],[70],[117,112]] [a,x,y]=if [112,114,101,115,115]=a then(if [117,112]=y then(An x).map λn=>⟨2,n,1,0,0⟩else Z)else Z:=by
   rw[Bl (by decide),XV];simp only[Bl (f:=[117,112]) (by decide),NM];split
   ·by_cases hy:[117,112]=y
    ·simp only[if_pos hy];cases An x<;>rfl
    ·simp only[if_neg hy];cases An x<;>rfl
   ·rfl
  have w1:readL ⟨2,0,2,0,0⟩ [[112,114,101,115,115],[70],[100,111,119,110]] [a,x,y]=if [112,114,101,115,115]=a then(if [100,111,119,110]=y then(An x).map λn=>⟨2,n,2,0,0⟩else Z)else Z:=by
   rw[Bl (by decide),XV];simp only[Bl (f:=[100,111,119,110]) (by decide),NM];split
   ·by_cases hy:[100,111,119,110]=y
    ·simp only[if_pos hy];cases An x<;>rfl
    ·simp only[if_neg hy];cases An x<;>rfl
   ·rfl
  have w2:readL ⟨3,0,0,0,0⟩ [[99,97,114],[67],[70]] [a,x,y]=if [99,97,114]=a then((An x).bind λn=>(An y).map λm=>⟨3,m,0,n,0⟩)else Z:=by rw[Bl (by decide),GJ];simp only[XV,NM];cases An x<;>cases An y<;>rfl
  have w3:readL ⟨4,0,0,0,0⟩ [[108,111,97,100],[67],[78]] [a,x,y]=if [108,111,97,100]=a then((An x).bind λn=>(An y).map λm=>⟨4,0,0,n,m⟩)else Z:=by rw[Bl (by decide),GJ];simp only[Ud,NM];cases An x<;>cases An y<;>rfl
  have w4:readL ⟨5,0,0,0,0⟩ [[98,108,111,99,107],[67],[78]] [a,x,y]=if [98,108,111,99,107]=a then((An x).bind λn=>(An y).map λm=>⟨5,0,0,n,m⟩)else Z:=by rw[Bl (by decide),GJ];simp only[Ud,NM];cases An x<;>cases An y<;>rfl
  simp only[aV,Mc,o_,aW,Nat.reduceAdd,Nat.reduceEqDiff,if_false,if_true,w0,w1,w2,w3,w4,Ua];by_cases h1:a=[112,114,101,115,115]
  ·subst h1;by_cases h2:y=[117,112]
   ·subst h2;cases An x<;>rfl
   ·by_cases h3:y=[100,111,119,110]
    ·subst h3;cases An x<;>rfl
    ·rw[if_neg h2,if_neg h3,if_neg (Y_ h2),if_neg (Y_ h3)];rfl
  by_cases h4:a=[99,97,114]
  ·subst h4;cases An x<;>cases An y<;>rfl
  by_cases h5:a=[108,111,97,100]
  ·subst h5;cases An x<;>cases An y<;>rfl
  by_cases h6:a=[98,108,111,99,107]
  ·subst h6;cases An x<;>cases An y<;>rfl
  simp only[if_neg h1,if_neg (Y_ h1),if_neg h4,if_neg (Y_ h4),if_neg h5,if_neg (Y_ h5),if_neg h6,if_neg (Y_ h6)]
 |_::_::_::_::_=>simp[aV,Mc,evR]
structure Bldg where
 A0:Int
 B0:Int
 Q0:Int
 K0:Int
 G0:Nat
 M0:Nat
 L0:Nat
 D0:List Car
def Pi{α:Type}{l:List α}(d:α)(h:i<l.length):l.drop i=l.getD i d::l.drop (i+1):=by rw[List.drop_eq_getElem_cons h];simp[h]
def inR(lo hi n:Int):Bool:=decide (lo≤n)&&decide (n≤hi)
def Di{lo hi n:Int}:inR lo hi n=H↔lo≤n∧n≤hi:=by simp[inR]
def Ba(lo hi:Int){l:List Int}(hl:l.length≤maxLen):AQ lo hi l=A ((l.all (inR lo hi),()),()):=by
 have hm:maxLen≤9223372036854775807:=by decide
 have key:∀(m i:Nat),i+m=l.length→aA (λx=>AX x.1.1 x.1.2.1 x.1.2.2.1 x.1.2.2.2.1 x.1.2.2.2.2.1) (m+1) ((lo,hi,l,(l.length:Int),(i:Int),()),())=A (if(l.drop i).all (inR lo hi)then .inl ((),())else .inr ((E,()),())):=by
  intro m;induction m with
  |zero=>
   intro i hi';refine Au ?_;show AX lo hi l (l.length:Int) (i:Int)=_;unfold AX;have e:decide ((i:Int)<(l.length:Int))=E:=by simp;omega
   rw[e,show i=l.length by omega];simp
  |succ m ih=>
   intro i hi';have e:decide ((i:Int)<(l.length:Int))=H:=by simp;omega
   have ib:inB (i:Int) l.length=H:=CP ω ω;have tn:aO (i:Int)=i:=ω;have w:R.wrap ((i:Int)+1)=((i+1:Nat):Int):=by rw[Af ω ω];omega
   rw[Pi (0:Int) (ω:i<l.length)];by_cases h1:l.getD i 0<lo
   ·refine(Au (y:=.inr ((E,()),())) ?_).trans ?_
    ·show AX lo hi l (l.length:Int) (i:Int)=_;unfold AX;have d1:decide (l.getD i 0<lo)=H:=by simpa using h1
     simp only[e,ib,tn,d1,O]
    ·have:inR lo hi (l.getD i 0)=E:=by rw[inR,show decide (lo≤l.getD i 0)=E from v_ ω,b8_]
     rw[J_,this];rfl
   ·have d1:decide (l.getD i 0<lo)=E:=by simpa using h1
    by_cases h2:hi<l.getD i 0
    ·refine(Au (y:=.inr ((E,()),())) ?_).trans ?_
     ·show AX lo hi l (l.length:Int) (i:Int)=_;unfold AX;have d2:decide (hi<l.getD i 0)=H:=by simpa using h2
      simp only[e,ib,tn,d1,d2,O,J]
     ·have:inR lo hi (l.getD i 0)=E:=by rw[inR,show decide (l.getD i 0≤hi)=E from v_ ω,aT]
      rw[J_,this];rfl
    ·have d2:decide (hi<l.getD i 0)=E:=by simpa using h2
     refine(Ap (x':=((lo,hi,l,(l.length:Int),((i+1:Nat):Int),()),())) ?_).trans ?_
     ·show AX lo hi l (l.length:Int) (i:Int)=_;unfold AX;simp only[e,ib,tn,d1,d2,w,O,J]
     ·have:inR lo hi (l.getD i 0)=H:=Di.2 ⟨ω,ω⟩
      rw[ih (i+1) ω,J_,this];rfl
 unfold AQ;have h0:Fs ((lo,hi,l,(l.length:Int),(0:Int),()),())=_:=AY (key l.length 0 ω) ω;rw[h0];rw[b7_];cases l.all (inR lo hi)<;>rfl
def Hu(n lo hi:Int):EF n lo hi=A ((inR lo hi n,()),()):=by unfold EF inR;cases h:decide (lo≤n)<;>simp
def Bp(fl:Int)(c:Car):Bool:=[c.H0,c.S0,c.U0,c.W0,c.J0,c.I0,c.T0].all (inR 1 10000)&&(inR 0 10000 c.O0&&(decide (c.I0≤c.T0)&&inR 0 (aB R (fl-1)) c.E1))
def Si(fl:Int)(c:Car):GW c.H0 c.S0 c.U0 c.O0 c.W0 c.J0 c.I0 c.T0 c.E1 fl=A ((Bp fl c,()),()):=by
 have hm:7≤maxLen:=by decide
 unfold GW Bp;rw[Ba 1 10000 (l:=[c.H0,c.S0,c.U0,c.W0,c.J0,c.I0,c.T0]) (by simpa using hm)];generalize [c.H0,c.S0,c.U0,c.W0,c.J0,c.I0,c.T0].all (inR 1 10000)=a;rw[Ba 0 10000 (l:=[c.O0]) (by simp;omega),Ba 0 _ (l:=[c.E1]) (by simp;omega)];simp only[V,J_,aN,aM];cases a
 ·rfl
 ·cases inR 0 10000 c.O0
  ·rfl
  ·by_cases h:c.I0≤c.T0
   ·have:decide (c.I0≤c.T0)=H:=by simpa using h
    simp only[this,O,V,a6_]
   ·have:decide (c.I0≤c.T0)=E:=by simpa using h
    simp only[this,O,J,V,a6_,b8_]
def Bldg.tup(b:Bldg):Int×Int×Int×Int×Nat×Nat×Nat×List Car×Unit:=(b.A0,b.B0,b.Q0,b.K0,b.G0,b.M0,b.L0,b.D0,())
def Car.tup(c:Car):Int×Int×Int×Int×Int×Int×Int×Int×Int×Unit:=(c.H0,c.S0,c.U0,c.O0,c.W0,c.J0,c.I0,c.T0,c.E1,())
def XR(b:Bldg)(c:Car){L:List Int}(hL:L.length=8) :
  Jr (((),(),L,(0:Int),()),(b.tup,c.tup,()))=A (if(L.take 7).all (inR 1 10000)then .inl (((),(),()),(b.tup,c.tup,()))else .inr ((E,()),())):=by
 have key:∀(m i:Nat),i+m=7→aA (λx=>letI a:=x.2.2.1.2.2;letI d:=x.2.1.2.2;letI f:=a.2.2;letI g:=d.2.2;DH x.1.2.2.1 x.1.2.2.2.1 x.2.1.1 x.2.1.2.1 d.1 d.2.1 g.1 g.2.1 g.2.2.1 g.2.2.2.1 x.2.2.1.1 x.2.2.1.2.1 a.1 a.2.1 f.1 f.2.1 f.2.2.1 f.2.2.2.1 f.2.2.2.2.1) (m+1) (((),(),L,(i:Int),()),(b.tup,c.tup,()))=A (if((L.take 7).drop i).all (inR 1 10000)then .inl (((),(),()),(b.tup,c.tup,()))else .inr ((E,()),())):=by
  intro m;induction m with
  |zero=>
   intro i hi';refine Au ?_;show DH L (i:Int) b.A0 b.B0 b.Q0 b.K0 b.G0 b.M0 b.L0 b.D0 c.H0 c.S0 c.U0 c.O0 c.W0 c.J0 c.I0 c.T0 c.E1=_;unfold DH;have e:decide ((i:Int)<7)=E:=by simp;omega
   have hd:(L.take 7).drop i=[]:=List.drop_eq_nil_of_le (by simp;omega);rw[e,hd];rfl
  |succ m ih=>
   intro i hi';have e:decide ((i:Int)<7)=H:=by simp;omega
   have ib:inB (i:Int) L.length=H:=CP ω ω;have tn:aO (i:Int)=i:=ω;have w:R.wrap ((i:Int)+1)=((i+1:Nat):Int):=by rw[Af ω ω];omega
   have hg:(L.take 7).getD i 0=L.getD i 0:=by simp only[n_,List.getElem?_take];rw[if_pos ω]
   rw[Pi (0:Int) (show i<(L.take 7).length by simp;omega),hg,J_];cases hr:inR 1 10000 (L.getD i 0)with
   |false=>refine(Au (y:=.inr ((E,()),())) ?_).trans rfl;show DH L (i:Int) b.A0 b.B0 b.Q0 b.K0 b.G0 b.M0 b.L0 b.D0 c.H0 c.S0 c.U0 c.O0 c.W0 c.J0 c.I0 c.T0 c.E1=_;unfold DH;simp only[e,ib,tn,Hu,hr,O,V,Bool.not_false]
   |true=>
    refine(Ap (x':=(((),(),L,((i+1:Nat):Int),()),(b.tup,c.tup,()))) ?_).trans ?_
    ·show DH L (i:Int) b.A0 b.B0 b.Q0 b.K0 b.G0 b.M0 b.L0 b.D0 c.H0 c.S0 c.U0 c.O0 c.W0 c.J0 c.I0 c.T0 c.E1=_;unfold DH;simp only[e,ib,tn,w,Hu,hr,O,J,V,a8_];rfl
    ·rw[ih (i+1) ω,a6_]
 have h0:=key 7 0 rfl;rw[b7_]at h0;exact AY h0 ω
def Xo(b:Bldg)(c:Car):LV b.A0 b.B0 b.Q0 b.K0 b.G0 b.M0 b.L0 b.D0 c.H0 c.S0 c.U0 c.O0 c.W0 c.J0 c.I0 c.T0 c.E1=A ((Bp b.A0 c,()),()):=by
 unfold LV Bp;by_cases h1:c.O0<0
 ·have d1:decide (c.O0<0)=H:=by simpa using h1
  have d2:inR 0 10000 c.O0=E:=by rw[inR,show decide (0≤c.O0)=E from v_ ω,b8_]
  rw[d1,O,d2,b8_,aT]
 ·have d1:decide (c.O0<0)=E:=by simpa using h1
  rw[d1,J];by_cases h2:10000<c.O0
  ·have d1:decide (10000<c.O0)=H:=by simpa using h2
   have d2:inR 0 10000 c.O0=E:=by rw[inR,show decide (c.O0≤10000)=E from v_ ω,aT]
   rw[d1,O,d2,b8_,aT]
  ·have d1:decide (10000<c.O0)=E:=by simpa using h2
   have d2:inR 0 10000 c.O0=H:=Di.2 ⟨ω,ω⟩;rw[d1,J,d2,a6_];have hl:=XR b c (L:=[c.H0,c.S0,c.U0,c.W0,c.J0,c.I0,c.T0,R.wrap (c.O0+1)]) rfl;rw[show([c.H0,c.S0,c.U0,c.W0,c.J0,c.I0,c.T0,R.wrap (c.O0+1)].take 7)=[c.H0,c.S0,c.U0,c.W0,c.J0,c.I0,c.T0]from rfl]at hl;simp only[Bldg.tup,Car.tup]at hl;rw[hl];cases [c.H0,c.S0,c.U0,c.W0,c.J0,c.I0,c.T0].all (inR 1 10000)with
   |false=>rfl
   |true=>
    simp only[if_true,V,a6_,Hu];by_cases h:c.I0≤c.T0
    ·have:decide (c.I0≤c.T0)=H:=by simpa using h
     simp only[this,O,V,a6_]
    ·have:decide (c.I0≤c.T0)=E:=by simpa using h
     simp only[this,J,V,b8_]
def Bldg.loadsOK(b:Bldg):Bool:=((Go.FloatKind.format Go.FloatKind.f64).order 0 b.G0==A Ordering.lt)&&(((Go.FloatKind.format Go.FloatKind.f64).order b.G0 b.M0==A Ordering.lt)&&(((Go.FloatKind.format Go.FloatKind.f64).order b.M0 b.L0==A Ordering.lt)&&((Go.FloatKind.format Go.FloatKind.f64).order b.L0 9218868437227405311==A Ordering.lt||(Go.FloatKind.format Go.FloatKind.f64).order b.L0 9218868437227405311==A Ordering.eq)))
def Bldg.code(b:Bldg):Int:=
 bif !inR 2 32 b.A0 then 10 else bif !inR 1 8 (b.D0.length:Int)then 11 else
 bif !(inR 1 16 b.B0&&inR 1 10000 b.K0&&b.D0.all (Bp b.A0))then 12 else bif !b.loadsOK then 13 else
 bif !inR (18*(b.D0.length:Int)+24) 65536 b.Q0 then 14 else 0
def DM:Car:=⟨0,0,0,0,0,0,0,0,0⟩
def Sm(b:Bldg)(hl:b.D0.length≤8)(g:Bool) :
  FK (((),g,b.D0,(b.D0.length:Int),(0:Int),()),(b.tup,()))=A (((),g&&b.D0.all (Bp b.A0),()),(b.tup,())):=by
 have key:∀(m i:Nat) (g:Bool),i+m=b.D0.length→aA (λx=>letI a:=x.2.1.2.2;letI c:=a.2.2;Df x.1.2.1 x.1.2.2.1 x.1.2.2.2.1 x.1.2.2.2.2.1 x.2.1.1 x.2.1.2.1 a.1 a.2.1 c.1 c.2.1 c.2.2.1 c.2.2.2.1) (m+1) (((),g,b.D0,(b.D0.length:Int),(i:Int),()),(b.tup,()))=A (((),g&&(b.D0.drop i).all (Bp b.A0),()),(b.tup,())):=by
  intro m;induction m with
  |zero=>
   intro i g hi';refine Au ?_;show Df g b.D0 (b.D0.length:Int) (i:Int) b.A0 b.B0 b.Q0 b.K0 b.G0 b.M0 b.L0 b.D0=_;unfold Df;have e:decide ((i:Int)<(b.D0.length:Int))=E:=by simp;omega
   rw[e,show i=b.D0.length by omega,a4_];simp only[J,aN,aM,Bldg.tup]
  |succ m ih=>
   intro i g hi';have e:decide ((i:Int)<(b.D0.length:Int))=H:=by simp;omega
   have ib:inB (i:Int) b.D0.length=H:=CP ω ω;have tn:aO (i:Int)=i:=ω;have w:R.wrap ((i:Int)+1)=((i+1:Nat):Int):=by rw[Af ω ω];omega
   rw[Pi DM (ω:i<b.D0.length),J_];refine(Ap (x':=(((),g&&Bp b.A0 (b.D0.getD i DM),b.D0,(b.D0.length:Int),((i+1:Nat):Int),()),(b.tup,()))) ?_).trans ?_
   ·show Df g b.D0 (b.D0.length:Int) (i:Int) b.A0 b.B0 b.Q0 b.K0 b.G0 b.M0 b.L0 b.D0=_;unfold Df;simp only[e,ib,tn,O];rw[Si b.A0 (b.D0.getD i ⟨0,0,0,0,0,0,0,0,0⟩)];cases g
    ·simp only[J,V,b8_,w];rfl
    ·simp only[O,V,a6_,w];rfl
   ·rw[ih (i+1) _ ω,Bool.and_assoc]
 have h0:=key b.D0.length 0 g ω;rw[b7_]at h0;exact AY h0 ω
def XQ(b:Bldg)(hl:b.D0.length≤8)(g:Bool) :
  Jq (((),g,(0:Int),()),(b.tup,()))=A (((),g&&b.D0.all (Bp b.A0),()),(b.tup,())):=by
 have key:∀(m i:Nat) (g:Bool),i+m=b.D0.length→aA (λx=>letI a:=x.2.1.2.2;letI c:=a.2.2;FB x.1.2.1 x.1.2.2.1 x.2.1.1 x.2.1.2.1 a.1 a.2.1 c.1 c.2.1 c.2.2.1 c.2.2.2.1) (m+1) (((),g,(i:Int),()),(b.tup,()))=A (((),g&&(b.D0.drop i).all (Bp b.A0),()),(b.tup,())):=by
  intro m;induction m with
  |zero=>
   intro i g hi';refine Au ?_;show FB g (i:Int) b.A0 b.B0 b.Q0 b.K0 b.G0 b.M0 b.L0 b.D0=_;unfold FB;have e:decide ((i:Int)<(b.D0.length:Int))=E:=by simp;omega
   rw[e,show i=b.D0.length by omega,a4_];simp only[J,aN,aM,Bldg.tup]
  |succ m ih=>
   intro i g hi';have e:decide ((i:Int)<(b.D0.length:Int))=H:=by simp;omega
   have ib:inB (i:Int) b.D0.length=H:=CP ω ω;have tn:aO (i:Int)=i:=ω;have w:R.wrap ((i:Int)+1)=((i+1:Nat):Int):=by rw[Af ω ω];omega
   rw[Pi DM (ω:i<b.D0.length),J_];refine(Ap (x':=(((),g&&Bp b.A0 (b.D0.getD i DM),((i+1:Nat):Int),()),(b.tup,()))) ?_).trans ?_
   ·show FB g (i:Int) b.A0 b.B0 b.Q0 b.K0 b.G0 b.M0 b.L0 b.D0=_;unfold FB;simp only[e,ib,tn,O];rw[Xo b (b.D0.getD i ⟨0,0,0,0,0,0,0,0,0⟩)];cases g
    ·simp only[J,V,b8_,w];rfl
    ·simp only[O,V,a6_,w];rfl
   ·rw[ih (i+1) _ ω,Bool.and_assoc]
 have h0:=key b.D0.length 0 g ω;rw[b7_]at h0;exact AY h0 ω
def Sh(b:Bldg):GV b.A0 b.B0 b.Q0 b.K0 b.G0 b.M0 b.L0 b.D0=A ((b.loadsOK,()),()):=by
 unfold GV Bldg.loadsOK;cases(Go.FloatKind.format Go.FloatKind.f64).order 0 b.G0==A Ordering.lt
 ·rfl
 cases(Go.FloatKind.format Go.FloatKind.f64).order b.G0 b.M0==A Ordering.lt
 ·rfl
 cases(Go.FloatKind.format Go.FloatKind.f64).order b.M0 b.L0==A Ordering.lt
 ·rfl
 rfl
def HA(b:Bldg):Aj b.A0 b.B0 b.Q0 b.K0 b.G0 b.M0 b.L0 b.D0=A ((b.code,()),()):=by
 have hm:8≤maxLen:=by decide
 unfold Aj Bldg.code;rw[Ba 2 32 (l:=[b.A0]) (by simp;omega),Ba 1 8 (l:=[(b.D0.length:Int)]) (by simp;omega),Ba 1 16 (l:=[b.B0]) (by simp;omega),Ba 1 10000 (l:=[b.K0]) (by simp;omega)];simp only[V,J_,aN,aM];cases inR 2 32 b.A0
 ·rfl
 cases hc:inR 1 8 (b.D0.length:Int)
 ·rfl
 have hlen:b.D0.length≤8:=by have:=(Di.1 hc).2;omega
 have hg:(bif inR 1 16 b.B0 then A (((),inR 1 10000 b.K0,()),(b.tup,()))else A (((),E,()),(b.tup,())))=A (((),inR 1 16 b.B0&&inR 1 10000 b.K0,()),(b.tup,())):=by cases inR 1 16 b.B0<;>rfl
 simp only[Bldg.tup]at hg;simp only[a8_,J,hg,V];have hl:=Sm b hlen (inR 1 16 b.B0&&inR 1 10000 b.K0);simp only[Bldg.tup]at hl;rw[hl,V];cases inR 1 16 b.B0&&inR 1 10000 b.K0&&b.D0.all (Bp b.A0)
 ·rfl
 simp only[a8_,J];rw[Sh b,V];cases b.loadsOK
 ·rfl
 simp only[a8_,J];rw[show R.wrap (aB R (18*(b.D0.length:Int))+24)=18*(b.D0.length:Int)+24 by rw[Af (n:=18*(b.D0.length:Int)) ω ω,Af ω ω],
  Ba _ 65536 (l:=[b.Q0]) (by simp;omega)]
 simp only[V,J_,aN,aM];cases inR (18*(b.D0.length:Int)+24) 65536 b.Q0<;>rfl
def Ix(b:Bldg):FW b.A0 b.B0 b.Q0 b.K0 b.G0 b.M0 b.L0 b.D0=A ((b.code,()),()):=by
 unfold FW Bldg.code;simp only[Hu,V];cases inR 2 32 b.A0
 ·rfl
 cases hc:inR 1 8 (b.D0.length:Int)
 ·rfl
 have hlen:b.D0.length≤8:=by have:=(Di.1 hc).2;omega
 have hg:(bif inR 1 16 b.B0 then A (((),inR 1 10000 b.K0,()),(b.tup,()))else A (((),E,()),(b.tup,())))=A (((),inR 1 16 b.B0&&inR 1 10000 b.K0,()),(b.tup,())):=by cases inR 1 16 b.B0<;>rfl
 simp only[Bldg.tup]at hg;simp only[a8_,J,hg,V];have hl:=XQ b hlen (inR 1 16 b.B0&&inR 1 10000 b.K0);simp only[Bldg.tup]at hl;rw[hl,V];cases inR 1 16 b.B0&&inR 1 10000 b.K0&&b.D0.all (Bp b.A0)
 ·rfl
 simp only[a8_,J];unfold Bldg.loadsOK;cases(Go.FloatKind.format Go.FloatKind.f64).order 0 b.G0==A Ordering.lt
 ·rfl
 cases(Go.FloatKind.format Go.FloatKind.f64).order b.G0 b.M0==A Ordering.lt
 ·rfl
 cases(Go.FloatKind.format Go.FloatKind.f64).order b.M0 b.L0==A Ordering.lt
 ·rfl
 simp only[O,a6_];cases((Go.FloatKind.format Go.FloatKind.f64).order b.L0 9218868437227405311==A Ordering.lt||(Go.FloatKind.format Go.FloatKind.f64).order b.L0 9218868437227405311==A Ordering.eq)
 ·rfl
 simp only[a8_,J];rw[show R.wrap (aB R (18*(b.D0.length:Int))+24)=18*(b.D0.length:Int)+24 by rw[Af (n:=18*(b.D0.length:Int)) ω ω,Af ω ω]];cases inR (18*(b.D0.length:Int)+24) 65536 b.Q0<;>rfl
def ES(fl i:Nat):Car:=⟨100,2,6,5,4,2,3,10,((i%fl:Nat):Int)⟩
def At(fl ca:Nat):Bldg:=⟨fl,1,4000,30,4591870180066957722,4605380978949069210,4607632778762754458,(aL ca).map (ES fl)⟩
def Bldg.none:Bldg:=⟨0,0,0,0,0,0,0,[]⟩
def VQ{fl ca:Nat}(h1:1≤fl)(h2:ca≤8):Ku fl ca=A (((),()),((At fl ca).tup,())):=by
 have key:∀(m i:Nat),i+m=ca→aA (λx=>letI a:=x.2.2.1.2.2;letI b:=x.2.1.2.2;letI d:=b.2.2;letI f:=a.2.2;EX x.1.1 x.1.2.1 x.1.2.2.2.2.1 x.2.1.1 x.2.1.2.1 b.1 b.2.1 d.1 d.2.1 d.2.2.1 d.2.2.2.1 x.2.2.1.1 x.2.2.1.2.1 a.1 a.2.1 f.1 f.2.1 f.2.2.1 f.2.2.2.1) (m+1) (((fl:Int),(ca:Int),(),(),(i:Int),()),(Bldg.none.tup,(At fl i).tup,()))=A (((),(),()),(Bldg.none.tup,(At fl ca).tup,())):=by
  intro m;induction m with
  |zero=>
   intro i hi';refine Au ?_;show EX (fl:Int) (ca:Int) (i:Int) Bldg.none.A0 Bldg.none.B0 Bldg.none.Q0 Bldg.none.K0 Bldg.none.G0 Bldg.none.M0 Bldg.none.L0 Bldg.none.D0 (At fl i).A0 (At fl i).B0 (At fl i).Q0 (At fl i).K0 (At fl i).G0 (At fl i).M0 (At fl i).L0 (At fl i).D0=_;unfold EX;have e:decide ((i:Int)<(ca:Int))=E:=by simp;omega
   rw[e,show i=ca by omega];rfl
  |succ m ih=>
   intro i hi';refine(Ap (x':=(((fl:Int),(ca:Int),(),(),((i+1:Nat):Int),()),(Bldg.none.tup,(At fl (i+1)).tup,()))) ?_).trans (ih (i+1) ω);show EX (fl:Int) (ca:Int) (i:Int) Bldg.none.A0 Bldg.none.B0 Bldg.none.Q0 Bldg.none.K0 Bldg.none.G0 Bldg.none.M0 Bldg.none.L0 Bldg.none.D0 (At fl i).A0 (At fl i).B0 (At fl i).Q0 (At fl i).K0 (At fl i).G0 (At fl i).M0 (At fl i).L0 (At fl i).D0=_;unfold EX;have e:decide ((i:Int)<(ca:Int))=H:=by simp;omega
   have w:R.wrap ((i:Int)+1)=((i+1:Nat):Int):=by rw[Af ω ω];omega
   have hz:((fl:Int) !=0)=H:=by simp;omega
   have hc:∀c:Car,aE ((At fl i).D0.length+[c].length) 2147483648=H:=λc=>Fp (by simp[At];omega);have ht:aD (i:Int) (fl:Int)=((i%fl:Nat):Int):=by rw[Int.tmod_eq_emod_of_nonneg ω];norm_cast
   simp only[e,hz,hc,w,ht,O];have hs:(At fl (i+1)).D0=(At fl i).D0++[ES fl i]:=by simp[At,List.range_succ]
   simp only[Bldg.tup,hs];rfl
 unfold Ku;have h0:Gy (((fl:Int),(ca:Int),(),(),(0:Int),()),(Bldg.none.tup,(At fl 0).tup,()))=_:=AY (key ca 0 ω) ω;rw[show Gy (((fl:Int),(ca:Int),(),(),(0:Int),()),(((0:Int),(0:Int),(0:Int),(0:Int),0,0,0,([]:List Car),()),((fl:Int),(1:Int),(4000:Int),(30:Int),4591870180066957722,4605380978949069210,4607632778762754458,([]:List Car),()),()))=_ from h0];rfl
end Go.Ovl
namespace Go.Ovl
open Go Go.Ab
variable{e:U}{b:Bldg}{n:Int}{w:Bs}
structure Bldg.small(b:Bldg):Prop where
 lo:2≤b.A0
 hi:b.A0≤8
def LO{α:Type}{l:List α}(d:α){i:Nat}(hi:i<l.length):l.getD i d∈l:=by simp only[n_,c_ hi,Option.getD_some];exact b2_ hi
def Ih(h:b.code=0):1≤b.D0.length∧b.D0.length≤8:=by
 unfold Bldg.code at h;cases h1:inR 1 8 (b.D0.length:Int)with
 |true=>have:=Di.1 h1;omega
 |false=>rw[h1]at h;cases h2:inR 2 32 b.A0<;>rw[h2]at h<;>simp at h
structure Img where
 K5:List Int
 L5:List Bool
 M5:List Bool
 B5:List Entry
def Wn(fl floor dir:Int):Bool:=(dir==1&&inR 0 (fl-2) floor)||(dir==2&&inR 1 (fl-1) floor)
def SO{fl:Int}(h:0≤fl∧fl<100)(floor dir:Int):Gl fl floor dir=A ((Wn fl floor dir,()),()):=by
 have w1:R.wrap (fl-1)=fl-1:=Af ω ω;have w2:R.wrap (fl-2)=fl-2:=Af ω ω;have k:∀lo hi:Int,AQ lo hi [floor]=A ((inR lo hi floor,()),()):=λlo hi=>by rw[Ba lo hi (show [floor].length≤maxLen from(show 1≤maxLen by decide))];simp
 unfold Gl Wn;rw[w1,w2,k,k];cases dir==1<;>cases dir==2<;>cases inR 0 (fl-2) floor<;>rfl
def Kc(b:Bldg)(floor dir:Int):Bool:=b.code==0&&Wn b.A0 floor dir
def SN(hb:b.small)(floor dir:Int):CJ b.A0 b.B0 b.Q0 b.K0 b.G0 b.M0 b.L0 b.D0 floor dir=A ((Kc b floor dir,()),()):=by unfold CJ Kc;rw[HA,SO ⟨by have:=hb.lo;omega,by have:=hb.hi;omega⟩];simp only[V];cases b.code==0<;>rfl
def YS(hb:b.small)(floor dir:Int):Kz b.A0 b.B0 b.Q0 b.K0 b.G0 b.M0 b.L0 b.D0 floor dir=A ((Kc b floor dir,()),()):=by have lo:=hb.lo;have hi:=hb.hi;have w1:R.wrap (b.A0-1)=b.A0-1:=Af ω ω;have w2:R.wrap (b.A0-2)=b.A0-2:=Af ω ω;unfold Kz Kc Wn;rw[Ix,w1,w2,Hu,Hu];simp only[V,bne];cases b.code==0<;>cases dir==1<;>cases dir==2<;>cases inR 0 (b.A0-2) floor<;>rfl
section
variable{b:Bldg}(hb:b.small)(m:Img)
include hb
end
def Dk(n lo hi:Int):Bool:=decide (lo≤n)&&decide (n≤hi)
def Amv(n lo hi:Int):Ez n lo hi=A ((Dk n lo hi,()),()):=by unfold Ez Dk;cases decide (lo≤n)<;>rfl
def Amf(n lo hi:Int):Lu n lo hi=A ((Dk n lo hi,()),()):=by unfold Lu Dk;cases decide (lo≤n)<;>rfl
def BD(b:Bldg)(e:U):Bool:=
 let car:=Dk e.N0 0 ((b.D0.length:Int)-1)
 let plain:=e.C0==0&&e.E0==0
 bif e.F0==1 then plain&&(e.N0==0&&Dk e.N 1 5000)else
 bif e.F0==2 then Kc b e.C0 e.E0&&(e.N0==0&&e.N==0)else
 bif e.F0==3 then car&&(Dk e.C0 0 (b.A0-1)&&(e.E0==0&&e.N==0))else
 bif e.F0==4 then plain&&(car&&Dk e.N 0 1000)else
 bif e.F0==5 then plain&&(car&&Dk e.N 0 10000)else
 bif e.F0==6 then plain&&(car&&Dk e.N 1 8)else
 bif e.F0==7 then plain&&(e.N0==0&&e.N==0)else
 bif e.F0==8 then plain&&(e.N0==0&&Dk e.N 0 100000)else E
def Aca(hb:b.small)(hc:b.D0.length≤1000)(e:U):EV b.A0 b.B0 b.Q0 b.K0 b.G0 b.M0 b.L0 b.D0 e.F0 e.C0 e.E0 e.N0 e.N=A ((BD b e,()),()):=by
 have hf:=hb.1;have hf2:=hb.2;unfold EV BD;simp only[Amv,V,Af (n:=(b.D0.length:Int)-1) ω ω,Af (n:=b.A0-1) ω ω];have hI:=SN hb e.C0 e.E0;generalize Dk e.N0 0 ((b.D0.length:Int)-1)=car;cases h1:e.F0==1
 ·cases h2:e.F0==2
  ·cases h3:e.F0==3
   ·cases h4:e.F0==4
    ·cases h5:e.F0==5
     ·cases h6:e.F0==6
      ·cases h7:e.F0==7
       ·cases h8:e.F0==8
        ·cases e.C0==0<;>simp only[O,J,V,h1,h2,h3,h4,h5,h6,h7,h8]
        ·cases e.C0==0<;>(try simp only[O,J,V,h1,h2,h3,h4,h5,h6,h7,h8])<;>cases e.E0==0<;>(try simp only[O,J,V])<;>cases e.N0==0<;>rfl
       ·cases e.C0==0<;>(try simp only[O,J,V,h1,h2,h3,h4,h5,h6,h7])<;>cases e.E0==0<;>(try simp only[O,J,V])<;>cases e.N0==0<;>rfl
      ·cases e.C0==0<;>(try simp only[O,J,V,h1,h2,h3,h4,h5,h6])<;>cases e.E0==0<;>(try simp only[O,J,V])<;>cases car<;>rfl
     ·cases e.C0==0<;>(try simp only[O,J,V,h1,h2,h3,h4,h5])<;>cases e.E0==0<;>(try simp only[O,J,V])<;>cases car<;>rfl
    ·cases e.C0==0<;>(try simp only[O,J,V,h1,h2,h3,h4])<;>cases e.E0==0<;>(try simp only[O,J,V])<;>cases car<;>rfl
   ·have hw:R.wrap (b.A0-1)=b.A0-1:=Af ω ω;cases e.C0==0<;>(try simp only[O,J,V,h1,h2,h3,hw])<;>generalize Dk e.C0 0 (b.A0-1)=fl<;>cases car<;>cases fl<;>cases e.E0==0<;>rfl
  ·generalize Kc b e.C0 e.E0=ic at hI⊢;cases e.C0==0<;>(try simp only[O,J,V,h1,h2,hI])<;>cases ic<;>cases e.N0==0<;>rfl
 ·cases e.C0==0<;>(try simp only[O,J,V,h1])<;>cases e.E0==0<;>(try simp only[O,J,V])<;>cases e.N0==0<;>rfl
def Agr(hb:b.small)(hc:b.D0.length≤1000)(e:U):OX b.A0 b.B0 b.Q0 b.K0 b.G0 b.M0 b.L0 b.D0 e.F0 e.C0 e.E0 e.N0 e.N=A ((BD b e,()),()):=by
 have hf:=hb.1;have hf2:=hb.2;unfold OX BD;simp only[Amf,V,Af (n:=(b.D0.length:Int)-1) ω ω,Af (n:=b.A0-1) ω ω];have hI:=YS hb e.C0 e.E0;generalize Dk e.N0 0 ((b.D0.length:Int)-1)=car;generalize Dk e.C0 0 (b.A0-1)=fl;cases h1:e.F0==1
 ·cases h2:e.F0==2
  ·cases h3:e.F0==3
   ·cases h4:e.F0==4
    ·cases h5:e.F0==5
     ·cases h6:e.F0==6
      ·cases h7:e.F0==7
       ·cases h8:e.F0==8
        ·cases e.C0==0<;>simp only[O,J,V,h1,h2,h3,h4,h5,h6,h7,h8]
        ·cases e.C0==0<;>(try simp only[O,J,V,h1,h2,h3,h4,h5,h6,h7,h8])<;>cases e.E0==0<;>(try simp only[O,J,V])<;>cases e.N0==0<;>rfl
       ·cases e.C0==0<;>(try simp only[O,J,V,h1,h2,h3,h4,h5,h6,h7])<;>cases e.E0==0<;>(try simp only[O,J,V])<;>cases e.N0==0<;>rfl
      ·cases e.C0==0<;>(try simp only[O,J,V,h1,h2,h3,h4,h5,h6])<;>cases e.E0==0<;>(try simp only[O,J,V])<;>cases car<;>rfl
     ·cases e.C0==0<;>(try simp only[O,J,V,h1,h2,h3,h4,h5])<;>cases e.E0==0<;>(try simp only[O,J,V])<;>cases car<;>rfl
    ·cases e.C0==0<;>(try simp only[O,J,V,h1,h2,h3,h4])<;>cases e.E0==0<;>(try simp only[O,J,V])<;>cases car<;>rfl
   ·cases e.C0==0<;>(try simp only[O,J,V,h1,h2,h3])<;>cases car<;>(try simp only[O,J,V])<;>cases fl<;>(try simp only[O,J,V])<;>cases e.E0==0<;>rfl
  ·generalize Kc b e.C0 e.E0=ic at hI⊢;cases e.C0==0<;>(try simp only[O,J,V,h1,h2])<;>cases e.N0==0<;>cases e.N==0<;>(try simp only[O,J,V,hI])<;>cases ic<;>rfl
 ·cases e.C0==0<;>(try simp only[O,J,V,h1])<;>cases e.E0==0<;>(try simp only[O,J,V])<;>cases e.N0==0<;>rfl
abbrev Bldg.tp(b:Bldg):Int×Int×Int×Int×Nat×Nat×Nat×List Car×Unit:=(b.A0,b.B0,b.Q0,b.K0,b.G0,b.M0,b.L0,b.D0,())
def noEv:U:=⟨0,0,0,0,0⟩
def Wu(b:Bldg):Option U→Sum ((Unit×Unit)×((Int×Int×Int×Int×Int×Unit)×Unit)) ((Unit×Int×Unit)×((Int×Int×Int×Int×Int×Unit)×Unit))
 |none=>.inl (((),()),(noEv.tup,()))
 |some e=>.inr (bif BD b e then(((),0,()),(e.tup,()))else(((),2,()),(noEv.tup,())))
noncomputable abbrev sEv(x:(List ByteArray×Unit×Unit×List script_form×Int×Int×Unit)×((Int×Int×Int×Int×Nat×Nat×Nat×List Car×Unit)×(Int×Int×Int×Int×Int×Unit)×Unit)):=JN x.1.1 x.1.2.2.2.1 x.1.2.2.2.2.1 x.1.2.2.2.2.2.1 x.2.1.1 x.2.1.2.1 x.2.1.2.2.1 x.2.1.2.2.2.1 x.2.1.2.2.2.2.1 x.2.1.2.2.2.2.2.1 x.2.1.2.2.2.2.2.2.1 x.2.1.2.2.2.2.2.2.2.1 x.2.2.1.1 x.2.2.1.2.1 x.2.2.1.2.2.1 x.2.2.1.2.2.2.1 x.2.2.1.2.2.2.2.1
def Aa4:∀p∈formsB,p.1.length≤100∧p.1.all (λb=>aC b.toNat 128)=H:=by decide
section
variable{b:Bldg}(hb:b.small)(hc:b.D0.length≤1000)
include hb hc
theorem Wv{ws:List Bs}(hws:ws.length≤4294967296):∀(m i:Nat),i+m=16→aA sEv (m+1) ((ws.map B,(),(),formsB.map AP,16,(i:Int),()),(b.tp,noEv.tup,()))=A (Wu b ((formsB.drop i).findSome? λp=>Mc (Cr [] p.1) p.2 ws))
 |0,i,hi=>by obtain rfl:i=16:=ω;rfl
 |m+1,i,hi=>by
  have hlt:i<formsB.length:=by rw[show formsB.length=16 from rfl];omega
  have hm:formsB.getD i ([],noEv)∈formsB:=by rw[n_,c_ hlt];exact b2_ hlt
  have hg:(formsB.map AP).getD i (bA (aH (aG [])) 0 0 0 0 0)=AP (formsB.getD i ([],noEv)):=by simp[n_,c_ hlt]
  rw[EZ ([],noEv) hlt,List.findSome?_cons];generalize formsB.getD i ([],noEv)=p at hm hg⊢;obtain⟨y,h1,h2⟩:=Acz (Aa4 p hm) p.2 hws;have hin:inB (i:Int) (formsB.map AP).length=H:=by rw[D_];exact HP hlt
  have hd:decide ((i:Int)<16)=H:=w_ ω;obtain⟨r0,hr0⟩:∃r0,sEv ((ws.map B,(),(),formsB.map AP,16,(i:Int),()),(b.tp,noEv.tup,()))=r0:=⟨_,rfl⟩;have hs:=hr0;unfold sEv JN at hs;have h1':De (AP p).words (AP p).event_Kind (AP p).event_Floor (AP p).event_Dir (AP p).event_Car (AP p).event_N (ws.map B)=A y:=h1;simp only[hd,hin,O,C_,hg,h1',V]at hs;cases hr:Mc (Cr [] p.1) p.2 ws with
  |none=>rw[hr]at h2;simp only[h2,J,Af (n:=(i:Int)+1) ω ω]at hs;rw[Ap (hr0.trans hs.symm)];exact Wv hws m (i+1) ω
  |some e=>
   rw[hr]at h2;have h2:y=(((),H,()),(e.tup,())):=h2;subst h2;simp only[O,Aca hb hc e,V]at hs;have hv:=hr0.trans hs.symm;cases hve:BD b e with
   |true=>rw[hve]at hv;rw[Au hv,Wu,hve];rfl
   |false=>rw[hve]at hv;rw[Au hv,Wu,hve];rfl
def Afr(b:Bldg):Option U→(Unit×Int×Unit)×((Int×Int×Int×Int×Int×Unit)×Unit)
 |none=>(((),300,()),(noEv.tup,()))
 |some e=>bif BD b e then(((),0,()),(e.tup,()))else(((),2,()),(noEv.tup,()))
theorem Aop{ws:List Bs}(hws:ws.length≤4294967296):IA b.A0 b.B0 b.Q0 b.K0 b.G0 b.M0 b.L0 b.D0 (ws.map B)=A (Afr b (evR ws)):=by
 have he:(formsB.findSome? λp=>Mc (Cr [] p.1) p.2 ws)=evR ws:=by rw[← Alk,Aas,← Als,List.findSome?_map];rfl
 have hl:Fh ((ws.map B,(),(),formsB.map AP,16,0,()),(b.tp,noEv.tup,()))=A (Wu b (evR ws)):=by rw[← he];exact AY (Wv hb hc hws 16 0 rfl) (by decide)
 unfold IA;rw[Aa3];refine Am rfl ?_;refine Am hl ?_;cases evR ws with
 |none=>rfl
 |some e=>simp only[Wu,Afr]
omit hb hc in
theorem Aqk{l:Bs}(hl:l.length<4294967281):IB (B l)=A (((Jj l).map B,()),()):=by
 have hu:(Cu 35 l).length≤l.length:=by
  induction l with
  |nil=>exact B_ _
  |cons b l ih=>
   rw[Cu];cases b==35 with
   |true=>exact N_ _
   |false=>rw[J,o_,o_];have:=ih (by rw[o_]at hl;omega);omega
 have h1:MQ (B l) (aH (aG [35]))=A ((B (Cu 35 l),B (NF 35 l),Rq 35 l,()),()):=by show(bif aC (B l).size 4294967281&&H then _ else Z)=_;rw[Be,FR hl];rfl
 have h2:FJ (B (Cu 35 l)) (aH (aG [32]))=A (((CV 32 (Cu 35 l)).map B,()),()):=by show(bif aC (B (Cu 35 l)).size 4294967281&&H then _ else Z)=_;rw[Be,FR ω];rfl
 have hs:=RI 32 (Cu 35 l);have hne:0<(CV 32 (Cu 35 l)).length:=by
  cases Cu 35 l with
  |nil=>exact aS _
  |cons b l=>
   rw[CV];cases b==32 with
   |true=>exact aS _
   |false=>cases CV 32 l<;>exact aS _
 have h3:Cl ((CV 32 (Cu 35 l)).map B)=A (((Jj l).map B,()),()):=by
  show Aah _=_;unfold Aah Jj;rw[D_,FR hne,Fp ω,List.filter_map]
  have:((λs:ByteArray=>!Nat.beq s.size 0)∘B)=λw=>!w.isEmpty:=by funext w;show(!Nat.beq (B w).size 0)=_;rw[Be];cases w<;>rfl
  rw[this];rfl
 unfold IB;exact Am h1 (Am h2 (Am h3 rfl))
def Lf(b:Bldg):Nat→List U→List Bs→List U×Int×Int
 |_,out,[]=>(out,0,0)
 |i,out,l::r=>match Jj l with
  |[]=>Lf b (i+1) out r
  |w::ws=>match evR (w::ws)with
   |none=>([],(i:Int)+1,300)
   |some e=>bif BD b e then Lf b (i+1) (out++[e]) r else([],(i:Int)+1,2)
noncomputable abbrev Apx(x:(Unit×List U×List ByteArray×Int×Int×Unit)×((Int×Int×Int×Int×Nat×Nat×Nat×List Car×Unit)×Unit)):=Fi x.1.2.1 x.1.2.2.1 x.1.2.2.2.1 x.1.2.2.2.2.1 x.2.1.1 x.2.1.2.1 x.2.1.2.2.1 x.2.1.2.2.2.1 x.2.1.2.2.2.2.1 x.2.1.2.2.2.2.2.1 x.2.1.2.2.2.2.2.2.1 x.2.1.2.2.2.2.2.2.2.1
def Bdw(r:List U×Int×Int):Sum ((List U×Unit)×Unit) ((List U×Int×Int×Unit)×Unit):=bif r.2.2==0 then .inl ((r.1,()),())else .inr ((r.1,r.2.1,r.2.2,()),())
theorem RA{ls:List Bs}(hn:ls.length≤100000)(hl:∀l∈ls,l.length≤100000):∀(m i:Nat) (out:List U),i+m=ls.length→out.length≤i→
  aA Apx (m+1) (((),out,ls.map B,(ls.length:Int),(i:Int),()),(b.tp,()))=A (Bdw (Lf b i out (ls.drop i)))
 |0,i,out,hi,_=>by obtain rfl:i=ls.length:=ω;rw[a4_];refine Au ?_;show Fi _ _ _ _ _ _ _ _ _ _ _ _=_;simp only[lp,Un.u,Fi,La,J];rfl
 |m+1,i,out,hi,ho=>by
  have hlt:i<ls.length:=ω;have hg:=Nx hlt;rw[EZ ([]:Bs) hlt,Lf];have hll:(ls.getD i []).length≤100000:=by rw[n_,c_ hlt];exact hl _ (b2_ hlt)
  generalize ls.getD i []=l at hg hll⊢;have hin:inB (i:Int) ls.length=H:=HP hlt;have hw:R.wrap ((i:Int)+1)=((i+1:Nat):Int):=Af ω ω;have hws:(Jj l).length≤4294967296:=by
   refine a0_ (List.length_filter_le _ _) (a0_ (RI _ _) ?_)
   have:(Cu 35 l).length≤l.length:=by
    clear hg hll;induction l with
    |nil=>exact B_ _
    |cons b l ih=>
     rw[Cu];cases b==35 with
     |true=>exact N_ _
     |false=>rw[J,o_,o_];omega
   omega
  obtain⟨r0,hr0⟩:∃r0,Apx (((),out,ls.map B,(ls.length:Int),(i:Int),()),(b.tp,()))=r0:=⟨_,rfl⟩;have hs:=hr0;unfold Apx Fi at hs;simp only[LS hlt,hin,O,C_,hg,Aqk (l:=l) ω,V,D_,hw]at hs;cases hwv:Jj l with
  |nil=>rw[hwv]at hs;rw[Ap (hr0.trans hs.symm)];exact RA hn hl m (i+1) out ω ω
  |cons w ws=>
   rw[hwv]at hs hws;rw[show((((w::ws).length:Nat):Int)==0)=E from Js (by rw[o_];omega),Aop hb hc hws]at hs;simp only[J,V]at hs;cases he:evR (w::ws)with
   |none=>rw[he]at hs;rw[Au (hr0.trans hs.symm)];simp only[he];rfl
   |some e=>
    rw[he]at hs;simp only[Afr]at hs;cases hv:BD b e with
    |false=>rw[hv]at hs;rw[Au (hr0.trans hs.symm)];simp only[he,hv];rfl
    |true=>rw[hv]at hs;simp only[O,L_,Fp (ω:out.length+1≤2147483648),bne_self_eq_false,J]at hs;rw[Ap (hr0.trans hs.symm)];simp only[he,hv,O];exact RA hn hl m (i+1) (out++[e]) ω (by rw[g_,L_];omega)
end
def mt(e:U)(p:Bs×U):Bool:=p.2.F0==e.F0&&(p.2.E0==e.E0&&(bif e.F0==6 then p.2.N==e.N else H))
def FA(e:U)(w:Bs):Bs:=if w=[78]then Bv e.N else if w=[70]then Bv e.C0 else if w=[67]then Bv e.N0 else w
def wsV(e:U):List Bs:=match formsB.find? (mt e)with
 |some p=>(Cr [] p.1).map (FA e)
 |none=>[]
def CY(e:U):Bs:=CE [32] (wsV e)
inductive Vev:Event→Prop
 |wait (n:Int) (h:0≤n∧n<1000000):Vev ⟨1,0,0,0,n⟩
 |up (f:Int) (h:0≤f∧f<1000000):Vev ⟨2,f,1,0,0⟩
 |down (f:Int) (h:0≤f∧f<1000000):Vev ⟨2,f,2,0,0⟩
 |car (c f:Int) (h:0≤c∧c<1000000) (h2:0≤f∧f<1000000):Vev ⟨3,f,0,c,0⟩
 |load (c n:Int) (h:0≤c∧c<1000000) (h2:0≤n∧n<1000000):Vev ⟨4,0,0,c,n⟩
 |block (c n:Int) (h:0≤c∧c<1000000) (h2:0≤n∧n<1000000):Vev ⟨5,0,0,c,n⟩
 |cmd (c:Int) (k:Fin 8) (h:0≤c∧c<1000000):Vev ⟨6,0,0,c,(k.val:Int)+1⟩
 |bad:Vev ⟨7,0,0,0,0⟩
 |crash (n:Int) (h:0≤n∧n<1000000):Vev ⟨8,0,0,0,n⟩
def II{lo hi:Int}:Dk n lo hi=H↔lo≤n∧n≤hi:=by simp[Dk]
def TJ(hb:b.small)(hc:b.D0.length≤1000)(h:BD b e=H):Vev e:=by
 obtain⟨K,F,D,C,N⟩:=e;have hf:=hb.1;have hf2:=hb.2;unfold BD at h;simp only at h;by_cases h1:K=1
 ·subst h1;simp only[V_,O,b_,beq_iff_eq,II]at h;obtain⟨⟨rfl,rfl⟩,rfl,h⟩:=h;exact .wait N ⟨ω,ω⟩
 rw[Js h1,J]at h;by_cases h2:K=2
 ·subst h2;simp only[V_,O,b_,beq_iff_eq,Kc,Wn]at h;obtain⟨⟨_,hcl⟩,rfl,rfl⟩:=h;by_cases d1:D=1
  ·subst d1;refine .up F ?_;simp[Di]at hcl;omega
  ·by_cases d2:D=2
   ·subst d2;refine .down F ?_;simp[Di]at hcl;omega
   ·simp[d1,d2]at hcl
 rw[Js h2,J]at h;by_cases h3:K=3
 ·subst h3;simp only[V_,O,b_,beq_iff_eq,II]at h;obtain⟨hC,hF,rfl,rfl⟩:=h;exact .car C F ⟨ω,ω⟩ ⟨ω,ω⟩
 rw[Js h3,J]at h;by_cases h4:K=4
 ·subst h4;simp only[V_,O,b_,beq_iff_eq,II]at h;obtain⟨⟨rfl,rfl⟩,hC,hN⟩:=h;exact .load C N ⟨ω,ω⟩ ⟨ω,ω⟩
 rw[Js h4,J]at h;by_cases h5:K=5
 ·subst h5;simp only[V_,O,b_,beq_iff_eq,II]at h;obtain⟨⟨rfl,rfl⟩,hC,hN⟩:=h;exact .block C N ⟨ω,ω⟩ ⟨ω,ω⟩
 rw[Js h5,J]at h;by_cases h6:K=6
 ·subst h6;simp only[V_,O,b_,beq_iff_eq,II]at h;obtain⟨⟨rfl,rfl⟩,hC,hN⟩:=h;obtain⟨k,rfl⟩:∃k:Fin 8,N=(k.val:Int)+1:=⟨⟨(N-1).toNat,ω⟩,by show N=((N-1).toNat:Int)+1;omega⟩
  exact .cmd C k ⟨ω,ω⟩
 rw[Js h6,J]at h;by_cases h7:K=7
 ·subst h7;simp only[V_,O,b_,beq_iff_eq]at h;obtain⟨⟨rfl,rfl⟩,rfl,rfl⟩:=h;exact .bad
 rw[Js h7,J]at h;by_cases h8:K=8
 ·subst h8;simp only[V_,O,b_,beq_iff_eq,II]at h;obtain⟨⟨rfl,rfl⟩,rfl,h⟩:=h;exact .crash N ⟨ω,ω⟩
 rw[Js h8]at h;cases h
def Afz(e:U):FA e [78]=Bv e.N∧FA e [70]=Bv e.C0∧FA e [67]=Bv e.N0:=⟨if_pos rfl,by rw[FA,if_neg (by decide),if_pos rfl],by rw[FA,if_neg (by decide),if_neg (by decide),if_pos rfl]⟩
def Alq(h:w≠[78]∧w≠[70]∧w≠[67]):FA e w=w:=by rw[FA,if_neg h.1,if_neg h.2.1,if_neg h.2.2]
def Acf(n:Int):wsV ⟨1,0,0,0,n⟩=[[119,97,105,116],Bv n]:=rfl
def Ace(f:Int):wsV ⟨2,f,1,0,0⟩=[[112,114,101,115,115],Bv f,[117,112]]:=rfl
def VL(f:Int):wsV ⟨2,f,2,0,0⟩=[[112,114,101,115,115],Bv f,[100,111,119,110]]:=rfl
def XY(c f:Int):wsV ⟨3,f,0,c,0⟩=[[99,97,114],Bv c,Bv f]:=rfl
def VM(c n:Int):wsV ⟨4,0,0,c,n⟩=[[108,111,97,100],Bv c,Bv n]:=rfl
def TM(c n:Int):wsV ⟨5,0,0,c,n⟩=[[98,108,111,99,107],Bv c,Bv n]:=rfl
def Atu:wsV ⟨7,0,0,0,0⟩=[[98,97,100]]:=rfl
def YL(n:Int):wsV ⟨8,0,0,0,n⟩=[[99,114,97,115,104],Bv n]:=rfl
def Aac:Fin 8→Bs:=λk=>[[100,114,97,105,110],[99,97,110,99,101,108],[114,101,99,111,110,110,101,99,116],[99,111,109,109,105,115,115,105,111,110],[97,98,111,114,116],[97,99,99,101,112,116],[108,101,97,118,101],[114,101,115,101,116]].getD k.val []
def XZ(c:Int)(k:Fin 8):wsV ⟨6,0,0,c,(k.val:Int)+1⟩=[Aac k,Bv c]:=by
 obtain⟨k,hk⟩:=k
 match k,hk with
 |0,_=>rfl
 |1,_=>rfl
 |2,_=>rfl
 |3,_=>rfl
 |4,_=>rfl
 |5,_=>rfl
 |6,_=>rfl
 |7,_=>rfl
def As8(h:Vev e):evR (wsV e)=A e:=by
 cases h with
 |wait n h=>rw[Acf,Zh,if_pos rfl,Ew h.1 h.2];rfl
 |up f h=>rw[Ace,Ua,if_pos rfl,if_pos rfl,Ew h.1 h.2];rfl
 |down f h=>rw[VL,Ua,if_pos rfl,if_neg (by decide),if_pos rfl,Ew h.1 h.2];rfl
 |car c f h h2=>rw[XY,Ua,if_neg (by decide),if_pos rfl,Ew h.1 h.2,Ew h2.1 h2.2];rfl
 |load c n h h2=>rw[VM,Ua,if_neg (by decide),if_neg (by decide),if_pos rfl,Ew h.1 h.2,Ew h2.1 h2.2];rfl
 |block c n h h2=>rw[TM,Ua,if_neg (by decide),if_neg (by decide),if_neg (by decide),if_pos rfl,Ew h.1 h.2,Ew h2.1 h2.2];rfl
 |cmd c k h=>
  have hk:Aac k≠[119,97,105,116]∧Aac k≠[99,114,97,115,104]∧Vi (Aac k)≠0∧Vi (Aac k)=(k.val:Int)+1:=by revert k;decide
  rw[XZ,Zh,if_neg hk.1,if_neg hk.2.1,if_neg hk.2.2.1,Ew h.1 h.2,hk.2.2.2];rfl
 |bad=>rfl
 |crash n h=>rw[YL,Zh,if_neg (by decide),if_pos rfl,Ew h.1 h.2];rfl
def Acc(w:Bs):Prop:=w≠[]∧32∉w∧35∉w∧10∉w∧w.length≤10
def DG(h:0≤n∧n<1000000):Acc (Bv n):=by obtain⟨h1,h2,h3⟩:=My h.1 h.2;exact⟨h1,λe=>absurd (h2 _ e).1 (by decide),λe=>absurd (h2 _ e).1 (by decide),λe=>absurd (h2 _ e).1 (by decide),ω⟩
def Acd(h:Vev e):wsV e≠[]∧(wsV e).length≤3∧∀w∈wsV e,Acc w:=by
 have W:∀w:Bs,(w≠[]∧32∉w∧35∉w∧10∉w∧w.length≤10)→Acc w:=λ_ h=>h;cases h with
 |wait n h=>rw[Acf];exact⟨by simp,by simp,by simp only[aK];exact⟨W _ (by decide),DG h,by simp⟩⟩
 |up f h=>rw[Ace];exact⟨by simp,by simp,by simp only[aK];exact⟨W _ (by decide),DG h,W _ (by decide),by simp⟩⟩
 |down f h=>rw[VL];exact⟨by simp,by simp,by simp only[aK];exact⟨W _ (by decide),DG h,W _ (by decide),by simp⟩⟩
 |car c f h h2=>rw[XY];exact⟨by simp,by simp,by simp only[aK];exact⟨W _ (by decide),DG h,DG h2,by simp⟩⟩
 |load c n h h2=>rw[VM];exact⟨by simp,by simp,by simp only[aK];exact⟨W _ (by decide),DG h,DG h2,by simp⟩⟩
 |block c n h h2=>rw[TM];exact⟨by simp,by simp,by simp only[aK];exact⟨W _ (by decide),DG h,DG h2,by simp⟩⟩
 |cmd c k h=>rw[XZ];exact⟨by simp,by simp,by simp only[aK];exact⟨W _ (by revert k;decide),DG h,by simp⟩⟩
 |bad=>rw[Atu];exact⟨by simp,by simp,by simp only[aK];exact⟨W _ (by decide),by simp⟩⟩
 |crash n h=>rw[YL];exact⟨by simp,by simp,by simp only[aK];exact⟨W _ (by decide),DG h,by simp⟩⟩
def PP{c:UInt8}{K:Nat}:∀{ws:List Bs},(∀w∈ws,w.length≤K)→(CE [c] ws).length≤ws.length*(K+1)
 |[],_=>N_ _
 |[w],h=>by rw[CE,L_];have:=h w S_;omega
 |w::v::r,h=>by have h1:=h w S_;have h2:=PP (c:=c) (ws:=v::r) λx hx=>h x (R_ _ hx);rw[CE,g_,g_,show(w::v::r).length=(v::r).length+1 from rfl,H_,L_];omega
def OB(h:Vev e):Jj (CY e)=wsV e∧10∉CY e∧(CY e).length≤33:=by
 obtain⟨h1,h2,h3⟩:=Acd h;refine⟨Ac7 h1 λw hw=>⟨(h3 w hw).1,(h3 w hw).2.1,(h3 w hw).2.2.1⟩,λe=>?_,?_⟩
 ·rcases Vt e with e | ⟨w,hw,e⟩
  ·exact absurd e (by decide)
  ·exact(h3 w hw).2.2.2.1 e
 ·have:=PP (c:=32) (K:=10) (ws:=wsV e) λw hw=>(h3 w hw).2.2.2.2
  rw[CY];omega
def ST(h:0≤n∧n<1000000):BH n=A ((B (Bv n),()),()):=by show(bif decide (0≤n)&&decide (n≤9223372036854775807)then _ else Z)=_;rw[w_ h.1,w_ (ω:n≤9223372036854775807)];rfl
def SM{a b:Bs}(ha:a.length≤1000)(hb:b.length≤1000):aE ((B a).size+(B b).size) 4611686018427387904=H:=by rw[Be,Be];exact Fp ω
def Mh(a:Bs)(h:0≤n∧n<1000000)(ha:a.length≤100):((BH n).bind λy=>bif aE ((B a).size+y.1.1.size) 4611686018427387904 then A ((B a++y.1.1,()),())else Z)=A ((B (a++Bv n),()),()):=by
 have:=(My h.1 h.2).2.2
 refine Am (ST h) ?_;rw[SM ω ω,Hi];rfl
def QE(a:Bs){o:Option ((ByteArray×Unit)×Unit)}(ho:o=A ((B w,()),()))(h:0≤n∧n<1000000)(ha:a.length≤100)(hw:w.length≤100):
  ((BH n).bind λy=>bif aE ((B a).size+y.1.1.size) 4611686018427387904 then(bif aE ((B a++y.1.1).size+(B [32]).size) 4611686018427387904 then(o.bind λy5=>bif aE ((B a++y.1.1++B [32]).size+y5.1.1.size) 4611686018427387904 then A ((B a++y.1.1++B [32]++y5.1.1,()),())else Z)else Z)else Z)=A ((B (a++Bv n++[32]++w),()),()):=by
 have hl:=(My h.1 h.2).2.2;refine Am (ST h) ?_;show(bif aE ((B a).size+(B (Bv n)).size) 4611686018427387904 then(bif aE ((B a++B (Bv n)).size+(B [32]).size) 4611686018427387904 then(o.bind λy5=>bif aE ((B a++B (Bv n)++B [32]).size+y5.1.1.size) 4611686018427387904 then A ((B a++B (Bv n)++B [32]++y5.1.1,()),())else Z)else Z)else Z)=_;rw[SM ω ω,O,Hi,SM (by rw[g_];omega) (by decide),O,Hi];refine Am ho ?_;show(bif aE ((B (a++Bv n++[32])).size+(B w).size) 4611686018427387904 then A ((B (a++Bv n++[32])++B w,()),())else Z)=_;rw[SM (by simp only[g_,L_];omega) ω,Hi];rfl
def Abx(h:Vev e):Py e.F0 e.C0 e.E0 e.N0 e.N=A ((B (CY e),()),()):=by
 have L:∀{n:Int},0≤n∧n<1000000→(Bv n).length≤100:=λh=>by have:=(My h.1 h.2).2.2;omega
 cases h with
 |wait n h=>exact Mh [119,97,105,116,32] h (by decide)
 |up f h=>exact(QE [112,114,101,115,115,32] (show Mk 1=A ((B [117,112],()),())from rfl) h (by decide) (by decide)).trans (by rw[CY,Ace];simp[CE])
 |down f h=>exact(QE [112,114,101,115,115,32] (show Mk 2=A ((B [100,111,119,110],()),())from rfl) h (by decide) (by decide)).trans (by rw[CY,VL];simp[CE])
 |car c f h h2=>exact(QE [99,97,114,32] (ST h2) h (by decide) (L h2)).trans (by rw[CY,XY];simp[CE])
 |load c n h h2=>exact(QE [108,111,97,100,32] (ST h2) h (by decide) (L h2)).trans (by rw[CY,VM];simp[CE])
 |block c n h h2=>exact(QE [98,108,111,99,107,32] (ST h2) h (by decide) (L h2)).trans (by rw[CY,TM];simp[CE])
 |cmd c k h=>
  rw[CY,XZ];obtain⟨k,hk⟩:=k
  match k,hk with
  |0,_=>exact Mh [100,114,97,105,110,32] h (by decide)
  |1,_=>exact Mh [99,97,110,99,101,108,32] h (by decide)
  |2,_=>exact Mh [114,101,99,111,110,110,101,99,116,32] h (by decide)
  |3,_=>exact Mh [99,111,109,109,105,115,115,105,111,110,32] h (by decide)
  |4,_=>exact Mh [97,98,111,114,116,32] h (by decide)
  |5,_=>exact Mh [97,99,99,101,112,116,32] h (by decide)
  |6,_=>exact Mh [108,101,97,118,101,32] h (by decide)
  |7,_=>exact Mh [114,101,115,101,116,32] h (by decide)
 |bad=>rfl
 |crash n h=>exact Mh [99,114,97,115,104,32] h (by decide)
end Go.Ovl
namespace Go.Ovl
open Go Go.Ab
variable{l:List U}{cs:List Car}{i t:Nat}{b:Bldg}{e:U}{α:Type}{n:Int}{ws:List Bs}{c:Car}
def ZK{X Y:Type}{step:X→Option (Sum X Y)}{N:Nat}(hN:N≤100000)(g:Nat→X){y:Y}(h1:∀i,i<N→step (g i)=A (.inl (g (i+1))))(h2:step (g N)=A (.inr y)):aA step Cc (g 0)=A y:=AY (Abe N g y h1 h2 N 0 (l_ N)) ω
def Jk{n:Nat}(hn:n≤100000)(h:i<n):R.wrap ((i:Int)+1)=((i+1:Nat):Int):=by rw[Af ω ω];omega
def JV{α:Type}(f:α→α)(l:List α)(i:Nat):List α:=(l.take i).map f++l.drop i
section
variable{α:Type}(f:α→α)(l:List α)
theorem Ac6(i:Nat):(JV f l i).length=l.length:=by simp[JV];omega
theorem Aqi:JV f l l.length=l.map f:=by simp[JV]
variable{l}(d:α)
theorem XX(h:i<l.length):JV f l i=(l.take i).map f++l.getD i d::l.drop (i+1):=by rw[JV,EZ d h]
theorem YJ(h:i<l.length):JV f l (i+1)=(l.take i).map f++f (l.getD i d)::l.drop (i+1):=by rw[JV,List.take_add_one,n_,c_ h,List.map_append,Option.toList_some,Option.getD_some,I_];rfl
theorem Aqj(h:i<l.length):(JV f l i).getD i d=l.getD i d:=by
 rw[XX f d h]
 have:((l.take i).map f).length=i:=by rw[D_,p_];omega
 rw[n_,a3_ ω,this];simp
theorem VK(h:i<l.length)(x:α)(hx:x=f (l.getD i d)):(JV f l i).set i x=JV f l (i+1):=by
 subst hx
 have:((l.take i).map f).length=i:=by rw[D_,p_];omega
 rw[XX f d h,YJ f d h,List.set_append_right _ _ ω,this];simp
theorem Amu(h:i<l.length)(hx:f (l.getD i d)=l.getD i d):JV f l (i+1)=JV f l i:=by rw[XX f d h,YJ f d h,hx]
end
def TD(e:U):Prop:=(0≤e.C0∧e.C0<1000000)∧(0≤e.N0∧e.N0<1000000)∧(0≤e.N∧e.N<1000000)
def Vev.small(h:Vev e):TD e:=by
 cases h with
 |cmd c k h=>exact⟨⟨Int.le_refl 0,show(0:Int)<1000000 by decide⟩,h,by show 0≤(k.val:Int)+1;omega,by show(k.val:Int)+1<1000000;omega⟩
 |_=>refine⟨⟨?_,?_⟩,⟨?_,?_⟩,?_,?_⟩<;>simp<;>omega
def XL(h:0≤n∧n<1000000):Bg n=A ((B (Bv n),()),()):=by show(bif decide (-9223372036854775808≤n)&&decide (n≤9223372036854775807)then _ else Z)=_;rw[w_ (ω:-9223372036854775808≤n),w_ (ω:n≤9223372036854775807)];rfl
def map_set(l:List Bs)(i:Nat)(x:Bs):(l.map B).set i (B x)=(l.set i x).map B:=by rw[List.map_set]
def Ahi(he:TD e)(hl:ws.length≤1000):FM (((),ws.map B,(),(ws.length:Int),0,()),(e.tup,()))=A ((((ws.map (FA e)).map B,()),())):=by
 have h:=ZK (step:=λx:(Unit×List ByteArray×Unit×Int×Int×Unit)×((Int×Int×Int×Int×Int×Unit)×Unit)=>HM x.1.2.1 x.1.2.2.2.1 x.1.2.2.2.2.1 x.2.1.1 x.2.1.2.1 x.2.1.2.2.1 x.2.1.2.2.2.1 x.2.1.2.2.2.2.1) (N:=ws.length) ω (λi=>(((),(JV (FA e) ws i).map B,(),(ws.length:Int),(i:Int),()),(e.tup,()))) (y:=(((ws.map (FA e)).map B,()),())) (λi hi=>by
  have hu:=Ac6 (FA e) ws i;have hg:((JV (FA e) ws i).map B).getD i (aH (aG []))=B (ws.getD i []):=by rw[Nx ω,Aqj _ _ hi]
  obtain⟨c1,c2,c3⟩:=Afz e;unfold HM;simp only[D_,hu,LS hi,HP hi,O,C_,hg,Aaw,V,Jk (ω:ws.length≤100000) hi];by_cases k1:ws.getD i []=[78]
  ·rw[if_pos k1];simp only[Event.tup,XL he.2.2,V];rw[map_set,VK (FA e) [] hi _ (by rw[k1,c1])]
  rw[if_neg k1];by_cases k2:ws.getD i []=[70]
  ·rw[if_pos k2];simp only[Event.tup,XL he.1,V];rw[map_set,VK (FA e) [] hi _ (by rw[k2,c2])]
  rw[if_neg k2];by_cases k3:ws.getD i []=[67]
  ·rw[if_pos k3];simp only[Event.tup,XL he.2.1,V];rw[map_set,VK (FA e) [] hi _ (by rw[k3,c3])]
  rw[if_neg k3,Amu (FA e) [] hi (Alq ⟨k1,k2,k3⟩)]) (by
  unfold HM;simp only[D_,Aqi,La,J])
 exact h
def Mg(e:U):Bs:=CY e++[10]
def Aos(h:TD e){w:Bs}(hw:w.length≤10):(FA e w).length≤10:=by
 have L:∀{n:Int},0≤n∧n<1000000→(Bv n).length≤10:=λh=>by have:=(My h.1 h.2).2.2;omega
 unfold FA;split
 ·exact L h.2.2
 split
 ·exact L h.1
 split
 ·exact L h.2.1
 ·exact hw
def UL:∀p∈formsB,(Cr [] p.1).length≤3∧∀w∈Cr [] p.1,w.length≤10:=by decide
def Alr(h:TD e){p:Bs×U}(hp:p∈formsB):(CE [32] ((Cr [] p.1).map (FA e))).length≤33:=by
 obtain⟨h1,h2⟩:=UL p hp
 have:=PP (c:=32) (K:=10) (ws:=(Cr [] p.1).map (FA e)) λw hw=>by obtain⟨v,hv,rfl⟩:=b5_.1 hw;exact Aos h (h2 v hv)
 rw[D_]at this;omega
def Aln{f:Bs}(hf:f.length≤100∧f.all (λb=>aC b.toNat 128)=H):DX (B f)=A (((Cr [] f).map B,()),()):=by show(bif aC (B f).size 4294967281&&_ then _ else Z)=_;rw[Be,FR ω,show(B f).data.toList=f from rfl,hf.2];rfl
def Atc(h1:ws.length≤1000)(h2:(CE [32] ws).length≤1000):EW (ws.map B) (aH (aG [32]))=A ((B (CE [32] ws),()),()):=by
 show XM _ _=_
 have:(ws.map B).map (·.data.toList)=ws:=by rw[List.map_map];exact List.map_id' _
 unfold XM;rw[this,D_,Fp ω,Fp (show(CE _ ws).length≤2147483648 by exact a0_ h2 (by decide))];rfl
def Aa2(e:U)(p:Bs×U):Bs:=CE [32] ((Cr [] p.1).map (FA e))++[10]
noncomputable abbrev Apz(x:(Unit×List script_form×Int×Int×Unit)×((Int×Int×Int×Int×Int×Unit)×Unit)):=FN x.1.2.1 x.1.2.2.1 x.1.2.2.2.1 x.2.1.1 x.2.1.2.1 x.2.1.2.2.1 x.2.1.2.2.2.1 x.2.1.2.2.2.2.1
def Amr(h:TD e)(hi:i<formsB.length):Apz (((),formsB.map AP,16,(i:Int),()),(e.tup,()))=A (bif !mt e (formsB.getD i ([],noEv))then .inl (((),formsB.map AP,16,((i+1:Nat):Int),()),(e.tup,()))else .inr (.inr ((B (Aa2 e (formsB.getD i ([],noEv))),()),()))):=by
 have hm:formsB.getD i ([],noEv)∈formsB:=by rw[n_,c_ hi];exact b2_ hi
 have hg:(formsB.map AP).getD i (bA (aH (aG [])) 0 0 0 0 0)=AP (formsB.getD i ([],noEv)):=by simp[n_,c_ hi]
 have hin:inB (i:Int) (formsB.map AP).length=H:=by rw[D_];exact HP hi
 have h16:formsB.length=16:=rfl;generalize formsB.getD i ([],noEv)=p at hm hg⊢;have hjl:=Alr h hm;have hwl:=(UL p hm).1;have hb:∀{α:Type}(g:Bool→α),(bif(AP p).event_Kind !=e.F0 then A (g H)else bif(AP p).event_Dir !=e.E0 then A (g H)else bif e.F0==6 then A (g ((AP p).event_N !=e.N))else A (g E))=A (g !mt e p):=by intro α g;show(bif !(p.2.F0==e.F0)then _ else bif !(p.2.E0==e.E0)then _ else bif e.F0==6 then A (g !(p.2.N==e.N))else _)=_;unfold mt;generalize(p.2.F0==e.F0)=x;generalize(p.2.E0==e.E0)=y;generalize(e.F0==6)=z;generalize(p.2.N==e.N)=w;cases x<;>cases y<;>cases z<;>cases w<;>rfl
 unfold Apz FN;have hd:decide ((i:Int)<16)=H:=w_ ω;simp only[hd,hin,O,C_,hg];refine Am (a:=(((),(),formsB.map AP,(16:Int),(i:Int),!mt e p,()),(e.tup,((AP p).words,(AP p).event_Kind,(AP p).event_Floor,(AP p).event_Dir,(AP p).event_Car,(AP p).event_N,()),()))) ?_ ?_
 ·exact hb λc=>(((),(),formsB.map AP,(16:Int),(i:Int),c,()),(e.tup,((AP p).words,(AP p).event_Kind,(AP p).event_Floor,(AP p).event_Dir,(AP p).event_Car,(AP p).event_N,()),()))
 ·cases hm':mt e p with
  |false=>simp only[Bool.not_false,O,Jk (show 16≤100000 by decide) (ω:i<16)]
  |true=>simp only[a8_,J];refine Am (Aln (Aa4 p hm)) ?_;simp only[D_];refine Am (Ahi h ω) ?_;refine Am (Atc (by rw[D_];omega) ω) ?_;show(bif aE ((B _).size+(B [10]).size) 4611686018427387904 then A (Sum.inr (Sum.inr ((B _++B [10],()),())))else Z)=_;rw[SM ω (by decide),Hi];rfl
def Atp(h:Vev e):Jo e.F0 e.C0 e.E0 e.N0 e.N=A ((B (Mg e),()),()):=by
 have hs:=h.small;have loop:=Yn (step:=Apz) formsB ([],noEv) (λp=>!mt e p) (λi=>(((),formsB.map AP,16,(i:Int),()),(e.tup,()))) (.inl ((),())) (λp=>.inr ((B (Aa2 e p),()),()))
  (λi hi=>Amr hs hi) (by show FN _ _ _ _ _ _ _ _=_;unfold FN;rfl) 16 0 rfl
 have hne:=(Acd h).1;unfold Jo;rw[Aa3];refine Am rfl ?_;refine Am (AY loop (by decide)) ?_;rw[b7_];simp only[Bool.not_not];unfold Mg CY;unfold wsV at hne⊢;cases hf:formsB.find? (mt e)with
 |none=>rw[hf]at hne;exact absurd rfl hne
 |some p=>rfl
section
variable{b:Bldg}(hb:b.small)(hc:b.D0.length≤1000)
include hb hc
noncomputable abbrev Apw(x:(List U×Unit×Int×Int×Unit)×((Int×Int×Int×Int×Nat×Nat×Nat×List Car×Unit)×Unit)):=Ak x.1.1 x.1.2.2.1 x.1.2.2.2.1 x.2.1.1 x.2.1.2.1 x.2.1.2.2.1 x.2.1.2.2.2.1 x.2.1.2.2.2.2.1 x.2.1.2.2.2.2.2.1 x.2.1.2.2.2.2.2.2.1 x.2.1.2.2.2.2.2.2.2.1
theorem Aa8{l:List U}(hl:l.length≤100000):∀(m i:Nat),i+m=l.length→Sat (aA Apw (m+1) ((l,(),(l.length:Int),(i:Int),()),(b.tp,()))) λy=>bif(l.drop i).all (BD b)then y=.inl ((),(b.tp,()))else ∃k:Nat,y=.inr (((k:Int),()),(b.tp,()))
 |0,i,hi=>by obtain rfl:i=l.length:=ω;rw[a4_];refine⟨.inl ((),(b.tp,())),Au ?_,rfl⟩;show Ak _ _ _ _ _ _ _ _ _ _ _=_;simp only[lp,Un.u,Ak,La,J]
 |m+1,i,hi=>by
  have hlt:i<l.length:=ω;rw[EZ noEv hlt,J_];obtain⟨r0,hr0⟩:∃r0,Apw ((l,(),(l.length:Int),(i:Int),()),(b.tp,()))=r0:=⟨_,rfl⟩;have hs:=hr0;unfold Apw Ak Fy at hs;simp only[LS hlt,HP hlt,O,C_,Aca hb hc,V,Jk hl hlt]at hs;rw[show(aP 0 0 0 0 0)=noEv from rfl]at hs;cases hv:BD b (l.getD i noEv)with
  |true=>rw[hv]at hs;rw[Ap (hr0.trans hs.symm),a6_];exact Aa8 hl m (i+1) ω
  |false=>rw[hv]at hs;exact⟨_,Au (hr0.trans hs.symm),i,rfl⟩
theorem ZH(hl:l.length≤100000):CA b.A0 b.B0 b.Q0 b.K0 b.G0 b.M0 b.L0 b.D0 l=A ((b.code==0&&l.all (BD b),()),()):=by
 unfold CA;refine Am (a:=((b.code==0&&l.all (BD b),()),())) (Am (HA b) ?_) rfl;show(bif b.code==0 then _ else _)=_;cases b.code==0 with
 |false=>rfl
 |true=>
  obtain⟨y,h1,h2⟩:=Aa8 hb hc hl l.length 0 (l_ _);have h1:Ar ((l,(),(l.length:Int),0,()),(b.tp,()))=A y:=AY h1 ω;rw[b7_]at h2;rw[O,a6_];unfold AB AE;rw[h1];cases hv:l.all (BD b)with
  |true=>rw[hv]at h2;have h2:y=_:=h2;subst h2;rfl
  |false=>rw[hv]at h2;obtain⟨k,rfl⟩:=h2;show A ((!decide ((0:Int)≤(k:Int)),()),())=_;rw[w_ (Int.natCast_nonneg k)];rfl
noncomputable abbrev Ap0(x:(List U×Unit×Bool×Int×Unit)×((Int×Int×Int×Int×Nat×Nat×Nat×List Car×Unit)×Unit)):=Hs x.1.1 x.1.2.2.1 x.1.2.2.2.1 x.2.1.1 x.2.1.2.1 x.2.1.2.2.1 x.2.1.2.2.2.1 x.2.1.2.2.2.2.1 x.2.1.2.2.2.2.2.1 x.2.1.2.2.2.2.2.2.1 x.2.1.2.2.2.2.2.2.2.1
theorem Ab9{l:List U}(hl:l.length≤100000):∀(m i:Nat) (ok:Bool),i+m=l.length→aA Ap0 (m+1) ((l,(),ok,(i:Int),()),(b.tp,()))=A ((ok&&(l.drop i).all (BD b),()),())
 |0,i,ok,hi=>by obtain rfl:i=l.length:=ω;rw[a4_];refine Au ?_;show Hs _ _ _ _ _ _ _ _ _ _ _=_;simp only[lp,Un.u,Hs,La,J,aN,aM]
 |m+1,i,ok,hi=>by
  have hlt:i<l.length:=ω;rw[EZ noEv hlt,J_];obtain⟨r0,hr0⟩:∃r0,Ap0 ((l,(),ok,(i:Int),()),(b.tp,()))=r0:=⟨_,rfl⟩;have hs:=hr0;unfold Ap0 Hs at hs;simp only[LS hlt,HP hlt,O,C_,Agr hb hc,V,Jk hl hlt]at hs;rw[show(aP 0 0 0 0 0)=noEv from rfl]at hs;have hs:A (Sum.inl ((l,(),ok&&BD b (l.getD i noEv),((i+1:Nat):Int),()),(b.tp,())))=r0:=by rw[← hs];cases ok<;>simp only[O,J,V,Jk hl hlt]<;>rfl
  rw[Ap (hr0.trans hs.symm),Ab9 hl m (i+1) _ ω,Bool.and_assoc]
theorem Tw(hl:l.length≤100000):Hw b.A0 b.B0 b.Q0 b.K0 b.G0 b.M0 b.L0 b.D0 l=A ((b.code==0&&l.all (BD b),()),()):=by
 unfold Hw;refine Am (Ix b) (Am (a:=((b.code==0&&l.all (BD b),()),())) ?_ rfl)
 have:=Ab9 hb hc hl l.length 0 (b.code==0) (l_ _)
 rw[b7_]at this;exact AY this ω
end
def mil(n:Int):Int:=bif decide ((1000000:Int)<n)then 1000000 else n
def tkE(n:Int)(e:U):Int:=bif e.F0==1 then mil (n+mil (bif decide (e.N<0)then 0 else e.N))else bif e.F0==7 then mil (n+1)else bif e.F0==8 then mil (n+1)else n
def Ry(h:0≤n):0≤mil n∧mil n≤1000000:=by
 unfold mil;cases h2:decide ((1000000:Int)<n)with
 |true=>exact⟨show(0:Int)≤1000000 by decide,show(1000000:Int)≤1000000 by decide⟩
 |false=>exact⟨h,by have:=of_decide_eq_false h2;rw[J];omega⟩
def Bdh(h:n≤1000000):mil n=n:=by rw[mil,v_ ω];rfl
def Agm(n:Int):0≤(bif decide (n<0)then(0:Int)else n):=by
 cases h:decide (n<0)with
 |true=>exact Int.le_refl 0
 |false=>have:=of_decide_eq_false h;rw[J];omega
def Ahh(h:0≤n∧n≤1000000)(e:U):0≤tkE n e∧tkE n e≤1000000:=by
 unfold tkE;cases e.F0==1 with
 |true=>exact Ry (Int.add_nonneg h.1 (Ry (Agm _)).1)
 |false=>cases e.F0==7 with
  |true=>exact Ry ω
  |false=>cases e.F0==8 with
   |true=>exact Ry ω
   |false=>exact h
noncomputable abbrev sTk(x:(Int×List U×Int×Int×Unit)×Unit):=Fj x.1.1 x.1.2.1 x.1.2.2.1 x.1.2.2.2.1
def Ady{l:List U}(hl:l.length≤100000):∀(m i:Nat) (n:Int),i+m=l.length→0≤n∧n≤1000000→aA sTk (m+1) ((n,l,(l.length:Int),(i:Int),()),())=A (((l.drop i).foldl tkE n,()),())
 |0,i,n,hi,_=>by obtain rfl:i=l.length:=ω;rw[a4_];refine Au ?_;show Fj _ _ _ _=_;simp only[lp,Un.u,Fj,La,J,List.foldl_nil]
 |m+1,i,n,hi,hn=>by
  have hlt:i<l.length:=ω;rw[EZ noEv hlt,List.foldl_cons];obtain⟨r0,hr0⟩:∃r0,sTk ((n,l,(l.length:Int),(i:Int),()),())=r0:=⟨_,rfl⟩;have hs:=hr0;have hp:=Ry (Agm (l.getD i noEv).N);have w1:R.wrap (n+mil (bif decide ((l.getD i noEv).N<0)then 0 else(l.getD i noEv).N))=_:=Af ω ω;have w2:R.wrap (n+1)=_:=Af ω ω;unfold sTk Fj at hs;simp only[LS hlt,HP hlt,O,C_,Jk hl hlt]at hs;rw[show(aP 0 0 0 0 0)=noEv from rfl]at hs;have hs:A (Sum.inl ((tkE n (l.getD i noEv),l,(l.length:Int),((i+1:Nat):Int),()),()))=r0:=by
   rw[← hs];unfold mil at w1;unfold tkE;cases(l.getD i noEv).F0==1 with
   |true=>simp only[O,w1];rfl
   |false=>cases(l.getD i noEv).F0==7 with
    |true=>simp only[O,J,w2];rfl
    |false=>cases(l.getD i noEv).F0==8 with
     |true=>simp only[O,J,w2];rfl
     |false=>simp only[J];rw[v_ (ω:¬(1000000:Int)<n)];rfl
  rw[Ap (hr0.trans hs.symm)];exact Ady hl m (i+1) _ ω (Ahh hn _)
def Ams(l:List U):Int:=l.foldl tkE 0
def Anh(hl:l.length≤100000):Dd l=A ((Ams l,()),()):=by unfold Dd;exact Am (AY (Ady hl l.length 0 0 (l_ _) ⟨by decide,by decide⟩) ω) rfl
noncomputable abbrev Apy(x:(List U×Int×Int×Unit)×Unit):=Hr x.1.1 x.1.2.1 x.1.2.2.1
def Ab8{l:List U}(hl:l.length≤100000):∀(m i:Nat) (n:Int),i+m=l.length→0≤n∧n≤1000000→aA Apy (m+1) ((l,n,(i:Int),()),())=A (((l.drop i).foldl tkE n,()),())
 |0,i,n,hi,_=>by obtain rfl:i=l.length:=ω;rw[a4_];refine Au ?_;show Hr _ _ _=_;simp only[lp,Un.u,Hr,La,J,List.foldl_nil]
 |m+1,i,n,hi,hn=>by
  have hlt:i<l.length:=ω;rw[EZ noEv hlt,List.foldl_cons];obtain⟨r0,hr0⟩:∃r0,Apy ((l,n,(i:Int),()),())=r0:=⟨_,rfl⟩;have hs:=hr0;have hp:=Ry (Agm (l.getD i noEv).N);have w1:R.wrap (n+mil (bif decide ((l.getD i noEv).N<0)then 0 else(l.getD i noEv).N))=_:=Af ω ω;have w2:R.wrap (n+1)=_:=Af ω ω;have hq:(bif decide (0<mil (l.getD i noEv).N)then mil (l.getD i noEv).N else 0)=mil (bif decide ((l.getD i noEv).N<0)then 0 else(l.getD i noEv).N):=by
   generalize(l.getD i noEv).N=k;by_cases h0:k<0
   ·rw[Bdh (ω:k≤1000000),w_ h0,v_ (ω:¬0<k)];rfl
   ·rw[v_ h0,J]
    have:=Ry (ω:0≤k)
    by_cases h1:0<mil k
    ·rw[w_ h1];rfl
    ·rw[v_ h1,J];omega
  unfold Apy Hr at hs;simp only[LS hlt,HP hlt,O,C_,Jk hl hlt]at hs;rw[show(aP 0 0 0 0 0)=noEv from rfl]at hs;have hs:A (Sum.inl ((l,tkE n (l.getD i noEv),((i+1:Nat):Int),()),()))=r0:=by
   rw[← hs];unfold tkE;cases(l.getD i noEv).F0==1 with
   |true=>rw[← hq]at w1⊢;unfold mil at w1;simp only[O,w1];rfl
   |false=>cases(l.getD i noEv).F0==7 with
    |true=>simp only[O,J,w2];rfl
    |false=>cases(l.getD i noEv).F0==8 with
     |true=>simp only[O,J,w2];rfl
     |false=>simp only[J];rw[v_ (ω:¬(1000000:Int)<n)];rfl
  rw[Ap (hr0.trans hs.symm)];exact Ab8 hl m (i+1) _ ω (Ahh hn _)
def Tv(hl:l.length≤100000):Hv l=A ((Ams l,()),()):=by unfold Hv;exact Am (AY (Ab8 hl l.length 0 0 (l_ _) ⟨by decide,by decide⟩) ω) rfl
def We(a:List U)(h:a.length≤100000):Ff a a=A ((H,()),()):=by have l:FL ((a,a,(0:Int),()),())=A (.inl ((),())):=ZK h (λi=>((a,a,(i:Int),()),())) (λi hi=>by simp only[lp,Un.u,Ia,LS hi,HP hi,Jk h hi,V_,Bool.and_self,a8_,O,J]) (by simp only[lp,Un.u,Ia,La,J]);unfold Ff;rw[l];simp
def DT(l:List U):Bs:=Qt (l.map CY)
def Sf{K:Nat}:∀{ls:List Bs},(∀l∈ls,l.length≤K)→(Qt ls).length≤ls.length*(K+1)
 |[],_=>N_ _
 |l::r,h=>by have h1:=h l S_;have h2:=Sf (ls:=r) λx hx=>h x (R_ _ hx);rw[Qt,g_,o_,o_,H_];omega
def JS(l:Bs):List Int:=l.map λb=>(b.toNat:Int)
def Ahg(l:Bs):Ug (JS l)=B l:=by
 show(aH (aG ((JS l).map _)):ByteArray)=_;rw[JS,List.map_map]
 have:∀f:Int→UInt8,(∀b:UInt8,f (b.toNat:Int)=b)→l.map (f∘λb=>(b.toNat:Int))=l:=λf h=>by rw[show(f∘λb:UInt8=>(b.toNat:Int))=id from funext h];exact List.map_id _
 rw[this _ λb=>by simp];rfl
def Anm(l:Bs):(JS l).all (λn=>decide (0≤n)&&decide (n<256))=H:=by
 rw[E_];intro x hx;obtain⟨b,_,rfl⟩:=b5_.1 hx
 have:=b.toNat_lt
 rw[w_ (Int.natCast_nonneg _),w_ ω];rfl
noncomputable abbrev Apv(x:(Unit×List U×Int×Int×Unit)×((Unit×List Int×Unit)×Unit)):=EK x.1.2.1 x.1.2.2.1 x.1.2.2.2.1 x.2.1.2.1
def Aaz{l:List U}(hl:l.length≤1000)(hv:∀e∈l,Vev e):∀(m i:Nat) (acc:Bs),i+m=l.length→acc.length≤34*i→aA Apv (m+1) (((),l,(l.length:Int),(i:Int),()),(((),JS acc,()),()))=A (((),()),(((),JS (acc++DT (l.drop i)),()),()))
 |0,i,acc,hi,_=>by obtain rfl:i=l.length:=ω;rw[a4_];refine Au ?_;show EK _ _ _ _=_;simp only[lp,Un.u,EK,La,J];rw[show DT []=[]from rfl,List.append_nil]
 |m+1,i,acc,hi,ha=>by
  have hlt:i<l.length:=ω;have hm:Vev (l.getD i noEv):=hv _ (LO noEv hlt);rw[EZ noEv hlt];have hle:=(OB hm).2.2;obtain⟨r0,hr0⟩:∃r0,Apv (((),l,(l.length:Int),(i:Int),()),(((),JS acc,()),()))=r0:=⟨_,rfl⟩;have hs:=hr0;have hw:Ch (B (Mg (l.getD i noEv))) (JS acc)=A ((((B (Mg (l.getD i noEv))).size:Int),(),()),(((),JS (acc++Mg (l.getD i noEv)),()),())):=by show wsF _ _ _=_;unfold wsF;rw[Fp (show(JS acc).length+(B (Mg (l.getD i noEv))).size≤2147483648 by rw[Be,JS,D_,Mg,g_,L_];omega),O];unfold JS;rw[List.map_append];rfl
  unfold Apv EK at hs;simp only[LS hlt,HP hlt,O,C_,Jk (ω:l.length≤100000) hlt]at hs;rw[show(aP 0 0 0 0 0)=noEv from rfl,Atp hm]at hs;simp only[V,hw]at hs;rw[Ap (hr0.trans hs.symm),Aaz hl hv m (i+1) _ ω (by rw[Mg,g_,g_,L_];omega)];show A (((),()),(((),JS (acc++Mg (l.getD i noEv)++DT (l.drop (i+1))),()),()))=A (((),()),(((),JS (acc++(CY (l.getD i noEv)++10::DT (l.drop (i+1)))),()),()));rw[Mg,I_,I_];rfl
noncomputable abbrev Apu(x:(List U×ByteArray×Int×Unit)×Unit):=GB x.1.1 x.1.2.1 x.1.2.2.1
def Aax{l:List U}(hl:l.length≤1000)(hv:∀e∈l,Vev e):∀(m i:Nat) (acc:Bs),i+m=l.length→acc.length≤34*i→aA Apu (m+1) ((l,B acc,(i:Int),()),())=A ((B (acc++DT (l.drop i)),()),())
 |0,i,acc,hi,_=>by obtain rfl:i=l.length:=ω;rw[a4_];refine Au ?_;show GB _ _ _=_;simp only[lp,Un.u,GB,La,J];rw[show DT []=[]from rfl,List.append_nil]
 |m+1,i,acc,hi,ha=>by
  have hlt:i<l.length:=ω;have hm:Vev (l.getD i noEv):=hv _ (LO noEv hlt);rw[EZ noEv hlt];have hle:=(OB hm).2.2;obtain⟨r0,hr0⟩:∃r0,Apu ((l,B acc,(i:Int),()),())=r0:=⟨_,rfl⟩;have hs:=hr0;unfold Apu GB at hs;simp only[LS hlt,HP hlt,O,C_,Jk (ω:l.length≤100000) hlt]at hs;rw[show(aP 0 0 0 0 0)=noEv from rfl,Abx hm]at hs;rw[show(aH (aG [10]))=B [10]from rfl]at hs;simp only[V,Hi]at hs;have e1:aE ((B acc).size+(B (CY (l.getD i noEv))).size) 4611686018427387904=H:=by rw[Be,Be];exact Fp ω
  have e2:aE ((B (acc++CY (l.getD i noEv))).size+(B [10]).size) 4611686018427387904=H:=by rw[Be,Be,g_,L_];exact Fp ω
  simp only[e1,e2,O]at hs;rw[Ap (hr0.trans hs.symm),Aax hl hv m (i+1) _ ω (by rw[g_,g_,L_];omega)];show A ((B (acc++CY (l.getD i noEv)++[10]++DT (l.drop (i+1))),()),())=A ((B (acc++(CY (l.getD i noEv)++10::DT (l.drop (i+1)))),()),());rw[I_,I_];rfl
section
variable{b:Bldg}(hb:b.small)(hc:b.D0.length≤1000)
include hb hc
def Aay(b:Bldg)(l:List U):(ByteArray×Int×Unit)×Unit:=bif b.code==0&&l.all (BD b)then((B (DT l),0,()),())else((B [],1,()),())
theorem Ahl(hl:l.length≤1000):Du b.A0 b.B0 b.Q0 b.K0 b.G0 b.M0 b.L0 b.D0 l=A (Aay b l):=by
 unfold Du Aay;refine Am (ZH hb hc ω) ?_;show(bif !(b.code==0&&l.all (BD b))then _ else _)=_;cases hv:b.code==0&&l.all (BD b)with
 |false=>rfl
 |true=>rw[b_,E_]at hv;rw[a8_,J,O];refine Am (AY (Aaz hl (λe he=>TJ hb hc (hv.2 e he)) l.length 0 [] (l_ _) (N_ _)) ω) ?_;show aX (Cm (JS ([]++DT l))) _=_;rw[c4_];unfold Cm;rw[Anm,Ahg];rfl
theorem YT(hl:l.length≤1000):HV b.A0 b.B0 b.Q0 b.K0 b.G0 b.M0 b.L0 b.D0 l=A (Aay b l):=by
 unfold HV Aay;refine Am (Tw hb hc ω) ?_;show(bif !(b.code==0&&l.all (BD b))then _ else _)=_;cases hv:b.code==0&&l.all (BD b)with
 |false=>rfl
 |true=>rw[b_,E_]at hv;rw[a8_,J,O];refine Am (AY (Aax hl (λe he=>TJ hb hc (hv.2 e he)) l.length 0 [] (l_ _) (N_ _)) ω) rfl
theorem Ts:∀{l:List U}(i:Nat) (out:List U),(∀e∈l,BD b e=H)→Lf b i out (l.map CY++[[]])=(out++l,0,0)
 |[],i,out,_=>by show Lf b i out [[]]=_;rw[Lf,show Jj []=[]from rfl];simp only[Lf,List.append_nil]
 |e::l,i,out,h=>by
  have hv:=h e S_;have ve:=TJ hb hc hv;have hne:=(Acd ve).1;have her:=As8 ve;rw[c6_,aZ,Lf,(OB ve).1];cases hw:wsV e with
  |nil=>exact absurd hw hne
  |cons w ws=>rw[hw]at her;simp only[her,hv,O];rw[Ts (i+1) (out++[e]) λx hx=>h x (R_ _ hx),I_];rfl
theorem Acg(h0:b.code=0)(hl:l.length≤1000)(hv:∀e∈l,BD b e=H):Dc b.A0 b.B0 b.Q0 b.K0 b.G0 b.M0 b.L0 b.D0 (B (DT l))=A ((l,0,0,()),()):=by
 have hle:∀x∈l.map CY,x.length≤33:=λx hx=>by obtain⟨e,he,rfl⟩:=b5_.1 hx;exact(OB (TJ hb hc (hv e he))).2.2
 have hlen:=Sf hle;rw[D_]at hlen;have hsz:(B (DT l)).size≤34000:=by rw[Be,DT];omega
 unfold Dc;refine Am (HA b) ?_;simp only[h0,bne_self_eq_false,J];rw[v_ (ω:¬(60000:Int)<((B (DT l)).size:Nat)),J];have hsp:CV 10 (DT l)=l.map CY++[[]]:=Xd λx hx=>by obtain⟨e,he,rfl⟩:=b5_.1 hx;exact(OB (TJ hb hc (hv e he))).2.1
 have h1:FJ (B (DT l)) (aH (aG [10]))=A (((l.map CY++[[]]).map B,()),()):=by show(bif aC (B (DT l)).size 4294967281&&H then A (((CV 10 (DT l)).map B,()),())else Z)=_;rw[FR ω,hsp];rfl
 refine Am h1 ?_;have hn:(l.map CY++[[]]).length=l.length+1:=by rw[g_,D_,L_]
 have h2:=RA hb hc (ls:=l.map CY++[[]]) ω (λx hx=>by
  rcases A_.1 hx with hx | hx
  ·exact a0_ (hle x hx) (by decide)
  ·rw[List.mem_singleton.1 hx];exact N_ _) (l.length+1) 0 [] ω (B_ _)
 rw[b7_,Ts hb hc 0 [] hv,c4_]at h2;refine Am (a:=.inl ((l,()),())) ?_ rfl;rw[D_];exact AY h2 ω
end
section
variable{b:Bldg}(hb:b.small)(m:Img)(hm:m.B5.length≤1000)(r:Record)
include hb hm
end
def JT{α:Type}(d:α)(g:Nat→α→α)(i:Nat)(l:List α):List α:=l.set i (g i (l.getD i d))
def Yi{α:Type}(d:α)(g:Nat→α→α):∀(m i:Nat) (l:List α),i+m=l.length→Rl (JT d g) m i l=l.take i++(List.range' i m).map (λj=>g j (l.getD j d))
 |0,i,l,h=>by rw[show i=l.length by omega,List.take_length];simp[Rl]
 |m+1,i,l,h=>by
  have hi:i<l.length:=ω;unfold Rl;rw[Yi d g m (i+1) _ (by rw[JT,aR];omega)];have e1:(JT d g i l).take (i+1)=l.take i++[g i (l.getD i d)]:=by unfold JT;rw[List.take_add_one,List.take_set_of_le ω,List.getElem?_set_self ω];rfl
  rw[e1,List.range'_succ,c6_,I_,List.singleton_append];congr 2;apply List.map_congr_left;intro j hj;rw[List.mem_range']at hj;obtain⟨k,hk,rfl⟩:=hj;unfold JT;rw[n_,List.getElem?_set_ne ω,← n_]
def Rm(d:α)(g:Nat→α→α)(f:Nat→α)(n:Nat):Rl (JT d g) n 0 ((aL n).map f)=(aL n).map (λj=>g j (f j)):=by rw[Yi d g n 0 _ (by simp),List.take_zero,c4_,← List.range_eq_range'];apply List.map_congr_left;intro j hj;rw[List.mem_range]at hj;simp[n_,hj]
def Nd{l:List α}(d x:α)(h:i<l.length):(l.set i x).getD i d=x:=by rw[n_,List.getElem?_set_self h];rfl
def g15(fl t i:Nat)(c:Car):Car:=⟨c.H0,c.S0,c.U0,c.O0,((1+t%3:Nat):Int),((1+t/3%3:Nat):Int),((1+t/9%3:Nat):Int),((1+t/9%3+t/27%5:Nat):Int),(((i+t)%fl:Nat):Int)⟩
def g18(t:Nat)(_:Nat)(c:Car):Car:={ c with H0:=((1+t%16:Nat):Int) }
def g27(n1 n2:Nat)(_:Nat)(c:Car):Car:={ c with U0:=((1+n2%4:Nat):Int),O0:=((n1%5:Nat):Int) }
def CX(fl ca t:Nat):Bldg:={ At fl ca with K0:=((1+t%7:Nat):Int),D0:=(aL ca).map λi=>g15 fl t i (ES fl i) }
def Ph(fl ca t:Nat):Bldg:={ CX fl ca t with D0:=(aL ca).map λi=>g18 t i (g15 fl t i (ES fl i)) }
def DD(fl ca n1 n2:Nat):Bldg:={ CX fl ca n1 with B0:=((1+n2%3:Nat):Int),Q0:=((18*ca+24+6*(n2/3):Nat):Int),D0:=(aL ca).map λi=>g27 n1 n2 i (g18 n1 i (g15 fl n1 i (ES fl i))) }
def Aqh(h:0≤n)(h':n<256):aF.wrap n=n:=by simp only[aB,IntKind.signed,IntKind.bits];simp;omega
def OL(a b:Nat):aD (a:Int) (b:Int)=((a%b:Nat):Int):=by rw[Int.tmod_eq_emod_of_nonneg ω];norm_cast
def Aqf(a b:Nat):aI (a:Int) (b:Int)=((a/b:Nat):Int):=by rw[Int.tdiv_eq_ediv_of_nonneg ω];norm_cast
def Ke(k:Nat)(ht:t<100000):R.wrap ((1:Int)+R.wrap (aD (t:Int) (k:Int)))=((1+t%k:Nat):Int):=by
 have:t%k≤t:=Nat.mod_le _ _
 rw[OL];generalize t%k=q at this⊢;rw[Af (n:=(q:Int)) ω ω,Af ω ω];norm_cast
def SV(k:Nat)(ht:t<256):aF.wrap (aI (t:Int) (k:Int))=((t/k:Nat):Int):=by
 have:t/k≤t:=Nat.div_le_self _ _
 generalize hq:t/k=q at this;rw[Aqf,hq,Aqh ω ω]
def Ael{fl ca:Nat}(h1:1≤fl)(hf:fl≤100)(h2:ca≤8)(ht:t<256):
  Hd (((t:Int),(),(),(0:Int),()),(Bldg.none.tup,(At fl ca).tup,()))=A (((t:Int),(),(),()),(Bldg.none.tup,({ At fl ca with D0:=(CX fl ca t).D0 }:Bldg).tup,())):=by
 have hl:(At fl ca).D0.length=ca:=by simp[At]
 have h:=Nz (step:=λx=>letI a:=x.2.2.1.2.2;letI b:=x.2.1.2.2;letI c:=b.2.2;letI d:=a.2.2;DY x.1.1 x.1.2.2.2.1 x.2.1.1 x.2.1.2.1 b.1 b.2.1 c.1 c.2.1 c.2.2.1 c.2.2.2.1 x.2.2.1.1 x.2.2.1.2.1 a.1 a.2.1 d.1 d.2.1 d.2.2.1 d.2.2.2.1) ca
  (λi l=>(((t:Int),(),(),(i:Int),()),(Bldg.none.tup,({ At fl ca with D0:=l }:Bldg).tup,()))) (JT DM (g15 fl t)) (λ_ l=>l.length=ca) (λl=>(((t:Int),(),(),()),(Bldg.none.tup,({ At fl ca with D0:=l }:Bldg).tup,())))
  (λi l hi hll=>by
   refine⟨?_,by rw[JT,aR,hll]⟩;show DY (t:Int) (i:Int) Bldg.none.A0 Bldg.none.B0 Bldg.none.Q0 Bldg.none.K0 Bldg.none.G0 Bldg.none.M0 Bldg.none.L0 Bldg.none.D0 (At fl ca).A0 (At fl ca).B0 (At fl ca).Q0 (At fl ca).K0 (At fl ca).G0 (At fl ca).M0 (At fl ca).L0 l=_;unfold DY;have hil:i<l.length:=ω;have hz:((At fl ca).A0 !=0)=H:=by show((fl:Int) !=0)=H;simp;omega
   have w:R.wrap ((i:Int)+1)=((i+1:Nat):Int):=by rw[Af ω ω];omega
   have e1:R.wrap ((1:Int)+R.wrap (aD (t:Int) 3))=((1+t%3:Nat):Int):=Ke 3 ω;have e2:R.wrap ((1:Int)+R.wrap (aD (aB aF (aI (t:Int) 3)) 3))=((1+t/3%3:Nat):Int):=by rw[show aF.wrap (aI (t:Int) 3)=((t/3:Nat):Int)from SV 3 ht];exact Ke 3 ω
   have e3:R.wrap ((1:Int)+R.wrap (aD (aB aF (aI (t:Int) 9)) 3))=((1+t/9%3:Nat):Int):=by rw[show aF.wrap (aI (t:Int) 9)=((t/9:Nat):Int)from SV 9 ht];exact Ke 3 ω
   have e4:R.wrap (((1+t/9%3:Nat):Int)+R.wrap (aD (aB aF (aI (t:Int) 27)) 5))=((1+t/9%3+t/27%5:Nat):Int):=by rw[show aF.wrap (aI (t:Int) 27)=((t/27:Nat):Int)from SV 27 ht,show aD ((t/27:Nat):Int) 5=((t/27%5:Nat):Int)from OL _ 5,Af (n:=((t/27%5:Nat):Int)) ω ω,Af ω ω];norm_cast
   have e5:aD (aB R ((i:Int)+R.wrap (t:Int))) (At fl ca).A0=(((i+t)%fl:Nat):Int):=by show aD _ (fl:Int)=_;rw[Af (n:=(t:Int)) ω ω,Af ω ω];exact OL (i+t) fl
   rw[show Car.mk 0 0 0 0 0 0 0 0 0=DM from rfl];simp only[w_ (ω:(i:Int)<(l.length:Int)),CP (ω:(0:Int)≤(i:Int)) (ω:(i:Int)<(l.length:Int)),O,C_,hz,w,Nd DM _ hil,List.set_set,e1,e2,e3,e4,e5];unfold JT g15;rfl)
  (λl hll=>by show DY (t:Int) (ca:Int) Bldg.none.A0 Bldg.none.B0 Bldg.none.Q0 Bldg.none.K0 Bldg.none.G0 Bldg.none.M0 Bldg.none.L0 Bldg.none.D0 (At fl ca).A0 (At fl ca).B0 (At fl ca).Q0 (At fl ca).K0 (At fl ca).G0 (At fl ca).M0 (At fl ca).L0 l=_;unfold DY;rw[hll,v_ (aU (ca:Int))];rfl)
  ca 0 (At fl ca).D0 ω hl
 have h2:=AY h.1 ω;rw[show(At fl ca).D0=(aL ca).map (ES fl)from rfl,Rm]at h2;exact h2
def Aem{fl ca:Nat}(_hf:fl≤100)(h2:ca≤8)(ht:t<256):
  He (((t:Int),(),(),(0:Int),()),(Bldg.none.tup,(CX fl ca t).tup,()))=A (((),(),()),(Bldg.none.tup,(Ph fl ca t).tup,())):=by
 have hl:(CX fl ca t).D0.length=ca:=by simp[CX]
 have h:=Nz (step:=λx=>letI a:=x.2.2.1.2.2;letI b:=x.2.1.2.2;letI c:=b.2.2;letI d:=a.2.2;DZ x.1.1 x.1.2.2.2.1 x.2.1.1 x.2.1.2.1 b.1 b.2.1 c.1 c.2.1 c.2.2.1 c.2.2.2.1 x.2.2.1.1 x.2.2.1.2.1 a.1 a.2.1 d.1 d.2.1 d.2.2.1 d.2.2.2.1) ca
  (λi l=>(((t:Int),(),(),(i:Int),()),(Bldg.none.tup,({ CX fl ca t with D0:=l }:Bldg).tup,()))) (JT DM (g18 t)) (λ_ l=>l.length=ca) (λl=>(((),(),()),(Bldg.none.tup,({ CX fl ca t with D0:=l }:Bldg).tup,())))
  (λi l hi hll=>by
   refine⟨?_,by rw[JT,aR,hll]⟩;show DZ (t:Int) (i:Int) Bldg.none.A0 Bldg.none.B0 Bldg.none.Q0 Bldg.none.K0 Bldg.none.G0 Bldg.none.M0 Bldg.none.L0 Bldg.none.D0 (CX fl ca t).A0 (CX fl ca t).B0 (CX fl ca t).Q0 (CX fl ca t).K0 (CX fl ca t).G0 (CX fl ca t).M0 (CX fl ca t).L0 l=_;unfold DZ;have w:R.wrap ((i:Int)+1)=((i+1:Nat):Int):=by rw[Af ω ω];omega
   have e1:R.wrap ((1:Int)+R.wrap (aD (t:Int) 16))=((1+t%16:Nat):Int):=Ke 16 ω;rw[show Car.mk 0 0 0 0 0 0 0 0 0=DM from rfl];simp only[w_ (ω:(i:Int)<(l.length:Int)),CP (ω:(0:Int)≤(i:Int)) (ω:(i:Int)<(l.length:Int)),O,C_,w,e1];unfold JT g18;rfl)
  (λl hll=>by show DZ (t:Int) (ca:Int) Bldg.none.A0 Bldg.none.B0 Bldg.none.Q0 Bldg.none.K0 Bldg.none.G0 Bldg.none.M0 Bldg.none.L0 Bldg.none.D0 (CX fl ca t).A0 (CX fl ca t).B0 (CX fl ca t).Q0 (CX fl ca t).K0 (CX fl ca t).G0 (CX fl ca t).M0 (CX fl ca t).L0 l=_;unfold DZ;rw[hll,v_ (aU (ca:Int))];rfl)
  ca 0 (CX fl ca t).D0 ω hl
 have h2:=AY h.1 ω;rw[show(CX fl ca t).D0=(aL ca).map (λi=>g15 fl t i (ES fl i))from rfl,Rm]at h2;exact h2
def Ek(fl ca n1 n2:Nat):Bldg:={ DD fl ca n1 n2 with D0:=(Ph fl ca n1).D0 }
def Aen{fl ca n0 n1 n2:Nat}(h2:ca≤8)(_h3:n1<256)(h4:n2<256) :
  Fg (((),(),(),(0:Int),()),(((n0:Int),(n1:Int),(n2:Int),()),Bldg.none.tup,(Ek fl ca n1 n2).tup,()))=A (((),(),()),(Bldg.none.tup,(DD fl ca n1 n2).tup,())):=by
 have hl:(Ek fl ca n1 n2).D0.length=ca:=by simp[Ek,Ph]
 have h:=Nz (step:=λx=>letI a:=x.2.2;letI b:=a.2.1.2.2;letI c:=a.1.2.2;letI d:=c.2.2;letI e:=b.2.2;Ea x.1.2.2.2.1 x.2.1.1 x.2.1.2.1 x.2.1.2.2.1 a.1.1 a.1.2.1 c.1 c.2.1 d.1 d.2.1 d.2.2.1 d.2.2.2.1 a.2.1.1 a.2.1.2.1 b.1 b.2.1 e.1 e.2.1 e.2.2.1 e.2.2.2.1) ca
  (λi l=>(((),(),(),(i:Int),()),(((n0:Int),(n1:Int),(n2:Int),()),Bldg.none.tup,({ Ek fl ca n1 n2 with D0:=l }:Bldg).tup,()))) (JT DM (g27 n1 n2)) (λ_ l=>l.length=ca) (λl=>(((),(),()),(Bldg.none.tup,({ Ek fl ca n1 n2 with D0:=l }:Bldg).tup,())))
  (λi l hi hll=>by
   refine⟨?_,by rw[JT,aR,hll]⟩;show Ea (i:Int) (n0:Int) (n1:Int) (n2:Int) Bldg.none.A0 Bldg.none.B0 Bldg.none.Q0 Bldg.none.K0 Bldg.none.G0 Bldg.none.M0 Bldg.none.L0 Bldg.none.D0 (Ek fl ca n1 n2).A0 (Ek fl ca n1 n2).B0 (Ek fl ca n1 n2).Q0 (Ek fl ca n1 n2).K0 (Ek fl ca n1 n2).G0 (Ek fl ca n1 n2).M0 (Ek fl ca n1 n2).L0 l=_;unfold Ea;have hil:i<l.length:=ω;have w:R.wrap ((i:Int)+1)=((i+1:Nat):Int):=by rw[Af ω ω];omega
   have e1:R.wrap ((1:Int)+R.wrap (aD (n2:Int) 4))=((1+n2%4:Nat):Int):=Ke 4 ω;have e2:R.wrap (aD (n1:Int) 5)=((n1%5:Nat):Int):=by rw[show aD (n1:Int) 5=((n1%5:Nat):Int)from OL n1 5,Af ω ω]
   rw[show Car.mk 0 0 0 0 0 0 0 0 0=DM from rfl];simp only[w_ (ω:(i:Int)<(l.length:Int)),CP (ω:(0:Int)≤(i:Int)) (ω:(i:Int)<(l.length:Int)),O,C_,w,e1,e2,Nd DM _ hil,List.set_set,aR];unfold JT g27;rfl)
  (λl hll=>by show Ea (ca:Int) (n0:Int) (n1:Int) (n2:Int) Bldg.none.A0 Bldg.none.B0 Bldg.none.Q0 Bldg.none.K0 Bldg.none.G0 Bldg.none.M0 Bldg.none.L0 Bldg.none.D0 (Ek fl ca n1 n2).A0 (Ek fl ca n1 n2).B0 (Ek fl ca n1 n2).Q0 (Ek fl ca n1 n2).K0 (Ek fl ca n1 n2).G0 (Ek fl ca n1 n2).M0 (Ek fl ca n1 n2).L0 l=_;unfold Ea;rw[hll,v_ (aU (ca:Int))];rfl)
  ca 0 (Ek fl ca n1 n2).D0 ω hl
 have h2:=AY h.1 ω;rw[show(Ek fl ca n1 n2).D0=(aL ca).map (λi=>g18 n1 i (g15 fl n1 i (ES fl i)))from rfl,Rm]at h2;exact h2
def EP(n0:Nat):Nat:=2+n0%5
def EG(n0:Nat):Nat:=1+n0/5%3
def Uh{n0:Nat}(hn:n0<256)(ht:t<256):Ir (n0:Int) (t:Int)=A (((),()),((CX (EP n0) (EG n0) t).tup,())):=by
 have e1:R.wrap ((2:Int)+R.wrap (aD (n0:Int) 5))=((EP n0:Nat):Int):=by rw[show aD (n0:Int) 5=((n0%5:Nat):Int)from OL n0 5,Af (n:=((n0%5:Nat):Int)) ω ω,Af ω ω];unfold EP;norm_cast
 have e2:R.wrap ((1:Int)+R.wrap (aD (aB aF (aI (n0:Int) 5)) 3))=((EG n0:Nat):Int):=by rw[show aF.wrap (aI (n0:Int) 5)=((n0/5:Nat):Int)from SV 5 hn];exact Ke 3 ω
 have hf:2≤EP n0∧EP n0≤6:=by unfold EP;omega
 have hc:1≤EG n0∧EG n0≤3:=by unfold EG;omega
 have e3:R.wrap ((1:Int)+R.wrap (aD (t:Int) 7))=((1+t%7:Nat):Int):=Ke 7 ω;unfold Ir;rw[e1,e2];refine Am (VQ ω ω) ?_;refine Am (Ael ω ω ω ht) ?_;show A (((),()),(((EP n0:Nat):Int),(1:Int),(4000:Int),R.wrap ((1:Int)+R.wrap (aD (t:Int) 7)),_,_,_,_,()),())=_;rw[e3];rfl
def Ui{n0:Nat}(hn:n0<256)(ht:t<256):It (n0:Int) (t:Int)=A (((),()),((Ph (EP n0) (EG n0) t).tup,())):=by
 have hf:2≤EP n0∧EP n0≤6:=by unfold EP;omega
 have hc:1≤EG n0∧EG n0≤3:=by unfold EG;omega
 unfold It;refine Am (Uh hn ht) ?_;exact Am (Aem ω ω ht) rfl
def Uj{n0 n1 n2:Nat}(h0:n0<256)(h1:n1<256)(h2:n2<256):Iu (n0:Int) (n1:Int) (n2:Int)=A (((),()),((DD (EP n0) (EG n0) n1 n2).tup,())):=by
 have hf:2≤EP n0∧EP n0≤6:=by unfold EP;omega
 have hc:1≤EG n0∧EG n0≤3:=by unfold EG;omega
 have e1:R.wrap ((1:Int)+R.wrap (aD (n2:Int) 3))=((1+n2%3:Nat):Int):=Ke 3 ω;have hl:(Ph (EP n0) (EG n0) n1).D0.length=EG n0:=by simp[Ph]
 have e2:R.wrap (aB R (aB R (18*(((Ph (EP n0) (EG n0) n1).D0.length:Nat):Int))+24)+R.wrap (6*R.wrap (aB aF (aI (n2:Int) 3))))=((18*EG n0+24+6*(n2/3):Nat):Int):=by
  rw[hl,show aF.wrap (aI (n2:Int) 3)=((n2/3:Nat):Int)from SV 3 h2,Af (n:=18*((EG n0:Nat):Int)) ω ω,Af (n:=18*((EG n0:Nat):Int)+24) ω ω,Af (n:=((n2/3:Nat):Int)) ω ω,Af (n:=6*((n2/3:Nat):Int)) ω ω,Af ω ω]
  norm_cast
 unfold Iu;refine Am (Ui h0 h1) ?_;refine Am (a:=(((),(),()),(Bldg.none.tup,(DD (EP n0) (EG n0) n1 n2).tup,()))) ?_ rfl;show Fg (((),(),(),(0:Int),()),(((n0:Int),(n1:Int),(n2:Int),()),Bldg.none.tup,(((EP n0:Nat):Int),R.wrap ((1:Int)+R.wrap (aD (n2:Int) 3)),R.wrap (aB R (aB R (18*(((Ph (EP n0) (EG n0) n1).D0.length:Nat):Int))+24)+R.wrap (6*R.wrap (aB aF (aI (n2:Int) 3)))),_,_,_,_,_,()),()))=_;rw[e1,e2];exact Aen ω h1 h2
def Acj{fl ca n1 n2:Nat}(hf:2≤fl∧fl≤6)(hc:1≤ca∧ca≤3)(_h1:n1<256)(h2:n2<256):(DD fl ca n1 n2).small∧(DD fl ca n1 n2).code=0∧(DD fl ca n1 n2).D0.length=ca∧(DD fl ca n1 n2).A0=(fl:Int)∧18*(ca:Int)+24≤(DD fl ca n1 n2).Q0∧(DD fl ca n1 n2).Q0≤600:=by
 have hl:(DD fl ca n1 n2).D0.length=ca:=by simp[DD]
 have hr:(DD fl ca n1 n2).Q0=((18*ca+24+6*(n2/3):Nat):Int):=rfl;refine⟨⟨by show(2:Int)≤(fl:Int);omega,by show(fl:Int)≤8;omega⟩,?_,hl,rfl,by rw[hr];omega,by rw[hr];omega⟩;unfold Bldg.code;have e1:inR 2 32 (DD fl ca n1 n2).A0=H:=Di.2 (by show(2:Int)≤(fl:Int)∧(fl:Int)≤32;omega);have e2:inR 1 8 ((DD fl ca n1 n2).D0.length:Int)=H:=Di.2 ω;have e3:inR 1 16 (DD fl ca n1 n2).B0=H:=Di.2 (by show(1:Int)≤((1+n2%3:Nat):Int)∧((1+n2%3:Nat):Int)≤16;omega);have e4:inR 1 10000 (DD fl ca n1 n2).K0=H:=Di.2 (by show(1:Int)≤((1+n1%7:Nat):Int)∧((1+n1%7:Nat):Int)≤10000;omega);have e5:(DD fl ca n1 n2).D0.all (Bp (DD fl ca n1 n2).A0)=H:=by rw[E_];intro c hc';obtain⟨i,_,rfl⟩:=b5_.1 hc';have hm:(i+n1)%fl<fl:=Nat.mod_lt _ ω;show Bp (fl:Int) (g27 n1 n2 i (g18 n1 i (g15 fl n1 i (ES fl i))))=H;unfold Bp g27 g18 g15 ES;simp only[J_,aN,aM,b_,Di,a9_];rw[Af (n:=(fl:Int)-1) ω ω];refine⟨⟨?_,?_,?_,?_,?_,?_,?_⟩,?_,?_,?_⟩<;>omega
 have e6:(DD fl ca n1 n2).loadsOK=H:=by
  show(At 2 1).loadsOK=H
  kernel_rfl
 have e7:inR (18*((DD fl ca n1 n2).D0.length:Int)+24) 65536 (DD fl ca n1 n2).Q0=H:=Di.2 (by rw[hl,hr];omega);rw[e1,e2,e3,e4,e5,e6,e7];rfl
def Ns(h:b.code=0):inR 2 32 b.A0=H∧inR 1 8 (b.D0.length:Int)=H∧inR 1 16 b.B0=H∧inR 1 10000 b.K0=H∧b.D0.all (Bp b.A0)=H∧b.loadsOK=H:=by unfold Bldg.code at h;revert h;cases inR 2 32 b.A0<;>cases inR 1 8 (b.D0.length:Int)<;>cases inR 1 16 b.B0<;>cases inR 1 10000 b.K0<;>cases b.D0.all (Bp b.A0)<;>cases b.loadsOK<;>(intro h;first | exact⟨rfl,rfl,rfl,rfl,rfl,rfl⟩ | (exact absurd h (by simp)))
def Aad(h:b.code=0)(hc:c∈b.D0):Bp b.A0 c=H:=E_.1 (Ns h).2.2.2.2.1 c hc
def Zt{n:Nat}(h:n<1000000000):R.wrap ((n:Int)+1)=((n+1:Nat):Int):=by rw[Af ω ω];omega
structure CrsOK(b:Bldg)(cs:List Car):Prop where
 len:cs.length=b.D0.length
 ok:∀c∈cs,Bp b.A0 c=true
def CrsOK.code(h:b.code=0)(hc:CrsOK b cs):({ b with Q0:=4000,D0:=cs }:Bldg).code=0:=by
 obtain⟨e1,e2,e3,e4,e5,e6⟩:=Ns h;have hcc:=Ih h;have e2':inR 1 8 (cs.length:Int)=H:=by rw[hc.len];exact e2
 have e5':cs.all (Bp b.A0)=H:=E_.2 hc.ok;have e6':({ b with Q0:=4000,D0:=cs }:Bldg).loadsOK=H:=e6;have e7:inR (18*(cs.length:Int)+24) 65536 4000=H:=Di.2 (by rw[hc.len];omega);unfold Bldg.code;rw[e6'];show(bif !inR 2 32 b.A0 then(10:Int)else bif !inR 1 8 (cs.length:Int)then 11 else bif !(inR 1 16 b.B0&&inR 1 10000 b.K0&&cs.all (Bp b.A0))then 12 else bif !H then 13 else bif !inR (18*(cs.length:Int)+24) 65536 4000 then 14 else 0)=0;rw[e1,e2',e3,e4,e5',e7];rfl
def CrsOK.self(h:b.code=0):CrsOK b b.D0:=⟨rfl,λ_ hc=>Aad h hc⟩
def CrsOK.set(hc:CrsOK b cs)(h:Bp b.A0 c=H)(i:Nat):CrsOK b (cs.set i c):=⟨by rw[aR];exact hc.len,λx hx=>(List.mem_or_eq_of_mem_set hx).elim (hc.ok x) λe=>by rw[e];exact h⟩
def Im{fl:Int}:Bp fl c=H↔((1≤c.H0∧c.H0≤10000)∧(1≤c.S0∧c.S0≤10000)∧(1≤c.U0∧c.U0≤10000)∧(1≤c.W0∧c.W0≤10000)∧(1≤c.J0∧c.J0≤10000)∧(1≤c.I0∧c.I0≤10000)∧(1≤c.T0∧c.T0≤10000))∧(0≤c.O0∧c.O0≤10000)∧c.I0≤c.T0∧0≤c.E1∧c.E1≤R.wrap (fl-1):=by unfold Bp;simp only[J_,aN,aM,b_,Di,a9_]
section
variable{b:Bldg}(hb:b.small)(hcode:b.code=0)
include hcode
theorem Alo(h:CrsOK b cs):Sat (Jd (((),(),(0:Int),()),((b.A0,b.B0,4000,b.K0,b.G0,b.M0,b.L0,cs,()),(0,0,0,0,0,0,0,[],()),()))) λy=>∃cs',y.2.1=(b.A0,b.B0,4000,b.K0,b.G0,b.M0,b.L0,cs',())∧y.2.2.1=(0,0,0,0,0,0,0,[],())∧CrsOK b cs':=by
 have hcc:=Ih hcode;have hd:=Di.1 (Ns hcode).2.2.1;have wd:R.wrap (b.B0+1)=b.B0+1:=Af ω ω;have hl:=h.len;unfold Jd;refine Sat.loop (λ(k:Nat) z=>∃(i:Nat) (cs:List Car),z=(((),(),(i:Int),()),((b.A0,b.B0,4000,b.K0,b.G0,b.M0,b.L0,cs,()),(0,0,0,0,0,0,0,[],()),()))∧i+k=b.D0.length∧CrsOK b cs) (λk z hz=>?_) b.D0.length ⟨0,cs,rfl,l_ _,h⟩ ω;obtain⟨i,cs,rfl,hk,h⟩:=hz;have hl:=h.len;show Sat (PD (i:Int) b.A0 b.B0 4000 b.K0 b.G0 b.M0 b.L0 cs 0 0 0 0 0 0 0 []) _;unfold PD;refine Sat.bic (λq=>?_) λ_=>Sat.ret ⟨cs,rfl,rfl,h⟩;have q:(i:Int)<(cs.length:Int):=c7_ q;have wr:=Zt (n:=i) ω;have ht:=Im.1 (h.ok _ (LO DM (ω:i<cs.length)));refine Sat.bifT (CP ω q) (Sat.ret ⟨k-1,ω,i+1,_,by first | (rw[← wr];rfl) | rw[← wr],ω,?_⟩);simp only[C_,wd];rw[show Car.mk 0 0 0 0 0 0 0 0 0=DM from rfl];generalize hc:cs.getD i DM=c at ht;simp only[Nd DM _ (ω:i<cs.length)];have e:∀D:Int,(D=c.I0∨D=b.B0+1)→c.I0≤D→Bp b.A0 (Car.mk c.H0 c.S0 c.U0 c.O0 c.W0 c.J0 D (bif decide (c.T0<D)then D else c.T0) c.E1)=H:=λD h1 h2=>by
  by_cases q:c.T0<D
  ·rw[w_ q];refine Im.2 ?_;simp only[O];omega
  ·rw[v_ q];refine Im.2 ?_;simp only[J];omega
 rw[List.set_set];refine h.set ?_ i;by_cases q:c.I0<b.B0+1
 ·rw[w_ q];exact e _ (.inr rfl) (by show c.I0≤b.B0+1;omega)
 ·rw[v_ q];exact e _ (.inl rfl) (Int.le_refl _)
include hb
theorem Agp(h:CrsOK b cs)(hi:i<cs.length):Sat (Jn b.A0 b.B0 4000 b.K0 b.G0 b.M0 b.L0 cs (i:Int)) λy=>1≤y.1.1∧y.1.1≤100000000:=by
 have lo:=hb.lo;have hif:=hb.hi;have hl:=h.len;have hcc:=Ih hcode;have ht:=Im.1 (h.ok _ (LO DM (ω:i<cs.length)));unfold Jn;refine Sat.bindE (Ix { b with Q0:=4000,D0:=cs }) (Sat.bifF (by show(({ b with Q0:=4000,D0:=cs }:Bldg).code !=0)=E;rw[h.code hcode];rfl) (Sat.bifF (v_ ω) (Sat.bifF (v_ ω) (Sat.bifT (CP ω ω) (Sat.ret ?_)))));simp only[C_];rw[show Car.mk 0 0 0 0 0 0 0 0 0=DM from rfl];generalize cs.getD i DM=c at ht;have w1:R.wrap (3*b.A0)=3*b.A0:=Af ω ω;have w2:R.wrap (3*b.A0+1)=3*b.A0+1:=Af ω ω;have w3:R.wrap (2*c.J0)=2*c.J0:=Af ω ω;have w4:R.wrap (2*c.J0+c.I0)=2*c.J0+c.I0:=Af ω ω;have w5:R.wrap (3*(2*c.J0+c.I0))=3*(2*c.J0+c.I0):=Af ω ω;have w6:R.wrap (3*(2*c.J0+c.I0)+c.W0)=3*(2*c.J0+c.I0)+c.W0:=Af ω ω;have w7:R.wrap (3*(2*c.J0+c.I0)+c.W0+2)=3*(2*c.J0+c.I0)+c.W0+2:=Af ω ω;rw[w1,w2,w3,w4,w5,w6,w7];generalize hy:3*(2*c.J0+c.I0)+c.W0+2=y;have hy1:1≤y∧y≤200000:=ω;have hf:b.A0=2∨b.A0=3∨b.A0=4∨b.A0=5∨b.A0=6∨b.A0=7∨b.A0=8:=ω;have k:1≤(3*b.A0+1)*y∧(3*b.A0+1)*y≤100000000:=by rcases hf with e | e | e | e | e | e | e<;>rw[e]<;>omega
 rw[Af ω ω];exact k
theorem Alp(h:CrsOK b cs):Sat (Je (((),(),(0:Int),()),((b.A0,b.B0,4000,b.K0,b.G0,b.M0,b.L0,cs,()),(0,0,0,0,0,0,0,[],()),()))) λy=>∃cs',y.2.1=(b.A0,b.B0,4000,b.K0,b.G0,b.M0,b.L0,cs',())∧CrsOK b cs':=by
 have hcc:=Ih hcode;have hd:=Di.1 (Ns hcode).2.2.1;have hl:=h.len;unfold Je;refine Sat.loop (λ(k:Nat) z=>∃(i:Nat) (cs:List Car),z=(((),(),(i:Int),()),((b.A0,b.B0,4000,b.K0,b.G0,b.M0,b.L0,cs,()),(0,0,0,0,0,0,0,[],()),()))∧i+k=b.D0.length∧CrsOK b cs) (λk z hz=>?_) b.D0.length ⟨0,cs,rfl,l_ _,h⟩ ω;obtain⟨i,cs,rfl,hk,h⟩:=hz;have hl:=h.len;show Sat (PE (i:Int) b.A0 b.B0 4000 b.K0 b.G0 b.M0 b.L0 cs 0 0 0 0 0 0 0 []) _;unfold PE;refine Sat.bic (λq=>?_) λ_=>Sat.ret ⟨cs,rfl,h⟩;have q:(i:Int)<(cs.length:Int):=c7_ q;have wr:=Zt (n:=i) ω;have ht:=Im.1 (h.ok _ (LO DM (ω:i<cs.length)));refine Sat.bindS (Agp hb hcode h (ω:i<cs.length)) λy1 hn1=>(Sat.bifT (CP ω q) (Sat.ret ⟨k-1,ω,i+1,_,by first | (rw[← wr];rfl) | rw[← wr],ω,?_⟩))
 generalize y1.1.1=n at hn1;have w1:R.wrap (n+b.B0)=n+b.B0:=Af ω ω;have w2:R.wrap (n+b.B0+2)=n+b.B0+2:=Af ω ω;simp only[C_,w1,w2];rw[show Car.mk 0 0 0 0 0 0 0 0 0=DM from rfl];generalize cs.getD i DM=c at ht;refine h.set ?_ i;by_cases q:(10000:Int)<n+b.B0+2
 ·rw[w_ q];refine Im.2 ?_;simp only[O];omega
 ·rw[v_ q];refine Im.2 ?_;simp only[J];omega
end
def Bdd{n0 n1 n2:Int}(h0:0≤n0∧n0<256)(h1:0≤n1∧n1<256)(h2:0≤n2∧n2<256):Sat (DV n0 n1 n2) λy=>∃b:Bldg,y=(((),()),(b.tup,()))∧b.small∧b.code=0:=by
 obtain⟨k0,rfl⟩:=aY h0.1;obtain⟨k1,rfl⟩:=aY h1.1;obtain⟨k2,rfl⟩:=aY h2.1;have hf:(2≤EP k0∧EP k0≤6)∧1≤EG k0∧EG k0≤3:=by unfold EP EG;omega
 obtain⟨hs,hw,_⟩:=Acj (n1:=k1) (n2:=k2) hf.1 hf.2 ω ω;have e:=Uj (n0:=k0) (n1:=k1) (n2:=k2) ω ω ω;generalize DD (EP k0) (EG k0) k1 k2=b at hs hw e;have hcc:=Ih hw;unfold DV;refine Sat.bindE e (Sat.bindE rfl (Sat.bindS (Q:=λy=>∃cs,y.2.1=(b.A0,b.B0,4000,b.K0,b.G0,b.M0,b.L0,cs,())∧CrsOK b cs) ?_ λy hy=>?_))
 ·show Sat (OW b.A0 b.B0 4000 b.K0 b.G0 b.M0 b.L0 b.D0) _;unfold OW;refine Sat.bindE (Ix { b with Q0:=4000,D0:=b.D0 }) (Sat.bifF (by show(({ b with Q0:=4000,D0:=b.D0 }:Bldg).code !=0)=E;rw[(CrsOK.self hw).code hw];rfl) (Sat.bifT (Fp (by show 0+b.D0.length≤_;omega)) (Sat.bindS (Alo hw (cs:=b.D0) (CrsOK.self hw)) λy2 h2=>?_)));obtain⟨c1,e1,e2,e3⟩:=h2;rw[e1,e2];refine Sat.bindS (Alp hs hw e3) λy3 h3=>?_;obtain⟨c2,e4,e5⟩:=h3;exact Sat.ret ⟨c2,e4,e5⟩
 ·obtain⟨cs,e1,e2⟩:=hy;exact Sat.ret ⟨{ b with Q0:=4000,D0:=cs },by rw[e1];rfl,⟨hs.lo,hs.hi⟩,e2.code hw⟩
def Asr:Option ((List Entry×Unit)×Unit)→Bool
 |some y=>!y.1.1.isEmpty
 |none=>E
def Alu{F:Int}(h:2≤F∧F≤8):Asr (Nk (aB aQ ((aB aQ ((1:Int)*((2:Int)^(Min.min (aO (aB IntKind.u64 (aB R (F-(1:Int))))) (IntKind.bits aQ)))))-(1:Int))) (aB aQ ((aB aQ ((1:Int)*((2:Int)^(Min.min (aO (aB IntKind.u64 F)) (IntKind.bits aQ)))))-(2:Int))))=H:=by have hf:F=2∨F=3∨F=4∨F=5∨F=6∨F=7∨F=8:=ω;rcases hf with rfl | rfl | rfl | rfl | rfl | rfl | rfl<;>decide+kernel
def Amy(hb:b.small)(hcode:b.code=0){l:List Int}(hl:∀x∈l,0≤x∧x<256):Sat (HU b.A0 b.B0 b.Q0 b.K0 b.G0 b.M0 b.L0 b.D0 l 2000) λy=>y.1.1.length≤300:=by
 have hcc:=Ih hcode;have lo:=hb.lo;have hi:=hb.hi;have hk:=Alu (F:=b.A0) ⟨lo,hi⟩;unfold HU IC;refine Sat.bindS (Q:=λy=>y.1.1.length≤300) (Sat.loop (λ(k:Nat) z=>∃(out:List U) (left:Int) (i:Nat),z=((l,(),out,left,(i:Int),()),(b.tp,()))∧out.length+k=300∧i=2*out.length∧-1000000≤left∧left≤2000) (λk z hz=>?_) 300 ⟨[],2000,0,rfl,rfl,rfl,by decide,by decide⟩ (by decide)) λy hy=>Sat.ret hy;obtain⟨out,left,i,rfl,h1,h2,h3,h4⟩:=hz;show Sat (LG l out left (i:Int) b.A0 b.B0 b.Q0 b.K0 b.G0 b.M0 b.L0 b.D0) _;have w1:R.wrap ((i:Int)+1)=((i+1:Nat):Int):=Zt ω;unfold LG;rw[w1];refine Sat.bic (λq1=>?_) λ_=>Sat.ret (by show out.length≤300;omega);have q1:=c7_ q1;refine Sat.bic (λq2=>?_) λ_=>Sat.ret (by show out.length≤300;omega);have q2:=c7_ q2;refine Sat.bic (λq3=>?_) λ_=>Sat.ret (by show out.length≤300;omega);have q3:=c7_ q3;have g:∀j,j<l.length→0≤l.getD j 0∧l.getD j 0<256:=λj hj=>hl _ (LO 0 hj);have g0:=g i ω;have g1:=g (i+1) ω;refine Sat.bifT (CP ω ω) (Sat.bifT (CP ω ω) ?_);simp only[C_];generalize l.getD i 0=x at g0;generalize l.getD (i+1) 0=y at g1;rw[Af (n:=x) ω ω,Af (n:=y) ω ω];refine Sat.bifT (Wl ω) ?_;refine Sat.bindS (Q:=λr=>∃e:U,r=((l,(),out,left,(i:Int),(),()),(b.tp,e.tup,()))) ?_ λr hr=>?_
 ·generalize R.wrap (1+aD x 8)=z3;refine Sat.bic (λ_=>?_) λ_=>Sat.bic (λ_=>?_) λ_=>Sat.bic (λ_=>?_) λ_=>Sat.bic (λ_=>Sat.ret ⟨⟨_,_,_,_,_⟩,rfl⟩) λ_=>Sat.bic (λ_=>Sat.ret ⟨⟨_,_,_,_,_⟩,rfl⟩) λ_=>Sat.bic (λ_=>Sat.ret ⟨⟨_,_,_,_,_⟩,rfl⟩) λ_=>Sat.bic (λ_=>Sat.ret ⟨⟨_,_,_,_,_⟩,rfl⟩) λ_=>Sat.ret ⟨⟨_,_,_,_,_⟩,rfl⟩
  ·refine Sat.bifT (Wl ?_) (Sat.ret ⟨⟨_,_,_,_,_⟩,rfl⟩);cases decide ((40:Int)<left)with
   |true=>exact λh=>absurd h (show ¬(40:Int)=0 by decide)
   |false=>show ¬left=0;omega
  ·refine Sat.bifT (Amt _) (Sat.bifT (Amt _) ?_);refine Sat.bindS (Q:=λy=>y.1.1≠[]) ?_ λy1 hy1=>?_
   ·revert hk;generalize Nk _ _=o;intro hk;cases o with
    |none=>cases hk
    |some v=>exact Sat.ret λe=>by rw[Asr,e]at hk;cases hk
   ·have hn:0<y1.1.1.length:=List.length_pos_iff.2 hy1;have hm:=Int.tmod_nonneg (a:=y) (y1.1.1.length:Int) g1.1;have hm2:=Int.tmod_lt_of_pos y (ω:(0:Int)<(y1.1.1.length:Int));have e1:((y1.1.1.length:Int) !=0)=H:=Wl ω;have e2:inB (aD y (y1.1.1.length:Int)) y1.1.1.length=H:=CP hm hm2;refine Sat.bifT e1 (Sat.bifT e2 (Sat.bifT e1 (Sat.bifT e2 (Sat.ret ⟨⟨_,_,_,_,_⟩,rfl⟩))))
  ·exact Sat.bifT (Wl ω) (Sat.ret ⟨⟨_,_,_,_,_⟩,rfl⟩)
 ·obtain⟨e,rfl⟩:=hr;have ht:=Ahh (n:=0) ⟨Int.le_refl 0,by decide⟩ e;refine Sat.bindE (Tv (l:=[e]) (by rw[L_];omega)) ?_;show Sat (bif aE (out.length+1) 2147483648 then A (Sum.inl ((l,(),out++[e],R.wrap (left-tkE 0 e),R.wrap ((i:Int)+2),()),(b.tp,())))else Z) _;rw[Af (n:=left-tkE 0 e) ω ω,Af (n:=(i:Int)+2) ω ω];exact Sat.bifT (Fp ω) (Sat.ret ⟨k-1,ω,out++[e],left-tkE 0 e,i+2,rfl,by rw[g_,L_];omega,by rw[g_,L_];omega,ω,ω⟩)
def OH{X Y:Type}{s:X→Option (Sum X Y)}(L:X→Option Y)(_:L=aA s Cc):X→Option (Sum X Y):=s
def TE{X Y:Type}{s:X→Option (Sum X Y)}{L:X→Option Y}(h:L=aA s Cc){n:Nat}{x:X}{y:Y}(hi:aA (OH L h) n x=A y)(hn:n≤18446744073709551616):L x=A y:=by rw[h];exact AY hi hn
noncomputable abbrev sR1:=OH Gz rfl
noncomputable abbrev sR2:=OH GA rfl
def evS:List U:=[⟨2,1,1,0,0⟩,⟨1,0,0,0,20⟩]
def Anw:List Car:=[⟨198,2,1,0,1,1,2,2,0⟩]
def b4S:List Int×List Bool×List Bool×List Entry×ByteArray×ByteArray×Int×List aJ×List Belief×List NewCar×List Loaded×List Int×List Calls×Int×Int×Int×List Relay×List Rig×Unit:=([],[],[],[],B [],B [],0,[],[],[],[],[],[],0,0,0,[],[],())
def deS(f:Int)(u o c:Bool):aJ:=⟨f,u,E,o,c,0,0,0,0,0,0,0,0,0,0,0,0,0,0,0,0,0,0,0,0,0,0,0,0,0,0,0,0,0,0,0,0,0,0,0,0⟩
def pS(e:List Entry)(h:ByteArray)(c:aJ)(q:Belief)(d:Int)(x:List Int)(u:Calls)(t:Int)(r:Relay)(k:Int)(l:List Line):Int×Int×Int×Int×Nat×Nat×Nat×List Car×List Int×List Bool×List Bool×List Entry×ByteArray×ByteArray×Int×List aJ×List Belief×List NewCar×List Loaded×List Int×List Calls×Int×Int×Int×List Relay×List Rig×Int×Int×Int×Int×List Int×List Int×List Bool×List Nat×Bool×List Int×Int×List Line×Unit:=(4,1,4000,1,4591870180066957722,4605380978949069210,4607632778762754458,Anw,[0],[E],[E],e,B [],h,1,[c],[q],[⟨0,0,0,0,0,E,0,0,0,0,0,0,0,E⟩],[⟨d⟩],x,[u],t,0,0,[r],[⟨0,0,0,2,0,0⟩],k,0,0,0,[0],[1],[],[0],E,[0],t,l,())
def zS(i:Int)(p:Int×Int×Int×Int×Nat×Nat×Nat×List Car×List Int×List Bool×List Bool×List Entry×ByteArray×ByteArray×Int×List aJ×List Belief×List NewCar×List Loaded×List Int×List Calls×Int×Int×Int×List Relay×List Rig×Int×Int×Int×Int×List Int×List Int×List Bool×List Nat×Bool×List Int×Int×List Line×Unit):(Unit×Unit×List U×Int×Int×Int×Int×Unit)×((List Int×List Bool×List Bool×List Entry×ByteArray×ByteArray×Int×List aJ×List Belief×List NewCar×List Loaded×List Int×List Calls×Int×Int×Int×List Relay×List Rig×Unit)×(Int×Int×Int×Int×Nat×Nat×Nat×List Car×List Int×List Bool×List Bool×List Entry×ByteArray×ByteArray×Int×List aJ×List Belief×List NewCar×List Loaded×List Int×List Calls×Int×Int×Int×List Relay×List Rig×Int×Int×Int×Int×List Int×List Int×List Bool×List Nat×Bool×List Int×Int×List Line×Unit)×Unit):=(((),(),evS,2,1,20,i,()),(b4S,p,()))
def hA:ByteArray:=B [4,0,0,2,0,165,5,0,0,2,0,199,6,0,0,2,0,97]
def hB:ByteArray:=B [4,0,0,2,0,165,5,0,0,2,0,199,6,0,0,2,0,97,1,1,1,2,0,53,3,1,1,2,0,241]
def hC:ByteArray:=B [4,0,0,2,0,165,5,0,0,2,0,199,6,0,0,2,0,97,1,1,1,2,0,53,3,1,1,2,0,241,2,1,1,2,0,147]
def lS:List Line:=[⟨4,B [115,101,114,118,101,100,32,49,32,117,112]⟩]
def p0S:=pS [] hA (deS 0 E E E) ⟨(-1),0,0,[],0,E⟩ 0 [] ⟨0,0⟩ 0 ⟨0,0,0,0,2,0,0,0,0⟩ 2 []
def p1S:=pS [⟨1,1,0,0,E⟩] hB (deS 1 E E H) ⟨0,0,2,[⟨1,1,0⟩],1,E⟩ 1 [1] ⟨0,0⟩ 1 ⟨1,0,1,0,2,1,2,0,0⟩ 0 []
def p2S:=pS [⟨1,1,0,0,E⟩] hB (deS 0 H E H) ⟨0,1,2,[⟨1,1,1⟩],0,E⟩ 1 [0] ⟨0,0⟩ 2 ⟨2,1,1,2,0,1,2,0,0⟩ 0 []
def p3S:=pS [⟨1,1,0,0,E⟩] hB (deS 2 H E E) ⟨1,1,0,[⟨1,1,2⟩],0,E⟩ 1 [0] ⟨0,0⟩ 3 ⟨3,1,1,2,1,2,0,0,0⟩ 0 []
def p4S:=pS [] hC (deS 2 H H E) ⟨1,1,1,[],0,E⟩ 1 [] ⟨2,0⟩ 4 ⟨3,1,1,2,1,1,0,0,0⟩ 0 lS
def p5S:=pS [] hC (deS 2 H H E) ⟨1,1,1,[],0,E⟩ 1 [] ⟨2,0⟩ 5 ⟨4,1,1,2,0,1,0,0,0⟩ 0 lS
def p6S:=pS [] hC (deS 2 H E E) ⟨1,1,0,[],0,E⟩ 1 [] ⟨0,0⟩ 6 ⟨0,1,0,0,2,0,0,0,0⟩ 0 lS
def p7S:=pS [] hC (deS 2 E E H) ⟨1,0,2,[],1,E⟩ 1 [] ⟨0,0⟩ 7 ⟨0,1,0,0,2,0,0,0,0⟩ 0 lS
def p8S:=pS [] hC (deS 2 E E H) ⟨1,0,2,[],2,E⟩ 1 [] ⟨0,0⟩ 8 ⟨0,1,0,0,2,0,0,0,0⟩ 0 lS
def p9S:=pS [] hC (deS 2 E E H) ⟨1,0,2,[],3,E⟩ 1 [] ⟨0,0⟩ 9 ⟨0,1,0,0,2,0,0,0,0⟩ 0 lS
def Bdm:=pS [] hC (deS 2 E E H) ⟨1,0,2,[],4,E⟩ 1 [] ⟨0,0⟩ 10 ⟨0,1,0,0,2,0,0,0,0⟩ 0 lS
def Bdn:=pS [] hC (deS 2 E E H) ⟨1,0,2,[],5,E⟩ 1 [] ⟨0,0⟩ 11 ⟨0,1,0,0,2,0,0,0,0⟩ 0 lS
def Bdo:=pS [] hC (deS 2 E E H) ⟨1,0,2,[],6,E⟩ 1 [] ⟨0,0⟩ 12 ⟨0,1,0,0,2,0,0,0,0⟩ 0 lS
def Bdp:=pS [] hC (deS 2 E E H) ⟨1,0,2,[],7,E⟩ 1 [] ⟨0,0⟩ 13 ⟨0,1,0,0,2,0,0,0,0⟩ 0 lS
def Bdq:=pS [] hC (deS 2 E E H) ⟨1,0,2,[],8,E⟩ 1 [] ⟨0,0⟩ 14 ⟨0,1,0,0,2,0,0,0,0⟩ 0 lS
def Bdr:=pS [] hC (deS 2 E E H) ⟨1,0,2,[],9,E⟩ 1 [] ⟨0,0⟩ 15 ⟨0,1,0,0,2,0,0,0,0⟩ 0 lS
def Bds:=pS [] hC (deS 2 E E H) ⟨1,0,2,[],10,E⟩ 1 [] ⟨0,0⟩ 16 ⟨0,1,0,0,2,0,0,0,0⟩ 0 lS
def Bdt:=pS [] hC (deS 2 E E H) ⟨1,0,2,[],11,E⟩ 1 [] ⟨0,0⟩ 17 ⟨0,1,0,0,2,0,0,0,0⟩ 0 lS
def Bdu:=pS [] hC (deS 2 E E H) ⟨1,0,2,[],12,E⟩ 1 [] ⟨0,0⟩ 18 ⟨0,1,0,0,2,0,0,0,0⟩ 0 lS
def Bdv:=pS [] hC (deS 2 E E H) ⟨1,0,2,[],13,E⟩ 1 [] ⟨0,0⟩ 19 ⟨0,1,0,0,2,0,0,0,0⟩ 0 lS
def VB:=pS [] hC (deS 2 E E H) ⟨1,0,2,[],14,E⟩ 1 [] ⟨0,0⟩ 20 ⟨0,1,0,0,2,0,0,0,0⟩ 0 lS
def tk0:sR2 (zS 0 p0S)=A (.inl (zS 1 p1S)):=κ
def tk1:sR2 (zS 1 p1S)=A (.inl (zS 2 p2S)):=κ
def tk2:sR2 (zS 2 p2S)=A (.inl (zS 3 p3S)):=κ
def tk3:sR2 (zS 3 p3S)=A (.inl (zS 4 p4S)):=κ
def tk4:sR2 (zS 4 p4S)=A (.inl (zS 5 p5S)):=κ
def tk5:sR2 (zS 5 p5S)=A (.inl (zS 6 p6S)):=κ
def tk6:sR2 (zS 6 p6S)=A (.inl (zS 7 p7S)):=κ
def tk7:sR2 (zS 7 p7S)=A (.inl (zS 8 p8S)):=κ
def tk8:sR2 (zS 8 p8S)=A (.inl (zS 9 p9S)):=κ
def tk9:sR2 (zS 9 p9S)=A (.inl (zS 10 Bdm)):=κ
def Bsb:sR2 (zS 10 Bdm)=A (.inl (zS 11 Bdn)):=κ
def Bsc:sR2 (zS 11 Bdn)=A (.inl (zS 12 Bdo)):=κ
def Bsd:sR2 (zS 12 Bdo)=A (.inl (zS 13 Bdp)):=κ
def Bse:sR2 (zS 13 Bdp)=A (.inl (zS 14 Bdq)):=κ
def Bsf:sR2 (zS 14 Bdq)=A (.inl (zS 15 Bdr)):=κ
def Bsg:sR2 (zS 15 Bdr)=A (.inl (zS 16 Bds)):=κ
def Bsh:sR2 (zS 16 Bds)=A (.inl (zS 17 Bdt)):=κ
def Bsi:sR2 (zS 17 Bdt)=A (.inl (zS 18 Bdu)):=κ
def Bsj:sR2 (zS 18 Bdu)=A (.inl (zS 19 Bdv)):=κ
def Bsk:sR2 (zS 19 Bdv)=A (.inl (zS 20 VB)):=κ
def wS:(Unit×Unit×List U×Int×Int×Unit)×((List Int×List Bool×List Bool×List Entry×ByteArray×ByteArray×Int×List aJ×List Belief×List NewCar×List Loaded×List Int×List Calls×Int×Int×Int×List Relay×List Rig×Unit)×(Int×Int×Int×Int×Nat×Nat×Nat×List Car×List Int×List Bool×List Bool×List Entry×ByteArray×ByteArray×Int×List aJ×List Belief×List NewCar×List Loaded×List Int×List Calls×Int×Int×Int×List Relay×List Rig×Int×Int×Int×Int×List Int×List Int×List Bool×List Nat×Bool×List Int×Int×List Line×Unit)×Unit):=(((),(),evS,2,1,()),(b4S,VB,()))
def Bgv:GA (zS 0 p0S)=A wS:=TE rfl (n:=21) ((Ap tk0).trans ((Ap tk1).trans ((Ap tk2).trans ((Ap tk3).trans ((Ap tk4).trans ((Ap tk5).trans ((Ap tk6).trans ((Ap tk7).trans ((Ap tk8).trans ((Ap tk9).trans ((Ap Bsb).trans ((Ap Bsc).trans ((Ap Bsd).trans ((Ap Bse).trans ((Ap Bsf).trans ((Ap Bsg).trans ((Ap Bsh).trans ((Ap Bsi).trans ((Ap Bsj).trans ((Ap Bsk).trans (Au (show sR2 (zS 20 VB)=A (.inr wS)by kernel_rfl)))))))))))))))))))))) (by decide)
def cnT{c:Bool}{x y r:α}(h:c=H)(h2:x=r):(bif c then x else y)=r:=by subst h;exact h2
def cnF{c:Bool}{x y r:α}(h:c=E)(h2:y=r):(bif c then x else y)=r:=by subst h;exact h2
def pBS:=pS [] hA (deS 0 E E E) ⟨(-1),0,0,[],0,E⟩ 0 [] ⟨0,0⟩ 0 ⟨0,0,0,0,2,0,0,0,0⟩ 0 []
def Bgu:Gz (((),(),evS,2,0,()),(b4S,pBS,()))=A (((),(),()),(b4S,VB,())):=
 have h0:sR1 (((),(),evS,2,0,()),(b4S,pBS,()))=A (.inl (((),(),evS,2,1,()),(b4S,p0S,()))):=κ;have h1:sR1 (((),(),evS,2,1,()),(b4S,p0S,()))=A (.inl (((),(),evS,2,2,()),(b4S,VB,()))):=by unfold sR1 OH Qo;exact cnT (by decide) (cnT (by decide) (cnT (by decide) (Am Bgv κ)))
 have h2:sR1 (((),(),evS,2,2,()),(b4S,VB,()))=A (.inr (((),(),()),(b4S,VB,()))):=κ
 TE rfl (n:=3) ((Ap h0).trans ((Ap h1).trans (Au h2))) (by decide)
def imS:List Int×List Bool×List Bool×List Entry×ByteArray×ByteArray×Int×List aJ×List Belief×List NewCar×List Loaded×List Int×List Calls×Int×Int×Int×List Relay×List Rig×Unit:=([0],[E],[E],[],B [],hC,1,[⟨2,E,E,E,H,0,0,0,0,0,0,0,0,0,0,0,0,0,0,0,0,0,0,0,0,0,0,0,0,0,0,0,0,0,0,0,0,0,0,0,0⟩],[⟨1,0,2,[],14,E⟩],[⟨0,0,0,0,0,E,0,0,0,0,0,0,0,E⟩],[⟨1⟩],[],[⟨0,0⟩],20,0,0,[⟨0,1,0,0,2,0,0,0,0⟩],[⟨0,0,0,2,0,0⟩],())
def Brx:HW 4 1 4000 1 4591870180066957722 4605380978949069210 4607632778762754458 Anw evS=A (((),lS,0,()),(imS,())):=by unfold HW;refine Am (a:=((H,()),())) κ (cnF rfl (Am (a:=((20,()),())) κ (cnF (by decide) ?_)));refine cnT (by decide) (cnT (by decide) (cnT (by decide) (cnT (by decide) (cnT (by decide) ?_))));refine Am (a:=(((),0,()),(([0],[E],[E],[],B [],hA,1,[⟨0,E,E,E,E,0,0,0,0,0,0,0,0,0,0,0,0,0,0,0,0,0,0,0,0,0,0,0,0,0,0,0,0,0,0,0,0,0,0,0,0⟩],[⟨(-1),0,0,[],0,E⟩],[⟨0,0,0,0,0,E,0,0,0,0,0,0,0,E⟩],[⟨0⟩],[],[⟨0,0⟩],0,0,0,[⟨0,0,0,0,2,0,0,0,0⟩],[⟨0,0,0,2,0,0⟩],()),()))) κ (Am (a:=((evS,(),(),()),(b4S,pBS,()))) κ (Am Bgu rfl))
def Asn:GY=A ((H,()),()):=by
 unfold GY;refine Am (a:=(((),()),((4,1,4000,1,4591870180066957722,4605380978949069210,4607632778762754458,Anw,()),()))) κ ?_;refine Am (a:=((evS,0,0,()),())) κ ?_;refine Am (a:=((B [112,114,101,115,115,32,49,32,117,112,10,119,97,105,116,32,50,48,10],0,()),())) κ ?_;refine Am rfl ?_;refine Am Brx ?_;refine Am (a:=(([],2,300,()),())) κ ?_
 kernel_rfl
def Xh(hb:b.small)(hcode:b.code=0){s:List (List U)}(hs:s.length=2)(i:Nat)(hi:i<2)(hz:(s.getD i []).length≤1000):
  DR s 2 (i:Int) b.A0 b.B0 b.Q0 b.K0 b.G0 b.M0 b.L0 b.D0=A (.inl (((),s,2,((i+1:Nat):Int),()),(b.tup,()))):=by
 have hcc:=Ih hcode;have hc:b.D0.length≤1000:=ω;have hw:R.wrap ((i:Int)+1)=((i+1:Nat):Int):=Zt ω;unfold DR;refine cnT (w_ ω) (cnT (CP ω ω) ?_);simp only[C_,hw];generalize s.getD i []=z at hz;refine Am (Ahl hb hc hz) (Am (YT hb hc hz) (cnF (by rw[Aar];rfl) (cnF (bne_self_eq_false _) (Am (ZH hb hc ω) (Am (Tw hb hc ω) (cnF (by rw[V_];rfl) (Am (Anh ω) (Am (Tv ω) (cnF (bne_self_eq_false _) ?_)))))))));unfold Aay;cases hv:b.code==0&&z.all (BD b)with
 |false=>exact cnF rfl rfl
 |true=>rw[b_,E_]at hv;refine cnT rfl (Am (Acg hb hc hcode hz hv.2) (cnF rfl (cnF rfl (Am (We z ω) (cnF rfl rfl)))))
def WH(n_f0:Int)(n_f1:Int)(n_f2:Int)(l:List Int)(raw:List U)(h_n_f0:0≤n_f0∧n_f0<256)(h_n_f1:0≤n_f1∧n_f1<256)(h_n_f2:0≤n_f2∧n_f2<256)(h_l:l.length≤maxLen∧∀e∈l,(0≤e∧e<256))(_h_raw:raw.length≤maxLen∧∀e∈raw,(-9223372036854775808≤e.F0∧e.F0<9223372036854775808)∧(-9223372036854775808≤e.C0∧e.C0<9223372036854775808)∧(-9223372036854775808≤e.E0∧e.E0<9223372036854775808)∧(-9223372036854775808≤e.N0∧e.N0<9223372036854775808)∧(-9223372036854775808≤e.N∧e.N<9223372036854775808)):F_l29_ScriptTexts n_f0 n_f1 n_f2 l raw=A ((H,()),()):=by
 unfold F_l29_ScriptTexts;cases hr:decide ((100:Int)<(raw.length:Int))with
 |true=>exact cnT rfl (Am Asn rfl)
 |false=>
  have hr:=of_decide_eq_false hr;refine cnF rfl (Sat.eq ?_);obtain⟨_,hbl,b,rfl,hb,hcode⟩:=Bdd h_n_f0 h_n_f1 h_n_f2;refine Sat.bindE hbl (Sat.bindS (Amy hb hcode h_l.2) λy3 h3=>?_);have h2:([y3.1.1,raw]:List (List U)).length=2:=rfl;have l0:=Xh hb hcode h2 0 (by decide) (a0_ h3 (by decide));have l1:=Xh hb hcode h2 1 (by decide) (ω:raw.length≤1000);have l2:DR [y3.1.1,raw] 2 ((2:Nat):Int) b.A0 b.B0 b.Q0 b.K0 b.G0 b.M0 b.L0 b.D0=A (.inr (.inl ((),()))):=by unfold DR;exact cnF (by decide) rfl
  have hl:BF (((),[y3.1.1,raw],2,0,()),(b.tup,()))=A (.inl ((),())):=
   have m0:OH BF rfl (((),[y3.1.1,raw],2,0,()),(b.tup,()))=A (.inl (((),[y3.1.1,raw],2,((1:Nat):Int),()),(b.tup,()))):=l0;have m1:OH BF rfl (((),[y3.1.1,raw],2,((1:Nat):Int),()),(b.tup,()))=A (.inl (((),[y3.1.1,raw],2,((2:Nat):Int),()),(b.tup,()))):=l1;have m2:OH BF rfl (((),[y3.1.1,raw],2,((2:Nat):Int),()),(b.tup,()))=A (.inr (.inl ((),()))):=l2
   TE rfl (n:=3) ((Ap m0).trans ((Ap m1).trans (Au m2))) (by decide)
  refine Sat.bindE hl (Sat.bindE (b:=((H,()),())) (Am (a:=((E,()),())) κ (cnT rfl (Am Asn rfl))) (Sat.ret rfl))
end Go.Ovl
