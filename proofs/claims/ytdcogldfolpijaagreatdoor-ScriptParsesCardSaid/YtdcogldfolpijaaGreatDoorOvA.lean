import Derived.Test.YtdcogldfolpijaaGreatDoorAbC
import Derived.Test.YtdcogldfolpijaaGreatDoorAbH
import Derived.Test.YtdcogldfolpijaaGreatDoorDefs4
set_option linter.all false
open Option renaming some->A,none->aA
open Go.Ab renaming Aa->B,iter->aC
open Bool renaming false->E,true->H,and_true->aR,and_self->aV,not_false->aW,and_false->aY
open Go renaming c_->J,e_->O,d_->V
open Go.IntKind renaming i64->U,wrap->aD,u8->aK,u32->aT
open Go.Ovl renaming Event->Z,Debounced->aN
open Int renaming tmod->aB,toNat->aF,tdiv->aG,tmod_lt_of_pos->aL,tmod_nonneg->aM,le_refl->aO,lt_irrefl->aZ,eq_ofNat_of_zero_le->bC
open Nat renaming blt->aE,ble->aH,succ_pos->bB
open Array renaming mk->aI
open ByteArray renaming mk->aJ
open List renaming forall_mem_cons->aP,range->aQ,all_nil->aS,length_set->aU,getD->aX,findSome?->bA,length_filter_le->bD,singleton_append->bE
namespace Go.Ovl
open Go Go.Ab
variable{f:Nat}{α:Type}
def Ad{n:Int}(h:-9223372036854775808≤n)(h':n<9223372036854775808):U.wrap n=n:=by rw[IntKind.wrap_i64];omega
def Bc{i:Int}{n:Nat}(h:0≤i)(h':i<n):inB i n=H:=by simp[inB];omega
def DC{a b:Nat}(h:a≤b):aH a b=H:=Nat.ble_eq.symm▸h
def toList_data(s:ByteArray):s.toList=s.data.toList:=ByteArray.toList_eq s
def Adj{a b:ByteArray}:eqB a b=H↔a=b:=by
 constructor
 ·intro h;simp[eqB,toList_data]at h;exact ByteArray.ext h
 ·rintro rfl;simp[eqB]
def Aoy(a:ByteArray):eqB a a=H:=Adj.2 rfl
def Rm [BEq α][LawfulBEq α]{a b:α}(h:¬a=b):(a !=b)=H:=by simpa using h
def EL [BEq α][LawfulBEq α]{a b:α}(h:¬a=b):(a==b)=E:=by simpa using h
section
variable{X Y:Type}{step:X→Option (Sum X Y)}
def Am{x x':X}(h:step x=A (.inl x')):aC step (f+1) x=aC step f x':=by simp only[aC,h,ME]
def Ao{x:X}{y:Y}(h:step x=A (.inr y)):aC step (f+1) x=A y:=by simp only[aC,h,ME]
def YH:∀{f:Nat}{x:X}{y:Y},aC step f x=A y→∀{g:Nat},f≤g→aC step g x=A y
 |0,_,_,h,_,_=>by simp[aC]at h
 |f+1,x,y,h,0,hg=>by omega
 |f+1,x,y,h,g+1,hg=>by
  simp only[aC]at h⊢;cases hs:step x with
  |none=>rw[hs]at h;simp[ME]at h
  |some z=>
   rw[hs]at h;cases z with
   |inl x'=>exact YH (f:=f) (g:=g) h ω
   |inr y'=>exact h
def Bg{x:X}{y:Y}(h:aC step f x=A y)(hf:f≤18446744073709551616):aC step BZ x=A y:=YH h hf
def RF{S:Type}(h:Nat→S→S):Nat→Nat→S→S
 |0,_,s=>s
 |m+1,i,s=>RF h m (i+1) (h i s)
def NM{S:Type}(N:Nat)(g:Nat→S→X)(h:Nat→S→S)(inv:Nat→S→Prop)(y:S→Y)(h1:∀i s,i<N→inv i s→step (g i s)=A (.inl (g (i+1) (h i s)))∧inv (i+1) (h i s))
  (h2:∀s,inv N s→step (g N s)=A (.inr (y s))):∀(m i:Nat) (s:S),i+m=N→inv i s→aC step (m+1) (g i s)=A (y (RF h m i s))∧inv N (RF h m i s)
 |0,i,s,hi,hs=>by
  have:i=N:=ω
  subst this;exact⟨Ao (h2 s hs),hs⟩
 |m+1,i,s,hi,hs=>by obtain⟨q1,q2⟩:=h1 i s ω hs;rw[Am q1];exact NM N g h inv y h1 h2 m (i+1) (h i s) ω q2
end
end Go.Ovl
namespace Go.Ovl
open Go Go.Ab
def Jp{i n:Nat}(h:i<n):decide ((i:Int)<(n:Int))=H:=h_ ω
def Gs{i n:Nat}(h:i<n):inB (i:Int) n=H:=Bc ω ω
def Lp(n:Nat):decide ((n:Int)<(n:Int))=E:=j_ (aZ _)
def Ar{α β:Type}{o:Option α}{a:α}{f:α→Option β}{r:Option β}(h:o=A a)(h2:f a=r):Option.bind o f=r:=by subst h;exact h2
def GN{α:Type}{l:List α}{i:Nat}(d:α)(hi:i<l.length):l.drop i=l.getD i d::l.drop (i+1):=by rw[List.drop_eq_getElem_cons hi,q_,f_ hi];rfl
def VM{X Y:Type}{step:X→Option (Sum X Y)}(N:Nat)(g:Nat→X)(y:Y)(h1:∀i,i<N→step (g i)=A (.inl (g (i+1))))(h2:step (g N)=A (.inr y)):∀m i:Nat,i+m=N→aC step (m+1) (g i)=A y
 |0,i,hi=>by obtain rfl:i=N:=ω;exact Ao h2
 |m+1,i,hi=>(Am (h1 i ω)).trans (VM N g y h1 h2 m (i+1) ω)
def YG{X Y α:Type}{step:X→Option (Sum X Y)}(l:List α)(d:α)(p:α→Bool)(g:Nat→X)(y:Y)(z:α→Y)
  (h1:∀i,i<l.length→step (g i)=A (bif p (l.getD i d)then .inl (g (i+1))else .inr (z (l.getD i d)))) (h2:step (g l.length)=A (.inr y)) :
  ∀m i:Nat,i+m=l.length→aC step (m+1) (g i)=A (match(l.drop i).find? (λx=>!p x)with | none=>y | some x=>z x)
 |0,i,hi=>by obtain rfl:i=l.length:=ω;rw[a9_];exact Ao h2
 |m+1,i,hi=>by
  have hlt:i<l.length:=ω;rw[GN d hlt];have h:=h1 i hlt;cases hp:p (l.getD i d)with
  |true=>rw[hp,O]at h;rw[Am h,YG l d p g y z h1 h2 m (i+1) ω,List.find?_cons,hp];rfl
  |false=>rw[hp,J]at h;rw[Ao h,List.find?_cons,hp];rfl
end Go.Ovl
namespace Go.Ovl
open Go Go.Ab
abbrev Bs:=List UInt8
def YZ{c:UInt8}:∀{a:Bs},c∉a→AO c a=[a]
 |[],_=>rfl
 |b::a,h=>by rw[AO,show(b==c)=E from beq_eq_false_iff_ne.2 λe=>h (by rw[e];exact a1_),J,YZ λe=>h (X_ _ e)]
def Ad0{c:UInt8}{r:Bs}:∀{a:Bs},c∉a→AO c (a++c::r)=a::AO c r
 |[],_=>by rw[List.nil_append,AO,P_,O]
 |b::a,h=>by rw[List.cons_append,AO,show(b==c)=E from beq_eq_false_iff_ne.2 λe=>h (by rw[e];exact a1_),J,Ad0 λe=>h (X_ _ e)]
def Vj{c:UInt8}:∀{a:Bs},c∉a→Bx c a=a
 |[],_=>rfl
 |b::a,h=>by rw[Bx,show(b==c)=E from beq_eq_false_iff_ne.2 λe=>h (by rw[e];exact a1_),J,Vj λe=>h (X_ _ e)]
def YY{c:UInt8}:∀{ws:List Bs},ws≠[]→(∀w∈ws,c∉w)→AO c (DF [c] ws)=ws
 |[],h,_=>absurd rfl h
 |[w],_,h=>YZ (h w a1_)
 |w::v::r,_,h=>by rw[DF,L_,bE,Ad0 (h w a1_),YY (by simp) λx hx=>h x (X_ _ hx)]
def Xg:List Bs→Bs
 |[]=>[]
 |l::r=>l++10::Xg r
def VN{c b:UInt8}:∀{ws:List Bs},b∈DF [c] ws→b=c∨∃w∈ws,b∈w
 |[w],h=>.inr ⟨w,a1_,h⟩
 |w::v::r,h=>by
  rw[DF]at h;simp only[D_,List.mem_singleton]at h;rcases h with(h | h) | h
  ·exact .inr ⟨w,a1_,h⟩
  ·exact .inl h
  ·rcases VN h with h | ⟨x,hx,h⟩
   ·exact .inl h
   ·exact .inr ⟨x,X_ _ hx,h⟩
def FX(l:Bs):List Bs:=(AO 32 (Bx 35 l)).filter λw=>!w.isEmpty
def Ac9{ws:List Bs}(h0:ws≠[])(h:∀w∈ws,w≠[]∧32∉w∧35∉w):FX (DF [32] ws)=ws:=by
 have h35:35∉DF [32] ws:=λe=>by
  rcases VN e with e | ⟨w,hw,e⟩
  ·exact absurd e (by decide)
  ·exact(h w hw).2.2 e
 rw[FX,Vj h35,YY h0 λw hw=>(h w hw).2.1];refine List.filter_eq_self.2 λw hw=>?_
 have:=(h w hw).1
 cases w with
 |nil=>exact absurd rfl this
 |cons _ _=>rfl
def Az(l:Bs):(B l).size=l.length:=List.size_toArray
def Ae4{a b:Bs}(h:B a=B b):a=b:=by
 have:(B a).data.toList=(B b).data.toList:=by rw[h]
 simpa[B]using this
def Kn(a b:Bs):eqB (B a) (B b)=decide (a=b):=by
 by_cases h:a=b
 ·subst h;rw[h_ rfl];exact Aoy _
 ·rw[j_ h];cases he:eqB (B a) (B b)with
  |false=>rfl
  |true=>exact absurd (Ae4 (Adj.1 he)) h
def DH(n:Int):Bs→Option Int
 |[]=>A n
 |b::r=>bif aE b.toNat 48||Nat.blt 57 b.toNat then aA else DH (10*n+(b.toNat-48:Int)) r
def Ai(l:Bs):Option Int:=match l with
 |[]=>aA
 |b::r=>bif aE 5 r.length||(b==48&&aE 0 r.length)then aA else DH 0 (b::r)
def XW(d:Nat)(h:d<10):(UInt8.ofNat (48+d)).toNat=48+d:=by rw[UInt8.toNat_ofNat'];omega
def ND{a b:Nat}(h:b≤a):aE a b=E:=Bool.eq_false_iff.2 λe=>by rw[c1_]at e;omega
def Ey{a b:Nat}(h:a<b):aE a b=H:=by rw[c1_];exact h
def WO:∀(j k u:Nat),u<10^(j+1)→(EN k u).length≤j+1
 |_,0,_,_=>G_ _
 |0,k+1,u,hu=>by rw[EN,Ey (by simpa using hu),O];exact A_ _
 |j+1,k+1,u,hu=>by
  rw[EN];by_cases h:u<10
  ·rw[Ey h,O];simp
  ·rw[ND ω,J,i_]
   have:=WO j k (u/10) (by rw[Nat.pow_succ]at hu;omega)
   simp;omega
def Aay:∀(k u:Nat) {b:UInt8},b∈EN k u→48≤b.toNat∧b.toNat≤57
 |k+1,u,b,h=>by
  rw[EN]at h;by_cases hu:u<10
  ·rw[Ey hu,O]at h;obtain rfl:=List.mem_singleton.1 h;rw[XW u hu];omega
  ·rw[ND ω,J]at h;rcases D_.1 h with h | h
   ·exact Aay k _ h
   ·obtain rfl:=List.mem_singleton.1 h;rw[XW _ (Nat.mod_lt _ (by decide))];omega
def Yx:∀(k u:Nat),u<10^k→0<k→∃b r,EN k u=b::r∧(b=48→u=0)
 |0,_,_,h=>absurd h (by decide)
 |k+1,u,hu,_=>by
  rw[EN];by_cases h:u<10
  ·rw[Ey h,O];refine⟨_,_,rfl,λe=>?_⟩
   have:=z_ UInt8.toNat e
   rw[XW u h]at this;simpa using this
  ·have hk:0<k:=by
    cases k with
    |zero=>simp at hu;omega
    |succ k=>exact bB k
   rw[ND ω,J];obtain⟨b,r,e,hb⟩:=Yx k (u/10) (by rw[Nat.pow_succ]at hu;omega) hk;rw[e];exact⟨b,_,rfl,λe=>by have:=hb e;omega⟩
def Apc(u:Nat):BP (u:Int)=EN 20 u:=rfl
def PA{n:Int}(h0:0≤n)(h:n<1000000):BP n≠[]∧(∀b∈BP n,48≤b.toNat∧b.toNat≤57)∧(BP n).length≤6:=by
 obtain⟨u,rfl⟩:∃u:Nat,n=(u:Int):=⟨n.toNat,ω⟩
 rw[Apc];obtain⟨b,r,e,_⟩:=Yx 20 u ω (by decide);exact⟨by rw[e];simp,λb hb=>Aay 20 u hb,WO 5 20 u ω⟩
end Go.Ovl
namespace Go.Ovl
open Go Go.Ab
set_option maxRecDepth 100000
variable{c:Bool}{i:Nat}
def Sat{α:Type}(o:Option α)(P:α→Prop):Prop:=∃a,o=A a∧P a
section
variable{α β:Type}{P:α→Prop}{Q:β→Prop}
def Sat.ret{a:α}(h:P a):Sat (A a) P:=⟨a,rfl,h⟩
def Sat.bindE{o:Option β}{b:β}{f:β→Option α}(h:o=A b)(h2:Sat (f b) P):Sat (Option.bind o f) P:=by subst h;exact h2
def Sat.bindS{o:Option β}{f:β→Option α}(h:Sat o Q)(h2:∀b,Q b→Sat (f b) P):Sat (Option.bind o f) P:=by obtain⟨b,h,hq⟩:=h;subst h;exact h2 b hq
def Sat.bic{x y:Option α}(h1:c=H→Sat x P)(h2:c=E→Sat y P):Sat (bif c then x else y) P:=by
 cases c with
 |true=>exact h1 rfl
 |false=>exact h2 rfl
def Sat.bifT{x y:Option α}(h:c=H)(h1:Sat x P):Sat (bif c then x else y) P:=by subst h;exact h1
def Sat.bifF{x y:Option α}(h:c=E)(h1:Sat y P):Sat (bif c then x else y) P:=by subst h;exact h1
def Sat.mono{R:α→Prop}{o:Option α}(h:Sat o P)(h2:∀a,P a→R a):Sat o R:=by obtain⟨a,h,hp⟩:=h;exact⟨a,h,h2 a hp⟩
def Sat.eq{o:Option α}{a:α}(h:Sat o λx=>x=a):o=A a:=by obtain⟨_,h,rfl⟩:=h;exact h
def Sat.val{a:α}{o:Option α}(h:o=A a)(hp:P a):Sat o P:=⟨a,h,hp⟩
end
def Sat.iterN{X Y:Type}{step:X→Option (Sum X Y)}(I:Nat→X→Prop)(P:Y→Prop)(hs:∀k x,I k x→Sat (step x) λr=>match r with | .inl x'=>∃k',k=k'+1∧I k' x' | .inr y=>P y):∀(k:Nat) (x:X),I k x→Sat (aC step (k+1) x) P
 |k,x,hi=>by
  obtain⟨r,h1,h2⟩:=hs k x hi
  match r,h1,h2 with
  | .inr y,h1,h2=>exact⟨y,Ao h1,h2⟩
  | .inl x',h1,⟨k',hk,hi'⟩=>subst hk;rw[Am h1];exact Sat.iterN I P hs k' x' hi'
def Sat.loop{X Y:Type}{step:X→Option (Sum X Y)}(I:Nat→X→Prop){P:Y→Prop}(hs:∀k x,I k x→Sat (step x) λr=>match r with | .inl x'=>∃k',k=k'+1∧I k' x' | .inr y=>P y)(k:Nat){x:X}(hi:I k x)(hk:k<18446744073709551616):Sat (aC step BZ x) P:=by obtain⟨y,h1,h2⟩:=Sat.iterN I P hs k x hi;exact⟨y,Bg h1 ω,h2⟩
def Amy(n:Int):decide ((0:Int)≤IntKind.u64.wrap n)=H:=by simp only[aD,IntKind.signed,IntKind.bits];simp;exact Int.emod_nonneg _ (by decide)
class SatT {α:Type}(o:Option α):Prop where
 out:Sat o λ_=>True
section
variable{α β:Type}{P:α→Prop}
end
def Ad2{n:Int}(h:0≤n)(h':n<256):aK.wrap n=n:=by simp only[aD,IntKind.signed,IntKind.bits];simp;omega
def Iv{l:Bs}(h:i<l.length):BY (B l) i=((l.getD i 0).toNat:Int):=by unfold BY B;simp[m_,q_]
def Yh(b:UInt8):decide (((b.toNat:Nat):Int)<48)=aE b.toNat 48:=by
 by_cases h:b.toNat<48
 ·rw[Ey h];exact h_ ω
 ·rw[ND ω];exact j_ ω
def Agf(b:UInt8):decide ((57:Int)<((b.toNat:Nat):Int))=aE 57 b.toNat:=by
 by_cases h:57<b.toNat
 ·rw[Ey h];exact h_ ω
 ·rw[ND ω];exact j_ ω
noncomputable abbrev Bep(x:(ByteArray×Int×Int×Int×Unit)×Unit):=Bv x.1.1 x.1.2.1 x.1.2.2.1 x.1.2.2.2.1
def Vf{l:Bs}(hl:l.length≤6):∀(m i:Nat) (n:Int),i+m=l.length→0≤n→n<10^i→
  aC Bep (m+1) ((B l,n,(l.length:Int),(i:Int),()),())=A (match DH n (l.drop i)with | some k=>Sum.inl ((k,()),()) | none=>Sum.inr ((0,E,()),()))
 |0,i,n,hi,_,_=>by obtain rfl:i=l.length:=ω;rw[a9_];refine Ao ?_;show Bv _ _ _ _=_;simp only[lp,Un.u,Bv,Lp,J];rfl
 |m+1,i,n,hi,h0,hn=>by
  have hlt:i<l.length:=ω;have h6:(10:Int)^i≤100000:=by
   have:i≤5:=ω
   rcases i with _ | _ | _ | _ | _ | _ | i
   all_goals first | decide | omega
  rw[GN 0 hlt,DH];generalize hb:l.getD i 0=b;have hby:BY (B l) i=(b.toNat:Int):=by rw[Iv hlt,hb]
  have hin:inB (i:Int) (B l).size=H:=by rw[Az];exact Gs hlt
  cases h1:aE b.toNat 48 with
  |true=>refine Ao ?_;show Bv _ _ _ _=_;simp only[lp,Un.u,Bv,Jp hlt,hin,O,s_,hby,Yh,h1,Bool.true_or]
  |false=>
   cases h2:aE 57 b.toNat with
   |true=>refine Ao ?_;show Bv _ _ _ _=_;simp only[lp,Un.u,Bv,Jp hlt,hin,O,J,s_,hby,Yh,Agf,h1,h2,Bool.or_true]
   |false=>
    have hb1:¬b.toNat<48:=λe=>by rw[Ey e]at h1;cases h1
    have hb2:¬57<b.toNat:=λe=>by rw[Ey e]at h2;cases h2
    have hs:Bep ((B l,n,(l.length:Int),(i:Int),()),())=A (.inl ((B l,10*n+(b.toNat-48:Int),(l.length:Int),((i+1:Nat):Int),()),())):=by show Bv _ _ _ _=_;simp only[lp,Un.u,Bv,Jp hlt,hin,O,J,s_,hby,Yh,Agf,h1,h2];rw[Ad (n:=10*n) ω ω,Ad2 (n:=(b.toNat:Int)-48) ω ω,Ad (n:=(b.toNat:Int)-48) ω ω,Ad (n:=10*n+_) ω ω,Ad (n:=(i:Int)+1) ω ω];rfl
    rw[Am hs,Vf hl m (i+1) _ ω ω (by rw[Int.pow_succ];omega)];rfl
def Amh(l:Bs):Eu (B l)=A (match Ai l with | some n=>((n,H,()),()) | none=>((0,E,()),())):=by
 unfold Eu;rw[Az];cases l with
 |nil=>rfl
 |cons b r=>
  rw[j_ (show ¬(((b::r).length:Nat):Int)<1 by rw[g_];omega),J];rw[show Ai (b::r)=bif aE 5 r.length||(b==48&&aE 0 r.length)then aA else DH 0 (b::r)from rfl];by_cases h6:5<r.length
  ·rw[h_ (show(6:Int)<(((b::r).length:Nat):Int)by rw[g_];omega),Ey h6];rfl
  ·rw[j_ (show ¬(6:Int)<(((b::r).length:Nat):Int)by rw[g_];omega),J,ND ω,Bc ω (by rw[g_];omega),O,Bool.false_or];have hb:BY (B (b::r)) (aF 0)=(b.toNat:Int):=Iv (l:=b::r) (i:=0) (by simp);rw[hb];have hl:EH ((B (b::r),0,(((b::r).length:Nat):Int),0,()),())=A (match DH 0 (b::r)with | some k=>.inl ((k,()),()) | none=>.inr ((0,E,()),())):=
    Bg (Vf (l:=b::r) (by rw[g_];omega) (b::r).length 0 0 ω (by decide) (by decide)) (by rw[g_];omega)
   have h48:(((b.toNat:Nat):Int)==48)=(b==48):=by
    by_cases h:b=48
    ·subst h;rfl
    ·rw[EL h];exact EL λe=>h (UInt8.toNat_inj.1 (by show b.toNat=48;omega))
   have fin:((EH ((B (b::r),0,(((b::r).length:Nat):Int),0,()),())).bind λy2=>(match y2 with | .inl y3=>A ((y3.1.1,H,()),()) | .inr y3=>A ((y3.1.1,y3.1.2.1,()),())))=A (match DH 0 (b::r)with | some n=>((n,H,()),()) | none=>((0,E,()),())):=by rw[hl,V];cases DH 0 (b::r)<;>rfl
   rw[h48];cases h:b==48 with
   |true=>
    cases r with
    |nil=>simp only[O,a5_];rw[j_ (show ¬(1:Int)<((([b]:Bs).length:Nat):Int)by simp)];simp only[V,J,Az,b5_,ND (A_ 0)];exact fin
    |cons c r=>simp only[O,a5_];rw[h_ (show(1:Int)<(((b::c::r).length:Nat):Int)by simp only[g_];omega),Ey (show 0<(c::r).length by simp)];rfl
   |false=>simp only[J,a6_,V,Az];exact fin
abbrev Event.tup(e:Z):Int×Int×Int×Int×Int×Unit:=(e.K0,e.D0,e.E0,e.Q0,e.N,())
def Ao2(w:Bs)(e:Z):EW (B w) e.K0 e.D0 e.E0 e.Q0 e.N=A (if w=[78]then .inr (.inr (.inr (((),()),(e.tup,()))))else if w=[70]then .inr (.inl (((),()),(e.tup,())))else if w=[67]then .inr (.inr (.inl (((),()),(e.tup,()))))else .inl (((),()),(e.tup,()))):=by
 unfold EW;rw[show aJ (aI [78])=B [78]from rfl,show aJ (aI [70])=B [70]from rfl,show aJ (aI [67])=B [67]from rfl,Kn,Kn,Kn];by_cases h1:w=[78]
 ·rw[h_ h1,if_pos h1];rfl
 ·rw[j_ h1,if_neg h1];by_cases h2:w=[70]
  ·rw[h_ h2,if_pos h2];rfl
  ·rw[j_ h2,if_neg h2];by_cases h3:w=[67]
   ·rw[h_ h3,if_pos h3];rfl
   ·rw[j_ h3,if_neg h3];rfl
def readL(e:Z):List Bs→List Bs→Option Z
 |f::fs,w::ws=>if f=[78]then(Ai w).bind λn=>readL { e with N:=n } fs ws else if f=[70]then(Ai w).bind λn=>readL { e with D0:=n } fs ws else if f=[67]then(Ai w).bind λn=>readL { e with Q0:=n } fs ws else if f=w then readL e fs ws else aA
 |_,_=>A e
noncomputable abbrev Xw(x:((List ByteArray×Unit×Unit×List ByteArray×Int×Int×Unit)×((Int×Int×Int×Int×Int×Unit)×(Int×Int×Int×Int×Int×Unit)×Unit))):=Dy x.1.1 x.1.2.2.2.1 x.1.2.2.2.2.1 x.1.2.2.2.2.2.1 x.2.1.1 x.2.1.2.1 x.2.1.2.2.1 x.2.1.2.2.2.1 x.2.1.2.2.2.2.1 x.2.2.1.1 x.2.2.1.2.1 x.2.2.1.2.2.1 x.2.2.1.2.2.2.1 x.2.2.1.2.2.2.2.1
def Hu{l:List Bs}(h:i<l.length):(l.map B).getD i (aJ (aI []))=B (l.getD i []):=by simp[q_,f_ h]
def YS{fs ws:List Bs}(hl:fs.length=ws.length)(hs:fs.length≤1000)(b4:Int×Int×Int×Int×Int×Unit):∀(m i:Nat) (e:Z),i+m=fs.length→
  Sat (aC Xw (m+1) ((ws.map B,(),(),fs.map B,(fs.length:Int),(i:Int),()),(b4,e.tup,()))) λr=>match readL e (fs.drop i) (ws.drop i)with
   |some e'=>∃q,r=.inl (q,(b4,e'.tup,()))
   |none=>∃t,r=.inr (((),E,()),t)
 |0,i,e,hi=>by obtain rfl:i=fs.length:=ω;rw[a9_,show ws.drop fs.length=[]from List.drop_eq_nil_of_le ω,readL.eq_def];refine⟨_,Ao (y:=.inl (((),(),()),(b4,e.tup,()))) ?_,_,rfl⟩;show Dy _ _ _ _ _ _ _ _ _ _ _ _ _ _=_;simp only[lp,Un.u,Dy,Lp,J]
 |m+1,i,e,hi=>by
  have hlt:i<fs.length:=ω;have hlw:i<ws.length:=ω;rw[GN ([]:Bs) hlt,GN ([]:Bs) hlw,readL];have g1:=Hu hlt;have g2:=Hu hlw;generalize fs.getD i []=f at g1⊢;generalize ws.getD i []=w at g2⊢;have hin1:inB (i:Int) (fs.map B).length=H:=by rw[B_];exact Gs hlt
  have hin2:inB (i:Int) (ws.map B).length=H:=by rw[B_];exact Gs hlw
  have hw:U.wrap ((i:Int)+1)=((i+1:Nat):Int):=Ad ω ω;obtain⟨r0,hr0⟩:∃r0,Xw ((ws.map B,(),(),fs.map B,(fs.length:Int),(i:Int),()),(b4,e.tup,()))=r0:=⟨_,rfl⟩;have hstep:=hr0;unfold Xw Dy at hstep;simp only[Jp hlt,hin1,hin2,O,s_,g1,g2,Ao2,Amh,V,hw]at hstep;have go:∀e':Z,Xw ((ws.map B,(),(),fs.map B,(fs.length:Int),(i:Int),()),(b4,e.tup,()))=A (.inl ((ws.map B,(),(),fs.map B,(fs.length:Int),((i+1:Nat):Int),()),(b4,e'.tup,())))→
    Sat (aC Xw (m+1+1) ((ws.map B,(),(),fs.map B,(fs.length:Int),(i:Int),()),(b4,e.tup,()))) λr=>match readL e' (fs.drop (i+1)) (ws.drop (i+1))with
     |some e'=>∃q,r=.inl (q,(b4,e'.tup,()))
     |none=>∃t,r=.inr (((),E,()),t):=λe' h=>by
   rw[Am h];exact YS hl hs b4 m (i+1) e' ω
  by_cases h1:f=[78]
  ·rw[if_pos h1];simp only[if_pos h1]at hstep;cases hn:Ai w with
   |none=>rw[hn]at hstep;exact⟨_,Ao (hr0.trans hstep.symm),_,rfl⟩
   |some n=>rw[hn]at hstep;exact go { e with N:=n } (hr0.trans hstep.symm)
  ·rw[if_neg h1];simp only[if_neg h1]at hstep;by_cases h2:f=[70]
   ·rw[if_pos h2];simp only[if_pos h2]at hstep;cases hn:Ai w with
    |none=>rw[hn]at hstep;exact⟨_,Ao (hr0.trans hstep.symm),_,rfl⟩
    |some n=>rw[hn]at hstep;exact go { e with D0:=n } (hr0.trans hstep.symm)
   ·rw[if_neg h2];simp only[if_neg h2]at hstep;by_cases h3:f=[67]
    ·rw[if_pos h3];simp only[if_pos h3]at hstep;cases hn:Ai w with
     |none=>rw[hn]at hstep;exact⟨_,Ao (hr0.trans hstep.symm),_,rfl⟩
     |some n=>rw[hn]at hstep;exact go { e with Q0:=n } (hr0.trans hstep.symm)
    ·rw[if_neg h3];simp only[if_neg h3,Kn]at hstep;by_cases h4:f=w
     ·rw[if_pos h4];rw[h_ h4]at hstep;exact go e (hr0.trans hstep.symm)
     ·rw[if_neg h4];rw[j_ h4]at hstep;exact⟨_,Ao (hr0.trans hstep.symm),_,rfl⟩
def Mp(f:List Bs)(e:Z)(ws:List Bs):Option Z:=if f.length=ws.length then readL e f ws else aA
def Ac1{f:Bs}(hf:f.length≤100∧f.all (λb=>aE b.toNat 128)=H)(e:Z){ws:List Bs}(hws:ws.length≤4294967296):Sat (Dc (B f) e.K0 e.D0 e.E0 e.Q0 e.N (ws.map B)) λy=>match Mp (DD [] f) e ws with
  |some e'=>y=(((),H,()),(e'.tup,()))
  |none=>y.1.2.1=E:=by
 unfold Dc;have hfl:Fh (B f)=A (((DD [] f).map B,()),()):=by show(bif aE (B f).size 4294967281&&_ then _ else aA)=_;rw[Az,Ey ω,show(B f).data.toList=f from rfl,hf.2];rfl
 refine Sat.bindE hfl ?_;have hlen:=RE f [];simp only[B_];unfold Mp;by_cases hl:(DD [] f).length=ws.length
 ·rw[if_pos hl,show((((DD [] f).length:Nat):Int) !=(ws.length:Int))=E by rw[hl];simp];refine Sat.bifF rfl ?_;refine Sat.bindS (Q:=λr=>match readL e (DD [] f) ws with
   |some e'=>∃q,r=.inl (q,((0,0,0,0,0,()),e'.tup,()))
   |none=>∃t,r=.inr (((),E,()),t)) ?_ λr hr=>?_
  ·obtain⟨r,h1,h2⟩:=YS hl ω (0,0,0,0,0,()) (DD [] f).length 0 e ω;exact⟨r,Bg h1 ω,h2⟩
  ·cases he:readL e (DD [] f) ws with
   |some e'=>rw[he]at hr;obtain⟨q,rfl⟩:=hr;exact Sat.ret rfl
   |none=>rw[he]at hr;obtain⟨q,rfl⟩:=hr;exact Sat.ret rfl
 ·rw[if_neg hl,show((((DD [] f).length:Nat):Int) !=(ws.length:Int))=H from Rm ω];exact Sat.bifT rfl (Sat.ret rfl)
def formsB:List (Bs×Z):=[([119,97,105,116,32,78],⟨1,0,0,0,0⟩),([112,114,101,115,115,32,70,32,117,112],⟨2,0,1,0,0⟩),([112,114,101,115,115,32,70,32,100,111,119,110],⟨2,0,2,0,0⟩),([99,97,114,32,67,32,70],⟨3,0,0,0,0⟩),
 ([108,111,97,100,32,67,32,78],⟨4,0,0,0,0⟩),([98,108,111,99,107,32,67,32,78],⟨5,0,0,0,0⟩),([98,97,100],⟨7,0,0,0,0⟩),([99,114,97,115,104,32,78],⟨8,0,0,0,0⟩),
 ([100,114,97,105,110,32,67],⟨6,0,0,0,1⟩),([99,97,110,99,101,108,32,67],⟨6,0,0,0,2⟩),([114,101,99,111,110,110,101,99,116,32,67],⟨6,0,0,0,3⟩),([99,111,109,109,105,115,115,105,111,110,32,67],⟨6,0,0,0,4⟩),
 ([97,98,111,114,116,32,67],⟨6,0,0,0,5⟩),([97,99,99,101,112,116,32,67],⟨6,0,0,0,6⟩),([108,101,97,118,101,32,67],⟨6,0,0,0,7⟩),([114,101,115,101,116,32,67],⟨6,0,0,0,8⟩)]
def GO(p:Bs×Z):script_form:=script_form.mk (B p.1) p.2.K0 p.2.D0 p.2.E0 p.2.Q0 p.2.N
def formsF:List (List Bs×Z):=[([[119,97,105,116],[78]],⟨1,0,0,0,0⟩),([[112,114,101,115,115],[70],[117,112]],⟨2,0,1,0,0⟩),([[112,114,101,115,115],[70],[100,111,119,110]],⟨2,0,2,0,0⟩),([[99,97,114],[67],[70]],⟨3,0,0,0,0⟩),
 ([[108,111,97,100],[67],[78]],⟨4,0,0,0,0⟩),([[98,108,111,99,107],[67],[78]],⟨5,0,0,0,0⟩),([[98,97,100]],⟨7,0,0,0,0⟩),([[99,114,97,115,104],[78]],⟨8,0,0,0,0⟩),
 ([[100,114,97,105,110],[67]],⟨6,0,0,0,1⟩),([[99,97,110,99,101,108],[67]],⟨6,0,0,0,2⟩),([[114,101,99,111,110,110,101,99,116],[67]],⟨6,0,0,0,3⟩),([[99,111,109,109,105,115,115,105,111,110],[67]],⟨6,0,0,0,4⟩),
 ([[97,98,111,114,116],[67]],⟨6,0,0,0,5⟩),([[97,99,99,101,112,116],[67]],⟨6,0,0,0,6⟩),([[108,101,97,118,101],[67]],⟨6,0,0,0,7⟩),([[114,101,115,101,116],[67]],⟨6,0,0,0,8⟩)]
def Al0:formsB.map (λp=>(DD [] p.1,p.2))=formsF:=κ
def Ao4:CE=A ((formsB.map GO,()),()):=κ
def Aa4(ws:List Bs):Option Z:=formsF.findSome? λp=>Mp p.1 p.2 ws
def HT(a:Bs):Int:=if a=[100,114,97,105,110]then 1 else if a=[99,97,110,99,101,108]then 2 else if a=[114,101,99,111,110,110,101,99,116]then 3 else if a=[99,111,109,109,105,115,115,105,111,110]then 4 else if a=[97,98,111,114,116]then 5 else if a=[97,99,99,101,112,116]then 6 else if a=[108,101,97,118,101]then 7 else if a=[114,101,115,101,116]then 8 else 0
def evR:List Bs→Option Z
 |[a]=>if a=[98,97,100]then A ⟨7,0,0,0,0⟩else aA
 |[a,x]=>if a=[119,97,105,116]then(Ai x).map λn=>⟨1,0,0,0,n⟩else if a=[99,114,97,115,104]then(Ai x).map λn=>⟨8,0,0,0,n⟩else if HT a=0 then aA else(Ai x).map λn=>⟨6,0,0,n,HT a⟩
 |[a,x,y]=>if a=[112,114,101,115,115]then(if y=[117,112]then(Ai x).map λn=>⟨2,n,1,0,0⟩else if y=[100,111,119,110]then(Ai x).map λn=>⟨2,n,2,0,0⟩else aA)
  else if a=[99,97,114]then(Ai x).bind λn=>(Ai y).map λm=>⟨3,m,0,n,0⟩else if a=[108,111,97,100]then(Ai x).bind λn=>(Ai y).map λm=>⟨4,0,0,n,m⟩else if a=[98,108,111,99,107]then(Ai x).bind λn=>(Ai y).map λm=>⟨5,0,0,n,m⟩else aA
 |_=>aA
def Bm{e:Z}{f w:Bs}{fs ws:List Bs}(h:f≠[78]∧f≠[70]∧f≠[67]):readL e (f::fs) (w::ws)=if f=w then readL e fs ws else aA:=by rw[readL,if_neg h.1,if_neg h.2.1,if_neg h.2.2]
def Af2(a:Bs):evR [a]=if a=[98,97,100]then A ⟨7,0,0,0,0⟩else aA:=rfl
def Rw(a x:Bs):evR [a,x]=if a=[119,97,105,116]then(Ai x).map λn=>⟨1,0,0,0,n⟩else if a=[99,114,97,115,104]then(Ai x).map λn=>⟨8,0,0,0,n⟩else if HT a=0 then aA else(Ai x).map λn=>⟨6,0,0,n,HT a⟩:=rfl
def FQ(a x y:Bs):evR [a,x,y]=if a=[112,114,101,115,115]then(if y=[117,112]then(Ai x).map λn=>⟨2,n,1,0,0⟩else if y=[100,111,119,110]then(Ai x).map λn=>⟨2,n,2,0,0⟩else aA)
  else if a=[99,97,114]then(Ai x).bind λn=>(Ai y).map λm=>⟨3,m,0,n,0⟩else if a=[108,111,97,100]then(Ai x).bind λn=>(Ai y).map λm=>⟨4,0,0,n,m⟩else if a=[98,108,111,99,107]then(Ai x).bind λn=>(Ai y).map λm=>⟨5,0,0,n,m⟩else aA:=rfl
def Uv(k:Z)(w:Bs)(fs ws:List Bs):readL k ([78]::fs) (w::ws)=(Ai w).bind λn=>readL { k with N:=n } fs ws:=by rw[readL,if_pos rfl]
def Yp(k:Z)(w:Bs)(fs ws:List Bs):readL k ([70]::fs) (w::ws)=(Ai w).bind λn=>readL { k with D0:=n } fs ws:=by rw[readL,if_neg (by decide),if_pos rfl]
def GR(k:Z)(w:Bs)(fs ws:List Bs):readL k ([67]::fs) (w::ws)=(Ai w).bind λn=>readL { k with Q0:=n } fs ws:=by rw[readL,if_neg (by decide),if_neg (by decide),if_pos rfl]
def Oa(k:Z):readL k [] []=A k:=by rw[readL.eq_def]
def Alv(ws:List Bs):Aa4 ws=evR ws:=by
 unfold Aa4 formsF
 match ws with
 |[]=>rfl
 |[a]=>
  have w:readL ⟨7,0,0,0,0⟩ [[98,97,100]] [a]=if [98,97,100]=a then A ⟨7,0,0,0,0⟩else aA:=by rw[Bm (by decide),Oa]
  simp only[bA,Mp,g_,b5_,Nat.reduceAdd,Nat.reduceEqDiff,if_false,if_true,w,Af2];by_cases h:a=[98,97,100]
  ·rw[if_pos h,if_pos h.symm]
  ·rw[if_neg h,if_neg (Y_ h)]
 |[a,x]=>
  have w0:readL ⟨1,0,0,0,0⟩ [[119,97,105,116],[78]] [a,x]=if [119,97,105,116]=a then(Ai x).map λn=>⟨1,0,0,0,n⟩else aA:=by rw[Bm (by decide),Uv];cases Ai x<;>rfl
  have w1:readL ⟨8,0,0,0,0⟩ [[99,114,97,115,104],[78]] [a,x]=if [99,114,97,115,104]=a then(Ai x).map λn=>⟨8,0,0,0,n⟩else aA:=by rw[Bm (by decide),Uv];cases Ai x<;>rfl
  have w2:readL ⟨6,0,0,0,1⟩ [[100,114,97,105,110],[67]] [a,x]=if [100,114,97,105,110]=a then(Ai x).map λn=>⟨6,0,0,n,1⟩else aA:=by rw[Bm (by decide),GR];cases Ai x<;>rfl
  have w3:readL ⟨6,0,0,0,2⟩ [[99,97,110,99,101,108],[67]] [a,x]=if [99,97,110,99,101,108]=a then(Ai x).map λn=>⟨6,0,0,n,2⟩else aA:=by rw[Bm (by decide),GR];cases Ai x<;>rfl
  have w4:readL ⟨6,0,0,0,3⟩ [[114,101,99,111,110,110,101,99,116],[67]] [a,x]=if [114,101,99,111,110,110,101,99,116]=a then(Ai x).map λn=>⟨6,0,0,n,3⟩else aA:=by rw[Bm (by decide),GR];cases Ai x<;>rfl
  have w5:readL ⟨6,0,0,0,4⟩ [[99,111,109,109,105,115,115,105,111,110],[67]] [a,x]=if [99,111,109,109,105,115,115,105,111,110]=a then(Ai x).map λn=>⟨6,0,0,n,4⟩else aA:=by rw[Bm (by decide),GR];cases Ai x<;>rfl
  have w6:readL ⟨6,0,0,0,5⟩ [[97,98,111,114,116],[67]] [a,x]=if [97,98,111,114,116]=a then(Ai x).map λn=>⟨6,0,0,n,5⟩else aA:=by rw[Bm (by decide),GR];cases Ai x<;>rfl
  have w7:readL ⟨6,0,0,0,6⟩ [[97,99,99,101,112,116],[67]] [a,x]=if [97,99,99,101,112,116]=a then(Ai x).map λn=>⟨6,0,0,n,6⟩else aA:=by rw[Bm (by decide),GR];cases Ai x<;>rfl
  have w8:readL ⟨6,0,0,0,7⟩ [[108,101,97,118,101],[67]] [a,x]=if [108,101,97,118,101]=a then(Ai x).map λn=>⟨6,0,0,n,7⟩else aA:=by rw[Bm (by decide),GR];cases Ai x<;>rfl
  have w9:readL ⟨6,0,0,0,8⟩ [[114,101,115,101,116],[67]] [a,x]=if [114,101,115,101,116]=a then(Ai x).map λn=>⟨6,0,0,n,8⟩else aA:=by rw[Bm (by decide),GR];cases Ai x<;>rfl
  simp only[bA,Mp,g_,b5_,Nat.reduceAdd,Nat.reduceEqDiff,if_false,if_true,w0,w1,w2,w3,w4,w5,w6,w7,w8,w9,Rw];by_cases h0:a=[119,97,105,116]
  ·subst h0;cases Ai x<;>rfl
  by_cases h1:a=[99,114,97,115,104]
  ·subst h1;cases Ai x<;>rfl
  by_cases h2:a=[100,114,97,105,110]
  ·subst h2;cases Ai x<;>rfl
  by_cases h3:a=[99,97,110,99,101,108]
  ·subst h3;cases Ai x<;>rfl
  by_cases h4:a=[114,101,99,111,110,110,101,99,116]
  ·subst h4;cases Ai x<;>rfl
  by_cases h5:a=[99,111,109,109,105,115,115,105,111,110]
  ·subst h5;cases Ai x<;>rfl
  by_cases h6:a=[97,98,111,114,116]
  ·subst h6;cases Ai x<;>rfl
  by_cases h7:a=[97,99,99,101,112,116]
  ·subst h7;cases Ai x<;>rfl
  by_cases h8:a=[108,101,97,118,101]
  ·subst h8;cases Ai x<;>rfl
  by_cases h9:a=[114,101,115,101,116]
  ·subst h9;cases Ai x<;>rfl
  simp only[HT,if_neg h0,if_neg (Y_ h0),if_neg h1,if_neg (Y_ h1),if_neg h2,if_neg (Y_ h2),if_neg h3,if_neg (Y_ h3),if_neg h4,if_neg (Y_ h4),if_neg h5,if_neg (Y_ h5),if_neg h6,if_neg (Y_ h6),if_neg h7,if_neg (Y_ h7),if_neg h8,if_neg (Y_ h8),if_neg h9,if_neg (Y_ h9),if_true]
 |[a,x,y]=>
  have w0:readL ⟨2,0,1,0,0⟩ [[112,114,101,115,115],[70],[117,112]] [a,x,y]=if [112,114,101,115,115]=a then(if [117,112]=y then(Ai x).map λn=>⟨2,n,1,0,0⟩else aA)else aA:=by
   rw[Bm (by decide),Yp];simp only[Bm (f:=[117,112]) (by decide),Oa];split
   ·by_cases hy:[117,112]=y
    ·simp only[if_pos hy];cases Ai x<;>rfl
    ·simp only[if_neg hy];cases Ai x<;>rfl
   ·rfl
  have w1:readL ⟨2,0,2,0,0⟩ [[112,114,101,115,115],[70],[100,111,119,110]] [a,x,y]=if [112,114,101,115,115]=a then(if [100,111,119,110]=y then(Ai x).map λn=>⟨2,n,2,0,0⟩else aA)else aA:=by
   rw[Bm (by decide),Yp];simp only[Bm (f:=[100,111,119,110]) (by decide),Oa];split
   ·by_cases hy:[100,111,119,110]=y
    ·simp only[if_pos hy];cases Ai x<;>rfl
    ·simp only[if_neg hy];cases Ai x<;>rfl
   ·rfl
  have w2:readL ⟨3,0,0,0,0⟩ [[99,97,114],[67],[70]] [a,x,y]=if [99,97,114]=a then((Ai x).bind λn=>(Ai y).map λm=>⟨3,m,0,n,0⟩)else aA:=by rw[Bm (by decide),GR];simp only[Yp,Oa];cases Ai x<;>cases Ai y<;>rfl
  have w3:readL ⟨4,0,0,0,0⟩ [[108,111,97,100],[67],[78]] [a,x,y]=if [108,111,97,100]=a then((Ai x).bind λn=>(Ai y).map λm=>⟨4,0,0,n,m⟩)else aA:=by rw[Bm (by decide),GR];simp only[Uv,Oa];cases Ai x<;>cases Ai y<;>rfl
  have w4:readL ⟨5,0,0,0,0⟩ [[98,108,111,99,107],[67],[78]] [a,x,y]=if [98,108,111,99,107]=a then((Ai x).bind λn=>(Ai y).map λm=>⟨5,0,0,n,m⟩)else aA:=by rw[Bm (by decide),GR];simp only[Uv,Oa];cases Ai x<;>cases Ai y<;>rfl
  simp only[bA,Mp,g_,b5_,Nat.reduceAdd,Nat.reduceEqDiff,if_false,if_true,w0,w1,w2,w3,w4,FQ];by_cases h1:a=[112,114,101,115,115]
  ·subst h1;by_cases h2:y=[117,112]
   ·subst h2;cases Ai x<;>rfl
   ·by_cases h3:y=[100,111,119,110]
    ·subst h3;cases Ai x<;>rfl
    ·rw[if_neg h2,if_neg h3,if_neg (Y_ h2),if_neg (Y_ h3)];rfl
  by_cases h4:a=[99,97,114]
  ·subst h4;cases Ai x<;>cases Ai y<;>rfl
  by_cases h5:a=[108,111,97,100]
  ·subst h5;cases Ai x<;>cases Ai y<;>rfl
  by_cases h6:a=[98,108,111,99,107]
  ·subst h6;cases Ai x<;>cases Ai y<;>rfl
  simp only[if_neg h1,if_neg (Y_ h1),if_neg h4,if_neg (Y_ h4),if_neg h5,if_neg (Y_ h5),if_neg h6,if_neg (Y_ h6)]
 |_::_::_::_::_=>simp[bA,Mp,evR]
structure Bldg where
 A0:Int
 B0:Int
 N0:Int
 I0:Int
 F0:Nat
 M0:Nat
 L0:Nat
 C0:List Car
def Px{α:Type}{l:List α}(d:α)(h:i<l.length):l.drop i=l.getD i d::l.drop (i+1):=by rw[List.drop_eq_getElem_cons h];simp[h]
def inR(lo hi n:Int):Bool:=decide (lo≤n)&&decide (n≤hi)
def Dg{lo hi n:Int}:inR lo hi n=H↔lo≤n∧n≤hi:=by simp[inR]
def Ba(lo hi:Int){l:List Int}(hl:l.length≤maxLen):AQ lo hi l=A ((l.all (inR lo hi),()),()):=by
 have hm:maxLen≤9223372036854775807:=by decide
 have key:∀(m i:Nat),i+m=l.length→aC (λx=>AX x.1.1 x.1.2.1 x.1.2.2.1 x.1.2.2.2.1 x.1.2.2.2.2.1) (m+1) ((lo,hi,l,(l.length:Int),(i:Int),()),())=A (if(l.drop i).all (inR lo hi)then .inl ((),())else .inr ((E,()),())):=by
  intro m;induction m with
  |zero=>
   intro i hi';refine Ao ?_;show AX lo hi l (l.length:Int) (i:Int)=_;unfold AX;have e:decide ((i:Int)<(l.length:Int))=E:=by simp;omega
   rw[e,show i=l.length by omega];simp
  |succ m ih=>
   intro i hi';have e:decide ((i:Int)<(l.length:Int))=H:=by simp;omega
   have ib:inB (i:Int) l.length=H:=Bc ω ω;have tn:aF (i:Int)=i:=ω;have w:U.wrap ((i:Int)+1)=((i+1:Nat):Int):=by rw[Ad ω ω];omega
   rw[Px (0:Int) (ω:i<l.length)];by_cases h1:l.getD i 0<lo
   ·refine(Ao (y:=.inr ((E,()),())) ?_).trans ?_
    ·show AX lo hi l (l.length:Int) (i:Int)=_;unfold AX;have d1:decide (l.getD i 0<lo)=H:=by simpa using h1
     simp only[e,ib,tn,d1,O]
    ·have:inR lo hi (l.getD i 0)=E:=by rw[inR,show decide (lo≤l.getD i 0)=E from j_ ω,a6_]
     rw[N_,this];rfl
   ·have d1:decide (l.getD i 0<lo)=E:=by simpa using h1
    by_cases h2:hi<l.getD i 0
    ·refine(Ao (y:=.inr ((E,()),())) ?_).trans ?_
     ·show AX lo hi l (l.length:Int) (i:Int)=_;unfold AX;have d2:decide (hi<l.getD i 0)=H:=by simpa using h2
      simp only[e,ib,tn,d1,d2,O,J]
     ·have:inR lo hi (l.getD i 0)=E:=by rw[inR,show decide (l.getD i 0≤hi)=E from j_ ω,aY]
      rw[N_,this];rfl
    ·have d2:decide (hi<l.getD i 0)=E:=by simpa using h2
     refine(Am (x':=((lo,hi,l,(l.length:Int),((i+1:Nat):Int),()),())) ?_).trans ?_
     ·show AX lo hi l (l.length:Int) (i:Int)=_;unfold AX;simp only[e,ib,tn,d1,d2,w,O,J]
     ·have:inR lo hi (l.getD i 0)=H:=Dg.2 ⟨ω,ω⟩
      rw[ih (i+1) ω,N_,this];rfl
 unfold AQ;have h0:Fs ((lo,hi,l,(l.length:Int),(0:Int),()),())=_:=Bg (key l.length 0 ω) ω;rw[h0];rw[c2_];cases l.all (inR lo hi)<;>rfl
def HH(n lo hi:Int):ED n lo hi=A ((inR lo hi n,()),()):=by unfold ED inR;cases h:decide (lo≤n)<;>simp
def Br(fl:Int)(c:Car):Bool:=[c.G0,c.S0,c.U0,c.W0,c.J0,c.H0,c.T0].all (inR 1 10000)&&(inR 0 10000 c.O0&&(decide (c.H0≤c.T0)&&inR 0 (aD U (fl-1)) c.E1))
def SM(fl:Int)(c:Car):Hf c.G0 c.S0 c.U0 c.O0 c.W0 c.J0 c.H0 c.T0 c.E1 fl=A ((Br fl c,()),()):=by
 have hm:7≤maxLen:=by decide
 unfold Hf Br;rw[Ba 1 10000 (l:=[c.G0,c.S0,c.U0,c.W0,c.J0,c.H0,c.T0]) (by simpa using hm)];generalize [c.G0,c.S0,c.U0,c.W0,c.J0,c.H0,c.T0].all (inR 1 10000)=a;rw[Ba 0 10000 (l:=[c.O0]) (by simp;omega),Ba 0 _ (l:=[c.E1]) (by simp;omega)];simp only[V,N_,aS,aR];cases a
 ·rfl
 ·cases inR 0 10000 c.O0
  ·rfl
  ·by_cases h:c.H0≤c.T0
   ·have:decide (c.H0≤c.T0)=H:=by simpa using h
    simp only[this,O,V,a5_]
   ·have:decide (c.H0≤c.T0)=E:=by simpa using h
    simp only[this,O,J,V,a5_,a6_]
def Bldg.tup(b:Bldg):Int×Int×Int×Int×Nat×Nat×Nat×List Car×Unit:=(b.A0,b.B0,b.N0,b.I0,b.F0,b.M0,b.L0,b.C0,())
def Car.tup(c:Car):Int×Int×Int×Int×Int×Int×Int×Int×Int×Unit:=(c.G0,c.S0,c.U0,c.O0,c.W0,c.J0,c.H0,c.T0,c.E1,())
def Yl(b:Bldg)(c:Car){L:List Int}(hL:L.length=8) :
  JF (((),(),L,(0:Int),()),(b.tup,c.tup,()))=A (if(L.take 7).all (inR 1 10000)then .inl (((),(),()),(b.tup,c.tup,()))else .inr ((E,()),())):=by
 have key:∀(m i:Nat),i+m=7→aC (λx=>letI a:=x.2.2.1.2.2;letI d:=x.2.1.2.2;letI f:=a.2.2;letI g:=d.2.2;DI x.1.2.2.1 x.1.2.2.2.1 x.2.1.1 x.2.1.2.1 d.1 d.2.1 g.1 g.2.1 g.2.2.1 g.2.2.2.1 x.2.2.1.1 x.2.2.1.2.1 a.1 a.2.1 f.1 f.2.1 f.2.2.1 f.2.2.2.1 f.2.2.2.2.1) (m+1) (((),(),L,(i:Int),()),(b.tup,c.tup,()))=A (if((L.take 7).drop i).all (inR 1 10000)then .inl (((),(),()),(b.tup,c.tup,()))else .inr ((E,()),())):=by
  intro m;induction m with
  |zero=>
   intro i hi';refine Ao ?_;show DI L (i:Int) b.A0 b.B0 b.N0 b.I0 b.F0 b.M0 b.L0 b.C0 c.G0 c.S0 c.U0 c.O0 c.W0 c.J0 c.H0 c.T0 c.E1=_;unfold DI;have e:decide ((i:Int)<7)=E:=by simp;omega
   have hd:(L.take 7).drop i=[]:=List.drop_eq_nil_of_le (by simp;omega);rw[e,hd];rfl
  |succ m ih=>
   intro i hi';have e:decide ((i:Int)<7)=H:=by simp;omega
   have ib:inB (i:Int) L.length=H:=Bc ω ω;have tn:aF (i:Int)=i:=ω;have w:U.wrap ((i:Int)+1)=((i+1:Nat):Int):=by rw[Ad ω ω];omega
   have hg:(L.take 7).getD i 0=L.getD i 0:=by simp only[q_,List.getElem?_take];rw[if_pos ω]
   rw[Px (0:Int) (show i<(L.take 7).length by simp;omega),hg,N_];cases hr:inR 1 10000 (L.getD i 0)with
   |false=>refine(Ao (y:=.inr ((E,()),())) ?_).trans rfl;show DI L (i:Int) b.A0 b.B0 b.N0 b.I0 b.F0 b.M0 b.L0 b.C0 c.G0 c.S0 c.U0 c.O0 c.W0 c.J0 c.H0 c.T0 c.E1=_;unfold DI;simp only[e,ib,tn,HH,hr,O,V,aW]
   |true=>
    refine(Am (x':=(((),(),L,((i+1:Nat):Int),()),(b.tup,c.tup,()))) ?_).trans ?_
    ·show DI L (i:Int) b.A0 b.B0 b.N0 b.I0 b.F0 b.M0 b.L0 b.C0 c.G0 c.S0 c.U0 c.O0 c.W0 c.J0 c.H0 c.T0 c.E1=_;unfold DI;simp only[e,ib,tn,w,HH,hr,O,J,V,V_];rfl
    ·rw[ih (i+1) ω,a5_]
 have h0:=key 7 0 rfl;rw[c2_]at h0;exact Bg h0 ω
def XK(b:Bldg)(c:Car):Mg b.A0 b.B0 b.N0 b.I0 b.F0 b.M0 b.L0 b.C0 c.G0 c.S0 c.U0 c.O0 c.W0 c.J0 c.H0 c.T0 c.E1=A ((Br b.A0 c,()),()):=by
 unfold Mg Br;by_cases h1:c.O0<0
 ·have d1:decide (c.O0<0)=H:=by simpa using h1
  have d2:inR 0 10000 c.O0=E:=by rw[inR,show decide (0≤c.O0)=E from j_ ω,a6_]
  rw[d1,O,d2,a6_,aY]
 ·have d1:decide (c.O0<0)=E:=by simpa using h1
  rw[d1,J];by_cases h2:10000<c.O0
  ·have d1:decide (10000<c.O0)=H:=by simpa using h2
   have d2:inR 0 10000 c.O0=E:=by rw[inR,show decide (c.O0≤10000)=E from j_ ω,aY]
   rw[d1,O,d2,a6_,aY]
  ·have d1:decide (10000<c.O0)=E:=by simpa using h2
   have d2:inR 0 10000 c.O0=H:=Dg.2 ⟨ω,ω⟩;rw[d1,J,d2,a5_];have hl:=Yl b c (L:=[c.G0,c.S0,c.U0,c.W0,c.J0,c.H0,c.T0,U.wrap (c.O0+1)]) rfl;rw[show([c.G0,c.S0,c.U0,c.W0,c.J0,c.H0,c.T0,U.wrap (c.O0+1)].take 7)=[c.G0,c.S0,c.U0,c.W0,c.J0,c.H0,c.T0]from rfl]at hl;simp only[Bldg.tup,Car.tup]at hl;rw[hl];cases [c.G0,c.S0,c.U0,c.W0,c.J0,c.H0,c.T0].all (inR 1 10000)with
   |false=>rfl
   |true=>
    simp only[if_true,V,a5_,HH];by_cases h:c.H0≤c.T0
    ·have:decide (c.H0≤c.T0)=H:=by simpa using h
     simp only[this,O,V,a5_]
    ·have:decide (c.H0≤c.T0)=E:=by simpa using h
     simp only[this,J,V,a6_]
def Bldg.loadsOK(b:Bldg):Bool:=((Go.FloatKind.format Go.FloatKind.f64).order 0 b.F0==A Ordering.lt)&&(((Go.FloatKind.format Go.FloatKind.f64).order b.F0 b.M0==A Ordering.lt)&&(((Go.FloatKind.format Go.FloatKind.f64).order b.M0 b.L0==A Ordering.lt)&&((Go.FloatKind.format Go.FloatKind.f64).order b.L0 9218868437227405311==A Ordering.lt||(Go.FloatKind.format Go.FloatKind.f64).order b.L0 9218868437227405311==A Ordering.eq)))
def Bldg.code(b:Bldg):Int:=
 bif !inR 2 32 b.A0 then 10 else bif !inR 1 8 (b.C0.length:Int)then 11 else
 bif !(inR 1 16 b.B0&&inR 1 10000 b.I0&&b.C0.all (Br b.A0))then 12 else bif !b.loadsOK then 13 else
 bif !inR (18*(b.C0.length:Int)+24) 65536 b.N0 then 14 else 0
def DN:Car:=⟨0,0,0,0,0,0,0,0,0⟩
def SP(b:Bldg)(hl:b.C0.length≤8)(g:Bool) :
  FL (((),g,b.C0,(b.C0.length:Int),(0:Int),()),(b.tup,()))=A (((),g&&b.C0.all (Br b.A0),()),(b.tup,())):=by
 have key:∀(m i:Nat) (g:Bool),i+m=b.C0.length→aC (λx=>letI a:=x.2.1.2.2;letI c:=a.2.2;Dd x.1.2.1 x.1.2.2.1 x.1.2.2.2.1 x.1.2.2.2.2.1 x.2.1.1 x.2.1.2.1 a.1 a.2.1 c.1 c.2.1 c.2.2.1 c.2.2.2.1) (m+1) (((),g,b.C0,(b.C0.length:Int),(i:Int),()),(b.tup,()))=A (((),g&&(b.C0.drop i).all (Br b.A0),()),(b.tup,())):=by
  intro m;induction m with
  |zero=>
   intro i g hi';refine Ao ?_;show Dd g b.C0 (b.C0.length:Int) (i:Int) b.A0 b.B0 b.N0 b.I0 b.F0 b.M0 b.L0 b.C0=_;unfold Dd;have e:decide ((i:Int)<(b.C0.length:Int))=E:=by simp;omega
   rw[e,show i=b.C0.length by omega,a9_];simp only[J,aS,aR,Bldg.tup]
  |succ m ih=>
   intro i g hi';have e:decide ((i:Int)<(b.C0.length:Int))=H:=by simp;omega
   have ib:inB (i:Int) b.C0.length=H:=Bc ω ω;have tn:aF (i:Int)=i:=ω;have w:U.wrap ((i:Int)+1)=((i+1:Nat):Int):=by rw[Ad ω ω];omega
   rw[Px DN (ω:i<b.C0.length),N_];refine(Am (x':=(((),g&&Br b.A0 (b.C0.getD i DN),b.C0,(b.C0.length:Int),((i+1:Nat):Int),()),(b.tup,()))) ?_).trans ?_
   ·show Dd g b.C0 (b.C0.length:Int) (i:Int) b.A0 b.B0 b.N0 b.I0 b.F0 b.M0 b.L0 b.C0=_;unfold Dd;simp only[e,ib,tn,O];rw[SM b.A0 (b.C0.getD i ⟨0,0,0,0,0,0,0,0,0⟩)];cases g
    ·simp only[J,V,a6_,w];rfl
    ·simp only[O,V,a5_,w];rfl
   ·rw[ih (i+1) _ ω,Bool.and_assoc]
 have h0:=key b.C0.length 0 g ω;rw[c2_]at h0;exact Bg h0 ω
def Yk(b:Bldg)(hl:b.C0.length≤8)(g:Bool) :
  JE (((),g,(0:Int),()),(b.tup,()))=A (((),g&&b.C0.all (Br b.A0),()),(b.tup,())):=by
 have key:∀(m i:Nat) (g:Bool),i+m=b.C0.length→aC (λx=>letI a:=x.2.1.2.2;letI c:=a.2.2;FB x.1.2.1 x.1.2.2.1 x.2.1.1 x.2.1.2.1 a.1 a.2.1 c.1 c.2.1 c.2.2.1 c.2.2.2.1) (m+1) (((),g,(i:Int),()),(b.tup,()))=A (((),g&&(b.C0.drop i).all (Br b.A0),()),(b.tup,())):=by
  intro m;induction m with
  |zero=>
   intro i g hi';refine Ao ?_;show FB g (i:Int) b.A0 b.B0 b.N0 b.I0 b.F0 b.M0 b.L0 b.C0=_;unfold FB;have e:decide ((i:Int)<(b.C0.length:Int))=E:=by simp;omega
   rw[e,show i=b.C0.length by omega,a9_];simp only[J,aS,aR,Bldg.tup]
  |succ m ih=>
   intro i g hi';have e:decide ((i:Int)<(b.C0.length:Int))=H:=by simp;omega
   have ib:inB (i:Int) b.C0.length=H:=Bc ω ω;have tn:aF (i:Int)=i:=ω;have w:U.wrap ((i:Int)+1)=((i+1:Nat):Int):=by rw[Ad ω ω];omega
   rw[Px DN (ω:i<b.C0.length),N_];refine(Am (x':=(((),g&&Br b.A0 (b.C0.getD i DN),((i+1:Nat):Int),()),(b.tup,()))) ?_).trans ?_
   ·show FB g (i:Int) b.A0 b.B0 b.N0 b.I0 b.F0 b.M0 b.L0 b.C0=_;unfold FB;simp only[e,ib,tn,O];rw[XK b (b.C0.getD i ⟨0,0,0,0,0,0,0,0,0⟩)];cases g
    ·simp only[J,V,a6_,w];rfl
    ·simp only[O,V,a5_,w];rfl
   ·rw[ih (i+1) _ ω,Bool.and_assoc]
 have h0:=key b.C0.length 0 g ω;rw[c2_]at h0;exact Bg h0 ω
def SK(b:Bldg):He b.A0 b.B0 b.N0 b.I0 b.F0 b.M0 b.L0 b.C0=A ((b.loadsOK,()),()):=by
 unfold He Bldg.loadsOK;cases(Go.FloatKind.format Go.FloatKind.f64).order 0 b.F0==A Ordering.lt
 ·rfl
 cases(Go.FloatKind.format Go.FloatKind.f64).order b.F0 b.M0==A Ordering.lt
 ·rfl
 cases(Go.FloatKind.format Go.FloatKind.f64).order b.M0 b.L0==A Ordering.lt
 ·rfl
 rfl
def HM(b:Bldg):Ak b.A0 b.B0 b.N0 b.I0 b.F0 b.M0 b.L0 b.C0=A ((b.code,()),()):=by
 have hm:8≤maxLen:=by decide
 unfold Ak Bldg.code;rw[Ba 2 32 (l:=[b.A0]) (by simp;omega),Ba 1 8 (l:=[(b.C0.length:Int)]) (by simp;omega),Ba 1 16 (l:=[b.B0]) (by simp;omega),Ba 1 10000 (l:=[b.I0]) (by simp;omega)];simp only[V,N_,aS,aR];cases inR 2 32 b.A0
 ·rfl
 cases hc:inR 1 8 (b.C0.length:Int)
 ·rfl
 have hlen:b.C0.length≤8:=by have:=(Dg.1 hc).2;omega
 have hg:(bif inR 1 16 b.B0 then A (((),inR 1 10000 b.I0,()),(b.tup,()))else A (((),E,()),(b.tup,())))=A (((),inR 1 16 b.B0&&inR 1 10000 b.I0,()),(b.tup,())):=by cases inR 1 16 b.B0<;>rfl
 simp only[Bldg.tup]at hg;simp only[V_,J,hg,V];have hl:=SP b hlen (inR 1 16 b.B0&&inR 1 10000 b.I0);simp only[Bldg.tup]at hl;rw[hl,V];cases inR 1 16 b.B0&&inR 1 10000 b.I0&&b.C0.all (Br b.A0)
 ·rfl
 simp only[V_,J];rw[SK b,V];cases b.loadsOK
 ·rfl
 simp only[V_,J];rw[show U.wrap (aD U (18*(b.C0.length:Int))+24)=18*(b.C0.length:Int)+24 by rw[Ad (n:=18*(b.C0.length:Int)) ω ω,Ad ω ω],
  Ba _ 65536 (l:=[b.N0]) (by simp;omega)]
 simp only[V,N_,aS,aR];cases inR (18*(b.C0.length:Int)+24) 65536 b.N0<;>rfl
def Gy(b:Bldg):ER b.A0 b.B0 b.N0 b.I0 b.F0 b.M0 b.L0 b.C0=A ((b.code,()),()):=by
 unfold ER Bldg.code;simp only[HH,V];cases inR 2 32 b.A0
 ·rfl
 cases hc:inR 1 8 (b.C0.length:Int)
 ·rfl
 have hlen:b.C0.length≤8:=by have:=(Dg.1 hc).2;omega
 have hg:(bif inR 1 16 b.B0 then A (((),inR 1 10000 b.I0,()),(b.tup,()))else A (((),E,()),(b.tup,())))=A (((),inR 1 16 b.B0&&inR 1 10000 b.I0,()),(b.tup,())):=by cases inR 1 16 b.B0<;>rfl
 simp only[Bldg.tup]at hg;simp only[V_,J,hg,V];have hl:=Yk b hlen (inR 1 16 b.B0&&inR 1 10000 b.I0);simp only[Bldg.tup]at hl;rw[hl,V];cases inR 1 16 b.B0&&inR 1 10000 b.I0&&b.C0.all (Br b.A0)
 ·rfl
 simp only[V_,J];unfold Bldg.loadsOK;cases(Go.FloatKind.format Go.FloatKind.f64).order 0 b.F0==A Ordering.lt
 ·rfl
 cases(Go.FloatKind.format Go.FloatKind.f64).order b.F0 b.M0==A Ordering.lt
 ·rfl
 cases(Go.FloatKind.format Go.FloatKind.f64).order b.M0 b.L0==A Ordering.lt
 ·rfl
 simp only[O,a5_];cases((Go.FloatKind.format Go.FloatKind.f64).order b.L0 9218868437227405311==A Ordering.lt||(Go.FloatKind.format Go.FloatKind.f64).order b.L0 9218868437227405311==A Ordering.eq)
 ·rfl
 simp only[V_,J];rw[show U.wrap (aD U (18*(b.C0.length:Int))+24)=18*(b.C0.length:Int)+24 by rw[Ad (n:=18*(b.C0.length:Int)) ω ω,Ad ω ω]];cases inR (18*(b.C0.length:Int)+24) 65536 b.N0<;>rfl
def EU(fl i:Nat):Car:=⟨100,2,6,5,4,2,3,10,((i%fl:Nat):Int)⟩
def As(fl ca:Nat):Bldg:=⟨fl,1,4000,30,4591870180066957722,4605380978949069210,4607632778762754458,(aQ ca).map (EU fl)⟩
def Bldg.none:Bldg:=⟨0,0,0,0,0,0,0,[]⟩
def Wk{fl ca:Nat}(h1:1≤fl)(h2:ca≤8):KH fl ca=A (((),()),((As fl ca).tup,())):=by
 have key:∀(m i:Nat),i+m=ca→aC (λx=>letI a:=x.2.2.1.2.2;letI b:=x.2.1.2.2;letI d:=b.2.2;letI f:=a.2.2;EY x.1.1 x.1.2.1 x.1.2.2.2.2.1 x.2.1.1 x.2.1.2.1 b.1 b.2.1 d.1 d.2.1 d.2.2.1 d.2.2.2.1 x.2.2.1.1 x.2.2.1.2.1 a.1 a.2.1 f.1 f.2.1 f.2.2.1 f.2.2.2.1) (m+1) (((fl:Int),(ca:Int),(),(),(i:Int),()),(Bldg.none.tup,(As fl i).tup,()))=A (((),(),()),(Bldg.none.tup,(As fl ca).tup,())):=by
  intro m;induction m with
  |zero=>
   intro i hi';refine Ao ?_;show EY (fl:Int) (ca:Int) (i:Int) Bldg.none.A0 Bldg.none.B0 Bldg.none.N0 Bldg.none.I0 Bldg.none.F0 Bldg.none.M0 Bldg.none.L0 Bldg.none.C0 (As fl i).A0 (As fl i).B0 (As fl i).N0 (As fl i).I0 (As fl i).F0 (As fl i).M0 (As fl i).L0 (As fl i).C0=_;unfold EY;have e:decide ((i:Int)<(ca:Int))=E:=by simp;omega
   rw[e,show i=ca by omega];rfl
  |succ m ih=>
   intro i hi';refine(Am (x':=(((fl:Int),(ca:Int),(),(),((i+1:Nat):Int),()),(Bldg.none.tup,(As fl (i+1)).tup,()))) ?_).trans (ih (i+1) ω);show EY (fl:Int) (ca:Int) (i:Int) Bldg.none.A0 Bldg.none.B0 Bldg.none.N0 Bldg.none.I0 Bldg.none.F0 Bldg.none.M0 Bldg.none.L0 Bldg.none.C0 (As fl i).A0 (As fl i).B0 (As fl i).N0 (As fl i).I0 (As fl i).F0 (As fl i).M0 (As fl i).L0 (As fl i).C0=_;unfold EY;have e:decide ((i:Int)<(ca:Int))=H:=by simp;omega
   have w:U.wrap ((i:Int)+1)=((i+1:Nat):Int):=by rw[Ad ω ω];omega
   have hz:((fl:Int) !=0)=H:=by simp;omega
   have hc:∀c:Car,aH ((As fl i).C0.length+[c].length) 2147483648=H:=λc=>DC (by simp[As];omega);have ht:aB (i:Int) (fl:Int)=((i%fl:Nat):Int):=by rw[Int.tmod_eq_emod_of_nonneg ω];norm_cast
   simp only[e,hz,hc,w,ht,O];have hs:(As fl (i+1)).C0=(As fl i).C0++[EU fl i]:=by simp[As,List.range_succ]
   simp only[Bldg.tup,hs];rfl
 unfold KH;have h0:GD (((fl:Int),(ca:Int),(),(),(0:Int),()),(Bldg.none.tup,(As fl 0).tup,()))=_:=Bg (key ca 0 ω) ω;rw[show GD (((fl:Int),(ca:Int),(),(),(0:Int),()),(((0:Int),(0:Int),(0:Int),(0:Int),0,0,0,([]:List Car),()),((fl:Int),(1:Int),(4000:Int),(30:Int),4591870180066957722,4605380978949069210,4607632778762754458,([]:List Car),()),()))=_ from h0];rfl
end Go.Ovl
namespace Go.Ovl
open Go Go.Ab
variable{b:Bldg}{e:Z}{n:Int}{α:Type}{i:Nat}{l:List α}
structure Bldg.small(b:Bldg):Prop where
 lo:2≤b.A0
 hi:b.A0≤8
def Mb(d:α)(hi:i<l.length):l.getD i d∈l:=by simp only[q_,f_ hi,Option.getD_some];exact a8_ hi
def Ao9{P:α→Prop}(h:∀e∈l,P e){d:α}(hi:i<l.length):P (l.getD i d):=h _ (Mb d hi)
def Hb(h:b.code=0):1≤b.C0.length∧b.C0.length≤8:=by
 unfold Bldg.code at h;cases h1:inR 1 8 (b.C0.length:Int)with
 |true=>have:=Dg.1 h1;omega
 |false=>rw[h1]at h;cases h2:inR 2 32 b.A0<;>rw[h2]at h<;>simp at h
structure Img where
 K5:List Int
 L5:List Bool
 M5:List Bool
 B5:List Entry
def Pw(fl floor dir:Int):Bool:=(dir==1&&inR 0 (fl-2) floor)||(dir==2&&inR 1 (fl-1) floor)
def Tl{fl:Int}(h:0≤fl∧fl<100)(floor dir:Int):Gm fl floor dir=A ((Pw fl floor dir,()),()):=by
 have w1:U.wrap (fl-1)=fl-1:=Ad ω ω;have w2:U.wrap (fl-2)=fl-2:=Ad ω ω;have k:∀lo hi:Int,AQ lo hi [floor]=A ((inR lo hi floor,()),()):=λlo hi=>by rw[Ba lo hi (show [floor].length≤maxLen from(show 1≤maxLen by decide))];simp
 unfold Gm Pw;rw[w1,w2,k,k];cases dir==1<;>cases dir==2<;>cases inR 0 (fl-2) floor<;>rfl
def Kp(b:Bldg)(floor dir:Int):Bool:=b.code==0&&Pw b.A0 floor dir
def Tj(hb:b.small)(floor dir:Int):CL b.A0 b.B0 b.N0 b.I0 b.F0 b.M0 b.L0 b.C0 floor dir=A ((Kp b floor dir,()),()):=by unfold CL Kp;rw[HM,Tl ⟨by have:=hb.lo;omega,by have:=hb.hi;omega⟩];simp only[V];cases b.code==0<;>rfl
def Zm(hb:b.small)(floor dir:Int):KM b.A0 b.B0 b.N0 b.I0 b.F0 b.M0 b.L0 b.C0 floor dir=A ((Kp b floor dir,()),()):=by have lo:=hb.lo;have hi:=hb.hi;have w1:U.wrap (b.A0-1)=b.A0-1:=Ad ω ω;have w2:U.wrap (b.A0-2)=b.A0-2:=Ad ω ω;unfold KM Kp Pw;rw[Gy,w1,w2,HH,HH];simp only[V,bne];cases b.code==0<;>cases dir==1<;>cases dir==2<;>cases inR 0 (b.A0-2) floor<;>rfl
section
variable{b:Bldg}(hb:b.small)(m:Img)
include hb
end
def AZ(n lo hi:Int):Bool:=decide (lo≤n)&&decide (n≤hi)
def Am0(n lo hi:Int):Ev n lo hi=A ((AZ n lo hi,()),()):=by unfold Ev AZ;cases decide (lo≤n)<;>rfl
def Amm(n lo hi:Int):LH n lo hi=A ((AZ n lo hi,()),()):=by unfold LH AZ;cases decide (lo≤n)<;>rfl
def Cb(b:Bldg)(e:Z):Bool:=
 let car:=AZ e.Q0 0 ((b.C0.length:Int)-1)
 let plain:=e.D0==0&&e.E0==0
 bif e.K0==1 then plain&&(e.Q0==0&&AZ e.N 1 5000)else
 bif e.K0==2 then Kp b e.D0 e.E0&&(e.Q0==0&&e.N==0)else
 bif e.K0==3 then car&&(AZ e.D0 0 (b.A0-1)&&(e.E0==0&&e.N==0))else
 bif e.K0==4 then plain&&(car&&AZ e.N 0 1000)else
 bif e.K0==5 then plain&&(car&&AZ e.N 0 10000)else
 bif e.K0==6 then plain&&(car&&AZ e.N 1 8)else
 bif e.K0==7 then plain&&(e.Q0==0&&e.N==0)else
 bif e.K0==8 then plain&&(e.Q0==0&&AZ e.N 0 100000)else E
def Aqw(hb:b.small)(hc:b.C0.length≤1000)(e:Z):EX b.A0 b.B0 b.N0 b.I0 b.F0 b.M0 b.L0 b.C0 e.K0 e.D0 e.E0 e.Q0 e.N=A ((Cb b e,()),()):=by
 have hf:=hb.1;have hf2:=hb.2;unfold EX Cb;simp only[Am0,V,Ad (n:=(b.C0.length:Int)-1) ω ω,Ad (n:=b.A0-1) ω ω];have hI:=Tj hb e.D0 e.E0;generalize AZ e.Q0 0 ((b.C0.length:Int)-1)=car;cases h1:e.K0==1
 ·cases h2:e.K0==2
  ·cases h3:e.K0==3
   ·cases h4:e.K0==4
    ·cases h5:e.K0==5
     ·cases h6:e.K0==6
      ·cases h7:e.K0==7
       ·cases h8:e.K0==8
        ·cases e.D0==0<;>simp only[O,J,V,h1,h2,h3,h4,h5,h6,h7,h8]
        ·cases e.D0==0<;>(try simp only[O,J,V,h1,h2,h3,h4,h5,h6,h7,h8])<;>cases e.E0==0<;>(try simp only[O,J,V])<;>cases e.Q0==0<;>rfl
       ·cases e.D0==0<;>(try simp only[O,J,V,h1,h2,h3,h4,h5,h6,h7])<;>cases e.E0==0<;>(try simp only[O,J,V])<;>cases e.Q0==0<;>rfl
      ·cases e.D0==0<;>(try simp only[O,J,V,h1,h2,h3,h4,h5,h6])<;>cases e.E0==0<;>(try simp only[O,J,V])<;>cases car<;>rfl
     ·cases e.D0==0<;>(try simp only[O,J,V,h1,h2,h3,h4,h5])<;>cases e.E0==0<;>(try simp only[O,J,V])<;>cases car<;>rfl
    ·cases e.D0==0<;>(try simp only[O,J,V,h1,h2,h3,h4])<;>cases e.E0==0<;>(try simp only[O,J,V])<;>cases car<;>rfl
   ·have hw:U.wrap (b.A0-1)=b.A0-1:=Ad ω ω;cases e.D0==0<;>(try simp only[O,J,V,h1,h2,h3,hw])<;>generalize AZ e.D0 0 (b.A0-1)=fl<;>cases car<;>cases fl<;>cases e.E0==0<;>rfl
  ·generalize Kp b e.D0 e.E0=ic at hI⊢;cases e.D0==0<;>(try simp only[O,J,V,h1,h2,hI])<;>cases ic<;>cases e.Q0==0<;>rfl
 ·cases e.D0==0<;>(try simp only[O,J,V,h1])<;>cases e.E0==0<;>(try simp only[O,J,V])<;>cases e.Q0==0<;>rfl
def Xr(hb:b.small)(hc:b.C0.length≤1000)(e:Z):Mx b.A0 b.B0 b.N0 b.I0 b.F0 b.M0 b.L0 b.C0 e.K0 e.D0 e.E0 e.Q0 e.N=A ((Cb b e,()),()):=by
 have hf:=hb.1;have hf2:=hb.2;unfold Mx Cb;simp only[Amm,V,Ad (n:=(b.C0.length:Int)-1) ω ω,Ad (n:=b.A0-1) ω ω];have hI:=Zm hb e.D0 e.E0;generalize AZ e.Q0 0 ((b.C0.length:Int)-1)=car;generalize AZ e.D0 0 (b.A0-1)=fl;cases h1:e.K0==1
 ·cases h2:e.K0==2
  ·cases h3:e.K0==3
   ·cases h4:e.K0==4
    ·cases h5:e.K0==5
     ·cases h6:e.K0==6
      ·cases h7:e.K0==7
       ·cases h8:e.K0==8
        ·cases e.D0==0<;>simp only[O,J,V,h1,h2,h3,h4,h5,h6,h7,h8]
        ·cases e.D0==0<;>(try simp only[O,J,V,h1,h2,h3,h4,h5,h6,h7,h8])<;>cases e.E0==0<;>(try simp only[O,J,V])<;>cases e.Q0==0<;>rfl
       ·cases e.D0==0<;>(try simp only[O,J,V,h1,h2,h3,h4,h5,h6,h7])<;>cases e.E0==0<;>(try simp only[O,J,V])<;>cases e.Q0==0<;>rfl
      ·cases e.D0==0<;>(try simp only[O,J,V,h1,h2,h3,h4,h5,h6])<;>cases e.E0==0<;>(try simp only[O,J,V])<;>cases car<;>rfl
     ·cases e.D0==0<;>(try simp only[O,J,V,h1,h2,h3,h4,h5])<;>cases e.E0==0<;>(try simp only[O,J,V])<;>cases car<;>rfl
    ·cases e.D0==0<;>(try simp only[O,J,V,h1,h2,h3,h4])<;>cases e.E0==0<;>(try simp only[O,J,V])<;>cases car<;>rfl
   ·cases e.D0==0<;>(try simp only[O,J,V,h1,h2,h3])<;>cases car<;>(try simp only[O,J,V])<;>cases fl<;>(try simp only[O,J,V])<;>cases e.E0==0<;>rfl
  ·generalize Kp b e.D0 e.E0=ic at hI⊢;cases e.D0==0<;>(try simp only[O,J,V,h1,h2])<;>cases e.Q0==0<;>cases e.N==0<;>(try simp only[O,J,V,hI])<;>cases ic<;>rfl
 ·cases e.D0==0<;>(try simp only[O,J,V,h1])<;>cases e.E0==0<;>(try simp only[O,J,V])<;>cases e.Q0==0<;>rfl
abbrev Bldg.tp(b:Bldg):Int×Int×Int×Int×Nat×Nat×Nat×List Car×Unit:=(b.A0,b.B0,b.N0,b.I0,b.F0,b.M0,b.L0,b.C0,())
def noEv:Z:=⟨0,0,0,0,0⟩
def WR(b:Bldg):Option Z→Sum ((Unit×Unit)×((Int×Int×Int×Int×Int×Unit)×Unit)) ((Unit×Int×Unit)×((Int×Int×Int×Int×Int×Unit)×Unit))
 |none=>.inl (((),()),(noEv.tup,()))
 |some e=>.inr (bif Cb b e then(((),0,()),(e.tup,()))else(((),2,()),(noEv.tup,())))
noncomputable abbrev sEv(x:(List ByteArray×Unit×Unit×List script_form×Int×Int×Unit)×((Int×Int×Int×Int×Nat×Nat×Nat×List Car×Unit)×(Int×Int×Int×Int×Int×Unit)×Unit)):=Kb x.1.1 x.1.2.2.2.1 x.1.2.2.2.2.1 x.1.2.2.2.2.2.1 x.2.1.1 x.2.1.2.1 x.2.1.2.2.1 x.2.1.2.2.2.1 x.2.1.2.2.2.2.1 x.2.1.2.2.2.2.2.1 x.2.1.2.2.2.2.2.2.1 x.2.1.2.2.2.2.2.2.2.1 x.2.2.1.1 x.2.2.1.2.1 x.2.2.1.2.2.1 x.2.2.1.2.2.2.1 x.2.2.1.2.2.2.2.1
def Ao5:∀p∈formsB,p.1.length≤100∧p.1.all (λb=>aE b.toNat 128)=H:=by decide
section
variable{b:Bldg}(hb:b.small)(hc:b.C0.length≤1000)
include hb hc
theorem WS{ws:List Bs}(hws:ws.length≤4294967296):∀(m i:Nat),i+m=16→aC sEv (m+1) ((ws.map B,(),(),formsB.map GO,16,(i:Int),()),(b.tp,noEv.tup,()))=A (WR b ((formsB.drop i).findSome? λp=>Mp (DD [] p.1) p.2 ws))
 |0,i,hi=>by obtain rfl:i=16:=ω;rfl
 |m+1,i,hi=>by
  have hlt:i<formsB.length:=by rw[show formsB.length=16 from rfl];omega
  have hm:formsB.getD i ([],noEv)∈formsB:=by rw[q_,f_ hlt];exact a8_ hlt
  have hg:(formsB.map GO).getD i (script_form.mk (aJ (aI [])) 0 0 0 0 0)=GO (formsB.getD i ([],noEv)):=by simp[q_,f_ hlt]
  rw[GN ([],noEv) hlt,List.findSome?_cons];generalize formsB.getD i ([],noEv)=p at hm hg⊢;obtain⟨y,h1,h2⟩:=Ac1 (Ao5 p hm) p.2 hws;have hin:inB (i:Int) (formsB.map GO).length=H:=by rw[B_];exact Gs hlt
  have hd:decide ((i:Int)<16)=H:=h_ ω;obtain⟨r0,hr0⟩:∃r0,sEv ((ws.map B,(),(),formsB.map GO,16,(i:Int),()),(b.tp,noEv.tup,()))=r0:=⟨_,rfl⟩;have hs:=hr0;unfold sEv Kb at hs;have h1':Dc (GO p).words (GO p).event_Kind (GO p).event_Floor (GO p).event_Dir (GO p).event_Car (GO p).event_N (ws.map B)=A y:=h1;simp only[hd,hin,O,s_,hg,h1',V]at hs;cases hr:Mp (DD [] p.1) p.2 ws with
  |none=>rw[hr]at h2;simp only[h2,J,Ad (n:=(i:Int)+1) ω ω]at hs;rw[Am (hr0.trans hs.symm)];exact WS hws m (i+1) ω
  |some e=>
   rw[hr]at h2;have h2:y=(((),H,()),(e.tup,())):=h2;subst h2;simp only[O,Aqw hb hc e,V]at hs;have hv:=hr0.trans hs.symm;cases hve:Cb b e with
   |true=>rw[hve]at hv;rw[Ao hv,WR,hve];rfl
   |false=>rw[hve]at hv;rw[Ao hv,WR,hve];rfl
def Af3(b:Bldg):Option Z→(Unit×Int×Unit)×((Int×Int×Int×Int×Int×Unit)×Unit)
 |none=>(((),300,()),(noEv.tup,()))
 |some e=>bif Cb b e then(((),0,()),(e.tup,()))else(((),2,()),(noEv.tup,()))
theorem Ao0{ws:List Bs}(hws:ws.length≤4294967296):IQ b.A0 b.B0 b.N0 b.I0 b.F0 b.M0 b.L0 b.C0 (ws.map B)=A (Af3 b (evR ws)):=by
 have he:(formsB.findSome? λp=>Mp (DD [] p.1) p.2 ws)=evR ws:=by rw[← Alv,Aa4,← Al0,List.findSome?_map];rfl
 have hl:Fj ((ws.map B,(),(),formsB.map GO,16,0,()),(b.tp,noEv.tup,()))=A (WR b (evR ws)):=by rw[← he];exact Bg (WS hb hc hws 16 0 rfl) (by decide)
 unfold IQ;rw[Ao4];refine Ar rfl ?_;refine Ar hl ?_;cases evR ws with
 |none=>rfl
 |some e=>simp only[WR,Af3]
omit hb hc in
theorem Aqx{l:Bs}(hl:l.length<4294967281):IR (B l)=A (((FX l).map B,()),()):=by
 have hu:(Bx 35 l).length≤l.length:=by
  induction l with
  |nil=>exact A_ _
  |cons b l ih=>
   rw[Bx];cases b==35 with
   |true=>exact G_ _
   |false=>rw[J,g_,g_];have:=ih (by rw[g_]at hl;omega);omega
 have h1:Nc (B l) (aJ (aI [35]))=A ((B (Bx 35 l),B (NT 35 l),RJ 35 l,()),()):=by show(bif aE (B l).size 4294967281&&H then _ else aA)=_;rw[Az,Ey hl];rfl
 have h2:FK (B (Bx 35 l)) (aJ (aI [32]))=A (((AO 32 (Bx 35 l)).map B,()),()):=by show(bif aE (B (Bx 35 l)).size 4294967281&&H then _ else aA)=_;rw[Az,Ey ω];rfl
 have hs:=Sa 32 (Bx 35 l);have hne:0<(AO 32 (Bx 35 l)).length:=by
  cases Bx 35 l with
  |nil=>exact bB _
  |cons b l=>
   rw[AO];cases b==32 with
   |true=>exact bB _
   |false=>cases AO 32 l<;>exact bB _
 have h3:Cp ((AO 32 (Bx 35 l)).map B)=A (((FX l).map B,()),()):=by
  show Aaw _=_;unfold Aaw FX;rw[B_,Ey hne,DC ω,List.filter_map]
  have:((λs:ByteArray=>!Nat.beq s.size 0)∘B)=λw=>!w.isEmpty:=by funext w;show(!Nat.beq (B w).size 0)=_;rw[Az];cases w<;>rfl
  rw[this];rfl
 unfold IR;exact Ar h1 (Ar h2 (Ar h3 rfl))
def FW(b:Bldg):Nat→List Z→List Bs→List Z×Int×Int
 |_,out,[]=>(out,0,0)
 |i,out,l::r=>match FX l with
  |[]=>FW b (i+1) out r
  |w::ws=>match evR (w::ws)with
   |none=>([],(i:Int)+1,300)
   |some e=>bif Cb b e then FW b (i+1) (out++[e]) r else([],(i:Int)+1,2)
noncomputable abbrev Aqc(x:(Unit×List Z×List ByteArray×Int×Int×Unit)×((Int×Int×Int×Int×Nat×Nat×Nat×List Car×Unit)×Unit)):=Fk x.1.2.1 x.1.2.2.1 x.1.2.2.2.1 x.1.2.2.2.2.1 x.2.1.1 x.2.1.2.1 x.2.1.2.2.1 x.2.1.2.2.2.1 x.2.1.2.2.2.2.1 x.2.1.2.2.2.2.2.1 x.2.1.2.2.2.2.2.2.1 x.2.1.2.2.2.2.2.2.2.1
def QO(r:List Z×Int×Int):Sum ((List Z×Unit)×Unit) ((List Z×Int×Int×Unit)×Unit):=bif r.2.2==0 then .inl ((r.1,()),())else .inr ((r.1,r.2.1,r.2.2,()),())
theorem RS{ls:List Bs}(hn:ls.length≤100000)(hl:∀l∈ls,l.length≤100000):∀(m i:Nat) (out:List Z),i+m=ls.length→out.length≤i→
  aC Aqc (m+1) (((),out,ls.map B,(ls.length:Int),(i:Int),()),(b.tp,()))=A (QO (FW b i out (ls.drop i)))
 |0,i,out,hi,_=>by obtain rfl:i=ls.length:=ω;rw[a9_];refine Ao ?_;show Fk _ _ _ _ _ _ _ _ _ _ _ _=_;simp only[lp,Un.u,Fk,Lp,J];rfl
 |m+1,i,out,hi,ho=>by
  have hlt:i<ls.length:=ω;have hg:=Hu hlt;rw[GN ([]:Bs) hlt,FW];have hll:(ls.getD i []).length≤100000:=by rw[q_,f_ hlt];exact hl _ (a8_ hlt)
  generalize ls.getD i []=l at hg hll⊢;have hin:inB (i:Int) ls.length=H:=Gs hlt;have hw:U.wrap ((i:Int)+1)=((i+1:Nat):Int):=Ad ω ω;have hws:(FX l).length≤4294967296:=by
   refine a3_ (bD _ _) (a3_ (Sa _ _) ?_)
   have:(Bx 35 l).length≤l.length:=by
    clear hg hll;induction l with
    |nil=>exact A_ _
    |cons b l ih=>
     rw[Bx];cases b==35 with
     |true=>exact G_ _
     |false=>rw[J,g_,g_];omega
   omega
  obtain⟨r0,hr0⟩:∃r0,Aqc (((),out,ls.map B,(ls.length:Int),(i:Int),()),(b.tp,()))=r0:=⟨_,rfl⟩;have hs:=hr0;unfold Aqc Fk at hs;simp only[Jp hlt,hin,O,s_,hg,Aqx (l:=l) ω,V,B_,hw]at hs;cases hwv:FX l with
  |nil=>rw[hwv]at hs;rw[Am (hr0.trans hs.symm)];exact RS hn hl m (i+1) out ω ω
  |cons w ws=>
   rw[hwv]at hs hws;rw[show((((w::ws).length:Nat):Int)==0)=E from EL (by rw[g_];omega),Ao0 hb hc hws]at hs;simp only[J,V]at hs;cases he:evR (w::ws)with
   |none=>rw[he]at hs;rw[Ao (hr0.trans hs.symm)];simp only[he];rfl
   |some e=>
    rw[he]at hs;simp only[Af3]at hs;cases hv:Cb b e with
    |false=>rw[hv]at hs;rw[Ao (hr0.trans hs.symm)];simp only[he,hv];rfl
    |true=>rw[hv]at hs;simp only[O,E_,DC (ω:out.length+1≤2147483648),bne_self_eq_false,J]at hs;rw[Am (hr0.trans hs.symm)];simp only[he,hv,O];exact RS hn hl m (i+1) (out++[e]) ω (by rw[i_,E_];omega)
end
def mt(e:Z)(p:Bs×Z):Bool:=p.2.K0==e.K0&&(p.2.E0==e.E0&&(bif e.K0==6 then p.2.N==e.N else H))
def Bn2(e:Z)(w:Bs):Bs:=if w=[78]then BP e.N else if w=[70]then BP e.D0 else if w=[67]then BP e.Q0 else w
def wsV(e:Z):List Bs:=match formsB.find? (mt e)with
 |some p=>(DD [] p.1).map (Bn2 e)
 |none=>[]
def FS(e:Z):Bs:=DF [32] (wsV e)
inductive Vev:Event→Prop
 |wait (n:Int) (h:0≤n∧n<1000000):Vev ⟨1,0,0,0,n⟩
 |up (f:Int) (h:0≤f∧f<1000000):Vev ⟨2,f,1,0,0⟩
 |down (f:Int) (h:0≤f∧f<1000000):Vev ⟨2,f,2,0,0⟩
 |car (c f:Int) (h:0≤c∧c<1000000) (h2:0≤f∧f<1000000):Vev ⟨3,f,0,c,0⟩
 |load (c n:Int) (h:0≤c∧c<1000000) (h2:0≤n∧n<1000000):Vev ⟨4,0,0,c,n⟩
 |block (c n:Int) (h:0≤c∧c<1000000) (h2:0≤n∧n<1000000):Vev ⟨5,0,0,c,n⟩
 |cmd (c:Int) (k:Fin 8) (h:0≤c∧c<1000000):Vev ⟨6,0,0,c,(k.val:Int)+1⟩
 |bad:Vev ⟨7,0,0,0,0⟩
 |crash (n:Int) (h:0≤n∧n<1000000):Vev ⟨8,0,0,0,n⟩
def CI{lo hi:Int}:AZ n lo hi=H↔lo≤n∧n≤hi:=by simp[AZ]
def Amz(hb:b.small)(hc:b.C0.length≤1000)(h:Cb b e=H):Vev e:=by
 obtain⟨K,F,D,C,N⟩:=e;have hf:=hb.1;have hf2:=hb.2;unfold Cb at h;simp only at h;by_cases h1:K=1
 ·subst h1;simp only[P_,O,b_,beq_iff_eq,CI]at h;obtain⟨⟨rfl,rfl⟩,rfl,h⟩:=h;exact .wait N ⟨ω,ω⟩
 rw[EL h1,J]at h;by_cases h2:K=2
 ·subst h2;simp only[P_,O,b_,beq_iff_eq,Kp,Pw]at h;obtain⟨⟨_,hcl⟩,rfl,rfl⟩:=h;by_cases d1:D=1
  ·subst d1;refine .up F ?_;simp[Dg]at hcl;omega
  ·by_cases d2:D=2
   ·subst d2;refine .down F ?_;simp[Dg]at hcl;omega
   ·simp[d1,d2]at hcl
 rw[EL h2,J]at h;by_cases h3:K=3
 ·subst h3;simp only[P_,O,b_,beq_iff_eq,CI]at h;obtain⟨hC,hF,rfl,rfl⟩:=h;exact .car C F ⟨ω,ω⟩ ⟨ω,ω⟩
 rw[EL h3,J]at h;by_cases h4:K=4
 ·subst h4;simp only[P_,O,b_,beq_iff_eq,CI]at h;obtain⟨⟨rfl,rfl⟩,hC,hN⟩:=h;exact .load C N ⟨ω,ω⟩ ⟨ω,ω⟩
 rw[EL h4,J]at h;by_cases h5:K=5
 ·subst h5;simp only[P_,O,b_,beq_iff_eq,CI]at h;obtain⟨⟨rfl,rfl⟩,hC,hN⟩:=h;exact .block C N ⟨ω,ω⟩ ⟨ω,ω⟩
 rw[EL h5,J]at h;by_cases h6:K=6
 ·subst h6;simp only[P_,O,b_,beq_iff_eq,CI]at h;obtain⟨⟨rfl,rfl⟩,hC,hN⟩:=h;obtain⟨k,rfl⟩:∃k:Fin 8,N=(k.val:Int)+1:=⟨⟨(N-1).toNat,ω⟩,by show N=((N-1).toNat:Int)+1;omega⟩
  exact .cmd C k ⟨ω,ω⟩
 rw[EL h6,J]at h;by_cases h7:K=7
 ·subst h7;simp only[P_,O,b_,beq_iff_eq]at h;obtain⟨⟨rfl,rfl⟩,rfl,rfl⟩:=h;exact .bad
 rw[EL h7,J]at h;by_cases h8:K=8
 ·subst h8;simp only[P_,O,b_,beq_iff_eq,CI]at h;obtain⟨⟨rfl,rfl⟩,rfl,h⟩:=h;exact .crash N ⟨ω,ω⟩
 rw[EL h8]at h;cases h
def Aqy(n:Int):wsV ⟨1,0,0,0,n⟩=[[119,97,105,116],BP n]:=rfl
def Am3(f:Int):wsV ⟨2,f,1,0,0⟩=[[112,114,101,115,115],BP f,[117,112]]:=rfl
def Aci(f:Int):wsV ⟨2,f,2,0,0⟩=[[112,114,101,115,115],BP f,[100,111,119,110]]:=rfl
def Ad3(c f:Int):wsV ⟨3,f,0,c,0⟩=[[99,97,114],BP c,BP f]:=rfl
def Acj(c n:Int):wsV ⟨4,0,0,c,n⟩=[[108,111,97,100],BP c,BP n]:=rfl
def Zf(c n:Int):wsV ⟨5,0,0,c,n⟩=[[98,108,111,99,107],BP c,BP n]:=rfl
def Aug:wsV ⟨7,0,0,0,0⟩=[[98,97,100]]:=rfl
def Am2(n:Int):wsV ⟨8,0,0,0,n⟩=[[99,114,97,115,104],BP n]:=rfl
def Bkd:Fin 8→Bs:=λk=>[[100,114,97,105,110],[99,97,110,99,101,108],[114,101,99,111,110,110,101,99,116],[99,111,109,109,105,115,115,105,111,110],[97,98,111,114,116],[97,99,99,101,112,116],[108,101,97,118,101],[114,101,115,101,116]].getD k.val []
def Ad4(c:Int)(k:Fin 8):wsV ⟨6,0,0,c,(k.val:Int)+1⟩=[Bkd k,BP c]:=by
 obtain⟨k,hk⟩:=k
 match k,hk with
 |0,_=>rfl
 |1,_=>rfl
 |2,_=>rfl
 |3,_=>rfl
 |4,_=>rfl
 |5,_=>rfl
 |6,_=>rfl
 |7,_=>rfl
def Ach(w:Bs):Prop:=w≠[]∧32∉w∧35∉w∧10∉w∧w.length≤10
def DG(h:0≤n∧n<1000000):Ach (BP n):=by obtain⟨h1,h2,h3⟩:=PA h.1 h.2;exact⟨h1,λe=>absurd (h2 _ e).1 (by decide),λe=>absurd (h2 _ e).1 (by decide),λe=>absurd (h2 _ e).1 (by decide),ω⟩
def Bez(h:Vev e):wsV e≠[]∧(wsV e).length≤3∧∀w∈wsV e,Ach w:=by
 have W:∀w:Bs,(w≠[]∧32∉w∧35∉w∧10∉w∧w.length≤10)→Ach w:=λ_ h=>h;cases h with
 |wait n h=>rw[Aqy];exact⟨by simp,by simp,by simp only[aP];exact⟨W _ (by decide),DG h,by simp⟩⟩
 |up f h=>rw[Am3];exact⟨by simp,by simp,by simp only[aP];exact⟨W _ (by decide),DG h,W _ (by decide),by simp⟩⟩
 |down f h=>rw[Aci];exact⟨by simp,by simp,by simp only[aP];exact⟨W _ (by decide),DG h,W _ (by decide),by simp⟩⟩
 |car c f h h2=>rw[Ad3];exact⟨by simp,by simp,by simp only[aP];exact⟨W _ (by decide),DG h,DG h2,by simp⟩⟩
 |load c n h h2=>rw[Acj];exact⟨by simp,by simp,by simp only[aP];exact⟨W _ (by decide),DG h,DG h2,by simp⟩⟩
 |block c n h h2=>rw[Zf];exact⟨by simp,by simp,by simp only[aP];exact⟨W _ (by decide),DG h,DG h2,by simp⟩⟩
 |cmd c k h=>rw[Ad4];exact⟨by simp,by simp,by simp only[aP];exact⟨W _ (by revert k;decide),DG h,by simp⟩⟩
 |bad=>rw[Aug];exact⟨by simp,by simp,by simp only[aP];exact⟨W _ (by decide),by simp⟩⟩
 |crash n h=>rw[Am2];exact⟨by simp,by simp,by simp only[aP];exact⟨W _ (by decide),DG h,by simp⟩⟩
def Vd{c:UInt8}{K:Nat}:∀{ws:List Bs},(∀w∈ws,w.length≤K)→(DF [c] ws).length≤ws.length*(K+1)
 |[],_=>G_ _
 |[w],h=>by rw[DF,E_];have:=h w a1_;omega
 |w::v::r,h=>by have h1:=h w a1_;have h2:=Vd (c:=c) (ws:=v::r) λx hx=>h x (X_ _ hx);rw[DF,i_,i_,show(w::v::r).length=(v::r).length+1 from rfl,J_,E_];omega
def Abr(h:Vev e):FX (FS e)=wsV e∧10∉FS e∧(FS e).length≤33:=by
 obtain⟨h1,h2,h3⟩:=Bez h;refine⟨Ac9 h1 λw hw=>⟨(h3 w hw).1,(h3 w hw).2.1,(h3 w hw).2.2.1⟩,λe=>?_,?_⟩
 ·rcases VN e with e | ⟨w,hw,e⟩
  ·exact absurd e (by decide)
  ·exact(h3 w hw).2.2.2.1 e
 ·have:=Vd (c:=32) (K:=10) (ws:=wsV e) λw hw=>(h3 w hw).2.2.2.2
  rw[FS];omega
def Tp(h:0≤n∧n<1000000):BI n=A ((B (BP n),()),()):=by show(bif decide (0≤n)&&decide (n≤9223372036854775807)then _ else aA)=_;rw[h_ h.1,h_ (ω:n≤9223372036854775807)];rfl
def WE{a b:Bs}(ha:a.length≤1000)(hb:b.length≤1000):aH ((B a).size+(B b).size) 4611686018427387904=H:=by rw[Az,Az];exact DC ω
def Mt(a:Bs)(h:0≤n∧n<1000000)(ha:a.length≤100):((BI n).bind λy=>bif aH ((B a).size+y.1.1.size) 4611686018427387904 then A ((B a++y.1.1,()),())else aA)=A ((B (a++BP n),()),()):=by
 have:=(PA h.1 h.2).2.2
 refine Ar (Tp h) ?_;rw[WE ω ω,IU];rfl
def QV(a:Bs){o:Option ((ByteArray×Unit)×Unit)}{w:Bs}(ho:o=A ((B w,()),()))(h:0≤n∧n<1000000)(ha:a.length≤100)(hw:w.length≤100):
  ((BI n).bind λy=>bif aH ((B a).size+y.1.1.size) 4611686018427387904 then(bif aH ((B a++y.1.1).size+(B [32]).size) 4611686018427387904 then(o.bind λy5=>bif aH ((B a++y.1.1++B [32]).size+y5.1.1.size) 4611686018427387904 then A ((B a++y.1.1++B [32]++y5.1.1,()),())else aA)else aA)else aA)=A ((B (a++BP n++[32]++w),()),()):=by
 have hl:=(PA h.1 h.2).2.2;refine Ar (Tp h) ?_;show(bif aH ((B a).size+(B (BP n)).size) 4611686018427387904 then(bif aH ((B a++B (BP n)).size+(B [32]).size) 4611686018427387904 then(o.bind λy5=>bif aH ((B a++B (BP n)++B [32]).size+y5.1.1.size) 4611686018427387904 then A ((B a++B (BP n)++B [32]++y5.1.1,()),())else aA)else aA)else aA)=_;rw[WE ω ω,O,IU,WE (by rw[i_];omega) (by decide),O,IU];refine Ar ho ?_;show(bif aH ((B (a++BP n++[32])).size+(B w).size) 4611686018427387904 then A ((B (a++BP n++[32])++B w,()),())else aA)=_;rw[WE (by simp only[i_,E_];omega) ω,IU];rfl
def Ab3(h:Vev e):PN e.K0 e.D0 e.E0 e.Q0 e.N=A ((B (FS e),()),()):=by
 have L:∀{n:Int},0≤n∧n<1000000→(BP n).length≤100:=λh=>by have:=(PA h.1 h.2).2.2;omega
 cases h with
 |wait n h=>exact Mt [119,97,105,116,32] h (by decide)
 |up f h=>exact(QV [112,114,101,115,115,32] (show Mw 1=A ((B [117,112],()),())from rfl) h (by decide) (by decide)).trans (by rw[FS,Am3];simp[DF])
 |down f h=>exact(QV [112,114,101,115,115,32] (show Mw 2=A ((B [100,111,119,110],()),())from rfl) h (by decide) (by decide)).trans (by rw[FS,Aci];simp[DF])
 |car c f h h2=>exact(QV [99,97,114,32] (Tp h2) h (by decide) (L h2)).trans (by rw[FS,Ad3];simp[DF])
 |load c n h h2=>exact(QV [108,111,97,100,32] (Tp h2) h (by decide) (L h2)).trans (by rw[FS,Acj];simp[DF])
 |block c n h h2=>exact(QV [98,108,111,99,107,32] (Tp h2) h (by decide) (L h2)).trans (by rw[FS,Zf];simp[DF])
 |cmd c k h=>
  rw[FS,Ad4];obtain⟨k,hk⟩:=k
  match k,hk with
  |0,_=>exact Mt [100,114,97,105,110,32] h (by decide)
  |1,_=>exact Mt [99,97,110,99,101,108,32] h (by decide)
  |2,_=>exact Mt [114,101,99,111,110,110,101,99,116,32] h (by decide)
  |3,_=>exact Mt [99,111,109,109,105,115,115,105,111,110,32] h (by decide)
  |4,_=>exact Mt [97,98,111,114,116,32] h (by decide)
  |5,_=>exact Mt [97,99,99,101,112,116,32] h (by decide)
  |6,_=>exact Mt [108,101,97,118,101,32] h (by decide)
  |7,_=>exact Mt [114,101,115,101,116,32] h (by decide)
 |bad=>rfl
 |crash n h=>exact Mt [99,114,97,115,104,32] h (by decide)
end Go.Ovl
namespace Go.Ovl
open Go Go.Ab
variable{cs:List Car}{b:Bldg}{r w:List Bs}{l:List Z}{α:Type}{n:Int}{a:Bs}{t i:Nat}{c:Car}
def Ans{X Y:Type}{step:X→Option (Sum X Y)}{N:Nat}(hN:N≤100000)(g:Nat→X){y:Y}(h1:∀i,i<N→step (g i)=A (.inl (g (i+1))))(h2:step (g N)=A (.inr y)):aC step BZ (g 0)=A y:=Bg (VM N g y h1 h2 N 0 (p_ N)) ω
def QX{n:Nat}(hn:n≤100000)(h:i<n):U.wrap ((i:Int)+1)=((i+1:Nat):Int):=by rw[Ad ω ω];omega
def Ux{X Y:Type}{s:X→Option (Sum X Y)}(L:X→Option Y)(_:L=aC s BZ):X→Option (Sum X Y):=s
def Hv{X Y:Type}{s:X→Option (Sum X Y)}{L:X→Option Y}(h:L=aC s BZ){n:Nat}{x:X}{y:Y}(hi:aC (Ux L h) n x=A y)(hn:n≤18446744073709551616):L x=A y:=by rw[h];exact Bg hi hn
section
variable{α:Type}(f:α→α)(l:List α)
variable{l}(d:α)
end
section
variable{b:Bldg}(hb:b.small)(hc:b.C0.length≤1000)
include hb hc
noncomputable abbrev Aqe(x:(List Z×Unit×Bool×Int×Unit)×((Int×Int×Int×Int×Nat×Nat×Nat×List Car×Unit)×Unit)):=HD x.1.1 x.1.2.2.1 x.1.2.2.2.1 x.2.1.1 x.2.1.2.1 x.2.1.2.2.1 x.2.1.2.2.2.1 x.2.1.2.2.2.2.1 x.2.1.2.2.2.2.2.1 x.2.1.2.2.2.2.2.2.1 x.2.1.2.2.2.2.2.2.2.1
theorem Acf{l:List Z}(hl:l.length≤100000):∀(m i:Nat) (ok:Bool),i+m=l.length→aC Aqe (m+1) ((l,(),ok,(i:Int),()),(b.tp,()))=A ((ok&&(l.drop i).all (Cb b),()),())
 |0,i,ok,hi=>by obtain rfl:i=l.length:=ω;rw[a9_];refine Ao ?_;show HD _ _ _ _ _ _ _ _ _ _ _=_;simp only[lp,Un.u,HD,Lp,J,aS,aR]
 |m+1,i,ok,hi=>by
  have hlt:i<l.length:=ω;rw[GN noEv hlt,N_];obtain⟨r0,hr0⟩:∃r0,Aqe ((l,(),ok,(i:Int),()),(b.tp,()))=r0:=⟨_,rfl⟩;have hs:=hr0;unfold Aqe HD at hs;simp only[Jp hlt,Gs hlt,O,s_,Xr hb hc,V,QX hl hlt]at hs;rw[show(Event.mk 0 0 0 0 0)=noEv from rfl]at hs;have hs:A (Sum.inl ((l,(),ok&&Cb b (l.getD i noEv),((i+1:Nat):Int),()),(b.tp,())))=r0:=by rw[← hs];cases ok<;>simp only[O,J,V,QX hl hlt]<;>rfl
  rw[Am (hr0.trans hs.symm),Acf hl m (i+1) _ ω,Bool.and_assoc]
theorem Ab2(hl:l.length≤100000):Mi b.A0 b.B0 b.N0 b.I0 b.F0 b.M0 b.L0 b.C0 l=A ((b.code==0&&l.all (Cb b),()),()):=by
 unfold Mi;refine Ar (Gy b) (Ar (a:=((b.code==0&&l.all (Cb b),()),())) ?_ rfl)
 have:=Acf hb hc hl l.length 0 (b.code==0) (p_ _)
 rw[c2_]at this;exact Bg this ω
end
def mil(n:Int):Int:=bif decide ((1000000:Int)<n)then 1000000 else n
def tkE(n:Int)(e:Z):Int:=bif e.K0==1 then mil (n+mil (bif decide (e.N<0)then 0 else e.N))else bif e.K0==7 then mil (n+1)else bif e.K0==8 then mil (n+1)else n
def Uu(h:0≤n):0≤mil n∧mil n≤1000000:=by
 unfold mil;cases h2:decide ((1000000:Int)<n)with
 |true=>exact⟨show(0:Int)≤1000000 by decide,show(1000000:Int)≤1000000 by decide⟩
 |false=>exact⟨h,by have:=of_decide_eq_false h2;rw[J];omega⟩
def Bd7(h:n≤1000000):mil n=n:=by rw[mil,j_ ω];rfl
def As9(n:Int):0≤(bif decide (n<0)then(0:Int)else n):=by
 cases h:decide (n<0)with
 |true=>exact aO 0
 |false=>have:=of_decide_eq_false h;rw[J];omega
def Ath(h:0≤n∧n≤1000000)(e:Z):0≤tkE n e∧tkE n e≤1000000:=by
 unfold tkE;cases e.K0==1 with
 |true=>exact Uu (Int.add_nonneg h.1 (Uu (As9 _)).1)
 |false=>cases e.K0==7 with
  |true=>exact Uu ω
  |false=>cases e.K0==8 with
   |true=>exact Uu ω
   |false=>exact h
def Bew(l:List Z):Int:=l.foldl tkE 0
noncomputable abbrev Aqd(x:(List Z×Int×Int×Unit)×Unit):=HC x.1.1 x.1.2.1 x.1.2.2.1
def Ace{l:List Z}(hl:l.length≤100000):∀(m i:Nat) (n:Int),i+m=l.length→0≤n∧n≤1000000→aC Aqd (m+1) ((l,n,(i:Int),()),())=A (((l.drop i).foldl tkE n,()),())
 |0,i,n,hi,_=>by obtain rfl:i=l.length:=ω;rw[a9_];refine Ao ?_;show HC _ _ _=_;simp only[lp,Un.u,HC,Lp,J,List.foldl_nil]
 |m+1,i,n,hi,hn=>by
  have hlt:i<l.length:=ω;rw[GN noEv hlt,List.foldl_cons];obtain⟨r0,hr0⟩:∃r0,Aqd ((l,n,(i:Int),()),())=r0:=⟨_,rfl⟩;have hs:=hr0;have hp:=Uu (As9 (l.getD i noEv).N);have w1:U.wrap (n+mil (bif decide ((l.getD i noEv).N<0)then 0 else(l.getD i noEv).N))=_:=Ad ω ω;have w2:U.wrap (n+1)=_:=Ad ω ω;have hq:(bif decide (0<mil (l.getD i noEv).N)then mil (l.getD i noEv).N else 0)=mil (bif decide ((l.getD i noEv).N<0)then 0 else(l.getD i noEv).N):=by
   generalize(l.getD i noEv).N=k;by_cases h0:k<0
   ·rw[Bd7 (ω:k≤1000000),h_ h0,j_ (ω:¬0<k)];rfl
   ·rw[j_ h0,J]
    have:=Uu (ω:0≤k)
    by_cases h1:0<mil k
    ·rw[h_ h1];rfl
    ·rw[j_ h1,J];omega
  unfold Aqd HC at hs;simp only[Jp hlt,Gs hlt,O,s_,QX hl hlt]at hs;rw[show(Event.mk 0 0 0 0 0)=noEv from rfl]at hs;have hs:A (Sum.inl ((l,tkE n (l.getD i noEv),((i+1:Nat):Int),()),()))=r0:=by
   rw[← hs];unfold tkE;cases(l.getD i noEv).K0==1 with
   |true=>rw[← hq]at w1⊢;unfold mil at w1;simp only[O,w1];rfl
   |false=>cases(l.getD i noEv).K0==7 with
    |true=>simp only[O,J,w2];rfl
    |false=>cases(l.getD i noEv).K0==8 with
     |true=>simp only[O,J,w2];rfl
     |false=>simp only[J];rw[j_ (ω:¬(1000000:Int)<n)];rfl
  rw[Am (hr0.trans hs.symm)];exact Ace hl m (i+1) _ ω (Ath hn _)
def Ab1(hl:l.length≤100000):Mh l=A ((Bew l,()),()):=by unfold Mh;exact Ar (Bg (Ace hl l.length 0 0 (p_ _) ⟨by decide,by decide⟩) ω) rfl
def WA(a:List Z)(h:a.length≤100000):Ff a a=A ((H,()),()):=by have l:FM ((a,a,(0:Int),()),())=A (.inl ((),())):=Ans h (λi=>((a,a,(i:Int),()),())) (λi hi=>by simp only[lp,Un.u,Ir,Jp hi,Gs hi,QX h hi,P_,aV,V_,O,J]) (by simp only[lp,Un.u,Ir,Lp,J]);unfold Ff;rw[l];simp
def QJ(l:List Z):Bs:=Xg (l.map FS)
def SI{K:Nat}:∀{ls:List Bs},(∀l∈ls,l.length≤K)→(Xg ls).length≤ls.length*(K+1)
 |[],_=>G_ _
 |l::r,h=>by have h1:=h l a1_;have h2:=SI (ls:=r) λx hx=>h x (X_ _ hx);rw[Xg,i_,g_,g_,J_];omega
noncomputable abbrev Aqb(x:(List Z×ByteArray×Int×Unit)×Unit):=GH x.1.1 x.1.2.1 x.1.2.2.1
def Aa8{l:List Z}(hl:l.length≤1000)(hv:∀e∈l,Vev e):∀(m i:Nat) (acc:Bs),i+m=l.length→acc.length≤34*i→aC Aqb (m+1) ((l,B acc,(i:Int),()),())=A ((B (acc++QJ (l.drop i)),()),())
 |0,i,acc,hi,_=>by obtain rfl:i=l.length:=ω;rw[a9_];refine Ao ?_;show GH _ _ _=_;simp only[lp,Un.u,GH,Lp,J];rw[show QJ []=[]from rfl,List.append_nil]
 |m+1,i,acc,hi,ha=>by
  have hlt:i<l.length:=ω;have hm:Vev (l.getD i noEv):=hv _ (Mb noEv hlt);rw[GN noEv hlt];have hle:=(Abr hm).2.2;obtain⟨r0,hr0⟩:∃r0,Aqb ((l,B acc,(i:Int),()),())=r0:=⟨_,rfl⟩;have hs:=hr0;unfold Aqb GH at hs;simp only[Jp hlt,Gs hlt,O,s_,QX (ω:l.length≤100000) hlt]at hs;rw[show(Event.mk 0 0 0 0 0)=noEv from rfl,Ab3 hm]at hs;rw[show(aJ (aI [10]))=B [10]from rfl]at hs;simp only[V,IU]at hs;have e1:aH ((B acc).size+(B (FS (l.getD i noEv))).size) 4611686018427387904=H:=by rw[Az,Az];exact DC ω
  have e2:aH ((B (acc++FS (l.getD i noEv))).size+(B [10]).size) 4611686018427387904=H:=by rw[Az,Az,i_,E_];exact DC ω
  simp only[e1,e2,O]at hs;rw[Am (hr0.trans hs.symm),Aa8 hl hv m (i+1) _ ω (by rw[i_,i_,E_];omega)];show A ((B (acc++FS (l.getD i noEv)++[10]++QJ (l.drop (i+1))),()),())=A ((B (acc++(FS (l.getD i noEv)++10::QJ (l.drop (i+1)))),()),());rw[L_,L_];rfl
section
variable{b:Bldg}(hb:b.small)(hc:b.C0.length≤1000)
include hb hc
def Agc(b:Bldg)(l:List Z):(ByteArray×Int×Unit)×Unit:=bif b.code==0&&l.all (Cb b)then((B (QJ l),0,()),())else((B [],1,()),())
theorem Zn(hl:l.length≤1000):Ik b.A0 b.B0 b.N0 b.I0 b.F0 b.M0 b.L0 b.C0 l=A (Agc b l):=by
 unfold Ik Agc;refine Ar (Ab2 hb hc ω) ?_;show(bif !(b.code==0&&l.all (Cb b))then _ else _)=_;cases hv:b.code==0&&l.all (Cb b)with
 |false=>rfl
 |true=>rw[b_,F_]at hv;rw[V_,J,O];refine Ar (Bg (Aa8 hl (λe he=>Amz hb hc (hv.2 e he)) l.length 0 [] (p_ _) (G_ _)) ω) rfl
end
section
variable{b:Bldg}(hb:b.small)(m:Img)(hm:m.B5.length≤1000)(r:Record)
include hb hm
end
def Kg{α:Type}(d:α)(g:Nat→α→α)(i:Nat)(l:List α):List α:=l.set i (g i (l.getD i d))
def YB{α:Type}(d:α)(g:Nat→α→α):∀(m i:Nat) (l:List α),i+m=l.length→RF (Kg d g) m i l=l.take i++(List.range' i m).map (λj=>g j (l.getD j d))
 |0,i,l,h=>by rw[show i=l.length by omega,List.take_length];simp[RF]
 |m+1,i,l,h=>by
  have hi:i<l.length:=ω;unfold RF;rw[YB d g m (i+1) _ (by rw[Kg,aU];omega)];have e1:(Kg d g i l).take (i+1)=l.take i++[g i (l.getD i d)]:=by unfold Kg;rw[List.take_add_one,List.take_set_of_le ω,List.getElem?_set_self ω];rfl
  rw[e1,List.range'_succ,List.map_cons,L_,bE];congr 2;apply List.map_congr_left;intro j hj;rw[List.mem_range']at hj;obtain⟨k,hk,rfl⟩:=hj;unfold Kg;rw[q_,List.getElem?_set_ne ω,← q_]
def RG(d:α)(g:Nat→α→α)(f:Nat→α)(n:Nat):RF (Kg d g) n 0 ((aQ n).map f)=(aQ n).map (λj=>g j (f j)):=by rw[YB d g n 0 _ (by simp),List.take_zero,List.nil_append,← List.range_eq_range'];apply List.map_congr_left;intro j hj;rw[List.mem_range]at hj;simp[q_,hj]
def Ns{l:List α}(d x:α)(h:i<l.length):(l.set i x).getD i d=x:=by rw[q_,List.getElem?_set_self h];rfl
def g15(fl t i:Nat)(c:Car):Car:=⟨c.G0,c.S0,c.U0,c.O0,((1+t%3:Nat):Int),((1+t/3%3:Nat):Int),((1+t/9%3:Nat):Int),((1+t/9%3+t/27%5:Nat):Int),(((i+t)%fl:Nat):Int)⟩
def g18(t:Nat)(_:Nat)(c:Car):Car:={ c with G0:=((1+t%16:Nat):Int) }
def g27(n1 n2:Nat)(_:Nat)(c:Car):Car:={ c with U0:=((1+n2%4:Nat):Int),O0:=((n1%5:Nat):Int) }
def CY(fl ca t:Nat):Bldg:={ As fl ca with I0:=((1+t%7:Nat):Int),C0:=(aQ ca).map λi=>g15 fl t i (EU fl i) }
def Pu(fl ca t:Nat):Bldg:={ CY fl ca t with C0:=(aQ ca).map λi=>g18 t i (g15 fl t i (EU fl i)) }
def DB(fl ca n1 n2:Nat):Bldg:={ CY fl ca n1 with B0:=((1+n2%3:Nat):Int),N0:=((18*ca+24+6*(n2/3):Nat):Int),C0:=(aQ ca).map λi=>g27 n1 n2 i (g18 n1 i (g15 fl n1 i (EU fl i))) }
def Aqv(h:0≤n)(h':n<256):aK.wrap n=n:=by simp only[aD,IntKind.signed,IntKind.bits];simp;omega
def OY(a b:Nat):aB (a:Int) (b:Int)=((a%b:Nat):Int):=by rw[Int.tmod_eq_emod_of_nonneg ω];norm_cast
def Aqt(a b:Nat):aG (a:Int) (b:Int)=((a/b:Nat):Int):=by rw[Int.tdiv_eq_ediv_of_nonneg ω];norm_cast
def Kr(k:Nat)(ht:t<100000):U.wrap ((1:Int)+U.wrap (aB (t:Int) (k:Int)))=((1+t%k:Nat):Int):=by
 have:t%k≤t:=Nat.mod_le _ _
 rw[OY];generalize t%k=q at this⊢;rw[Ad (n:=(q:Int)) ω ω,Ad ω ω];norm_cast
def Tq(k:Nat)(ht:t<256):aK.wrap (aG (t:Int) (k:Int))=((t/k:Nat):Int):=by
 have:t/k≤t:=Nat.div_le_self _ _
 generalize hq:t/k=q at this;rw[Aqt,hq,Aqv ω ω]
def Aey{fl ca:Nat}(h1:1≤fl)(hf:fl≤100)(h2:ca≤8)(ht:t<256):
  Hl (((t:Int),(),(),(0:Int),()),(Bldg.none.tup,(As fl ca).tup,()))=A (((t:Int),(),(),()),(Bldg.none.tup,({ As fl ca with C0:=(CY fl ca t).C0 }:Bldg).tup,())):=by
 have hl:(As fl ca).C0.length=ca:=by simp[As]
 have h:=NM (step:=λx=>letI a:=x.2.2.1.2.2;letI b:=x.2.1.2.2;letI c:=b.2.2;letI d:=a.2.2;DW x.1.1 x.1.2.2.2.1 x.2.1.1 x.2.1.2.1 b.1 b.2.1 c.1 c.2.1 c.2.2.1 c.2.2.2.1 x.2.2.1.1 x.2.2.1.2.1 a.1 a.2.1 d.1 d.2.1 d.2.2.1 d.2.2.2.1) ca
  (λi l=>(((t:Int),(),(),(i:Int),()),(Bldg.none.tup,({ As fl ca with C0:=l }:Bldg).tup,()))) (Kg DN (g15 fl t)) (λ_ l=>l.length=ca) (λl=>(((t:Int),(),(),()),(Bldg.none.tup,({ As fl ca with C0:=l }:Bldg).tup,())))
  (λi l hi hll=>by
   refine⟨?_,by rw[Kg,aU,hll]⟩;show DW (t:Int) (i:Int) Bldg.none.A0 Bldg.none.B0 Bldg.none.N0 Bldg.none.I0 Bldg.none.F0 Bldg.none.M0 Bldg.none.L0 Bldg.none.C0 (As fl ca).A0 (As fl ca).B0 (As fl ca).N0 (As fl ca).I0 (As fl ca).F0 (As fl ca).M0 (As fl ca).L0 l=_;unfold DW;have hil:i<l.length:=ω;have hz:((As fl ca).A0 !=0)=H:=by show((fl:Int) !=0)=H;simp;omega
   have w:U.wrap ((i:Int)+1)=((i+1:Nat):Int):=by rw[Ad ω ω];omega
   have e1:U.wrap ((1:Int)+U.wrap (aB (t:Int) 3))=((1+t%3:Nat):Int):=Kr 3 ω;have e2:U.wrap ((1:Int)+U.wrap (aB (aD aK (aG (t:Int) 3)) 3))=((1+t/3%3:Nat):Int):=by rw[show aK.wrap (aG (t:Int) 3)=((t/3:Nat):Int)from Tq 3 ht];exact Kr 3 ω
   have e3:U.wrap ((1:Int)+U.wrap (aB (aD aK (aG (t:Int) 9)) 3))=((1+t/9%3:Nat):Int):=by rw[show aK.wrap (aG (t:Int) 9)=((t/9:Nat):Int)from Tq 9 ht];exact Kr 3 ω
   have e4:U.wrap (((1+t/9%3:Nat):Int)+U.wrap (aB (aD aK (aG (t:Int) 27)) 5))=((1+t/9%3+t/27%5:Nat):Int):=by rw[show aK.wrap (aG (t:Int) 27)=((t/27:Nat):Int)from Tq 27 ht,show aB ((t/27:Nat):Int) 5=((t/27%5:Nat):Int)from OY _ 5,Ad (n:=((t/27%5:Nat):Int)) ω ω,Ad ω ω];norm_cast
   have e5:aB (aD U ((i:Int)+U.wrap (t:Int))) (As fl ca).A0=(((i+t)%fl:Nat):Int):=by show aB _ (fl:Int)=_;rw[Ad (n:=(t:Int)) ω ω,Ad ω ω];exact OY (i+t) fl
   rw[show Car.mk 0 0 0 0 0 0 0 0 0=DN from rfl];simp only[h_ (ω:(i:Int)<(l.length:Int)),Bc (ω:(0:Int)≤(i:Int)) (ω:(i:Int)<(l.length:Int)),O,s_,hz,w,Ns DN _ hil,List.set_set,e1,e2,e3,e4,e5];unfold Kg g15;rfl)
  (λl hll=>by show DW (t:Int) (ca:Int) Bldg.none.A0 Bldg.none.B0 Bldg.none.N0 Bldg.none.I0 Bldg.none.F0 Bldg.none.M0 Bldg.none.L0 Bldg.none.C0 (As fl ca).A0 (As fl ca).B0 (As fl ca).N0 (As fl ca).I0 (As fl ca).F0 (As fl ca).M0 (As fl ca).L0 l=_;unfold DW;rw[hll,j_ (aZ (ca:Int))];rfl)
  ca 0 (As fl ca).C0 ω hl
 have h2:=Bg h.1 ω;rw[show(As fl ca).C0=(aQ ca).map (EU fl)from rfl,RG]at h2;exact h2
def Aez{fl ca:Nat}(_hf:fl≤100)(h2:ca≤8)(ht:t<256):
  Hm (((t:Int),(),(),(0:Int),()),(Bldg.none.tup,(CY fl ca t).tup,()))=A (((),(),()),(Bldg.none.tup,(Pu fl ca t).tup,())):=by
 have hl:(CY fl ca t).C0.length=ca:=by simp[CY]
 have h:=NM (step:=λx=>letI a:=x.2.2.1.2.2;letI b:=x.2.1.2.2;letI c:=b.2.2;letI d:=a.2.2;DX x.1.1 x.1.2.2.2.1 x.2.1.1 x.2.1.2.1 b.1 b.2.1 c.1 c.2.1 c.2.2.1 c.2.2.2.1 x.2.2.1.1 x.2.2.1.2.1 a.1 a.2.1 d.1 d.2.1 d.2.2.1 d.2.2.2.1) ca
  (λi l=>(((t:Int),(),(),(i:Int),()),(Bldg.none.tup,({ CY fl ca t with C0:=l }:Bldg).tup,()))) (Kg DN (g18 t)) (λ_ l=>l.length=ca) (λl=>(((),(),()),(Bldg.none.tup,({ CY fl ca t with C0:=l }:Bldg).tup,())))
  (λi l hi hll=>by
   refine⟨?_,by rw[Kg,aU,hll]⟩;show DX (t:Int) (i:Int) Bldg.none.A0 Bldg.none.B0 Bldg.none.N0 Bldg.none.I0 Bldg.none.F0 Bldg.none.M0 Bldg.none.L0 Bldg.none.C0 (CY fl ca t).A0 (CY fl ca t).B0 (CY fl ca t).N0 (CY fl ca t).I0 (CY fl ca t).F0 (CY fl ca t).M0 (CY fl ca t).L0 l=_;unfold DX;have w:U.wrap ((i:Int)+1)=((i+1:Nat):Int):=by rw[Ad ω ω];omega
   have e1:U.wrap ((1:Int)+U.wrap (aB (t:Int) 16))=((1+t%16:Nat):Int):=Kr 16 ω;rw[show Car.mk 0 0 0 0 0 0 0 0 0=DN from rfl];simp only[h_ (ω:(i:Int)<(l.length:Int)),Bc (ω:(0:Int)≤(i:Int)) (ω:(i:Int)<(l.length:Int)),O,s_,w,e1];unfold Kg g18;rfl)
  (λl hll=>by show DX (t:Int) (ca:Int) Bldg.none.A0 Bldg.none.B0 Bldg.none.N0 Bldg.none.I0 Bldg.none.F0 Bldg.none.M0 Bldg.none.L0 Bldg.none.C0 (CY fl ca t).A0 (CY fl ca t).B0 (CY fl ca t).N0 (CY fl ca t).I0 (CY fl ca t).F0 (CY fl ca t).M0 (CY fl ca t).L0 l=_;unfold DX;rw[hll,j_ (aZ (ca:Int))];rfl)
  ca 0 (CY fl ca t).C0 ω hl
 have h2:=Bg h.1 ω;rw[show(CY fl ca t).C0=(aQ ca).map (λi=>g15 fl t i (EU fl i))from rfl,RG]at h2;exact h2
def Ei(fl ca n1 n2:Nat):Bldg:={ DB fl ca n1 n2 with C0:=(Pu fl ca n1).C0 }
def Ae0{fl ca n0 n1 n2:Nat}(h2:ca≤8)(_h3:n1<256)(h4:n2<256) :
  Fi (((),(),(),(0:Int),()),(((n0:Int),(n1:Int),(n2:Int),()),Bldg.none.tup,(Ei fl ca n1 n2).tup,()))=A (((),(),()),(Bldg.none.tup,(DB fl ca n1 n2).tup,())):=by
 have hl:(Ei fl ca n1 n2).C0.length=ca:=by simp[Ei,Pu]
 have h:=NM (step:=λx=>letI a:=x.2.2;letI b:=a.2.1.2.2;letI c:=a.1.2.2;letI d:=c.2.2;letI e:=b.2.2;DY x.1.2.2.2.1 x.2.1.1 x.2.1.2.1 x.2.1.2.2.1 a.1.1 a.1.2.1 c.1 c.2.1 d.1 d.2.1 d.2.2.1 d.2.2.2.1 a.2.1.1 a.2.1.2.1 b.1 b.2.1 e.1 e.2.1 e.2.2.1 e.2.2.2.1) ca
  (λi l=>(((),(),(),(i:Int),()),(((n0:Int),(n1:Int),(n2:Int),()),Bldg.none.tup,({ Ei fl ca n1 n2 with C0:=l }:Bldg).tup,()))) (Kg DN (g27 n1 n2)) (λ_ l=>l.length=ca) (λl=>(((),(),()),(Bldg.none.tup,({ Ei fl ca n1 n2 with C0:=l }:Bldg).tup,())))
  (λi l hi hll=>by
   refine⟨?_,by rw[Kg,aU,hll]⟩;show DY (i:Int) (n0:Int) (n1:Int) (n2:Int) Bldg.none.A0 Bldg.none.B0 Bldg.none.N0 Bldg.none.I0 Bldg.none.F0 Bldg.none.M0 Bldg.none.L0 Bldg.none.C0 (Ei fl ca n1 n2).A0 (Ei fl ca n1 n2).B0 (Ei fl ca n1 n2).N0 (Ei fl ca n1 n2).I0 (Ei fl ca n1 n2).F0 (Ei fl ca n1 n2).M0 (Ei fl ca n1 n2).L0 l=_;unfold DY;have hil:i<l.length:=ω;have w:U.wrap ((i:Int)+1)=((i+1:Nat):Int):=by rw[Ad ω ω];omega
   have e1:U.wrap ((1:Int)+U.wrap (aB (n2:Int) 4))=((1+n2%4:Nat):Int):=Kr 4 ω;have e2:U.wrap (aB (n1:Int) 5)=((n1%5:Nat):Int):=by rw[show aB (n1:Int) 5=((n1%5:Nat):Int)from OY n1 5,Ad ω ω]
   rw[show Car.mk 0 0 0 0 0 0 0 0 0=DN from rfl];simp only[h_ (ω:(i:Int)<(l.length:Int)),Bc (ω:(0:Int)≤(i:Int)) (ω:(i:Int)<(l.length:Int)),O,s_,w,e1,e2,Ns DN _ hil,List.set_set,aU];unfold Kg g27;rfl)
  (λl hll=>by show DY (ca:Int) (n0:Int) (n1:Int) (n2:Int) Bldg.none.A0 Bldg.none.B0 Bldg.none.N0 Bldg.none.I0 Bldg.none.F0 Bldg.none.M0 Bldg.none.L0 Bldg.none.C0 (Ei fl ca n1 n2).A0 (Ei fl ca n1 n2).B0 (Ei fl ca n1 n2).N0 (Ei fl ca n1 n2).I0 (Ei fl ca n1 n2).F0 (Ei fl ca n1 n2).M0 (Ei fl ca n1 n2).L0 l=_;unfold DY;rw[hll,j_ (aZ (ca:Int))];rfl)
  ca 0 (Ei fl ca n1 n2).C0 ω hl
 have h2:=Bg h.1 ω;rw[show(Ei fl ca n1 n2).C0=(aQ ca).map (λi=>g18 n1 i (g15 fl n1 i (EU fl i)))from rfl,RG]at h2;exact h2
def EO(n0:Nat):Nat:=2+n0%5
def EE(n0:Nat):Nat:=1+n0/5%3
def Uz{n0:Nat}(hn:n0<256)(ht:t<256):IG (n0:Int) (t:Int)=A (((),()),((CY (EO n0) (EE n0) t).tup,())):=by
 have e1:U.wrap ((2:Int)+U.wrap (aB (n0:Int) 5))=((EO n0:Nat):Int):=by rw[show aB (n0:Int) 5=((n0%5:Nat):Int)from OY n0 5,Ad (n:=((n0%5:Nat):Int)) ω ω,Ad ω ω];unfold EO;norm_cast
 have e2:U.wrap ((1:Int)+U.wrap (aB (aD aK (aG (n0:Int) 5)) 3))=((EE n0:Nat):Int):=by rw[show aK.wrap (aG (n0:Int) 5)=((n0/5:Nat):Int)from Tq 5 hn];exact Kr 3 ω
 have hf:2≤EO n0∧EO n0≤6:=by unfold EO;omega
 have hc:1≤EE n0∧EE n0≤3:=by unfold EE;omega
 have e3:U.wrap ((1:Int)+U.wrap (aB (t:Int) 7))=((1+t%7:Nat):Int):=Kr 7 ω;unfold IG;rw[e1,e2];refine Ar (Wk ω ω) ?_;refine Ar (Aey ω ω ω ht) ?_;show A (((),()),(((EO n0:Nat):Int),(1:Int),(4000:Int),U.wrap ((1:Int)+U.wrap (aB (t:Int) 7)),_,_,_,_,()),())=_;rw[e3];rfl
def UA{n0:Nat}(hn:n0<256)(ht:t<256):IH (n0:Int) (t:Int)=A (((),()),((Pu (EO n0) (EE n0) t).tup,())):=by
 have hf:2≤EO n0∧EO n0≤6:=by unfold EO;omega
 have hc:1≤EE n0∧EE n0≤3:=by unfold EE;omega
 unfold IH;refine Ar (Uz hn ht) ?_;exact Ar (Aez ω ω ht) rfl
def UB{n0 n1 n2:Nat}(h0:n0<256)(h1:n1<256)(h2:n2<256):II (n0:Int) (n1:Int) (n2:Int)=A (((),()),((DB (EO n0) (EE n0) n1 n2).tup,())):=by
 have hf:2≤EO n0∧EO n0≤6:=by unfold EO;omega
 have hc:1≤EE n0∧EE n0≤3:=by unfold EE;omega
 have e1:U.wrap ((1:Int)+U.wrap (aB (n2:Int) 3))=((1+n2%3:Nat):Int):=Kr 3 ω;have hl:(Pu (EO n0) (EE n0) n1).C0.length=EE n0:=by simp[Pu]
 have e2:U.wrap (aD U (aD U (18*(((Pu (EO n0) (EE n0) n1).C0.length:Nat):Int))+24)+U.wrap (6*U.wrap (aD aK (aG (n2:Int) 3))))=((18*EE n0+24+6*(n2/3):Nat):Int):=by
  rw[hl,show aK.wrap (aG (n2:Int) 3)=((n2/3:Nat):Int)from Tq 3 h2,Ad (n:=18*((EE n0:Nat):Int)) ω ω,Ad (n:=18*((EE n0:Nat):Int)+24) ω ω,Ad (n:=((n2/3:Nat):Int)) ω ω,Ad (n:=6*((n2/3:Nat):Int)) ω ω,Ad ω ω]
  norm_cast
 unfold II;refine Ar (UA h0 h1) ?_;refine Ar (a:=(((),(),()),(Bldg.none.tup,(DB (EO n0) (EE n0) n1 n2).tup,()))) ?_ rfl;show Fi (((),(),(),(0:Int),()),(((n0:Int),(n1:Int),(n2:Int),()),Bldg.none.tup,(((EO n0:Nat):Int),U.wrap ((1:Int)+U.wrap (aB (n2:Int) 3)),U.wrap (aD U (aD U (18*(((Pu (EO n0) (EE n0) n1).C0.length:Nat):Int))+24)+U.wrap (6*U.wrap (aD aK (aG (n2:Int) 3)))),_,_,_,_,_,()),()))=_;rw[e1,e2];exact Ae0 ω h1 h2
def Acm{fl ca n1 n2:Nat}(hf:2≤fl∧fl≤6)(hc:1≤ca∧ca≤3)(_h1:n1<256)(h2:n2<256):(DB fl ca n1 n2).small∧(DB fl ca n1 n2).code=0∧(DB fl ca n1 n2).C0.length=ca∧(DB fl ca n1 n2).A0=(fl:Int)∧18*(ca:Int)+24≤(DB fl ca n1 n2).N0∧(DB fl ca n1 n2).N0≤600:=by
 have hl:(DB fl ca n1 n2).C0.length=ca:=by simp[DB]
 have hr:(DB fl ca n1 n2).N0=((18*ca+24+6*(n2/3):Nat):Int):=rfl;refine⟨⟨by show(2:Int)≤(fl:Int);omega,by show(fl:Int)≤8;omega⟩,?_,hl,rfl,by rw[hr];omega,by rw[hr];omega⟩;unfold Bldg.code;have e1:inR 2 32 (DB fl ca n1 n2).A0=H:=Dg.2 (by show(2:Int)≤(fl:Int)∧(fl:Int)≤32;omega);have e2:inR 1 8 ((DB fl ca n1 n2).C0.length:Int)=H:=Dg.2 ω;have e3:inR 1 16 (DB fl ca n1 n2).B0=H:=Dg.2 (by show(1:Int)≤((1+n2%3:Nat):Int)∧((1+n2%3:Nat):Int)≤16;omega);have e4:inR 1 10000 (DB fl ca n1 n2).I0=H:=Dg.2 (by show(1:Int)≤((1+n1%7:Nat):Int)∧((1+n1%7:Nat):Int)≤10000;omega);have e5:(DB fl ca n1 n2).C0.all (Br (DB fl ca n1 n2).A0)=H:=by rw[F_];intro c hc';obtain⟨i,_,rfl⟩:=c8_.1 hc';have hm:(i+n1)%fl<fl:=Nat.mod_lt _ ω;show Br (fl:Int) (g27 n1 n2 i (g18 n1 i (g15 fl n1 i (EU fl i))))=H;unfold Br g27 g18 g15 EU;simp only[N_,aS,aR,b_,Dg,b0_];rw[Ad (n:=(fl:Int)-1) ω ω];refine⟨⟨?_,?_,?_,?_,?_,?_,?_⟩,?_,?_,?_⟩<;>omega
 have e6:(DB fl ca n1 n2).loadsOK=H:=by
  show(As 2 1).loadsOK=H
  kernel_rfl
 have e7:inR (18*((DB fl ca n1 n2).C0.length:Int)+24) 65536 (DB fl ca n1 n2).N0=H:=Dg.2 (by rw[hl,hr];omega);rw[e1,e2,e3,e4,e5,e6,e7];rfl
def NG(h:b.code=0):inR 2 32 b.A0=H∧inR 1 8 (b.C0.length:Int)=H∧inR 1 16 b.B0=H∧inR 1 10000 b.I0=H∧b.C0.all (Br b.A0)=H∧b.loadsOK=H:=by unfold Bldg.code at h;revert h;cases inR 2 32 b.A0<;>cases inR 1 8 (b.C0.length:Int)<;>cases inR 1 16 b.B0<;>cases inR 1 10000 b.I0<;>cases b.C0.all (Br b.A0)<;>cases b.loadsOK<;>(intro h;first | exact⟨rfl,rfl,rfl,rfl,rfl,rfl⟩ | (exact absurd h (by simp)))
def Aas(h:b.code=0)(hc:c∈b.C0):Br b.A0 c=H:=F_.1 (NG h).2.2.2.2.1 c hc
def Aht{n:Nat}(h:n<1000000000):U.wrap ((n:Int)+1)=((n+1:Nat):Int):=by rw[Ad ω ω];omega
structure CrsOK(b:Bldg)(cs:List Car):Prop where
 len:cs.length=b.C0.length
 ok:∀c∈cs,Br b.A0 c=true
def CrsOK.code(h:b.code=0)(hc:CrsOK b cs):({ b with N0:=4000,C0:=cs }:Bldg).code=0:=by
 obtain⟨e1,e2,e3,e4,e5,e6⟩:=NG h;have hcc:=Hb h;have e2':inR 1 8 (cs.length:Int)=H:=by rw[hc.len];exact e2
 have e5':cs.all (Br b.A0)=H:=F_.2 hc.ok;have e6':({ b with N0:=4000,C0:=cs }:Bldg).loadsOK=H:=e6;have e7:inR (18*(cs.length:Int)+24) 65536 4000=H:=Dg.2 (by rw[hc.len];omega);unfold Bldg.code;rw[e6'];show(bif !inR 2 32 b.A0 then(10:Int)else bif !inR 1 8 (cs.length:Int)then 11 else bif !(inR 1 16 b.B0&&inR 1 10000 b.I0&&cs.all (Br b.A0))then 12 else bif !H then 13 else bif !inR (18*(cs.length:Int)+24) 65536 4000 then 14 else 0)=0;rw[e1,e2',e3,e4,e5',e7];rfl
def CrsOK.self(h:b.code=0):CrsOK b b.C0:=⟨rfl,λ_ hc=>Aas h hc⟩
def CrsOK.set(hc:CrsOK b cs)(h:Br b.A0 c=H)(i:Nat):CrsOK b (cs.set i c):=⟨by rw[aU];exact hc.len,λx hx=>(List.mem_or_eq_of_mem_set hx).elim (hc.ok x) λe=>by rw[e];exact h⟩
def IC{fl:Int}:Br fl c=H↔((1≤c.G0∧c.G0≤10000)∧(1≤c.S0∧c.S0≤10000)∧(1≤c.U0∧c.U0≤10000)∧(1≤c.W0∧c.W0≤10000)∧(1≤c.J0∧c.J0≤10000)∧(1≤c.H0∧c.H0≤10000)∧(1≤c.T0∧c.T0≤10000))∧(0≤c.O0∧c.O0≤10000)∧c.H0≤c.T0∧0≤c.E1∧c.E1≤U.wrap (fl-1):=by unfold Br;simp only[N_,aS,aR,b_,Dg,b0_]
section
variable{b:Bldg}(hb:b.small)(hcode:b.code=0)
include hcode
theorem Aly(h:CrsOK b cs):Sat (Ju (((),(),(0:Int),()),((b.A0,b.B0,4000,b.I0,b.F0,b.M0,b.L0,cs,()),(0,0,0,0,0,0,0,[],()),()))) λy=>∃cs',y.2.1=(b.A0,b.B0,4000,b.I0,b.F0,b.M0,b.L0,cs',())∧y.2.2.1=(0,0,0,0,0,0,0,[],())∧CrsOK b cs':=by
 have hcc:=Hb hcode;have hd:=Dg.1 (NG hcode).2.2.1;have wd:U.wrap (b.B0+1)=b.B0+1:=Ad ω ω;have hl:=h.len;unfold Ju;refine Sat.loop (λ(k:Nat) z=>∃(i:Nat) (cs:List Car),z=(((),(),(i:Int),()),((b.A0,b.B0,4000,b.I0,b.F0,b.M0,b.L0,cs,()),(0,0,0,0,0,0,0,[],()),()))∧i+k=b.C0.length∧CrsOK b cs) (λk z hz=>?_) b.C0.length ⟨0,cs,rfl,p_ _,h⟩ ω;obtain⟨i,cs,rfl,hk,h⟩:=hz;have hl:=h.len;show Sat (PS (i:Int) b.A0 b.B0 4000 b.I0 b.F0 b.M0 b.L0 cs 0 0 0 0 0 0 0 []) _;unfold PS;refine Sat.bic (λq=>?_) λ_=>Sat.ret ⟨cs,rfl,rfl,h⟩;have q:(i:Int)<(cs.length:Int):=c0_ q;have wr:=Aht (n:=i) ω;have ht:=IC.1 (h.ok _ (Mb DN (ω:i<cs.length)));refine Sat.bifT (Bc ω q) (Sat.ret ⟨k-1,ω,i+1,_,by first | (rw[← wr];rfl) | rw[← wr],ω,?_⟩);simp only[s_,wd];rw[show Car.mk 0 0 0 0 0 0 0 0 0=DN from rfl];generalize hc:cs.getD i DN=c at ht;simp only[Ns DN _ (ω:i<cs.length)];have e:∀D:Int,(D=c.H0∨D=b.B0+1)→c.H0≤D→Br b.A0 (Car.mk c.G0 c.S0 c.U0 c.O0 c.W0 c.J0 D (bif decide (c.T0<D)then D else c.T0) c.E1)=H:=λD h1 h2=>by
  by_cases q:c.T0<D
  ·rw[h_ q];refine IC.2 ?_;simp only[O];omega
  ·rw[j_ q];refine IC.2 ?_;simp only[J];omega
 rw[List.set_set];refine h.set ?_ i;by_cases q:c.H0<b.B0+1
 ·rw[h_ q];exact e _ (.inr rfl) (by show c.H0≤b.B0+1;omega)
 ·rw[j_ q];exact e _ (.inl rfl) (aO _)
include hb
theorem Ag3(h:CrsOK b cs)(hi:i<cs.length):Sat (JC b.A0 b.B0 4000 b.I0 b.F0 b.M0 b.L0 cs (i:Int)) λy=>1≤y.1.1∧y.1.1≤100000000:=by
 have lo:=hb.lo;have hif:=hb.hi;have hl:=h.len;have hcc:=Hb hcode;have ht:=IC.1 (h.ok _ (Mb DN (ω:i<cs.length)));unfold JC;refine Sat.bindE (Gy { b with N0:=4000,C0:=cs }) (Sat.bifF (by show(({ b with N0:=4000,C0:=cs }:Bldg).code !=0)=E;rw[h.code hcode];rfl) (Sat.bifF (j_ ω) (Sat.bifF (j_ ω) (Sat.bifT (Bc ω ω) (Sat.ret ?_)))));simp only[s_];rw[show Car.mk 0 0 0 0 0 0 0 0 0=DN from rfl];generalize cs.getD i DN=c at ht;have w1:U.wrap (3*b.A0)=3*b.A0:=Ad ω ω;have w2:U.wrap (3*b.A0+1)=3*b.A0+1:=Ad ω ω;have w3:U.wrap (2*c.J0)=2*c.J0:=Ad ω ω;have w4:U.wrap (2*c.J0+c.H0)=2*c.J0+c.H0:=Ad ω ω;have w5:U.wrap (3*(2*c.J0+c.H0))=3*(2*c.J0+c.H0):=Ad ω ω;have w6:U.wrap (3*(2*c.J0+c.H0)+c.W0)=3*(2*c.J0+c.H0)+c.W0:=Ad ω ω;have w7:U.wrap (3*(2*c.J0+c.H0)+c.W0+2)=3*(2*c.J0+c.H0)+c.W0+2:=Ad ω ω;rw[w1,w2,w3,w4,w5,w6,w7];generalize hy:3*(2*c.J0+c.H0)+c.W0+2=y;have hy1:1≤y∧y≤200000:=ω;have hf:b.A0=2∨b.A0=3∨b.A0=4∨b.A0=5∨b.A0=6∨b.A0=7∨b.A0=8:=ω;have k:1≤(3*b.A0+1)*y∧(3*b.A0+1)*y≤100000000:=by rcases hf with e | e | e | e | e | e | e<;>rw[e]<;>omega
 rw[Ad ω ω];exact k
theorem Alz(h:CrsOK b cs):Sat (Jv (((),(),(0:Int),()),((b.A0,b.B0,4000,b.I0,b.F0,b.M0,b.L0,cs,()),(0,0,0,0,0,0,0,[],()),()))) λy=>∃cs',y.2.1=(b.A0,b.B0,4000,b.I0,b.F0,b.M0,b.L0,cs',())∧CrsOK b cs':=by
 have hcc:=Hb hcode;have hd:=Dg.1 (NG hcode).2.2.1;have hl:=h.len;unfold Jv;refine Sat.loop (λ(k:Nat) z=>∃(i:Nat) (cs:List Car),z=(((),(),(i:Int),()),((b.A0,b.B0,4000,b.I0,b.F0,b.M0,b.L0,cs,()),(0,0,0,0,0,0,0,[],()),()))∧i+k=b.C0.length∧CrsOK b cs) (λk z hz=>?_) b.C0.length ⟨0,cs,rfl,p_ _,h⟩ ω;obtain⟨i,cs,rfl,hk,h⟩:=hz;have hl:=h.len;show Sat (PT (i:Int) b.A0 b.B0 4000 b.I0 b.F0 b.M0 b.L0 cs 0 0 0 0 0 0 0 []) _;unfold PT;refine Sat.bic (λq=>?_) λ_=>Sat.ret ⟨cs,rfl,h⟩;have q:(i:Int)<(cs.length:Int):=c0_ q;have wr:=Aht (n:=i) ω;have ht:=IC.1 (h.ok _ (Mb DN (ω:i<cs.length)));refine Sat.bindS (Ag3 hb hcode h (ω:i<cs.length)) λy1 hn1=>(Sat.bifT (Bc ω q) (Sat.ret ⟨k-1,ω,i+1,_,by first | (rw[← wr];rfl) | rw[← wr],ω,?_⟩))
 generalize y1.1.1=n at hn1;have w1:U.wrap (n+b.B0)=n+b.B0:=Ad ω ω;have w2:U.wrap (n+b.B0+2)=n+b.B0+2:=Ad ω ω;simp only[s_,w1,w2];rw[show Car.mk 0 0 0 0 0 0 0 0 0=DN from rfl];generalize cs.getD i DN=c at ht;refine h.set ?_ i;by_cases q:(10000:Int)<n+b.B0+2
 ·rw[h_ q];refine IC.2 ?_;simp only[O];omega
 ·rw[j_ q];refine IC.2 ?_;simp only[J];omega
end
def Bd3{n0 n1 n2:Int}(h0:0≤n0∧n0<256)(h1:0≤n1∧n1<256)(h2:0≤n2∧n2<256):Sat (DU n0 n1 n2) λy=>∃b:Bldg,y=(((),()),(b.tup,()))∧b.small∧b.code=0:=by
 obtain⟨k0,rfl⟩:=bC h0.1;obtain⟨k1,rfl⟩:=bC h1.1;obtain⟨k2,rfl⟩:=bC h2.1;have hf:(2≤EO k0∧EO k0≤6)∧1≤EE k0∧EE k0≤3:=by unfold EO EE;omega
 obtain⟨hs,hw,_⟩:=Acm (n1:=k1) (n2:=k2) hf.1 hf.2 ω ω;have e:=UB (n0:=k0) (n1:=k1) (n2:=k2) ω ω ω;generalize DB (EO k0) (EE k0) k1 k2=b at hs hw e;have hcc:=Hb hw;unfold DU;refine Sat.bindE e (Sat.bindE rfl (Sat.bindS (Q:=λy=>∃cs,y.2.1=(b.A0,b.B0,4000,b.I0,b.F0,b.M0,b.L0,cs,())∧CrsOK b cs) ?_ λy hy=>?_))
 ·show Sat (Pj b.A0 b.B0 4000 b.I0 b.F0 b.M0 b.L0 b.C0) _;unfold Pj;refine Sat.bindE (Gy { b with N0:=4000,C0:=b.C0 }) (Sat.bifF (by show(({ b with N0:=4000,C0:=b.C0 }:Bldg).code !=0)=E;rw[(CrsOK.self hw).code hw];rfl) (Sat.bifT (DC (by show 0+b.C0.length≤_;omega)) (Sat.bindS (Aly hw (cs:=b.C0) (CrsOK.self hw)) λy2 h2=>?_)));obtain⟨c1,e1,e2,e3⟩:=h2;rw[e1,e2];refine Sat.bindS (Alz hs hw e3) λy3 h3=>?_;obtain⟨c2,e4,e5⟩:=h3;exact Sat.ret ⟨c2,e4,e5⟩
 ·obtain⟨cs,e1,e2⟩:=hy;exact Sat.ret ⟨{ b with N0:=4000,C0:=cs },by rw[e1];rfl,⟨hs.lo,hs.hi⟩,e2.code hw⟩
def Atf(F:Int):Option ((List Entry×Unit)×Unit)→Bool
 |some y=>!y.1.1.isEmpty&&y.1.1.all λe=>Pw F e.D0 e.E0
 |none=>E
def Al2{F:Int}(h:2≤F∧F≤8):Atf F (Nz (aD aT ((aD aT ((1:Int)*((2:Int)^(Min.min (aF (aD IntKind.u64 (aD U (F-(1:Int))))) (IntKind.bits aT)))))-(1:Int))) (aD aT ((aD aT ((1:Int)*((2:Int)^(Min.min (aF (aD IntKind.u64 F)) (IntKind.bits aT)))))-(2:Int))))=H:=by have hf:F=2∨F=3∨F=4∨F=5∨F=6∨F=7∨F=8:=ω;rcases hf with rfl | rfl | rfl | rfl | rfl | rfl | rfl<;>decide+kernel
def Am7(hb:b.small)(hcode:b.code=0){l:List Int}(hl:∀x∈l,0≤x∧x<256):Sat (Gv b.A0 b.B0 b.N0 b.I0 b.F0 b.M0 b.L0 b.C0 l 2000) λy=>y.1.1.length≤300∧∀e∈y.1.1,Cb b e=H:=by
 have hcc:=Hb hcode;have lo:=hb.lo;have hi:=hb.hi;have hk:=Al2 (F:=b.A0) ⟨lo,hi⟩;unfold Gv IS;refine Sat.bindS (Q:=λy=>y.1.1.length≤300∧∀e∈y.1.1,Cb b e=H) (Sat.loop (λ(k:Nat) z=>∃(out:List Z) (left:Int) (i:Nat),z=((l,(),out,left,(i:Int),()),(b.tp,()))∧out.length+k=300∧i=2*out.length∧(-1000000≤left∧left≤2000)∧∀e∈out,Cb b e=H) (λk z hz=>?_) 300 ⟨[],2000,0,rfl,rfl,rfl,⟨by decide,by decide⟩,λ_ h=>by cases h⟩ (by decide)) λy hy=>Sat.ret hy;obtain⟨out,left,i,rfl,h1,h2,h3,hv⟩:=hz;show Sat (LV l out left (i:Int) b.A0 b.B0 b.N0 b.I0 b.F0 b.M0 b.L0 b.C0) _;have w1:U.wrap ((i:Int)+1)=((i+1:Nat):Int):=Aht ω;unfold LV;rw[w1];refine Sat.bic (λq1=>?_) λ_=>Sat.ret ⟨by show out.length≤300;omega,hv⟩;have q1:=c0_ q1;refine Sat.bic (λq2=>?_) λ_=>Sat.ret ⟨by show out.length≤300;omega,hv⟩;have q2:=c0_ q2;refine Sat.bic (λq3=>?_) λ_=>Sat.ret ⟨by show out.length≤300;omega,hv⟩;have q3:=c0_ q3;have g:∀j,j<l.length→0≤l.getD j 0∧l.getD j 0<256:=λj hj=>hl _ (Mb 0 hj);have g0:=g i ω;have g1:=g (i+1) ω;refine Sat.bifT (Bc ω ω) (Sat.bifT (Bc ω ω) ?_);simp only[s_];generalize l.getD i 0=x at g0;generalize l.getD (i+1) 0=y at g1;rw[Ad (n:=x) ω ω,Ad (n:=y) ω ω];refine Sat.bifT (Rm ω) ?_;refine Sat.bindS (Q:=λr=>∃e:Z,r=((l,(),out,left,(i:Int),(),()),(b.tp,e.tup,()))∧Cb b e=H) ?_ λr hr=>?_
 ·have hx:=aM (a:=x) 8 g0.1;have hx2:=aL x (show(0:Int)<8 by decide);have hz3:1≤U.wrap (1+aB x 8)∧U.wrap (1+aB x 8)≤8:=by rw[Ad ω ω];omega
  have hcr0:0≤U.wrap (aG x 8):=by
   have:=Int.tdiv_nonneg (a:=x) (b:=8) g0.1 (by decide)
   have h9:aG x 8≤255:=by rw[Int.tdiv_eq_ediv_of_nonneg g0.1];omega
   rw[Ad ω ω];exact this
  have hcr:=aM (a:=U.wrap (aG x 8)) (b.C0.length:Int) hcr0;have hcr2:=aL (aD U (aG x 8)) (ω:(0:Int)<(b.C0.length:Int));generalize U.wrap (1+aB x 8)=z3 at hz3;generalize aB (aD U (aG x 8)) (b.C0.length:Int)=cr at hcr hcr2;have car:AZ cr 0 ((b.C0.length:Int)-1)=H:=CI.2 ω;refine Sat.bic (λq=>?_) λn1=>Sat.bic (λq=>?_) λn2=>Sat.bic (λq=>?_) λn3=>Sat.bic (λq=>Sat.ret ⟨⟨z3,0,0,cr,y⟩,rfl,?_⟩) λn4=>Sat.bic (λq=>Sat.ret ⟨⟨z3,0,0,cr,aB y 60⟩,rfl,?_⟩) λn5=>Sat.bic (λq=>Sat.ret ⟨⟨z3,0,0,cr,U.wrap (1+aB y 8)⟩,rfl,?_⟩) λn6=>Sat.bic (λq=>Sat.ret ⟨⟨z3,0,0,0,aB y 50⟩,rfl,?_⟩) λn8=>Sat.ret ⟨⟨z3,0,0,0,0⟩,rfl,?_⟩
  ·have q:=eq_of_beq q;have hm:0<(bif decide ((40:Int)<left)then(40:Int)else left)∧(bif decide ((40:Int)<left)then(40:Int)else left)≤40:=by
    by_cases h:(40:Int)<left
    ·rw[h_ h];exact⟨show(0:Int)<40 by decide,show(40:Int)≤40 by decide⟩
    ·rw[j_ h,J];omega
   generalize(bif decide ((40:Int)<left)then(40:Int)else left)=z at hm;have t1:=aM (a:=y) z g1.1;have t2:=aL y hm.1;refine Sat.bifT (Rm ω) (Sat.ret ⟨⟨z3,0,0,0,U.wrap (1+aB y z)⟩,rfl,?_⟩);rw[q,Ad (n:=1+aB y z) ω ω];show(((0:Int)==0&&(0:Int)==0)&&((0:Int)==0&&AZ (1+aB y z) 1 5000))=H;rw[CI.2 ω];rfl
  ·have q:=eq_of_beq q;refine Sat.bifT (Amy _) (Sat.bifT (Amy _) ?_);refine Sat.bindS (Q:=λy=>y.1.1≠[]∧∀e∈y.1.1,Pw b.A0 e.D0 e.E0=H) ?_ λy1 hy1=>?_
   ·revert hk;generalize Nz _ _=o;intro hk;cases o with
    |none=>cases hk
    |some v=>rw[Atf,b_,F_]at hk;exact Sat.ret ⟨λe=>by rw[e]at hk;exact absurd hk.1 (by decide),hk.2⟩
   ·have hn:0<y1.1.1.length:=List.length_pos_iff.2 hy1.1;have hm:=aM (a:=y) (y1.1.1.length:Int) g1.1;have hm2:=aL y (ω:(0:Int)<(y1.1.1.length:Int));have e1:((y1.1.1.length:Int) !=0)=H:=Rm ω;have e2:inB (aB y (y1.1.1.length:Int)) y1.1.1.length=H:=Bc hm hm2;have hc:=Ao9 (d:=Entry.mk 0 0 0 0 E) hy1.2 (ω:aF (aB y (y1.1.1.length:Int))<y1.1.1.length);refine Sat.bifT e1 (Sat.bifT e2 (Sat.bifT e1 (Sat.bifT e2 (Sat.ret ⟨⟨z3,(y1.1.1.getD (aF (aB y (y1.1.1.length:Int))) (Entry.mk 0 0 0 0 E)).D0,(y1.1.1.getD (aF (aB y (y1.1.1.length:Int))) (Entry.mk 0 0 0 0 E)).E0,0,0⟩,rfl,?_⟩))));rw[q];show((b.code==0&&Pw b.A0 _ _)&&((0:Int)==0&&(0:Int)==0))=H;rw[hc,hcode];rfl
  ·have q:=eq_of_beq q;have t1:=aM (a:=y) b.A0 g1.1;have t2:=aL y (ω:0<b.A0);refine Sat.bifT (Rm ω) (Sat.ret ⟨⟨z3,aB y b.A0,0,cr,0⟩,rfl,?_⟩);rw[q];show(AZ cr 0 ((b.C0.length:Int)-1)&&(AZ (aB y b.A0) 0 (b.A0-1)&&((0:Int)==0&&(0:Int)==0)))=H;rw[car,CI.2 ω];rfl
  ·rw[eq_of_beq q];show(((0:Int)==0&&(0:Int)==0)&&(AZ cr 0 ((b.C0.length:Int)-1)&&AZ y 0 1000))=H;rw[car,CI.2 ω];rfl
  ·rw[eq_of_beq q];have t1:=aM (a:=y) 60 g1.1;have t2:=aL y (show(0:Int)<60 by decide);show(((0:Int)==0&&(0:Int)==0)&&(AZ cr 0 ((b.C0.length:Int)-1)&&AZ (aB y 60) 0 10000))=H;rw[car,CI.2 ω];rfl
  ·rw[eq_of_beq q];have t1:=aM (a:=y) 8 g1.1;have t2:=aL y (show(0:Int)<8 by decide);rw[Ad (n:=1+aB y 8) ω ω];show(((0:Int)==0&&(0:Int)==0)&&(AZ cr 0 ((b.C0.length:Int)-1)&&AZ (1+aB y 8) 1 8))=H;rw[car,CI.2 ω];rfl
  ·rw[eq_of_beq q];have t1:=aM (a:=y) 50 g1.1;have t2:=aL y (show(0:Int)<50 by decide);show(((0:Int)==0&&(0:Int)==0)&&((0:Int)==0&&AZ (aB y 50) 0 100000))=H;rw[CI.2 ω];rfl
  ·have n:∀k:Int,(z3==k)=E→z3≠k:=λk h e=>by rw[e,P_]at h;cases h
   have:=n _ n1
   have:=n _ n2
   have:=n _ n3
   have:=n _ n4
   have:=n _ n5
   have:=n _ n6
   have:=n _ n8
   obtain rfl:z3=7:=ω;rfl
 ·obtain⟨e,rfl,hve⟩:=hr;have ht:=Ath (n:=0) ⟨aO 0,by decide⟩ e;refine Sat.bindE (Ab1 (l:=[e]) (by rw[E_];omega)) ?_;show Sat (bif aH (out.length+1) 2147483648 then A (Sum.inl ((l,(),out++[e],U.wrap (left-tkE 0 e),U.wrap ((i:Int)+2),()),(b.tp,())))else aA) _;rw[Ad (n:=left-tkE 0 e) ω ω,Ad (n:=(i:Int)+2) ω ω];exact Sat.bifT (DC ω) (Sat.ret ⟨k-1,ω,out++[e],left-tkE 0 e,i+2,rfl,by rw[i_,E_];omega,by rw[i_,E_];omega,⟨ω,ω⟩,λq hq=>(D_.1 hq).elim (hv q) λh=>by rw[List.mem_singleton.1 h];exact hve⟩)
def Am6(hb:b.small)(hcode:b.code=0){l:List Int}(hl:∀x∈l,0≤x∧x<256):Sat (Gv b.A0 b.B0 b.N0 b.I0 b.F0 b.M0 b.L0 b.C0 l 2000) λy=>y.1.1.length≤300:=(Am7 hb hcode hl).mono λ_ h=>h.1
def XC{X Y:Type}{s:X→Option (Sum X Y)}(L:X→Option Y)(_:L=aC s BZ):X→Option (Sum X Y):=s
def Za{X Y:Type}{s:X→Option (Sum X Y)}{L:X→Option Y}(h:L=aC s BZ){n:Nat}{x:X}{y:Y}(hi:aC (XC L h) n x=A y)(hn:n≤18446744073709551616):L x=A y:=by rw[h];exact Bg hi hn
noncomputable abbrev sR1:=XC GF rfl
noncomputable abbrev sR2:=XC GG rfl
def evS:List Z:=[⟨2,1,1,0,0⟩,⟨1,0,0,0,20⟩]
def An3:List Car:=[⟨198,2,1,0,1,1,2,2,0⟩]
def b4S:List Int×List Bool×List Bool×List Entry×ByteArray×ByteArray×Int×List aN×List Belief×List NewCar×List Loaded×List Int×List Calls×Int×Int×Int×List Relay×List Rig×Unit:=([],[],[],[],B [],B [],0,[],[],[],[],[],[],0,0,0,[],[],())
def deS(f:Int)(u o c:Bool):aN:=⟨f,u,E,o,c,0,0,0,0,0,0,0,0,0,0,0,0,0,0,0,0,0,0,0,0,0,0,0,0,0,0,0,0,0,0,0,0,0,0,0,0⟩
def pS(e:List Entry)(h:ByteArray)(c:aN)(q:Belief)(d:Int)(x:List Int)(u:Calls)(t:Int)(r:Relay)(k:Int)(l:List Line):Int×Int×Int×Int×Nat×Nat×Nat×List Car×List Int×List Bool×List Bool×List Entry×ByteArray×ByteArray×Int×List aN×List Belief×List NewCar×List Loaded×List Int×List Calls×Int×Int×Int×List Relay×List Rig×Int×Int×Int×Int×List Int×List Int×List Bool×List Nat×Bool×List Int×Int×List Line×Unit:=(4,1,4000,1,4591870180066957722,4605380978949069210,4607632778762754458,An3,[0],[E],[E],e,B [],h,1,[c],[q],[⟨0,0,0,0,0,E,0,0,0,0,0,0,0,E⟩],[⟨d⟩],x,[u],t,0,0,[r],[⟨0,0,0,2,0,0⟩],k,0,0,0,[0],[1],[],[0],E,[0],t,l,())
def zS(i:Int)(p:Int×Int×Int×Int×Nat×Nat×Nat×List Car×List Int×List Bool×List Bool×List Entry×ByteArray×ByteArray×Int×List aN×List Belief×List NewCar×List Loaded×List Int×List Calls×Int×Int×Int×List Relay×List Rig×Int×Int×Int×Int×List Int×List Int×List Bool×List Nat×Bool×List Int×Int×List Line×Unit):(Unit×Unit×List Z×Int×Int×Int×Int×Unit)×((List Int×List Bool×List Bool×List Entry×ByteArray×ByteArray×Int×List aN×List Belief×List NewCar×List Loaded×List Int×List Calls×Int×Int×Int×List Relay×List Rig×Unit)×(Int×Int×Int×Int×Nat×Nat×Nat×List Car×List Int×List Bool×List Bool×List Entry×ByteArray×ByteArray×Int×List aN×List Belief×List NewCar×List Loaded×List Int×List Calls×Int×Int×Int×List Relay×List Rig×Int×Int×Int×Int×List Int×List Int×List Bool×List Nat×Bool×List Int×Int×List Line×Unit)×Unit):=(((),(),evS,2,1,20,i,()),(b4S,p,()))
def hA:ByteArray:=B [4,0,0,2,0,165,5,0,0,2,0,199,6,0,0,2,0,97]
def hB:ByteArray:=B [4,0,0,2,0,165,5,0,0,2,0,199,6,0,0,2,0,97,1,1,1,2,0,53,3,1,1,2,0,241]
def hC:ByteArray:=B [4,0,0,2,0,165,5,0,0,2,0,199,6,0,0,2,0,97,1,1,1,2,0,53,3,1,1,2,0,241,2,1,1,2,0,147]
def lS:List Line:=[⟨4,B [115,101,114,118,101,100,32,49,32,117,112]⟩]
def p0S:=pS [] hA (deS 0 E E E) ⟨(-1),0,0,[],0,E⟩ 0 [] ⟨0,0⟩ 0 ⟨0,0,0,0,2,0,0,0,0⟩ 2 []
def p1S:=pS [⟨1,1,0,0,E⟩] hB (deS 1 E E H) ⟨0,0,2,[⟨1,1,0⟩],1,E⟩ 1 [1] ⟨0,0⟩ 1 ⟨1,0,1,0,2,1,2,0,0⟩ 0 []
def p2S:=pS [⟨1,1,0,0,E⟩] hB (deS 0 H E H) ⟨0,1,2,[⟨1,1,1⟩],0,E⟩ 1 [0] ⟨0,0⟩ 2 ⟨2,1,1,2,0,1,2,0,0⟩ 0 []
def p3S:=pS [⟨1,1,0,0,E⟩] hB (deS 2 H E E) ⟨1,1,0,[⟨1,1,2⟩],0,E⟩ 1 [0] ⟨0,0⟩ 3 ⟨3,1,1,2,1,2,0,0,0⟩ 0 []
def p4S:=pS [] hC (deS 2 H H E) ⟨1,1,1,[],0,E⟩ 1 [] ⟨2,0⟩ 4 ⟨3,1,1,2,1,1,0,0,0⟩ 0 lS
def p5S:=pS [] hC (deS 2 H H E) ⟨1,1,1,[],0,E⟩ 1 [] ⟨2,0⟩ 5 ⟨4,1,1,2,0,1,0,0,0⟩ 0 lS
def p6S:=pS [] hC (deS 2 H E E) ⟨1,1,0,[],0,E⟩ 1 [] ⟨0,0⟩ 6 ⟨0,1,0,0,2,0,0,0,0⟩ 0 lS
def p7S:=pS [] hC (deS 2 E E H) ⟨1,0,2,[],1,E⟩ 1 [] ⟨0,0⟩ 7 ⟨0,1,0,0,2,0,0,0,0⟩ 0 lS
def p8S:=pS [] hC (deS 2 E E H) ⟨1,0,2,[],2,E⟩ 1 [] ⟨0,0⟩ 8 ⟨0,1,0,0,2,0,0,0,0⟩ 0 lS
def p9S:=pS [] hC (deS 2 E E H) ⟨1,0,2,[],3,E⟩ 1 [] ⟨0,0⟩ 9 ⟨0,1,0,0,2,0,0,0,0⟩ 0 lS
def Bec:=pS [] hC (deS 2 E E H) ⟨1,0,2,[],4,E⟩ 1 [] ⟨0,0⟩ 10 ⟨0,1,0,0,2,0,0,0,0⟩ 0 lS
def Bed:=pS [] hC (deS 2 E E H) ⟨1,0,2,[],5,E⟩ 1 [] ⟨0,0⟩ 11 ⟨0,1,0,0,2,0,0,0,0⟩ 0 lS
def Bee:=pS [] hC (deS 2 E E H) ⟨1,0,2,[],6,E⟩ 1 [] ⟨0,0⟩ 12 ⟨0,1,0,0,2,0,0,0,0⟩ 0 lS
def Bef:=pS [] hC (deS 2 E E H) ⟨1,0,2,[],7,E⟩ 1 [] ⟨0,0⟩ 13 ⟨0,1,0,0,2,0,0,0,0⟩ 0 lS
def Beg:=pS [] hC (deS 2 E E H) ⟨1,0,2,[],8,E⟩ 1 [] ⟨0,0⟩ 14 ⟨0,1,0,0,2,0,0,0,0⟩ 0 lS
def Beh:=pS [] hC (deS 2 E E H) ⟨1,0,2,[],9,E⟩ 1 [] ⟨0,0⟩ 15 ⟨0,1,0,0,2,0,0,0,0⟩ 0 lS
def Bei:=pS [] hC (deS 2 E E H) ⟨1,0,2,[],10,E⟩ 1 [] ⟨0,0⟩ 16 ⟨0,1,0,0,2,0,0,0,0⟩ 0 lS
def Bej:=pS [] hC (deS 2 E E H) ⟨1,0,2,[],11,E⟩ 1 [] ⟨0,0⟩ 17 ⟨0,1,0,0,2,0,0,0,0⟩ 0 lS
def Bek:=pS [] hC (deS 2 E E H) ⟨1,0,2,[],12,E⟩ 1 [] ⟨0,0⟩ 18 ⟨0,1,0,0,2,0,0,0,0⟩ 0 lS
def Bel:=pS [] hC (deS 2 E E H) ⟨1,0,2,[],13,E⟩ 1 [] ⟨0,0⟩ 19 ⟨0,1,0,0,2,0,0,0,0⟩ 0 lS
def VX:=pS [] hC (deS 2 E E H) ⟨1,0,2,[],14,E⟩ 1 [] ⟨0,0⟩ 20 ⟨0,1,0,0,2,0,0,0,0⟩ 0 lS
def tk0:sR2 (zS 0 p0S)=A (.inl (zS 1 p1S)):=κ
def tk1:sR2 (zS 1 p1S)=A (.inl (zS 2 p2S)):=κ
def tk2:sR2 (zS 2 p2S)=A (.inl (zS 3 p3S)):=κ
def tk3:sR2 (zS 3 p3S)=A (.inl (zS 4 p4S)):=κ
def tk4:sR2 (zS 4 p4S)=A (.inl (zS 5 p5S)):=κ
def tk5:sR2 (zS 5 p5S)=A (.inl (zS 6 p6S)):=κ
def tk6:sR2 (zS 6 p6S)=A (.inl (zS 7 p7S)):=κ
def tk7:sR2 (zS 7 p7S)=A (.inl (zS 8 p8S)):=κ
def tk8:sR2 (zS 8 p8S)=A (.inl (zS 9 p9S)):=κ
def tk9:sR2 (zS 9 p9S)=A (.inl (zS 10 Bec)):=κ
def Btj:sR2 (zS 10 Bec)=A (.inl (zS 11 Bed)):=κ
def Btk:sR2 (zS 11 Bed)=A (.inl (zS 12 Bee)):=κ
def Btl:sR2 (zS 12 Bee)=A (.inl (zS 13 Bef)):=κ
def Btm:sR2 (zS 13 Bef)=A (.inl (zS 14 Beg)):=κ
def Btn:sR2 (zS 14 Beg)=A (.inl (zS 15 Beh)):=κ
def Bto:sR2 (zS 15 Beh)=A (.inl (zS 16 Bei)):=κ
def Btp:sR2 (zS 16 Bei)=A (.inl (zS 17 Bej)):=κ
def Btq:sR2 (zS 17 Bej)=A (.inl (zS 18 Bek)):=κ
def Btr:sR2 (zS 18 Bek)=A (.inl (zS 19 Bel)):=κ
def Bts:sR2 (zS 19 Bel)=A (.inl (zS 20 VX)):=κ
def wS:(Unit×Unit×List Z×Int×Int×Unit)×((List Int×List Bool×List Bool×List Entry×ByteArray×ByteArray×Int×List aN×List Belief×List NewCar×List Loaded×List Int×List Calls×Int×Int×Int×List Relay×List Rig×Unit)×(Int×Int×Int×Int×Nat×Nat×Nat×List Car×List Int×List Bool×List Bool×List Entry×ByteArray×ByteArray×Int×List aN×List Belief×List NewCar×List Loaded×List Int×List Calls×Int×Int×Int×List Relay×List Rig×Int×Int×Int×Int×List Int×List Int×List Bool×List Nat×Bool×List Int×Int×List Line×Unit)×Unit):=(((),(),evS,2,1,()),(b4S,VX,()))
def Bht:GG (zS 0 p0S)=A wS:=Za rfl (n:=21) ((Am tk0).trans ((Am tk1).trans ((Am tk2).trans ((Am tk3).trans ((Am tk4).trans ((Am tk5).trans ((Am tk6).trans ((Am tk7).trans ((Am tk8).trans ((Am tk9).trans ((Am Btj).trans ((Am Btk).trans ((Am Btl).trans ((Am Btm).trans ((Am Btn).trans ((Am Bto).trans ((Am Btp).trans ((Am Btq).trans ((Am Btr).trans ((Am Bts).trans (Ao (show sR2 (zS 20 VX)=A (.inr wS)by kernel_rfl)))))))))))))))))))))) (by decide)
def cnT{c:Bool}{x y r:α}(h:c=H)(h2:x=r):(bif c then x else y)=r:=by subst h;exact h2
def cnF{c:Bool}{x y r:α}(h:c=E)(h2:y=r):(bif c then x else y)=r:=by subst h;exact h2
def pBS:=pS [] hA (deS 0 E E E) ⟨(-1),0,0,[],0,E⟩ 0 [] ⟨0,0⟩ 0 ⟨0,0,0,0,2,0,0,0,0⟩ 0 []
def Bhs:GF (((),(),evS,2,0,()),(b4S,pBS,()))=A (((),(),()),(b4S,VX,())):=
 have h0:sR1 (((),(),evS,2,0,()),(b4S,pBS,()))=A (.inl (((),(),evS,2,1,()),(b4S,p0S,()))):=κ;have h1:sR1 (((),(),evS,2,1,()),(b4S,p0S,()))=A (.inl (((),(),evS,2,2,()),(b4S,VX,()))):=by unfold sR1 XC QD;exact cnT (by decide) (cnT (by decide) (cnT (by decide) (Ar Bht κ)))
 have h2:sR1 (((),(),evS,2,2,()),(b4S,VX,()))=A (.inr (((),(),()),(b4S,VX,()))):=κ
 Za rfl (n:=3) ((Am h0).trans ((Am h1).trans (Ao h2))) (by decide)
def imS:List Int×List Bool×List Bool×List Entry×ByteArray×ByteArray×Int×List aN×List Belief×List NewCar×List Loaded×List Int×List Calls×Int×Int×Int×List Relay×List Rig×Unit:=([0],[E],[E],[],B [],hC,1,[⟨2,E,E,E,H,0,0,0,0,0,0,0,0,0,0,0,0,0,0,0,0,0,0,0,0,0,0,0,0,0,0,0,0,0,0,0,0,0,0,0,0⟩],[⟨1,0,2,[],14,E⟩],[⟨0,0,0,0,0,E,0,0,0,0,0,0,0,E⟩],[⟨1⟩],[],[⟨0,0⟩],20,0,0,[⟨0,1,0,0,2,0,0,0,0⟩],[⟨0,0,0,2,0,0⟩],())
def Bs6:Im 4 1 4000 1 4591870180066957722 4605380978949069210 4607632778762754458 An3 evS=A (((),lS,0,()),(imS,())):=by unfold Im;refine Ar (a:=((H,()),())) κ (cnF rfl (Ar (a:=((20,()),())) κ (cnF (by decide) ?_)));refine cnT (by decide) (cnT (by decide) (cnT (by decide) (cnT (by decide) (cnT (by decide) ?_))));refine Ar (a:=(((),0,()),(([0],[E],[E],[],B [],hA,1,[⟨0,E,E,E,E,0,0,0,0,0,0,0,0,0,0,0,0,0,0,0,0,0,0,0,0,0,0,0,0,0,0,0,0,0,0,0,0,0,0,0,0⟩],[⟨(-1),0,0,[],0,E⟩],[⟨0,0,0,0,0,E,0,0,0,0,0,0,0,E⟩],[⟨0⟩],[],[⟨0,0⟩],0,0,0,[⟨0,0,0,0,2,0,0,0,0⟩],[⟨0,0,0,2,0,0⟩],()),()))) κ (Ar (a:=((evS,(),(),()),(b4S,pBS,()))) κ (Ar Bhs rfl))
def Bhu:IJ=A ((H,()),()):=by
 unfold IJ;refine Ar (a:=(((),()),((4,1,4000,1,4591870180066957722,4605380978949069210,4607632778762754458,An3,()),()))) κ ?_;refine Ar (a:=((evS,0,0,()),())) κ ?_;refine Ar (a:=((B [112,114,101,115,115,32,49,32,117,112,10,119,97,105,116,32,50,48,10],0,()),())) κ ?_;refine Ar rfl ?_;refine Ar Bs6 ?_;refine Ar (a:=(([],2,300,()),())) κ ?_
 kernel_rfl
def Ad1(c:UInt8)(s:Bs):AO c s≠[]:=by
 cases s with
 |nil=>exact λh=>by cases h
 |cons b l=>
  rw[AO];cases b==c with
  |true=>exact λh=>by cases h
  |false=>cases AO c l<;>exact λh=>by cases h
def WM(cur:Bs):List Bs→List Bs
 |x::t=>(cur++x)::t
 |[]=>[]
def Yu:∀l,WM [] l=l
 |[]=>rfl
 |_::_=>rfl
def Ie(skip:Bool)(w:Bs):Bool:=!skip||!w.isEmpty
def SG(p q r:Bs):(B (p++(q++r))).extract p.length (p.length+q.length)=B q:=by apply ByteArray.ext;simp[B,ByteArray.data_extract]
noncomputable abbrev Ag8(x:(ByteArray×Int×Bool×List ByteArray×Int×Int×Unit)×Unit):=Cz x.1.1 x.1.2.1 x.1.2.2.1 x.1.2.2.2.1 x.1.2.2.2.2.1 x.1.2.2.2.2.2.1
def Sd(c:UInt8)(skip:Bool){s:Bs}(hs:s.length≤1000000):∀(r p cur:Bs) (out:List Bs),s=p++(cur++r)→out.length≤p.length+cur.length→
  aC Ag8 (r.length+2) ((B s,(c.toNat:Int),skip,out.map B,(p.length:Int),((p.length+cur.length:Nat):Int),()),())=A (((out++(WM cur (AO c r)).filter (Ie skip)).map B,()),())
 |[],p,cur,out,he,ho=>by
  have hlen:s.length=p.length+cur.length:=by rw[he];simp
  have hsz:(B s).size=p.length+cur.length:=by rw[Az,hlen]
  have hw:U.wrap (((p.length+cur.length:Nat):Int)+1)=((p.length+cur.length+1:Nat):Int):=by rw[Ad ω ω];omega
  have hx:=SG p cur [];rw[← he]at hx;have e1:Ag8 ((B s,(c.toNat:Int),skip,out.map B,(p.length:Int),((p.length+cur.length:Nat):Int),()),())=A (.inl ((B s,(c.toNat:Int),skip,(out++[cur].filter (Ie skip)).map B,((p.length+cur.length+1:Nat):Int),((p.length+cur.length+1:Nat):Int),()),())):=by
   show Cz _ _ _ _ _ _=_;unfold Cz;rw[hsz,h_ (aO _),Lp];simp only[O,J,V];cases cur with
   |nil=>
    rw[j_ (show ¬(p.length:Int)<((p.length+([]:Bs).length:Nat):Int)by simp)];simp only[J,V];cases skip with
    |true=>simp only[V_,J,hw];simp[Ie]
    |false=>simp only[aW,O,hw,hsz];rw[h_ (ω:(0:Int)≤((p.length+([]:Bs).length:Nat):Int)),h_ (aO _),h_ (ω:(0:Int)≤(p.length:Int)),h_ (show(p.length:Int)≤((aF ((p.length+([]:Bs).length:Nat):Int):Nat):Int)by rw[s_];simp)];simp only[aV,O,s_,hx,B_,E_];rw[DC (by simp at ho;omega),O];simp[Ie]
   |cons b l=>rw[h_ (show(p.length:Int)<((p.length+(b::l).length:Nat):Int)by rw[g_];omega)];simp only[O,V,hw,hsz];rw[h_ (ω:(0:Int)≤((p.length+(b::l).length:Nat):Int)),h_ (aO _),h_ (ω:(0:Int)≤(p.length:Int)),h_ (show(p.length:Int)≤((aF ((p.length+(b::l).length:Nat):Int):Nat):Int)by rw[s_];omega)];simp only[aV,O,s_,hx,B_,E_];rw[DC ω,O];simp[Ie]
  rw[Am e1];refine Ao ?_;show Cz (B s) (c.toNat:Int) skip _ ((p.length+cur.length+1:Nat):Int) ((p.length+cur.length+1:Nat):Int)=_;unfold Cz;rw[hsz,j_ ω,J]
  simp[AO,WM]
 |b::r,p,cur,out,he,ho=>by
  have hlen:s.length=p.length+cur.length+r.length+1:=by rw[he];simp;omega
  have hsz:(B s).size=p.length+cur.length+r.length+1:=by rw[Az,hlen]
  have hw:U.wrap (((p.length+cur.length:Nat):Int)+1)=((p.length+cur.length+1:Nat):Int):=by rw[Ad ω ω];omega
  have hby:BY (B s) (p.length+cur.length)=(b.toNat:Int):=by rw[Iv ω,he];simp[q_,← List.append_assoc]
  have hne:(((b.toNat:Nat):Int) !=((c.toNat:Nat):Int))=!(b==c):=by
   by_cases h:b=c
   ·subst h;simp
   ·rw[EL h];exact Rm λe=>h (UInt8.toNat_inj.1 ω)
  have hx:=SG p cur (b::r);rw[← he]at hx;have hd1:decide (((p.length+cur.length:Nat):Int)≤((B s).size:Nat))=H:=h_ ω;have hd2:decide (((p.length+cur.length:Nat):Int)<((B s).size:Nat))=H:=h_ ω;have hin:inB ((p.length+cur.length:Nat):Int) (B s).size=H:=Bc ω ω;rw[AO];cases hb:b==c with
  |false=>
   have e1:Ag8 ((B s,(c.toNat:Int),skip,out.map B,(p.length:Int),((p.length+cur.length:Nat):Int),()),())=A (.inl ((B s,(c.toNat:Int),skip,out.map B,(p.length:Int),((p.length+(cur++[b]).length:Nat):Int),()),())):=by show Cz _ _ _ _ _ _=_;unfold Cz;simp only[hd1,hd2,hin,O,s_,hby,hne,hb,aW,V,hw];rw[i_];rfl
   rw[show(b::r).length+2=r.length+2+1 from rfl,Am e1,Sd c skip hs r p (cur++[b]) out (by rw[he];simp) (by rw[i_];omega)];rw[J];cases hr:AO c r with
   |nil=>exact absurd hr (Ad1 c r)
   |cons x t=>simp only[WM,L_,bE]
  |true=>
   have e1:Ag8 ((B s,(c.toNat:Int),skip,out.map B,(p.length:Int),((p.length+cur.length:Nat):Int),()),())=A (.inl ((B s,(c.toNat:Int),skip,(out++[cur].filter (Ie skip)).map B,(((p++(cur++[b])).length:Nat):Int),(((p++(cur++[b])).length+([]:Bs).length:Nat):Int),()),())):=by
    have hl1:(((p++(cur++[b])).length:Nat):Int)=((p.length+cur.length+1:Nat):Int):=by simp;omega
    have hl2:(((p++(cur++[b])).length+([]:Bs).length:Nat):Int)=((p.length+cur.length+1:Nat):Int):=by simp;omega
    rw[hl1,hl2];show Cz _ _ _ _ _ _=_;unfold Cz;simp only[hd1,hd2,hin,O,s_,hby,hne,hb,V_,J,V,hw];have g1:decide ((0:Int)≤((p.length+cur.length:Nat):Int))=H:=h_ ω;have g2:decide ((0:Int)≤(p.length:Int))=H:=h_ ω;have g3:decide ((p.length:Int)≤((p.length+cur.length:Nat):Int))=H:=h_ ω;have g4:aH ((out.map B).length+1) 2147483648=H:=DC (by rw[B_];omega);cases cur with
    |nil=>
     rw[j_ (show ¬(p.length:Int)<((p.length+([]:Bs).length:Nat):Int)by simp)];simp only[J,V];cases skip with
     |true=>simp only[V_,J,hw];simp[Ie]
     |false=>simp only[aW,O,hw,hd1,g1,g2,g3,aV,s_,hx,E_,g4];simp[Ie]
    |cons d l=>rw[h_ (show(p.length:Int)<((p.length+(d::l).length:Nat):Int)by rw[g_];omega)];simp only[O,V,hw,hd1,g1,g2,g3,aV,s_,hx,E_,g4];simp[Ie]
   rw[show(b::r).length+2=r.length+2+1 from rfl,Am e1,Sd c skip hs r (p++(cur++[b])) [] (out++[cur].filter (Ie skip)) (by rw[he];simp) (by
    have:=bD (Ie skip) [cur]
    simp only[i_,E_,b5_]at this⊢;omega)]
   rw[Yu,O,WM,List.append_nil,List.filter_cons,L_];cases h:Ie skip cur<;>simp[h]
def We(c:UInt8)(skip:Bool){s:Bs}(hs:s.length≤1000000):ET (B s) (c.toNat:Int) skip=A ((((AO c s).filter (Ie skip)).map B,()),()):=by have h:=Sd c skip hs s [] [] [] rfl (G_ _);rw[Yu,List.nil_append]at h;unfold ET;exact Ar (Bg h ω) rfl
def Fr(w:Bs):Int:=(Ai w).getD (-1)
noncomputable abbrev Beo(x:(ByteArray×Int×Int×Unit)×Unit):=Cc x.1.1 x.1.2.1 x.1.2.2.1
def YQ{l:Bs}(hl:l.length≤6):∀(m i:Nat) (n:Int),i+m=l.length→0≤n→n<10^i→
  aC Beo (m+1) ((B l,n,(i:Int),()),())=A (match DH n (l.drop i)with | some k=>Sum.inl ((k,()),()) | none=>Sum.inr ((-1,()),()))
 |0,i,n,hi,_,_=>by obtain rfl:i=l.length:=ω;rw[a9_];refine Ao ?_;show Cc _ _ _=_;simp only[lp,Un.u,Cc,Az,Lp,J];rfl
 |m+1,i,n,hi,h0,hn=>by
  have hlt:i<l.length:=ω;have h6:(10:Int)^i≤100000:=by
   have:i≤5:=ω
   rcases i with _ | _ | _ | _ | _ | _ | i
   all_goals first | decide | omega
  rw[GN 0 hlt,DH];generalize hb:l.getD i 0=b;have hby:BY (B l) i=(b.toNat:Int):=by rw[Iv hlt,hb]
  cases h1:aE b.toNat 48 with
  |true=>refine Ao ?_;show Cc _ _ _=_;simp only[lp,Un.u,Cc,Az,Jp hlt,Gs hlt,O,s_,hby,Yh,h1,Bool.true_or]
  |false=>
   cases h2:aE 57 b.toNat with
   |true=>refine Ao ?_;show Cc _ _ _=_;simp only[lp,Un.u,Cc,Az,Jp hlt,Gs hlt,O,J,s_,hby,Yh,Agf,h1,h2,Bool.or_true]
   |false=>
    have hb1:¬b.toNat<48:=λe=>by rw[Ey e]at h1;cases h1
    have hb2:¬57<b.toNat:=λe=>by rw[Ey e]at h2;cases h2
    have hs:Beo ((B l,n,(i:Int),()),())=A (.inl ((B l,10*n+(b.toNat-48:Int),((i+1:Nat):Int),()),())):=by show Cc _ _ _=_;simp only[lp,Un.u,Cc,Az,Jp hlt,Gs hlt,O,J,s_,hby,Yh,Agf,h1,h2];rw[Ad (n:=10*n) ω ω,Ad2 (n:=(b.toNat:Int)-48) ω ω,Ad (n:=(b.toNat:Int)-48) ω ω,Ad (n:=10*n+_) ω ω,Ad (n:=(i:Int)+1) ω ω];rfl
    rw[Am hs,YQ hl m (i+1) _ ω ω (by rw[Int.pow_succ];omega)];rfl
def At4(l:Bs):Il (B l)=A ((Fr l,()),()):=by
 unfold Il Fr;rw[Az];cases l with
 |nil=>rfl
 |cons b r=>
  rw[j_ (show ¬(((b::r).length:Nat):Int)<1 by rw[g_];omega),J];rw[show Ai (b::r)=bif aE 5 r.length||(b==48&&aE 0 r.length)then aA else DH 0 (b::r)from rfl];by_cases h6:5<r.length
  ·rw[h_ (show(6:Int)<(((b::r).length:Nat):Int)by rw[g_];omega),Ey h6];rfl
  ·rw[j_ (show ¬(6:Int)<(((b::r).length:Nat):Int)by rw[g_];omega),J,ND ω,Bc ω (by rw[g_];omega),O,Bool.false_or];have hb:BY (B (b::r)) (aF 0)=(b.toNat:Int):=Iv (l:=b::r) (i:=0) (by simp);rw[hb];have hl:GE ((B (b::r),0,0,()),())=A (match DH 0 (b::r)with | some k=>.inl ((k,()),()) | none=>.inr ((-1,()),())):=
    Bg (YQ (l:=b::r) (by rw[g_];omega) (b::r).length 0 0 ω (by decide) (by decide)) (by rw[g_];omega)
   have h48:(((b.toNat:Nat):Int)==48)=(b==48):=by
    by_cases h:b=48
    ·subst h;rfl
    ·rw[EL h];exact EL λe=>h (UInt8.toNat_inj.1 (by show b.toNat=48;omega))
   have fin:((GE ((B (b::r),0,0,()),())).bind λy2=>(match y2 with | .inl y3=>A ((y3.1.1,()),()) | .inr y3=>A ((y3.1.1,()),())))=A (((DH 0 (b::r)).getD (-1),()),()):=by rw[hl,V];cases DH 0 (b::r)<;>rfl
   rw[h48];cases h:b==48 with
   |true=>
    cases r with
    |nil=>simp only[O,a5_];rw[j_ (show ¬(1:Int)<((([b]:Bs).length:Nat):Int)by simp)];simp only[V,J,b5_,ND (A_ 0)];exact fin
    |cons c r=>simp only[O,a5_];rw[h_ (show(1:Int)<(((b::c::r).length:Nat):Int)by simp only[g_];omega),Ey (show 0<(c::r).length by simp)];rfl
   |false=>simp only[J,a6_,V];exact fin
def RR:List Bs→List Int
 |_::x::y::_=>[-1,Fr x,Fr y]
 |[_,x]=>[-1,Fr x,-1]
 |_=>[-1,-1,-1]
def Als{ws:List Bs}(hl:ws.length≤1000000):Fz ((ws.map B,(),[-1,-1,-1],1,()),((0,0,0,0,0,()),()))=A ((ws.map B,(),RR ws,()),((0,0,0,0,0,()),())):=by
 have stop:∀(n:List Int) (i:Int),(ws.length:Int)≤i∨3≤i→FC (ws.map B) n i 0 0 0 0 0=A (.inr ((ws.map B,(),n,()),((0,0,0,0,0,()),()))):=λn i h=>by
  unfold FC;rw[B_];cases hd:decide (i<(ws.length:Int))with
  |false=>rfl
  |true=>
   have:=c0_ hd
   rw[O,j_ ω];rfl
 have go:∀(n:List Int) (i:Nat),i<ws.length→i<3→n.length=3→FC (ws.map B) n (i:Int) 0 0 0 0 0=A (.inl ((ws.map B,(),n.set i (Fr (ws.getD i [])),((i+1:Nat):Int),()),((0,0,0,0,0,()),()))):=λn i h h3 hn=>by unfold FC;simp only[B_,Jp h,Gs h,O,s_,Hu h,At4,V];rw[h_ (ω:(i:Int)<3),Bc ω ω,Ad ω ω];rfl
 have step:∀(n:List Int) (i:Int) (r:Option (Sum ((List ByteArray×Unit×List Int×Int×Unit)×((Int×Int×Int×Int×Int×Unit)×Unit)) ((List ByteArray×Unit×List Int×Unit)×((Int×Int×Int×Int×Int×Unit)×Unit)))),FC (ws.map B) n i 0 0 0 0 0=r→Ux Fz rfl ((ws.map B,(),n,i,()),((0,0,0,0,0,()),()))=r:=λ_ _ _ h=>h
 match ws,stop,go,step with
 |[],stop,go,step=>exact Hv rfl (n:=1) (Ao (step _ _ _ (stop _ 1 (.inl (by decide))))) (by decide)
 |[a],stop,go,step=>exact Hv rfl (n:=1) (Ao (step _ _ _ (stop _ 1 (.inl (by simp))))) (by decide)
 |[a,x],stop,go,step=>exact Hv rfl (n:=2) ((Am (step _ _ _ (go _ 1 (by simp) (by decide) rfl))).trans (Ao (step _ _ _ (stop _ 2 (.inl (by simp)))))) (by decide)
 |a::x::y::r,stop,go,step=>exact Hv rfl (n:=3) ((Am (step _ _ _ (go _ 1 (by simp) (by decide) rfl))).trans ((Am (step _ _ _ (go _ 2 (by simp) (by decide) rfl))).trans (Ao (step _ _ _ (stop _ 3 (.inr (by decide))))))) (by decide)
def cmdsB:List Bs:=[[100,114,97,105,110],[99,97,110,99,101,108],[114,101,99,111,110,110,101,99,116],[99,111,109,109,105,115,115,105,111,110],[97,98,111,114,116],[97,99,99,101,112,116],[108,101,97,118,101],[114,101,115,101,116]]
def UW:CD=A ((cmdsB.map B,()),()):=rfl
def Axx:∀i,i<8→HT (cmdsB.getD i [])=(i:Int)+1:=by decide
def An4(a:Bs):(cmdsB.find? λw=>decide (a=w))=if HT a=0 then aA else A a:=by
 unfold cmdsB HT;by_cases h1:a=[100,114,97,105,110]
 ·subst h1;rfl
 by_cases h2:a=[99,97,110,99,101,108]
 ·subst h2;rfl
 by_cases h3:a=[114,101,99,111,110,110,101,99,116]
 ·subst h3;rfl
 by_cases h4:a=[99,111,109,109,105,115,115,105,111,110]
 ·subst h4;rfl
 by_cases h5:a=[97,98,111,114,116]
 ·subst h5;rfl
 by_cases h6:a=[97,99,99,101,112,116]
 ·subst h6;rfl
 by_cases h7:a=[108,101,97,118,101]
 ·subst h7;rfl
 by_cases h8:a=[114,101,115,101,116]
 ·subst h8;rfl
 simp only[List.find?_cons,j_ h1,j_ h2,j_ h3,j_ h4,j_ h5,j_ h6,j_ h7,j_ h8,List.find?_nil,if_neg h1,if_neg h2,if_neg h3,if_neg h4,if_neg h5,if_neg h6,if_neg h7,if_neg h8];rfl
def Af1(a:Bs)(ws:List Bs)(n:List Int):Sum ((List ByteArray×Unit×List Int×Unit)×((Int×Int×Int×Int×Int×Unit)×Unit)) ((Unit×Bool×Unit)×((Int×Int×Int×Int×Int×Unit)×Unit)):=if HT a=0 then .inl ((ws.map B,(),n,()),((0,0,0,0,0,()),()))else .inr (((),((ws.length:Int)==2)&&decide (0≤n.getD 1 0),()),((6,0,0,n.getD 1 0,HT a,()),()))
def Alt{n:List Int}(hn:n.length=3):FA (((a::r).map B,(),n,0,()),((0,0,0,0,0,()),()))=A (Af1 a (a::r) n):=by
 have h:=YG (step:=Ux FA rfl) cmdsB [] (λw=>!decide (a=w)) (λi=>(((a::r).map B,(),n,(i:Int),()),((0,0,0,0,0,()),()))) (.inl (((a::r).map B,(),n,()),((0,0,0,0,0,()),())))
  (λw=>.inr (((),(((a::r).length:Int)==2)&&decide (0≤n.getD 1 0),()),((6,0,0,n.getD 1 0,HT w,()),())))
  (λi hi=>by
   have h8:cmdsB.length=8:=rfl;have hlt:i<(cmdsB.map B).length:=by rw[B_];exact hi
   show HE _ _ _ _ _ _ _ _=_;unfold HE;rw[UW];simp only[V];rw[Jp hlt,Gs hlt,Bc ω (by rw[B_,g_];omega)];simp only[O,s_,Hu hi];rw[show(aX (List.map B (a::r)) (aF 0) (aJ (aI [])))=B a from rfl,Kn];have hw:U.wrap ((i:Int)+1)=((i+1:Nat):Int):=by rw[Ad ω ω];omega
   cases he:decide (a=cmdsB.getD i [])with
   |false=>simp only[J,aW,O,hw]
   |true=>rw[Axx i ω];simp only[O,V_,J,hw,B_];rw[Bc (show(0:Int)≤1 by decide) ω];simp only[O];rw[show aF 1=1 from rfl];cases((((a::r).length:Nat):Int)==2)<;>rfl)
  (by show HE ((a::r).map B) n ((cmdsB.length:Nat):Int) 0 0 0 0 0=_;unfold HE;rw[UW];rfl) 8 0 rfl
 rw[c2_]at h;simp only[Bool.not_not,An4]at h;refine Hv rfl (n:=9) (h.trans ?_) (by decide);unfold Af1;by_cases hc:HT a=0
 ·rw[if_pos hc,if_pos hc]
 ·rw[if_neg hc,if_neg hc]
def UZ:∀{l:Bs}{n k:Int},0≤n→DH n l=A k→0≤k
 |[],n,k,h,e=>by cases e;exact h
 |b::r,n,k,h,e=>by
  rw[DH]at e;cases h1:aE b.toNat 48 with
  |true=>rw[h1]at e;cases e
  |false=>
   cases h2:aE 57 b.toNat with
   |true=>rw[h1,h2]at e;cases e
   |false=>
    rw[h1,h2]at e
    have:¬b.toNat<48:=λq=>by rw[Ey q]at h1;cases h1
    exact UZ ω e
def Ap5{l:Bs}{k:Int}(e:Ai l=A k):0≤k:=by
 unfold Ai at e;cases l with
 |nil=>cases e
 |cons b r=>
  simp only at e;cases hc:aE 5 r.length||(b==48&&aE 0 r.length)with
  |true=>rw[hc]at e;cases e
  |false=>rw[hc]at e;exact UZ (aO 0) e
def OP(x:Bs):decide (0≤Fr x)=(Ai x).isSome:=by
 unfold Fr;cases h:Ai x with
 |none=>rfl
 |some k=>exact h_ (Ap5 h)
def Alr(a k:Bs):eqB (B a) (aJ (aI k))=decide (a=k):=Kn a k
def evT(a:Bs)(w:List Bs)(n1 n2:Int):Bool×Z:=
 let two:=(w.length:Int)==2&&decide (0≤n1)
 let three:=(w.length:Int)==3&&(decide (0≤n1)&&decide (0≤n2))
 if a=[119,97,105,116]then(two,⟨1,0,0,0,n1⟩)else
 if a=[112,114,101,115,115]then((w.length:Int)==3&&(decide (0≤n1)&&(decide (w.getD 2 []=[117,112])||decide (w.getD 2 []=[100,111,119,110]))),⟨2,n1,bif(w.length:Int)==3&&decide (w.getD 2 []=[100,111,119,110])then 2 else 1,0,0⟩)else
 if a=[99,97,114]then(three,⟨3,n2,0,n1,0⟩)else
 if a=[108,111,97,100]then(three,⟨4,0,0,n1,n2⟩)else
 if a=[98,108,111,99,107]then(three,⟨5,0,0,n1,n2⟩)else
 if a=[98,97,100]then((w.length:Int)==1,⟨7,0,0,0,0⟩)else
 if a=[99,114,97,115,104]then(two,⟨8,0,0,0,n1⟩)else(E,⟨0,0,0,0,0⟩)
def Af4(hl:(a::r).length≤1000000)(hc:HT a=0){n1 n2:Int}(hn:RR (a::r)=[-1,n1,n2]):HI ((a::r).map B)=A (((),(evT a (a::r) n1 n2).1,()),((evT a (a::r) n1 n2).2.tup,())):=by
 have h1:=Alt (a:=a) (r:=r) (n:=[-1,n1,n2]) rfl;rw[Af1,if_pos hc]at h1;have h0:=Als hl;rw[hn]at h0;unfold HI;refine Ar h0 (Ar h1 ?_);simp only[B_];have g0:inB (0:Int) (a::r).length=H:=Bc ω (by rw[g_];omega);have k1:inB (1:Int) ([-1,n1,n2]:List Int).length=H:=rfl;have k2:inB (2:Int) ([-1,n1,n2]:List Int).length=H:=rfl;have d0:aX ((a::r).map B) (aF 0) (aJ (aI []))=B a:=rfl;have d1:aX ([-1,n1,n2]:List Int) (aF 1) 0=n1:=rfl;have d2:aX ([-1,n1,n2]:List Int) (aF 2) 0=n2:=rfl;refine Ar (a:=(((a::r).map B,(),[-1,n1,n2],((a::r).length:Int)==2&&decide (0≤n1),((a::r).length:Int)==3&&(decide (0≤n1)&&decide (0≤n2)),()),((0,0,0,0,0,()),()))) ?_ ?_
 ·simp only[k1,k2,d1,d2,O];cases(((a::r).length:Nat):Int)==2<;>cases(((a::r).length:Nat):Int)==3<;>cases decide (0≤n1)<;>rfl
 simp only[B_,g0,O,d0,Alr,k1,k2,d1,d2];unfold evT;by_cases q1:a=[119,97,105,116]
 ·rw[if_pos q1,h_ q1];rfl
 rw[if_neg q1,j_ q1,J];by_cases q2:a=[112,114,101,115,115]
 ·rw[if_pos q2,h_ q2,O];cases hq:(((a::r).length:Nat):Int)==3 with
  |false=>simp only[J,V,B_,hq,a6_]
  |true=>have h3:(((a::r).length:Nat):Int)=3:=eq_of_beq hq;have g2:inB (2:Int) (a::r).length=H:=Bc ω ω;have d3:aX ((a::r).map B) (aF 2) (aJ (aI []))=B ((a::r).getD 2 []):=Hu ω;cases hu:decide ((a::r).getD 2 []=[117,112])<;>cases hv:decide ((a::r).getD 2 []=[100,111,119,110])<;>cases hw:decide (0≤n1)<;>simp only[O,J,V,g2,d3,Alr,B_,hq,k1,d1,hu,hv,hw]<;>rfl
 rw[if_neg q2,j_ q2,J];by_cases q3:a=[99,97,114]
 ·rw[if_pos q3,h_ q3];rfl
 rw[if_neg q3,j_ q3,J];by_cases q4:a=[108,111,97,100]
 ·rw[if_pos q4,h_ q4];rfl
 rw[if_neg q4,j_ q4,J];by_cases q5:a=[98,108,111,99,107]
 ·rw[if_pos q5,h_ q5];rfl
 rw[if_neg q5,j_ q5,J];by_cases q6:a=[98,97,100]
 ·rw[if_pos q6,h_ q6];rfl
 rw[if_neg q6,j_ q6,J];by_cases q7:a=[99,114,97,115,104]
 ·rw[if_pos q7,h_ q7];rfl
 rw[if_neg q7,j_ q7,J]
def Aa3(a x y z:Bs)(r:List Bs):evR (a::x::y::z::r)=aA:=rfl
def evP(w:List Bs)(y:(Unit×Bool×Unit)×((Int×Int×Int×Int×Int×Unit)×Unit)):Prop:=match evR w with
 |some e=>y=(((),H,()),(e.tup,()))
 |none=>y.1.2.1=E
def Hr{e:Z} {y}(h:evR w=A e)(h2:y=(((),H,()),(e.tup,()))):evP w y:=by unfold evP;rw[h];exact h2
def AA {y}(h:evR w=aA)(h2:y.1.2.1=E):evP w y:=by unfold evP;rw[h];exact h2
def Baf(hc:HT a=0){n1 n2:Int}(hn:RR (a::r)=[-1,n1,n2]):evP (a::r) (((),(evT a (a::r) n1 n2).1,()),((evT a (a::r) n1 n2).2.tup,())):=by
 match r,hn with
 |[],hn=>
  unfold evT;by_cases q1:a=[119,97,105,116]
  ·subst q1;exact AA rfl rfl
  rw[if_neg q1];by_cases q2:a=[112,114,101,115,115]
  ·subst q2;exact AA rfl rfl
  rw[if_neg q2];by_cases q3:a=[99,97,114]
  ·subst q3;exact AA rfl rfl
  rw[if_neg q3];by_cases q4:a=[108,111,97,100]
  ·subst q4;exact AA rfl rfl
  rw[if_neg q4];by_cases q5:a=[98,108,111,99,107]
  ·subst q5;exact AA rfl rfl
  rw[if_neg q5];by_cases q6:a=[98,97,100]
  ·subst q6;exact Hr rfl rfl
  rw[if_neg q6];by_cases q7:a=[99,114,97,115,104]
  ·subst q7;exact AA rfl rfl
  rw[if_neg q7];exact AA (by rw[Af2,if_neg q6]) rfl
 |[x],hn=>
  obtain⟨rfl,rfl⟩:Fr x=n1∧(-1:Int)=n2:=by simpa[RR]using hn
  have hx:=OP x;unfold evT;by_cases q1:a=[119,97,105,116]
  ·subst q1;rw[if_pos rfl,hx];cases h:Ai x with
   |none=>exact AA (by rw[Rw,if_pos rfl,h];rfl) rfl
   |some n=>exact Hr (by rw[Rw,if_pos rfl,h];rfl) (by rw[Fr,h];rfl)
  rw[if_neg q1];by_cases q2:a=[112,114,101,115,115]
  ·subst q2;exact AA rfl rfl
  rw[if_neg q2];by_cases q3:a=[99,97,114]
  ·subst q3;exact AA rfl rfl
  rw[if_neg q3];by_cases q4:a=[108,111,97,100]
  ·subst q4;exact AA rfl rfl
  rw[if_neg q4];by_cases q5:a=[98,108,111,99,107]
  ·subst q5;exact AA rfl rfl
  rw[if_neg q5];by_cases q6:a=[98,97,100]
  ·subst q6;exact AA rfl rfl
  rw[if_neg q6];by_cases q7:a=[99,114,97,115,104]
  ·subst q7;rw[if_pos rfl,hx];cases h:Ai x with
   |none=>exact AA (by rw[Rw,if_neg q1,if_pos rfl,h];rfl) rfl
   |some n=>exact Hr (by rw[Rw,if_neg q1,if_pos rfl,h];rfl) (by rw[Fr,h];rfl)
  rw[if_neg q7];exact AA (by rw[Rw,if_neg q1,if_neg q7,if_pos hc]) rfl
 |[x,y],hn=>
  obtain⟨rfl,rfl⟩:Fr x=n1∧Fr y=n2:=by simpa[RR]using hn
  have hx:=OP x;have hy:=OP y;have nx:∀n,Ai x=A n→Fr x=n:=λn h=>by rw[Fr,h];rfl
  have ny:∀n,Ai y=A n→Fr y=n:=λn h=>by rw[Fr,h];rfl
  unfold evT;by_cases q1:a=[119,97,105,116]
  ·subst q1;exact AA rfl rfl
  rw[if_neg q1];by_cases q2:a=[112,114,101,115,115]
  ·subst q2;rw[if_pos rfl,hx];by_cases u:y=[117,112]
   ·subst u;cases h:Ai x with
    |none=>exact AA (by rw[FQ,if_pos rfl,if_pos rfl,h];rfl) rfl
    |some n=>rw[nx n h];exact Hr (by rw[FQ,if_pos rfl,if_pos rfl,h];rfl) rfl
   by_cases v:y=[100,111,119,110]
   ·subst v;cases h:Ai x with
    |none=>exact AA (by rw[FQ,if_pos rfl,if_neg u,if_pos rfl,h];rfl) rfl
    |some n=>rw[nx n h];exact Hr (by rw[FQ,if_pos rfl,if_neg u,if_pos rfl,h];rfl) rfl
   refine AA (by rw[FQ,if_pos rfl,if_neg u,if_neg v]) ?_;show((([[112,114,101,115,115],x,y]:List Bs).length:Int)==3&&((Ai x).isSome&&(decide (y=[117,112])||decide (y=[100,111,119,110]))))=E;rw[j_ u,j_ v];cases(Ai x).isSome<;>rfl
  rw[if_neg q2];by_cases q3:a=[99,97,114]
  ·subst q3;rw[if_pos rfl,hx,hy];cases h:Ai x with
   |none=>exact AA (by rw[FQ,if_neg q2,if_pos rfl,h];rfl) rfl
   |some n=>
    cases h2:Ai y with
    |none=>exact AA (by rw[FQ,if_neg q2,if_pos rfl,h,h2];rfl) rfl
    |some k=>rw[nx n h,ny k h2];exact Hr (by rw[FQ,if_neg q2,if_pos rfl,h,h2];rfl) rfl
  rw[if_neg q3];by_cases q4:a=[108,111,97,100]
  ·subst q4;rw[if_pos rfl,hx,hy];cases h:Ai x with
   |none=>exact AA (by rw[FQ,if_neg q2,if_neg q3,if_pos rfl,h];rfl) rfl
   |some n=>
    cases h2:Ai y with
    |none=>exact AA (by rw[FQ,if_neg q2,if_neg q3,if_pos rfl,h,h2];rfl) rfl
    |some k=>rw[nx n h,ny k h2];exact Hr (by rw[FQ,if_neg q2,if_neg q3,if_pos rfl,h,h2];rfl) rfl
  rw[if_neg q4];by_cases q5:a=[98,108,111,99,107]
  ·subst q5;rw[if_pos rfl,hx,hy];cases h:Ai x with
   |none=>exact AA (by rw[FQ,if_neg q2,if_neg q3,if_neg q4,if_pos rfl,h];rfl) rfl
   |some n=>
    cases h2:Ai y with
    |none=>exact AA (by rw[FQ,if_neg q2,if_neg q3,if_neg q4,if_pos rfl,h,h2];rfl) rfl
    |some k=>rw[nx n h,ny k h2];exact Hr (by rw[FQ,if_neg q2,if_neg q3,if_neg q4,if_pos rfl,h,h2];rfl) rfl
  rw[if_neg q5];have hno:evR [a,x,y]=aA:=by rw[FQ,if_neg q2,if_neg q3,if_neg q4,if_neg q5]
  by_cases q6:a=[98,97,100]
  ·subst q6;exact AA hno rfl
  rw[if_neg q6];by_cases q7:a=[99,114,97,115,104]
  ·subst q7;exact AA hno rfl
  rw[if_neg q7];exact AA hno rfl
 |x::y::z::r,hn=>
  have l1:(((a::x::y::z::r).length:Int)==1)=E:=EL (by simp only[g_];omega);have l2:(((a::x::y::z::r).length:Int)==2)=E:=EL (by simp only[g_];omega);have l3:(((a::x::y::z::r).length:Int)==3)=E:=EL (by simp only[g_];omega);refine AA (Aa3 a x y z r) ?_;show(evT a (a::x::y::z::r) n1 n2).1=E;unfold evT;rw[l1,l2,l3];simp only[a6_];split
  ·rfl
  split
  ·rfl
  split
  ·rfl
  split
  ·rfl
  split
  ·rfl
  split
  ·rfl
  split<;>rfl
def At5(a:Bs)(r:List Bs):∃n1 n2,RR (a::r)=[-1,n1,n2]:=by
 match r with
 |[]=>exact⟨_,_,rfl⟩
 |[x]=>exact⟨_,_,rfl⟩
 |x::y::r=>exact⟨_,_,rfl⟩
def Aoz(hl:(a::r).length≤1000000):Sat (HI ((a::r).map B)) (evP (a::r)):=by
 obtain⟨n1,n2,hn⟩:=At5 a r;by_cases hc:HT a=0
 ·exact Sat.val (Af4 hl hc hn) (Baf hc hn)
 ·have h1:=Alt (a:=a) (r:=r) (n:=[-1,n1,n2]) rfl;rw[Af1,if_neg hc]at h1;have h0:=Als hl;rw[hn]at h0;unfold HI;refine Sat.bindE h0 (Sat.bindE h1 (Sat.ret ?_));have q:∀k:Bs,HT k=0→a≠k:=λk h e=>hc (by rw[e];exact h)
  match r,hn with
  |[],hn=>exact AA (by rw[Af2,if_neg (q _ (by decide))]) rfl
  |[x],hn=>
   obtain⟨rfl,rfl⟩:Fr x=n1∧(-1:Int)=n2:=by simpa[RR]using hn
   have he:evR [a,x]=(Ai x).map λn=>⟨6,0,0,n,HT a⟩:=by rw[Rw,if_neg (q _ (by decide)),if_neg (q _ (by decide)),if_neg hc]
   cases h:Ai x with
   |none=>exact AA (by rw[he,h];rfl) (by show(H&&decide (0≤Fr x))=E;rw[OP,h];rfl)
   |some n=>
    have hx:Fr x=n:=by rw[Fr,h];rfl
    refine Hr (by rw[he,h];rfl) ?_;show(((),H&&decide (0≤Fr x),()),((6,0,0,Fr x,HT a,()),()))=_;rw[OP,h,hx];rfl
  |[x,y],hn=>exact AA (by rw[FQ,if_neg (q _ (by decide)),if_neg (q _ (by decide)),if_neg (q _ (by decide)),if_neg (q _ (by decide))]) rfl
  |x::y::z::r,hn=>refine AA (Aa3 a x y z r) ?_;have l2:(((a::x::y::z::r).length:Int)==2)=E:=EL (by simp only[g_];omega);simp only[l2,a6_]
def Sb(c:UInt8):∀s:Bs,(AO c s).length≤s.length+1∧∀w∈AO c s,w.length≤s.length
 |[]=>⟨A_ _,λw hw=>by rw[List.mem_singleton.1 hw];exact G_ _⟩
 |b::s=>by
  obtain⟨h1,h2⟩:=Sb c s;rw[AO];cases b==c with
  |true=>
   rw[O];refine⟨by rw[g_,g_];omega,λw hw=>?_⟩;rcases y_.1 hw with rfl | hw
   ·exact G_ _
   ·exact Nat.le_succ_of_le (h2 w hw)
  |false=>
   rw[J];cases hs:AO c s with
   |nil=>exact absurd hs (Ad1 c s)
   |cons x r=>
    rw[hs]at h1 h2;refine⟨by rw[g_,g_]at*;omega,λw hw=>?_⟩;rcases y_.1 hw with rfl | hw
    ·rw[g_,g_];exact Nat.succ_le_succ (h2 x a1_)
    ·exact Nat.le_succ_of_le (h2 w (X_ _ hw))
def Vi(c:UInt8):∀s:Bs,∃r,AO c s=Bx c s::r
 |[]=>⟨[],rfl⟩
 |b::s=>by
  rw[AO,Bx];cases b==c with
  |true=>exact⟨_,rfl⟩
  |false=>obtain⟨r,hr⟩:=Vi c s;rw[hr];exact⟨r,rfl⟩
def Ua(c:UInt8):∀s:Bs,(Bx c s).length≤s.length
 |[]=>A_ _
 |b::s=>by
  have:=Ua c s
  rw[Bx];cases b==c with
  |true=>exact G_ _
  |false=>rw[J,g_,g_];omega
def Al4(l:List Bs):l.filter (Ie E)=l:=List.filter_eq_self.2 λ_ _=>rfl
def Am1{l:Bs}(hl:l.length≤100000):Sat (ET (B l) 35 E) λy=>inB 0 y.1.1.length=H∧ET (y.1.1.getD (aF 0) (aJ (aI []))) 32 H=A (((FX l).map B,()),()):=by
 have h:=We 35 E (s:=l) ω;rw[Al4]at h;refine Sat.val h ?_;obtain⟨r,hr⟩:=Vi 35 l;rw[hr];refine⟨Bc ω (by rw[B_,g_];omega),?_⟩
 have:=Ua 35 l
 exact We 32 H (s:=Bx 35 l) ω
section
variable{b:Bldg}(hb:b.small)(hc:b.C0.length≤1000)
include hb hc
noncomputable abbrev Beq:=Ux JG rfl
theorem Qj{ls:List Bs}(hn:ls.length≤100000)(hl:∀l∈ls,l.length≤100000):∀(m i:Nat) (out:List Z),i+m=ls.length→out.length≤i→
  aC Beq (m+1) (((),out,ls.map B,(i:Int),()),(b.tp,()))=A (QO (FW b i out (ls.drop i)))
 |0,i,out,hi,_=>by obtain rfl:i=ls.length:=ω;rw[a9_];refine Ao ?_;show HB out (ls.map B) (ls.length:Int) _ _ _ _ _ _ _ _=_;simp only[lp,Un.u,HB,B_,Lp,J];rfl
 |m+1,i,out,hi,ho=>by
  have hlt:i<ls.length:=ω;have hg:=Hu hlt;rw[GN ([]:Bs) hlt,FW];have hll:(ls.getD i []).length≤100000:=by rw[q_,f_ hlt];exact hl _ (a8_ hlt)
  generalize ls.getD i []=l at hg hll⊢;have hw:U.wrap ((i:Int)+1)=((i+1:Nat):Int):=Ad ω ω;have hwl:(FX l).length≤1000000:=by have h1:=bD (λw:Bs=>!w.isEmpty) (AO 32 (Bx 35 l));have h2:=(Sb 32 (Bx 35 l)).1;have h3:=Ua 35 l;unfold FX;omega
  obtain⟨y1,e1,e2,e3⟩:=Am1 hll;obtain⟨r0,hr0⟩:∃r0,Beq (((),out,ls.map B,(i:Int),()),(b.tp,()))=r0:=⟨_,rfl⟩;have hs:HB out (ls.map B) (i:Int) b.A0 b.B0 b.N0 b.I0 b.F0 b.M0 b.L0 b.C0=r0:=hr0;unfold HB at hs;simp only[B_,Jp hlt,Gs hlt,O,s_,hg,e1,V,e2,e3,hw]at hs;cases hwv:FX l with
  |nil=>rw[hwv]at hs;rw[Am (hr0.trans hs.symm)];exact Qj hn hl m (i+1) out ω ω
  |cons w ws=>
   rw[hwv]at hs hwl;obtain⟨y3,e4,e5⟩:=Aoz hwl;rw[show((((w::ws).length:Nat):Int)==0)=E from EL (by rw[g_];omega),e4]at hs;simp only[J,V]at hs;unfold evP at e5;cases he:evR (w::ws)with
   |none=>rw[he]at e5;rw[show y3.1.2.1=E from e5]at hs;rw[Ao (hr0.trans hs.symm)];simp only[he];rfl
   |some e=>
    rw[he]at e5;have e5:y3=(((),H,()),(e.tup,())):=e5;subst e5;simp only[V_,J,Xr hb hc e,V]at hs;cases hv:Cb b e with
    |false=>rw[hv]at hs;rw[Ao (hr0.trans hs.symm)];simp only[he,hv];rfl
    |true=>rw[hv]at hs;simp only[V_,J,E_,DC (ω:out.length+1≤2147483648),O]at hs;rw[Am (hr0.trans hs.symm)];simp only[he,hv,O];exact Qj hn hl m (i+1) (out++[e]) ω (by rw[i_,E_];omega)
def Xo(b:Bldg)(s:Bs):List Z×Int×Int:=if s.length≤60000 then FW b 0 [] (AO 10 s)else([],0,3)
def TO(r:List Z×Int×Int):(List Z×Int×Int×Unit)×Unit:=((r.1,r.2.1,r.2.2,()),())
omit hb hc in
theorem NS:∀(ls:List Bs) (i:Nat) (out:List Z),out.length≤i→(FW b i out ls).1.length≤i+ls.length∧((FW b i out ls).2.2=0→(FW b i out ls).2.1=0)
 |[],i,out,h=>by rw[FW];exact⟨by rw[b5_];exact h,λ_=>rfl⟩
 |l::r,i,out,h=>by
  rw[FW];cases FX l with
  |nil=>
   have:=NS r (i+1) out ω
   exact⟨by rw[g_];simp only;omega,this.2⟩
  |cons w ws=>
   simp only;cases evR (w::ws)with
   |none=>exact⟨G_ _,λh=>absurd h (show ¬(300:Int)=0 by decide)⟩
   |some e=>
    simp only;cases Cb b e with
    |false=>exact⟨G_ _,λh=>absurd h (show ¬(2:Int)=0 by decide)⟩
    |true=>
     have:=NS r (i+1) (out++[e]) (by rw[i_,E_];omega)
     exact⟨by rw[g_,O];omega,this.2⟩
theorem Ang(h0:b.code=0)(s:Bs):AL b.A0 b.B0 b.N0 b.I0 b.F0 b.M0 b.L0 b.C0 (B s)=A (TO (Xo b s))∧ES b.A0 b.B0 b.N0 b.I0 b.F0 b.M0 b.L0 b.C0 (B s)=A (TO (Xo b s)):=by
 unfold AL ES Xo;rw[HM b,Gy b];simp only[V,h0,bne_self_eq_false,J,Az];by_cases hl:s.length≤60000
 ·rw[if_pos hl,j_ (ω:¬(60000:Int)<(s.length:Int)),J,J];obtain⟨n1,n2⟩:=Sb 10 s;have hn:(AO 10 s).length≤100000:=ω;have hx:∀l∈AO 10 s,l.length≤100000:=λl h=>by have:=n2 l h;omega
  have h1:FK (B s) (aJ (aI [10]))=A (((AO 10 s).map B,()),()):=by show(bif aE (B s).size 4294967281&&H then A (((AO 10 s).map B,()),())else aA)=_;rw[Az,Ey ω];rfl
  have h2:=We 10 E (s:=s) ω;rw[Al4]at h2;have l1:=RS hb hc hn hx (AO 10 s).length 0 [] ω (A_ _);have l2:=Qj hb hc hn hx (AO 10 s).length 0 [] ω (A_ _);have hz:=(NS (b:=b) (AO 10 s) 0 [] (A_ _)).2;rw[c2_]at l1 l2;have fin:∀r:List Z×Int×Int,(r.2.2=0→r.2.1=0)→(match QO r with | .inl y4=>A ((y4.1.1,(0:Int),(0:Int),()),()) | .inr y4=>A ((y4.1.1,y4.1.2.1,y4.1.2.2.1,()),()))=A (TO r):=λr hr=>by
   obtain⟨l,i,c⟩:=r;unfold QO;cases hc:c==0 with
   |true=>have hc:=eq_of_beq hc;have hi:i=0:=hr hc;subst hc hi;rfl
   |false=>simp only[hc];rfl
  constructor
  ·refine Ar h1 (Ar (a:=QO (FW b 0 [] (AO 10 s))) ?_ (fin _ hz));rw[B_];exact Bg l1 ω
  ·refine Ar h2 (Ar (a:=QO (FW b 0 [] (AO 10 s))) ?_ (fin _ hz));exact Hv rfl l2 ω
 ·rw[if_neg hl,h_ (ω:(60000:Int)<(s.length:Int))];exact⟨rfl,rfl⟩
end
def QH(d:ByteArray)(a c:Nat):(d.extract a c).size≤d.size:=by rw[ByteArray.size_extract];omega
def Pz{l:List ByteArray}(h:l.all (λx=>aH x.size 40000)=H)(i:Nat):(l.getD i (aJ (aI []))).size≤40000:=by
 by_cases hi:i<l.length
 ·rw[q_,f_ hi];exact r_ (F_.1 h _ (a8_ hi))
 ·rw[q_,List.getElem?_eq_none ω];exact G_ _
def le3{a b c:ByteArray}(ha:a.size≤40000)(hb:b.size≤40000)(hc:c.size≤40000):aH ((a++b).size+c.size) 4611686018427387904=H:=DC (by rw[ByteArray.size_append];omega)
def le2{a b:ByteArray}(ha:a.size≤40000)(hb:b.size≤40000):aH (a.size+b.size) 4611686018427387904=H:=DC ω
def Ae3(s:ByteArray):B s.data.toList=s:=rfl
section
variable{b:Bldg}(hb:b.small)(hcode:b.code=0)
include hb hcode
theorem Ys(s:ByteArray):∃r,AL b.A0 b.B0 b.N0 b.I0 b.F0 b.M0 b.L0 b.C0 s=A (TO r)∧ES b.A0 b.B0 b.N0 b.I0 b.F0 b.M0 b.L0 b.C0 s=A (TO r)∧r.1.length≤100000:=by
 have hcc:=Hb hcode;have h:=Ang hb ω hcode s.data.toList;rw[Ae3]at h;refine⟨_,h.1,h.2,?_⟩;unfold Xo;by_cases hl:s.data.toList.length≤60000
 ·rw[if_pos hl];have h1:=(NS (b:=b) (AO 10 s.data.toList) 0 [] (A_ _)).1;have h2:=(Sb 10 s.data.toList).1;omega
 ·rw[if_neg hl];exact G_ _
theorem Ac6(s:ByteArray)(x:Int×Int×Int×Unit){ts:List ByteArray}(hn:ts.length≤100):Dt (((),(),s,ts,(ts.length:Int),0,()),(x,b.tup,()))=A (.inl (((),(),s,()),(x,b.tup,()))):=by
 refine Hv rfl (n:=ts.length+1) (VM ts.length (λi=>(((),(),s,ts,(ts.length:Int),(i:Int),()),(x,b.tup,()))) _ (λi hi=>?_) ?_ ts.length 0 (p_ _)) ω
 ·show Dx s ts (ts.length:Int) (i:Int) x.1 x.2.1 x.2.2.1 b.A0 b.B0 b.N0 b.I0 b.F0 b.M0 b.L0 b.C0=_;unfold Dx;simp only[Jp hi,Gs hi,O,QX (ω:ts.length≤100000) hi];obtain⟨r,h1,h2,h3⟩:=Ys hb hcode (ts.getD (aF (i:Int)) (aJ (aI [])));exact Ar h1 (Ar h2 (cnF (bne_self_eq_false _) (cnF (bne_self_eq_false _) (Ar (WA r.1 h3) (cnF rfl rfl)))))
 ·show Dx s ts (ts.length:Int) (ts.length:Int) x.1 x.2.1 x.2.2.1 b.A0 b.B0 b.N0 b.I0 b.F0 b.M0 b.L0 b.C0=_;unfold Dx;simp only[Lp,J];rfl
end
def Aec(s:ByteArray):AL 0 0 0 0 0 0 0 [] s=A (([],0,1,()),()):=by unfold AL;exact Ar (HM ⟨0,0,0,0,0,0,0,[]⟩) (cnT (by decide) rfl)
def VR(n_f0:Int)(n_f1:Int)(n_f2:Int)(l:List Int)(x_f0:Int)(x_f1:Int)(x_f2:Int)(h_n_f0:0≤n_f0∧n_f0<256)(h_n_f1:0≤n_f1∧n_f1<256)(h_n_f2:0≤n_f2∧n_f2<256)(h_l:l.length≤maxLen∧∀e∈l,(0≤e∧e<256))(_h_x_f0:0≤x_f0∧x_f0<256)(_h_x_f1:0≤x_f1∧x_f1<256)(h_x_f2:0≤x_f2∧x_f2<256):F_l29_ScriptParses n_f0 n_f1 n_f2 l x_f0 x_f1 x_f2=A ((H,()),()):=by
 refine Sat.eq ?_;unfold F_l29_ScriptParses;obtain⟨_,hbl,b,rfl,hb,hcode⟩:=Bd3 h_n_f0 h_n_f1 h_n_f2;have hcc:=Hb hcode;have hc:b.C0.length≤1000:=ω;refine Sat.bindE hbl (Sat.bindS (Am6 hb hcode h_l.2) λy2 h2=>Sat.bindE (Zn hb hc ω) ?_);obtain⟨s,k,hs,hz⟩:∃(s:ByteArray) (k:Int),Agc b y2.1.1=((s,k,()),())∧s.size≤34000:=by
  unfold Agc;cases hv:b.code==0&&y2.1.1.all (Cb b)with
  |false=>exact⟨_,_,rfl,G_ _⟩
  |true=>
   refine⟨_,_,rfl,?_⟩;rw[b_,F_]at hv
   have:=SI (K:=33) (ls:=y2.1.1.map FS) λx hx=>by obtain⟨e,he,rfl⟩:=c8_.1 hx;exact(Abr (Amz hb hc (hv.2 e he))).2.2
   rw[B_]at this;rw[Az,QJ];omega
 rw[hs];have hw:U.wrap ((s.size:Int)+1)=((s.size+1:Nat):Int):=by rw[Ad ω ω];omega
 have hk:=aM (a:=U.wrap (aD U (aD U x_f0*256)+U.wrap x_f1)) ((s.size+1:Nat):Int) (by rw[Ad (n:=x_f0) ω ω,Ad (n:=x_f1) ω ω,Ad (n:=x_f0*256) ω ω,Ad ω ω];omega);have hk2:=aL (aD U (aD U (aD U x_f0*256)+U.wrap x_f1)) (ω:(0:Int)<((s.size+1:Nat):Int));dsimp only;rw[hw];refine Sat.bifT (Rm ω) ?_;generalize aB (aD U (aD U (aD U x_f0*256)+U.wrap x_f1)) ((s.size+1:Nat):Int)=z at hk hk2;have hA:(decide ((0:Int)≤z)&&decide (z≤(s.size:Int)))=H:=by rw[h_ hk,h_ ω];rfl
 have hw1:U.wrap (z+1)=z+1:=Ad ω ω;rw[hw1];have hB:(decide ((0:Int)≤(bif decide ((s.size:Int)<z+1)then(s.size:Int)else z+1))&&decide ((bif decide ((s.size:Int)<z+1)then(s.size:Int)else z+1)≤(s.size:Int)))=H:=by
  by_cases q:(s.size:Int)<z+1
  ·rw[h_ q,O,h_ ω,h_ (aO _)];rfl
  ·rw[j_ q,J,h_ ω,h_ ω];rfl
 have hE:∀a c:Nat,(s.extract a c).size≤40000:=λa c=>a3_ (QH s a c) ω;have hz3:=aM (a:=x_f2) 16 ω;have hz4:=aL x_f2 (show(0:Int)<16 by decide);refine Sat.bifT (Bc hz3 hz4) (Sat.bifT hA (Sat.bifT hA (Sat.bifT (le2 (hE _ _) (Pz (by decide) _)) (Sat.bifT hA (Sat.bifT (le3 (hE _ _) (Pz (by decide) _) (hE _ _)) (Sat.bifT hA (Sat.bifT hB (Sat.bifT (le2 (hE _ _) (hE _ _)) (Sat.bifT hA (Sat.bifT (le2 (hE _ _) (Pz (by decide) _)) (Sat.bifT hB (Sat.bifT (le3 (hE _ _) (Pz (by decide) _) (hE _ _)) ?_))))))))))));refine Sat.bindE (Ac6 hb hcode s (x_f0,x_f1,x_f2,()) (show 6≤100 by decide)) ?_;have hq:=aM (a:=x_f2) 2 ω;have hq2:=aL x_f2 (show(0:Int)<2 by decide);have hL:U.wrap (60000+U.wrap (aB x_f2 2))=60000+aB x_f2 2:=by rw[Ad (n:=aB x_f2 2) ω ω,Ad ω ω]
 dsimp only;rw[hL];refine Sat.bifT (by rw[h_ ω,h_ (aO _),h_ ω];rfl) ?_;obtain⟨r,h1,h2,h3⟩:=Ys hb hcode (JL (List.replicate (aF (60000+aB x_f2 2)) 0));refine Sat.bindE h1 (Sat.bindE h2 (Sat.bindE (Aec s) (Sat.bindE (b:=((H,()),())) (cnT (P_ _) (cnT rfl (cnT rfl (Ar Bhu rfl)))) (Sat.ret rfl))))
end Go.Ovl
