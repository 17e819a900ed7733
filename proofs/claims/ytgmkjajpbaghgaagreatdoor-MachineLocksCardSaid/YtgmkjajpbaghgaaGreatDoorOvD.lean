/- Layer 2: the sum of 8 bits, the program's and the reference's. -/
import Derived.Test.YtgmkjajpbaghgaaGreatDoorOvA
import Derived.Test.YtgmkjajpbaghgaaGreatDoorDefs4
import Derived.Test.YtgmkjajpbaghgaaGreatDoorOvC
import Derived.Test.YtgmkjajpbaghgaaGreatDoorOvB
set_option linter.all false
open Go.Ovl renaming Bldg->B,Sto->C,Record->H,Img->J
open Bool renaming false->D,true->I
open Option renaming some->E
open Go.Ovl.Sto renaming no->L,cur->aC
open Go.IntKind renaming u8->N,i64->Q,wrap->aE
open Array renaming mk->O
open ByteArray renaming mk->P
open Go.Ovl.Img renaming none->aA
open Go.Ovl.Record renaming mk->aB
open List renaming replicate->aD
open BitVec renaming ofInt->aF
open UInt8 renaming toNat_lt->aG
namespace Go.Ovl
open Go Go.Ab
set_option maxRecDepth 100000
variable{b:B}{s:C}{m:J}{r:H}{bud room n:Int}{l t:List UInt8}
def bl(s:ByteArray):List UInt8:=s.data.toList
def OR{a c:ByteArray}(h:bl a=bl c):a=c:=by
 apply ByteArray.ext;unfold bl at h;exact Array.toList_inj.1 h
def KE(a c:ByteArray):bl (a++c)=bl a++bl c:=by simp[bl]
def SA(a:ByteArray)(i j:Nat):bl (a.extract i j)=((bl a).drop i).take (j-i):=by simp[bl]
def GA(a:ByteArray):(bl a).length=a.size:=by simp[bl]
def Bpa(l:List UInt8):bl ⟨l.toArray⟩=l:=by simp[bl]
def LI(s:ByteArray)(i:Nat):Bo s i=(((bl s).getD i 0).toNat:Int):=by
 unfold Bo bl;simp[u_,k_]
def Pq(r:Nat):Nat:=if 128≤r then(r*2%256)^^^7 else r*2%256
def it8:Nat→Nat→Nat
 |0,r=>r
 |k+1,r=>it8 k (Pq r)
def Tw(r x:Nat):Nat:=it8 8 (r^^^x)
def RT(l:List UInt8):Nat:=l.foldl (λr x=>Tw r x.toNat) 0
def Aam{r:Nat}(_h:r<256):Pq r<256:=by
 unfold Pq;split
 ·exact d3_ (n:=8) ω (by decide)
 ·omega
def Aww:∀(k:Nat) {r:Nat},r<256→it8 k r<256
 |0,_,h=>h
 |k+1,_,h=>Aww k (Aam h)
def Zv{r x:Nat}(h:r<256)(h':x<256):Tw r x<256:=Aww 8 (d3_ (n:=8) h h')
def Bgk(l:List UInt8):∀r:Nat,r<256→l.foldl (λr x=>Tw r x.toNat) r<256:=by
 induction l with
 |nil=>exact λr h=>h
 |cons x t ih=>
  intro r h;rw[List.foldl_cons];have hx:x.toNat<256:=aG x;exact ih _ (Zv h hx)
def Apo(l:List UInt8):RT l<256:=Bgk l 0 ω
def PZ(h:0≤n)(h':n<256):N.wrap n=n:=by
 simp only[aE,IntKind.signed,IntKind.bits];simp;omega
def Boh{a c:Nat}(ha:a<256)(hc:c<256):N.wrap (stk (a:Int) (c:Int) (BitVec.toNat ((aF (IntKind.bits .u8) (a:Int))^^^(aF (IntKind.bits .u8) (c:Int)))))=((a^^^c:Nat):Int):=by
 have h:=d3_ (n:=8) ha hc;rw[JJ,BitVec.toNat_xor,U_,U_];rw[show(((a:Int))%((2^IntKind.bits .u8:Nat):Int)).toNat=a by simp only[IntKind.bits];omega,show(((c:Int))%((2^IntKind.bits .u8:Nat):Int)).toNat=c by simp only[IntKind.bits];omega]
 exact PZ ω ω
def Be8{a c:Nat}(ha:a<256)(hc:c<256):Q.wrap (stk (a:Int) (c:Int) (BitVec.toNat ((aF (IntKind.bits .i64) (a:Int))^^^(aF (IntKind.bits .i64) (c:Int)))))=((a^^^c:Nat):Int):=by
 have h:=d3_ (n:=8) ha hc;rw[JJ,BitVec.toNat_xor,U_,U_];rw[show(((a:Int))%((2^IntKind.bits .i64:Nat):Int)).toNat=a by simp only[IntKind.bits];omega,show(((c:Int))%((2^IntKind.bits .i64:Nat):Int)).toNat=c by simp only[IntKind.bits];omega]
 exact Ac ω ω
def Aru:∀(k i r:Nat),Bw (λ_ r=>Pq r) k i r=it8 k r
 |0,_,_=>rfl
 |k+1,i,r=>Aru k (i+1) (Pq r)
def Awh(s:ByteArray)(s7 s8:Int){r k:Nat}(hr:r<256)(hk:k<8):OI s (r:Int) s7 s8 (k:Int)=E (Sum.inl ((s,((Pq r:Nat):Int),s7,s8,((k+1:Nat):Int),()),())):=by
 unfold OI;have w:Q.wrap ((k:Int)+1)=((k+1:Nat):Int):=by rw[Ac ω ω];omega
 have h0:N.wrap ((r:Int)*((2:Int)^(Min.min (Int.toNat (1:Int)) (IntKind.bits N))))=((r*2%256:Nat):Int):=by
  rw[show((2:Int)^(Min.min (Int.toNat (1:Int)) (IntKind.bits N)))=2 from rfl]
  simp only[aE,IntKind.signed,IntKind.bits];simp
 have h1:N.wrap ((Int.fdiv (r:Int) ((2:Int)^(Min.min (Int.toNat (7:Int)) (IntKind.bits N))))*(7:Int))=(((if 128≤r then 7 else 0):Nat):Int):=by
  rw[show((2:Int)^(Min.min (Int.toNat (7:Int)) (IntKind.bits N)))=128 from rfl,a1_ _ ω]
  split
  ·rw[show(r:Int)/128=1 by omega];rfl
  ·rw[show(r:Int)/128=0 by omega];rfl
 simp only[b_ (ω:(k:Int)<8),d_,h0,h1,w]
 rw[Boh ω (by split<;>omega)]
 unfold Pq;split
 ·rfl
 ·rw[Nat.xor_zero]
def Axz(s:ByteArray)(i:Int){r k:Nat}(hr:r<256)(hk:k<8):OK s (r:Int) i (k:Int)=E (Sum.inl ((s,((Pq r:Nat):Int),i,((k+1:Nat):Int),()),())):=by
 unfold OK;have w:Q.wrap ((k:Int)+1)=((k+1:Nat):Int):=by rw[Ac ω ω];omega
 have h0:Int.tmod (aE Q ((r:Int)*2)) 256=((r*2%256:Nat):Int):=by
  rw[Ac ω ω,d8_ ω];omega
 simp only[b_ (ω:(k:Int)<8),d_,h0,w]
 unfold Pq;by_cases h:128≤r
 ·rw[b_ (ω:(128:Int)≤(r:Int)),if_pos h,d_]
  have hx:=Be8 (a:=r*2%256) (c:=7) ω ω
  rw[show((7:Nat):Int)=7 from rfl]at hx
  rw[hx]
 ·rw[f_ (ω:¬(128:Int)≤(r:Int)),if_neg h];rfl
def Awg(s:ByteArray)(s7 s8:Int){r:Nat}(hr:r<256):Oz ((s,(r:Int),s7,s8,(0:Int),()),())=E ((s,((it8 8 r:Nat):Int),s7,s8,()),()):=by
 have h:=AQ (step:=λx=>OI x.1.1 x.1.2.1 x.1.2.2.1 x.1.2.2.2.1 x.1.2.2.2.2.1) 8 (λk r=>((s,((r:Nat):Int),s7,s8,(k:Int),()),())) (λ_ r=>Pq r) (λ_ r=>r<256) (λr=>((s,((r:Nat):Int),s7,s8,()),())) (λk r hk hr=>⟨Awh s s7 s8 hr hk,Aam hr⟩) (λr _=>rfl) 8 0 r rfl hr
 have h':=h.1;rw[Aru]at h';exact Ai h' ω
def Axy(s:ByteArray)(i:Int){r:Nat}(hr:r<256):OC ((s,(r:Int),i,(0:Int),()),())=E ((s,((it8 8 r:Nat):Int),i,()),()):=by
 have h:=AQ (step:=λx=>OK x.1.1 x.1.2.1 x.1.2.2.1 x.1.2.2.2.1) 8 (λk r=>((s,((r:Nat):Int),i,(k:Int),()),())) (λ_ r=>Pq r) (λ_ r=>r<256) (λr=>((s,((r:Nat):Int),i,()),())) (λk r hk hr=>⟨Axz s i hr hk,Aam hr⟩) (λr _=>rfl) 8 0 r rfl hr
 have h':=h.1;rw[Aru]at h';exact Ai h' ω
def Uo{α β:Type}(f:β→α→β)(d:α):∀(l:List α) (k i:Nat) (s:β),i+k=l.length→Bw (λi s=>f s (l.getD i d)) k i s=(l.drop i).foldl f s
 |l,0,i,s,h=>by
  obtain rfl:i=l.length:=ω
  simp[Bw]
 |l,k+1,i,s,h=>by
  have hi:i<l.length:=ω
  simp only[Bw];rw[Uo f d l k (i+1) _ ω,List.drop_eq_getElem_cons hi,List.foldl_cons]
  simp[hi]
def Am6{s:ByteArray}(hs:s.size≤1000000):Rt s=E ((((RT (bl s):Nat):Int),()),()):=by
 have h:=AQ (step:=λx=>Jt x.1.1 x.1.2.1 x.1.2.2.1 x.1.2.2.2.1) s.size (λi r=>((s,((r:Nat):Int),(s.size:Int),(i:Int),()),())) (λi r=>Tw r ((bl s).getD i 0).toNat) (λ_ r=>r<256) (λr=>((((r:Nat):Int),()),())) (λi r hi hr=>by
  have hx:=aG ((bl s).getD i 0);refine⟨?_,Zv hr hx⟩;show Jt s ((r:Nat):Int) (s.size:Int) (i:Int)=_;have w:Q.wrap ((i:Int)+1)=((i+1:Nat):Int):=by rw[Ac ω ω];omega
  unfold Jt;simp only[b_ (ω:(i:Int)<(s.size:Int)),Aa (ω:(0:Int)≤(i:Int)) (ω:(i:Int)<(s.size:Int)),d_,j_,LI]
  rw[Boh hr hx,Awg s _ _ (d3_ (n:=8) hr hx),a_,w]
  rfl) (λr _=>by
  show Jt s ((r:Nat):Int) (s.size:Int) (s.size:Int)=_;unfold Jt;simp only[f_ (N_ (s.size:Int)),c_]) s.size 0 0 ω ω
 have h':=Ai h.1 ω
 rw[Uo (λr (x:UInt8)=>Tw r x.toNat) 0 (bl s) s.size 0 0 (by rw[GA];omega),R_]at h'
 unfold Rt;rw[show Oy ((s,(0:Int),(s.size:Int),(0:Int),()),())=_ from h']
 rfl
def Ann{s:ByteArray}(hs:s.size≤1000000):Ok s=E ((((RT (bl s):Nat):Int),()),()):=by
 have h:=AQ (step:=λx=>Jv x.1.1 x.1.2.1 x.1.2.2.1) s.size (λi r=>((s,((r:Nat):Int),(i:Int),()),())) (λi r=>Tw r ((bl s).getD i 0).toNat) (λ_ r=>r<256) (λr=>((((r:Nat):Int),()),())) (λi r hi hr=>by
  have hx:=aG ((bl s).getD i 0);refine⟨?_,Zv hr hx⟩;show Jv s ((r:Nat):Int) (i:Int)=_;have w:Q.wrap ((i:Int)+1)=((i+1:Nat):Int):=by rw[Ac ω ω];omega
  unfold Jv;simp only[b_ (ω:(i:Int)<(s.size:Int)),Aa (ω:(0:Int)≤(i:Int)) (ω:(i:Int)<(s.size:Int)),d_,j_,LI,Ac (n:=(((bl s).getD i 0).toNat:Int)) ω ω]
  rw[Be8 hr hx,Axy s _ (d3_ (n:=8) hr hx),a_,w]
  rfl) (λr _=>by
  show Jv s ((r:Nat):Int) (s.size:Int)=_;unfold Jv;simp only[f_ (N_ (s.size:Int)),c_]) s.size 0 0 ω ω
 have h':=Ai h.1 ω
 rw[Uo (λr (x:UInt8)=>Tw r x.toNat) 0 (bl s) s.size 0 0 (by rw[GA];omega),R_]at h'
 have hl:=Apo (bl s);unfold Ok;rw[show OB ((s,(0:Int),(0:Int),()),())=_ from h']
 simp only[a_];rw[show((bl s).foldl (λr (x:UInt8)=>Tw r x.toNat) 0)=RT (bl s)from rfl,PZ ω ω]
def u8n(n:Int):UInt8:=UInt8.ofNat n.toNat
def Sd(h:0≤n∧n<256):((u8n n).toNat:Int)=n:=by
 unfold u8n;rw[UInt8.toNat_ofNat'];omega
def txt(l:List UInt8):ByteArray:=⟨l.toArray⟩
def FP(l:List UInt8):bl (txt l)=l:=Bpa l
def Bn9(s:ByteArray):txt (bl s)=s:=OR (FP _)
def Afh(a c:List UInt8):txt a++txt c=txt (a++c):=OR (by rw[KE,FP,FP,FP])
def Fu(l:List UInt8):(txt l).size=l.length:=by rw[← GA,FP]
def Aao(l:List Int):GO l=txt (l.map u8n):=rfl
def Aai(r:H):List UInt8:=[u8n r.T0,u8n r.D0,u8n r.I0,u8n (r.Q0+2),u8n r.V1]
def Cl(r:H):List UInt8:=Aai r++[u8n ((RT (Aai r):Nat):Int)]
def HD(r:H):(Cl r).length=6:=rfl
def Qr(hb:b.small){f d:Int}(h:Ak b f d=I):(0≤f∧f<100)∧(1≤d∧d≤2):=by
 have lo:=hb.lo;have hi:=hb.hi;unfold Ak OT at h;simp only[e_,b3_,Y_,Am]at h;omega
structure RecOK(r:Record):Prop where
 k:1≤r.T0∧r.T0≤7
 f:0≤r.D0∧r.D0<100
 d:0≤r.I0∧r.I0<100
 c:-2≤r.Q0∧r.Q0<100
 v:0≤r.V1∧r.V1<256
def Uz(hb:b.small)(hc:b.B0.length≤100)(h:Az b r=I):RecOK r:=by
 have hk:=(Zg h).2
 have hcar:(r.T0=4∨r.T0=5∨r.T0=6)→r.D0=0∧r.I0=0:=λhq=>by
  unfold Az SE at h;rcases hq with q | q | q
  all_goals
   rw[q]at h;simp only[show((4:Int)==1)=D from rfl,show((4:Int)==2)=D from rfl,show((4:Int)==3)=D from rfl,show((5:Int)==1)=D from rfl,show((5:Int)==2)=D from rfl,show((5:Int)==3)=D from rfl,show((5:Int)==4)=D from rfl,show((6:Int)==1)=D from rfl,show((6:Int)==2)=D from rfl,show((6:Int)==3)=D from rfl,show((6:Int)==4)=D from rfl,show((6:Int)==5)=D from rfl,l_,d_,c_,e_,Y_]at h
   exact h.2.1.2
 rcases hk with h1 | h1 | h1 | h1 | h1 | h1 | h1
 ·have:=Qr hb h1.2.1
  exact⟨ω,this.1,ω,ω,ω⟩
 ·have:=Qr hb h1.2.1
  exact⟨ω,this.1,ω,ω,ω⟩
 ·have:=Qr hb h1.2.1
  exact⟨ω,this.1,ω,ω,ω⟩
 ·have:=hcar ω
  exact⟨ω,ω,ω,ω,ω⟩
 ·have:=hcar ω
  exact⟨ω,ω,ω,ω,ω⟩
 ·have:=hcar ω
  exact⟨ω,ω,ω,ω,ω⟩
 ·have:=Qr hb h1.2.1
  exact⟨ω,this.1,ω,ω,ω⟩
def Be4(h:RecOK r):GO [N.wrap r.T0,N.wrap r.D0,N.wrap r.I0,N.wrap (aE Q (r.Q0+2)),N.wrap r.V1]=txt (Aai r):=by
 obtain⟨h1,h2,h3,h4,h5⟩:=h;rw[PZ (n:=r.T0) ω ω,PZ (n:=r.D0) ω ω,PZ (n:=r.I0) ω ω,Ac (n:=r.Q0+2) ω ω,PZ (n:=r.Q0+2) ω ω,PZ (n:=r.V1) ω ω]
 rfl
def Ha(b:B)(r:H):ByteArray:=bif Az b r then txt (Cl r)else txt []
section
variable{b:B}(hb:b.small)(hc:b.B0.length≤100)
include hb hc
theorem SX(r:H):Iu b.C0 b.E0 b.H0 b.M0 b.J0 b.L0 b.N0 b.B0 r.T0 r.D0 r.I0 r.Q0 r.V1=E ((Ha b r,(bif Az b r then 0 else 1),()),()):=by
 unfold Iu Ha;rw[TQ hb hc r];simp only[a_];cases hv:Az b r with
 |false=>rfl
 |true=>
  have h:=Uz hb hc hv;simp only[n_,c_,d_,Be4 h];rw[Am6 (by rw[Fu];show 5≤1000000;omega)]
  simp only[a_,FP,Aao];rw[Ax (by rw[Fu,Fu];show 5+1≤4611686018427387904;omega),Afh]
  rfl
theorem Ah5(r:H):Oo b.C0 b.E0 b.H0 b.M0 b.J0 b.L0 b.N0 b.B0 r.T0 r.D0 r.I0 r.Q0 r.V1=E ((Ha b r,(bif Az b r then 0 else 1),()),()):=by
 unfold Oo Ha;rw[Als hb hc r];simp only[a_];cases hv:Az b r with
 |false=>rfl
 |true=>
  have h:=Uz hb hc hv;simp only[n_,c_,d_,Be4 h];rw[Ann (by rw[Fu];show 5≤1000000;omega)]
  simp only[a_,FP,Aao];rw[Ax (by rw[Fu,Fu];show 5+1≤4611686018427387904;omega),Afh]
  rfl
end
def fld(l:List UInt8)(i:Nat):Int:=((l.getD i 0).toNat:Int)
def Asi(l:List UInt8):H:=⟨fld l 0,fld l 1,fld l 2,fld l 3-2,fld l 4⟩
def Abj(b:B)(l:List UInt8):Option H:=
 bif l.length==6&&(((((RT (l.take 5):Nat):Int))==fld l 5)&&Az b (Asi l))then E (Asi l)else none
def Awl(h:Abj b l=E r):Az b r=I:=by
 unfold Abj at h;cases hq:(l.length==6&&(((((RT (l.take 5):Nat):Int))==fld l 5)&&Az b (Asi l)))with
 |false=>rw[hq]at h;cases h
 |true=>
  rw[hq]at h;cases h;rw[e_,e_]at hq;exact hq.2.2
def Bfo(hb:b.small)(hc:b.B0.length≤100)(h:Az b r=I):Abj b (Cl r)=E r:=by
 obtain⟨h1,h2,h3,h4,h5⟩:=Uz hb hc h;have hs:=Apo (Aai r)
 have e:Asi (Cl r)=r:=by
  show aB ((u8n r.T0).toNat:Int) ((u8n r.D0).toNat:Int) ((u8n r.I0).toNat:Int) (((u8n (r.Q0+2)).toNat:Int)-2) ((u8n r.V1).toNat:Int)=r;rw[Sd ω,Sd ω,Sd ω,Sd ω,Sd ω,show r.Q0+2-2=r.Q0 by omega]
 have e5:fld (Cl r) 5=((RT (Aai r):Nat):Int):=by
  show((u8n ((RT (Aai r):Nat):Int)).toNat:Int)=_;exact Sd ω
 unfold Abj;rw[e,h,e5,show(Cl r).take 5=Aai r from rfl,HD]
 simp
def My(b:B):Nat→List UInt8→List H
 |0,_=>[]
 |k+1,l=>if 6≤l.length then match Abj b (l.take 6)with | some r=>r::My b k (l.drop 6) | none=>[]else []
def Ny(b:B)(s:ByteArray):List H:=My b s.size (bl s)
def XK(b:B):∀(k:Nat) (l:List UInt8),6*(My b k l).length≤l.length
 |0,_=>by simp[My]
 |k+1,l=>by
  simp only[My];split
  ·split
   ·rename_i h _ r _
    have:=XK b k (l.drop 6)
    rw[X_]at this;rw[z_];omega
   ·simp
  ·simp
def Uw(b:B):∀(k:Nat) (l:List UInt8),∀r∈My b k l,Az b r=I
 |0,_,_,h=>by simp[My]at h
 |k+1,l,r,h=>by
  simp only[My]at h;split at h
  ·split at h
   ·rename_i _ _ r' hr
    rcases y_.1 h with rfl | h
    ·exact Awl hr
    ·exact Uw b k _ r h
   ·cases h
  ·cases h
def Alx{b:B}(hb:b.small)(hc:b.B0.length≤100){t:List UInt8}(ht:t.length<6):∀(rs:List H) (k:Nat),rs.length≤k→(∀r∈rs,Az b r=I)→My b k (rs.flatMap Cl++t)=rs
 |[],0,_,_=>rfl
 |[],k+1,_,_=>by
  simp only[My,List.flatMap_nil,Z_];rw[if_neg ω]
 |r::rs,0,h,_=>by simp at h
 |r::rs,k+1,h,hv=>by
  have e1:(r::rs).flatMap Cl++t=Cl r++(rs.flatMap Cl++t):=by rw[a0_,O_]
  have e2:(Cl r++(rs.flatMap Cl++t)).take 6=Cl r:=e6_ (HD r);have e3:(Cl r++(rs.flatMap Cl++t)).drop 6=rs.flatMap Cl++t:=List.drop_left' (HD r);simp only[My];rw[e1,e2,e3,Bfo hb hc (hv r (E_ ..)),if_pos (by rw[h_,HD];omega),Alx hb hc ht rs k (by simp at h;omega) λx hx=>hv x (K_ _ hx)]
def Km(l:List UInt8):List Int:=l.map λx=>(x.toNat:Int)
def As7(l:List UInt8):GO (Km l)=txt l:=by
 rw[Aao];unfold Km;rw[List.map_map];congr 1
 conv=>rhs;rw[← List.map_id l]
 refine List.map_congr_left λx _=>?_
 show UInt8.ofNat (Int.toNat (x.toNat:Int))=x;rw[j_,UInt8.ofNat_toNat]
def Ba6(l:List UInt8):(Km l).all (λn=>decide (0≤n)&&decide (n<256))=I:=by
 rw[G_];intro n hn;obtain⟨x,_,rfl⟩:=c3_.1 hn
 have:x.toNat<256:=aG x
 simp only[e_,A_];omega
def Auo(h:l≠[]):Fi (Km l)=E ((txt l,()),(((),Km l,()),())):=by
 unfold Fi
 rw[Ba6,As7,show Asz (Km l)=I by
  cases l with
  |nil=>exact absurd rfl h
  |cons a t=>rfl]
 rfl
def Ay6(s:ByteArray)(h:l.length+s.size≤2147483648):DG s (Km l)=E (((s.size:Int),(),()),(((),Km (l++bl s),()),())):=by
 unfold DG wsF;rw[show(Km l).length=l.length from d2_ _,Ax h]
 unfold Km bl;rw[List.map_append];rfl
def Af0(b:B)(r:H):(bl (Ha b r)).length≤6:=by
 unfold Ha;cases Az b r with
 |true=>rw[d_,FP,HD];omega
 |false=>rw[c_,FP];simp
def Vy(h:Az b r=I):Ha b r=txt (Cl r):=by unfold Ha;rw[h];rfl
def ZE{b:B}:∀{rs:List H},(∀r∈rs,Az b r=I)→rs.flatMap (λr=>bl (Ha b r))=rs.flatMap Cl
 |[],_=>rfl
 |r::t,h=>by
  rw[a0_,a0_,Vy (h r (E_ ..)),FP,ZE λx hx=>h x (K_ _ hx)]
def Yq(rs:List H):(rs.flatMap Cl).length=6*rs.length:=by
 induction rs with
 |nil=>rfl
 |cons r t ih=>rw[a0_,h_,ih,HD,z_];omega
section
variable{b:B}(hb:b.small)(hc:b.B0.length≤100)
include hb hc
theorem Aiz(bud:Int){rs:List H}(hl:rs.length≤1000000)(s t:C):Ll ((bud,(),(),(),(),rs,(rs.length:Int),(0:Int),()),(b.tup,(s.h0,s.h1,s.sel,()),(t.h0,t.h1,t.sel,()),((),[],()),()))=E ((bud,(),(),(),(),()),(b.tup,(s.h0,s.h1,s.sel,()),(t.h0,t.h1,t.sel,()),((),Km (rs.flatMap λr=>bl (Ha b r)),()),())):=by
 have h:=AQ (step:=λx=>letI a:=x.2.1.2.2;letI c:=x.1.2.2.2.2.2;letI d:=x.2.2;letI f:=a.2.2;GG x.1.1 c.1 c.2.1 c.2.2.1 x.2.1.1 x.2.1.2.1 a.1 a.2.1 f.1 f.2.1 f.2.2.1 f.2.2.2.1 d.1.1 d.1.2.1 d.1.2.2.1 d.2.1.1 d.2.1.2.1 d.2.1.2.2.1 d.2.2.1.2.1) rs.length
  (λi (l:List UInt8)=>((bud,(),(),(),(),rs,(rs.length:Int),(i:Int),()),(b.tup,(s.h0,s.h1,s.sel,()),(t.h0,t.h1,t.sel,()),((),Km l,()),()))) (λi l=>l++bl (Ha b (rs.getD i (aB 0 0 0 0 0)))) (λi l=>l.length≤6*i) (λl=>((bud,(),(),(),(),()),(b.tup,(s.h0,s.h1,s.sel,()),(t.h0,t.h1,t.sel,()),((),Km l,()),()))) (λi l hi hs=>by
   have he:=Af0 b (rs.getD i (aB 0 0 0 0 0));refine⟨?_,by rw[h_];omega⟩
   show GG bud rs (rs.length:Int) (i:Int) b.C0 b.E0 b.H0 b.M0 b.J0 b.L0 b.N0 b.B0 s.h0 s.h1 s.sel t.h0 t.h1 t.sel (Km l)=_;unfold GG;simp only[b_ (ω:(i:Int)<(rs.length:Int)),Aa (ω:(0:Int)≤(i:Int)) (ω:(i:Int)<(rs.length:Int)),d_,j_,SX hb hc,a_,Ay6 (Ha b (rs.getD i (aB 0 0 0 0 0))) (l:=l) (by rw[← GA];omega),Dz hi (show rs.length≤AI by unfold AI;omega)]
   rfl) (λl _=>by
   show GG bud rs (rs.length:Int) (rs.length:Int) b.C0 b.E0 b.H0 b.M0 b.J0 b.L0 b.N0 b.B0 s.h0 s.h1 s.sel t.h0 t.h1 t.sel (Km l)=_;unfold GG;simp only[f_ (N_ (rs.length:Int)),c_]
   rfl) rs.length 0 [] ω (by simp)
 have h':=Ai h.1 ω
 have e:Bw (λi l=>l++bl (Ha b (rs.getD i (aB 0 0 0 0 0)))) rs.length 0 []=rs.flatMap λr=>bl (Ha b r):=by
  rw[Hh (λi=>bl (Ha b (rs.getD i (aB 0 0 0 0 0)))),Z_,Mx (λr=>bl (Ha b r)) (aB 0 0 0 0 0) rs 0 rs.length ω,R_]
 rw[e]at h';exact h'
end
def Dn(b:B)(s:C)(m:J)(bud:Int):C×Int×Int:=
 bif !(decide (s.ok b.H0))then(L,0,1)else bif decide (bud<0)then(L,0,1)else bif !(m.ok b)then(L,0,1)else
 bif((s.erase b.H0 (1-s.sel) bud).2.2==0)then
  (bif(((s.erase b.H0 (1-s.sel) bud).1.write b.H0 (1-s.sel) (txt ((CG m).flatMap Cl)) (s.erase b.H0 (1-s.sel) bud).2.1).2.2==0)then
   ((s.erase b.H0 (1-s.sel) bud).1.write b.H0 (1-s.sel) (txt ((CG m).flatMap Cl)) (s.erase b.H0 (1-s.sel) bud).2.1).1.choose b.H0 (1-s.sel) ((s.erase b.H0 (1-s.sel) bud).1.write b.H0 (1-s.sel) (txt ((CG m).flatMap Cl)) (s.erase b.H0 (1-s.sel) bud).2.1).2.1
  else(s.erase b.H0 (1-s.sel) bud).1.write b.H0 (1-s.sel) (txt ((CG m).flatMap Cl)) (s.erase b.H0 (1-s.sel) bud).2.1)
 else s.erase b.H0 (1-s.sel) bud
def An9(room:Int)(s:C)(half bud:Int)(t:C)(hb:bud<9223372036854775808):(s.act room half bud t).2.1<9223372036854775808:=by
 unfold Sto.act;split
 ·show(0:Int)<_;omega
 ·split
  ·show(0:Int)<_;omega
  ·show bud-1<_;omega
def Ahj(room:Int)(s:C)(half:Int)(d:ByteArray)(bud:Int)(hb:bud<9223372036854775808):(s.write room half d bud).2.1<9223372036854775808:=by
 unfold Sto.write;split
 ·show(0:Int)<_;omega
 ·split
  ·show(0:Int)<_;omega
  ·split
   ·show(0:Int)<_;omega
   ·show bud-(d.size:Int)<_;omega
def Aer(hb:b.small)(hc:b.B0.length≤100)(s:C)(hf:m.fit)(hbud:bud<9223372036854775808):
  MW b.C0 b.E0 b.H0 b.M0 b.J0 b.L0 b.N0 b.B0 s.h0 s.h1 s.sel m.F0 m.O0 m.K0 m.A0 bud=E (Sto.out (Dn b s m bud)):=by
 have hmx:100000≤maxLen:=by decide
 have hp:=hf.p;have he:=hf.e;unfold MW Dn;rw[Iw,CL hb m ω ω,Acg hb hf]
 simp only[a_];by_cases hs:s.ok b.H0
 ·rw[b_ (show Sto.ok b.H0 ⟨s.h0,s.h1,s.sel⟩from hs)]
  by_cases hb0:bud<0
  ·rw[b_ hb0];rfl
  rw[f_ hb0];cases hok:m.ok b with
  |false=>rfl
  |true=>
   have hm:=Img.ok_iff.1 hok;have hcars:=Aj hm.code;have hlp:=hm.lp;have hsn:TW b m=CG m:=by unfold TW;rw[hok];rfl
   have hsl:=XT m
   have hne:(CG m).flatMap Cl≠[]:=λh0=>by
    have h1:=Yq (CG m);rw[h0,hsl,d1_]at h1;omega
   have hloop:=Aiz hb hc bud (rs:=CG m) (by rw[hsl];omega) s L
   rw[ZE (RS hm)]at hloop;simp only[Bldg.tup,L,noB]at hloop
   have hsel:Q.wrap (1-s.sel)=1-s.sel:=by
    obtain⟨_,_,_,_,h5⟩:=hs;exact Ac ω ω
   simp only[n_,c_,hsn,hloop,a_,hsel,Ata _ _ _ _ _ _ hbud,Sto.out];have hb1:=An9 b.H0 s (1-s.sel) bud (s.set (1-s.sel) noB) hbud;rw[show s.act b.H0 (1-s.sel) bud (s.set (1-s.sel) noB)=s.erase b.H0 (1-s.sel) bud from rfl]at hb1
   rw[show Sto.mk s.h0 s.h1 s.sel=s from rfl]
   generalize s.erase b.H0 (1-s.sel) bud=r1 at hb1⊢;cases hq:r1.2.2==0 with
   |false=>
    simp only[c_,a_,hq]
   |true=>
    simp only[d_,Auo hne,a_,Sj _ _ _ _ _ _ _ hb1,Sto.out];have hb2:=Ahj b.H0 r1.1 (1-s.sel) (txt ((CG m).flatMap Cl)) r1.2.1 hb1;rw[show Sto.mk r1.1.h0 r1.1.h1 r1.1.sel=r1.1 from rfl]
    generalize r1.1.write b.H0 (1-s.sel) (txt ((CG m).flatMap Cl)) r1.2.1=r2 at hb2⊢;cases hq2:r2.2.2==0 with
    |false=>simp only[c_]
    |true=>
     simp only[d_,An6 _ _ _ _ _ _ hb2,a_,Sto.out]
 ·rw[f_ (show ¬Sto.ok b.H0 ⟨s.h0,s.h1,s.sel⟩from hs)]
  rfl
def IY(b:B)(m:J)(r:H):Bool:=r.T0==1&&(!(FG (At r.D0 r.I0) m.A0)&&!(Pn b m))
def FH(b:B)(s:C)(m:J)(r:H)(bud:Int):C×Int×Int:=
 bif decide ((6:Int)≤b.H0-(s.cur.size:Int))then s.write b.H0 s.sel (txt (Cl r)) bud else Dn b s (An m r) bud
def UI(b:B)(s:C)(m:J)(r:H)(bud:Int):C×J×Int×Int:=
 bif !(m.ok b&&Az b r)then(L,aA,0,1)else bif !(decide (s.ok b.H0))then(L,aA,0,1)else bif decide (bud<0)then(L,aA,0,1)else
 bif IY b m r then(L,aA,0,7)else
 bif(FH b s m r bud).2.2==0 then((FH b s m r bud).1,An m r,(FH b s m r bud).2.1,(FH b s m r bud).2.2)
 else bif(FH b s m r bud).2.2==8 then((FH b s m r bud).1,m,0,(FH b s m r bud).2.2)else(L,aA,0,(FH b s m r bud).2.2)
def Ajb(r:C×J×Int×Int):(Unit×Unit×Int×Int×Unit)×((ByteArray×ByteArray×Int×Unit)×(List Int×List Bool×List Bool×List Entry×Unit)×Unit):=(((),(),r.2.2.1,r.2.2.2,()),((r.1.h0,r.1.h1,r.1.sel,()),r.2.1.tup,()))
def Ahs(hb:b.small)(hc:b.B0.length≤100)(s:C)(hp:m.F0.length≤100000)(hl:m.A0.length≤10000)(r:H)(hbud:bud<9223372036854775808):
    Oh b.C0 b.E0 b.H0 b.M0 b.J0 b.L0 b.N0 b.B0 s.h0 s.h1 s.sel m.F0 m.O0 m.K0 m.A0 r.T0 r.D0 r.I0 r.Q0 r.V1 bud=E (Ajb (UI b s m r bud)):=by
  unfold Oh UI
  rw[Xs hb hc m hp hl r,Iw]
  unfold WN
  cases hq:m.ok b&&Az b r with
  |false=>rfl
  |true=>
    rw[e_]at hq
    have hm:=Img.ok_iff.1 hq.1
    simp only[a_,d_,Q_,c_,n_]
    by_cases hs:s.ok b.H0
    · rw[b_ (show Sto.ok b.H0 ⟨s.h0,s.h1,s.sel⟩from hs)]
      by_cases hb0:bud<0
      · rw[b_ hb0];rfl
      rw[f_ hb0]
      obtain⟨hm2,hl2⟩:=QF hm hq.2
      have h1:=hm.lp
      have h2:=hm.lf
      have h3:=hm.ll
      have g1:=hm2.lp
      have g2:=hm2.lf
      have g3:=hm2.ll
      have hf2:(An m r).fit:=⟨ω,ω,ω,ω⟩
      have hcur:(s.cur.size:Int)≤b.H0:=by
        obtain⟨_,_,h3,h4,_⟩:=hs
        unfold aC
        split
        · exact h4
        · exact h3
      have hroom:=WU hm.code
      have wr:Q.wrap (b.H0-(s.cur.size:Int))=b.H0-(s.cur.size:Int):=Ac ω ω
      have hsz:((Ha b r).size:Int)=6:=by rw[Vy hq.2,Fu,HD];rfl
      rw[Zb m hm.so ω]
      have step:∀q:Bool,q=IY b m r→(bif q then E (((),(),(0:Int),(7:Int),()),(((P (O [])),(P (O [])),(0:Int),()),(([]:List Int),([]:List Bool),([]:List Bool),([]:List Entry),()),()))else
          E (Ajb (bif(FH b s m r bud).2.2==0 then((FH b s m r bud).1,An m r,(FH b s m r bud).2.1,(FH b s m r bud).2.2)else bif(FH b s m r bud).2.2==8 then((FH b s m r bud).1,m,0,(FH b s m r bud).2.2)else(L,aA,0,(FH b s m r bud).2.2))))=
        E (Ajb (bif IY b m r then(L,aA,0,7)else(bif(FH b s m r bud).2.2==0 then((FH b s m r bud).1,An m r,(FH b s m r bud).2.1,(FH b s m r bud).2.2)else bif(FH b s m r bud).2.2==8 then((FH b s m r bud).1,m,0,(FH b s m r bud).2.2)else(L,aA,0,(FH b s m r bud).2.2)))):=by
        rintro q rfl
        cases IY b m r<;>rfl
      simp only[n_,c_,a_]
      rw[← step _ rfl]
      have e5 : ∀ q : Bool, (bif (r.T0 == (1 : Int)) then
              bif(!(FG (At r.D0 r.I0) m.A0))then
                (Me b.C0 b.E0 b.H0 b.M0 b.J0 b.L0 b.N0 b.B0 m.F0 m.O0 m.K0 m.A0).bind λy4=>
                E ((bud,(),(),(),(),(),(),(),(!y4.1.1),()),((b.C0,b.E0,b.H0,b.M0,b.J0,b.L0,b.N0,b.B0,()),(s.h0,s.h1,s.sel,()),(m.F0,m.O0,m.K0,m.A0,()),(r.T0,r.D0,r.I0,r.Q0,r.V1,()),((P (O [])),(P (O [])),(0:Int),()),(([]:List Int),([]:List Bool),([]:List Bool),([]:List Entry),()),(An m r).tup,()))
              else
                E ((bud,(),(),(),(),(),(),(),D,()),((b.C0,b.E0,b.H0,b.M0,b.J0,b.L0,b.N0,b.B0,()),(s.h0,s.h1,s.sel,()),(m.F0,m.O0,m.K0,m.A0,()),(r.T0,r.D0,r.I0,r.Q0,r.V1,()),((P (O [])),(P (O [])),(0:Int),()),(([]:List Int),([]:List Bool),([]:List Bool),([]:List Entry),()),(An m r).tup,()))
            else
              E ((bud,(),(),(),(),(),(),(),D,()),((b.C0,b.E0,b.H0,b.M0,b.J0,b.L0,b.N0,b.B0,()),(s.h0,s.h1,s.sel,()),(m.F0,m.O0,m.K0,m.A0,()),(r.T0,r.D0,r.I0,r.Q0,r.V1,()),((P (O [])),(P (O [])),(0:Int),()),(([]:List Int),([]:List Bool),([]:List Bool),([]:List Entry),()),(An m r).tup,())))=E ((bud,(),(),(),(),(),(),(),IY b m r,()),((b.C0,b.E0,b.H0,b.M0,b.J0,b.L0,b.N0,b.B0,()),(s.h0,s.h1,s.sel,()),(m.F0,m.O0,m.K0,m.A0,()),(r.T0,r.D0,r.I0,r.Q0,r.V1,()),((P (O [])),(P (O [])),(0:Int),()),(([]:List Int),([]:List Bool),([]:List Bool),([]:List Entry),()),(An m r).tup,())):=λ_=>by
        rw[Za hb m ω hp ω]
        unfold IY
        cases r.T0==1<;>cases FG (At r.D0 r.I0) m.A0<;>rfl
      have e5':=e5 I
      simp only[Img.tup]at e5'⊢
      rw[e5']
      simp only[a_]
      cases IY b m r with
      |true=>rfl
      |false=>
        simp only[c_]
        rw[SX hb hc,WH]
        simp only[a_,hsz]
        rw[show aC ⟨s.h0,s.h1,s.sel⟩=s.cur from rfl,wr,Vy hq.2]
        have hw:HV b.H0 s.h0 s.h1 s.sel s.sel (txt (Cl r)) bud=_:=Sj b.H0 s.h0 s.h1 s.sel s.sel (txt (Cl r)) bud hbud
        have hcp:=Aer hb hc s hf2 hbud
        rw[hw,hcp]
        simp only[a_]
        have e10:∀{A:Type}(f:C×Int×Int→A),(bif decide ((6:Int)≤b.H0-(s.cur.size:Int))then E (f (s.write b.H0 s.sel (txt (Cl r)) bud))else E (f (Dn b s (An m r) bud)))=E (f (FH b s m r bud)):=λf=>by
          unfold FH
          cases decide ((6:Int)≤b.H0-(s.cur.size:Int))<;>rfl
        rw[show Sto.mk s.h0 s.h1 s.sel=s from rfl]
        have e10':=e10 λw=>((w.2.1,(),(),(),(),(),w.2.2,()),((w.1.h0,w.1.h1,w.1.sel,()),(m.F0,m.O0,m.K0,m.A0,()),((P (O [])),(P (O [])),(0:Int),()),(([]:List Int),([]:List Bool),([]:List Bool),([]:List Entry),()),(An m r).tup,()))
        simp only[Img.tup]at e10'
        simp only[Sto.out]
        rw[e10']
        simp only[a_]
        generalize FH b s m r bud=w
        cases w.2.2==0 with
        |true=>rfl
        |false=>
          simp only[c_]
          cases w.2.2==8 with
          |true=>
            rw[Xv m hp ω ω ω]
            rfl
          |false=>rfl
    · rw[f_ (show ¬Sto.ok b.H0 ⟨s.h0,s.h1,s.sel⟩from hs)]
      rfl
def Cs(b:B)(s:C):J:=Ap (Gp b) (Ny b s.cur)
def sB:B:=Kg 4 2 30
def sM1:J:=⟨[0,0],[D,D],[D,D],[⟨2,1,-1,0,D⟩]⟩
def sM2:J:=⟨[0,0],[D,D],[D,D],[⟨2,1,0,0,D⟩]⟩
def Apl:sB.code=0:=Aqb ω ω ω ω ⟨ω,ω⟩
def ok1:sM1.ok sB=I:=by
 unfold Img.ok Es GK Ak;rw[Apl];rfl
def ok2:sM2.ok sB=I:=by
 unfold Img.ok Es GK Ak;rw[Apl];rfl
section
variable{s:C}{room half bud:Int}(hs:s.ok room)(hh:half=0∨half=1)(hb:0≤bud)
include hs hh hb
theorem Awb:s.chk room half bud=0:=by
 unfold Sto.chk;rw[if_pos hs,if_neg ω]
theorem Amh(hr:((s.get half).size:Int)+(t.length:Int)≤room):s.write room half (txt t) bud=if bud<(t.length:Int)then(s.set half (s.get half++txt (t.take bud.toNat)),0,8)else(s.set half (s.get half++txt t),bud-(t.length:Int),0):=by
 have he:(txt t).extract 0 bud.toNat=txt (t.take bud.toNat):=OR (by rw[SA,FP,FP];simp)
 unfold Sto.write;rw[Awb hs hh hb,if_neg ω,Fu,if_neg ω,he]
theorem Avw(t:C):s.act room half bud t=if bud=0 then(s,0,8)else(t,bud-1,0):=by
 unfold Sto.act;rw[Awb hs hh hb,if_neg ω]
end
def Tc{half:Int}(hs:s.ok room){x:ByteArray}(hx:(x.size:Int)≤room):(s.set half x).ok room:=by
 obtain⟨h1,h2,h3,h4,h5⟩:=hs;unfold Sto.set Sto.ok;split
 ·exact⟨h1,h2,hx,h4,h5⟩
 ·exact⟨h1,h2,h3,hx,h5⟩
def Aya{half:Int}(hs:s.ok room)(hh:half=0∨half=1):Sto.ok room { s with sel:=half }:=by
 obtain⟨h1,h2,h3,h4,_⟩:=hs;exact⟨h1,h2,h3,h4,hh⟩
def XQ(hs:s.ok room):s.sel=0∨s.sel=1:=hs.2.2.2.2
def Aoh(hh:s.sel=0∨s.sel=1):s.cur=s.get s.sel:=by
 unfold aC Sto.get;rcases hh with h | h<;>rw[h]<;>rfl
def Aoi(hh:s.sel=0∨s.sel=1)(x:ByteArray):(s.set s.sel x).cur=x:=by
  obtain⟨h0,h1,sel⟩:=s
  rcases hh with h | h<;>
    (simp only at h
     subst h;simp[aC,Sto.set])
def Afw(hh:s.sel=0∨s.sel=1)(x:ByteArray):(s.set (1-s.sel) x).cur=s.cur:=by
  obtain⟨h0,h1,sel⟩:=s
  rcases hh with h | h<;>
    (simp only at h
     subst h;simp[aC,Sto.set])
def Agd(hh:s.sel=0∨s.sel=1)(x:ByteArray):(s.set (1-s.sel) x).get (1-s.sel)=x:=by
  obtain⟨h0,h1,sel⟩:=s
  rcases hh with h | h<;>
    (simp only at h
     subst h;simp[Sto.set,Sto.get])
def Ag6(hh:s.sel=0∨s.sel=1)(x y:ByteArray):(s.set (1-s.sel) x).set (1-s.sel) y=s.set (1-s.sel) y:=by
  obtain⟨h0,h1,sel⟩:=s
  rcases hh with h | h<;>
    (simp only at h
     subst h;simp[Sto.set])
def Abi(hh:s.sel=0∨s.sel=1)(x:ByteArray):aC { s.set (1-s.sel) x with sel:=1-s.sel }=x:=by
  obtain⟨h0,h1,sel⟩:=s
  rcases hh with h | h<;>
    (simp only at h
     subst h;simp[aC,Sto.set])
def XM(hb:b.small)(hc:b.B0.length≤100){rs:List H}(h:bl s.cur=rs.flatMap Cl++t)(ht:t.length<6)(hv:∀r∈rs,Az b r=I):Cs b s=Ap (Gp b) rs:=by
 unfold Cs Ny;have hl:s.cur.size=6*rs.length+t.length:=by rw[← GA,h,h_,Yq]
 rw[h,Alx hb hc ht rs s.cur.size ω hv]
structure Jst(b:Bldg)(s:Sto)(m:Img):Prop where
 ok:s.ok b.H0
 img:ImgOK b m
 rs:∃rs:List Record,bl s.cur=rs.flatMap Cl∧(∀r∈rs,Az b r=true)∧Ap (Gp b) rs=m
 fits:18*((b.B0.length:Int)+(m.A0.length:Int))+6≤b.H0
def Afn(hs:Bp m.A0)(h:r.T0=1→FG (At r.D0 r.I0) m.A0=I):(An m r).A0.length≤m.A0.length:=by
 unfold An;cases r.T0==4 with
 |true=>exact w_ _
 |false=>
 cases r.T0==5 with
 |true=>exact w_ _
 |false=>
 cases r.T0==6 with
 |true=>exact w_ _
 |false=>
 simp only[c_];have hf:=QO (c:=At r.D0 r.I0) 0 hs;rw[show Dx r.D0 r.I0 m.A0 0=_ from hf]
 cases hq:FG (At r.D0 r.I0) m.A0 with
 |false=>
  simp only[c_,l_,d_];by_cases k1:r.T0=1
  ·rw[h k1]at hq;cases hq
  ·rw[Aq k1];exact w_ _
 |true=>
  rw[d_,Aq (ω:¬((0+AA (At r.D0 r.I0) m.A0:Nat):Int)=-1),c_]
  cases r.T0==2 with
  |true=>
   show(m.A0.take _++m.A0.drop _).length≤_;rw[h_,v_,X_];omega
  |false=>
  cases r.T0==3 with
  |true=>show(m.A0.set _ _).length≤_;rw[r_];exact w_ _
  |false=>
  cases r.T0==7 with
  |true=>show(m.A0.set _ _).length≤_;rw[r_];exact w_ _
  |false=>exact w_ _
def Af7(hj:Jst b s m)(hv:Az b r=I)(hfull:IY b m r=D):18*((b.B0.length:Int)+((An m r).A0.length:Int))+6≤b.H0:=by
 have h0:=hj.fits;have h2:=(QF hj.img hv).2;by_cases hk:r.T0=1
 ·cases hq:FG (At r.D0 r.I0) m.A0 with
  |true=>have:=Afn hj.img.so λ_=>hq;omega
  |false=>
   unfold IY Pn at hfull;rw[hk,hq,Img.ok_iff.2 hj.img]at hfull;simp at hfull;omega
 ·have:=Afn hj.img.so (r:=r) λh=>absurd h hk
  omega
def Aap(h:ImgOK b m):(((CG m).flatMap Cl).length:Int)=18*((b.B0.length:Int)+(m.A0.length:Int)):=by
 rw[Yq,XT,h.lp];omega
def Abe(hs:s.ok b.H0)(hm:ImgOK b m)(hb0:0≤bud)(hfit:18*((b.B0.length:Int)+(m.A0.length:Int))≤b.H0):
  (2+18*((b.B0.length:Int)+(m.A0.length:Int))≤bud∧Dn b s m bud=({ s.set (1-s.sel) (txt ((CG m).flatMap Cl))with sel:=1-s.sel },bud-(2+18*((b.B0.length:Int)+(m.A0.length:Int))),0))∨
  (bud<2+18*((b.B0.length:Int)+(m.A0.length:Int))∧∃s',Dn b s m bud=(s',0,8)∧s'.ok b.H0∧s'.cur=s.cur):=by
 have hsel:=XQ hs;have hh:1-s.sel=0∨1-s.sel=1:=ω
 have hL:=Aap hm;have hroom:=hs.1;have he:s.erase b.H0 (1-s.sel) bud=if bud=0 then(s,0,8)else(s.set (1-s.sel) noB,bud-1,0):=Avw hs hh hb0 _
 unfold Dn;rw[b_ hs,f_ (ω:¬bud<0),Img.ok_iff.2 hm]
 simp only[n_,c_];generalize hT:(CG m).flatMap Cl=T at hL⊢;by_cases h0:bud=0
 ·right
  rw[he,if_pos h0];exact⟨ω,s,rfl,hs,rfl⟩
 ·rw[if_neg h0]at he
  rw[he];have hs1:(s.set (1-s.sel) noB).ok b.H0:=Tc hs (by show(0:Int)≤_;omega)
  have hw:=Amh (t:=T) hs1 hh (ω:0≤bud-1) (by rw[Agd hsel];show((0:Nat):Int)+_≤_;omega)
  rw[Agd hsel,Ag6 hsel,Ag6 hsel]at hw;have nb:∀x:ByteArray,noB++x=x:=λx=>OR (by rw[KE];rfl)
  rw[nb,nb]at hw;simp only[l_,d_,hw];by_cases h1:bud-1<(T.length:Int)
  ·right
   rw[if_pos h1];refine⟨ω,_,rfl,Tc hs ?_,Afw hsel _⟩
   rw[Fu,v_];omega
  ·rw[if_neg h1]
   have hs2:(s.set (1-s.sel) (txt T)).ok b.H0:=Tc hs (by rw[Fu];omega)
   have hc:=Avw hs2 hh (ω:0≤bud-1-(T.length:Int)) { s.set (1-s.sel) (txt T)with sel:=1-s.sel }
   have hc':(s.set (1-s.sel) (txt T)).choose b.H0 (1-s.sel) (bud-1-(T.length:Int))=_:=hc;simp only[l_,d_,hc'];by_cases h2:bud-1-(T.length:Int)=0
   ·right
    rw[if_pos h2];exact⟨ω,_,rfl,hs2,Afw hsel _⟩
   ·left
    rw[if_neg h2,show bud-1-(T.length:Int)-1=bud-(2+18*((b.B0.length:Int)+(m.A0.length:Int)))by omega]
    exact⟨ω,rfl⟩
def TN(b:B)(s:C)(m:J)(r:H):Int:=if(s.cur.size:Int)+6≤b.H0 then 6 else 2+18*((b.B0.length:Int)+((An m r).A0.length:Int))
def Av0(hb:b.small)(hj:Jst b s m)(hv:Az b r=I)(hfull:IY b m r=D)(hb0:0≤bud):
  (TN b s m r≤bud∧∃s',UI b s m r bud=(s',An m r,bud-TN b s m r,0)∧Jst b s' (An m r))∨
  (bud<TN b s m r∧∃s',UI b s m r bud=(s',m,0,8)∧s'.ok b.H0∧Cs b s'=m):=by
 have hcars:=Aj hj.img.code;have hc:b.B0.length≤100:=ω
 have hm2:=(QF hj.img hv).1;have hfit:=Af7 hj hv hfull;obtain⟨rs,e1,e2,e3⟩:=hj.rs;have hsel:=XQ hj.ok;unfold UI;rw[Img.ok_iff.2 hj.img,hv,b_ hj.ok,f_ (ω:¬bud<0),hfull]
 simp only[a6_,n_,c_];unfold TN FH;by_cases g:(s.cur.size:Int)+6≤b.H0
 ·rw[if_pos g,b_ (ω:(6:Int)≤b.H0-(s.cur.size:Int)),d_]
  have hw:=Amh (t:=Cl r) hj.ok hsel hb0 (by rw[← Aoh hsel,HD];omega)
  rw[HD,← Aoh hsel]at hw;rw[hw];by_cases h1:bud<((6:Nat):Int)
  ·right
   rw[if_pos h1];have hl:((Cl r).take bud.toNat).length<6:=by rw[v_,HD];omega
   refine⟨ω,_,rfl,Tc hj.ok ?_,?_⟩
   ·rw[← GA,KE,FP,h_,GA];omega
   ·rw[XM hb hc (rs:=rs) (t:=(Cl r).take bud.toNat) (by rw[Aoi hsel,KE,FP,e1]) hl e2,e3]
  ·left
   rw[if_neg h1];refine⟨ω,_,rfl,Tc hj.ok ?_,hm2,⟨rs++[r],?_,?_,?_⟩,hfit⟩
   ·rw[← GA,KE,FP,h_,GA,HD];omega
   ·rw[Aoi hsel,KE,FP,e1,List.flatMap_append]
    simp
   ·intro x hx
    rcases p_.1 hx with hx | hx
    ·exact e2 x hx
    ·rw[D_.1 hx];exact hv
   ·rw[EA,e3];rfl
 ·rw[if_neg g,f_ (ω:¬(6:Int)≤b.H0-(s.cur.size:Int)),c_]
  rcases Abe hj.ok hm2 hb0 ω with⟨q1,q2⟩ | ⟨q1,s',q2,q3,q4⟩
  ·left
   rw[q2];refine⟨q1,_,rfl,Aya (Tc hj.ok ?_) ω,hm2,⟨CG (An m r),?_,RS hm2,Ac5 hm2⟩,hfit⟩
   ·rw[Fu,Aap hm2];omega
   ·rw[Abi hsel,FP]
  ·right
   rw[q2];refine⟨q1,s',rfl,q3,?_⟩;rw[XM hb hc (rs:=rs) (t:=[]) (by rw[q4,e1,a9_]) (by simp) e2,e3]
def Jst.replay(hb:b.small)(hj:Jst b s m):Cs b s=m:=by
 have hcars:=Aj hj.img.code;obtain⟨rs,e1,e2,e3⟩:=hj.rs;rw[XM hb ω (rs:=rs) (t:=[]) (by rw[e1,a9_]) (by simp) e2,e3]
def Jst.first(hcode:b.code=0):Jst b L (Gp b):=by
 have hr:=WU hcode;have hcars:=Aj hcode;refine⟨⟨ω,ω,?_,?_,.inl rfl⟩,ZL hcode,⟨[],rfl,(λr h=>by cases h),rfl⟩,?_⟩
 ·show(0:Int)≤_;omega
 ·show(0:Int)≤_;omega
 ·show 18*((b.B0.length:Int)+((0:Nat):Int))+6≤_;omega
def Jst.ents(hj:Jst b s m):m.A0.length≤4000∧m.fit:=by
 have h1:=hj.fits;have h2:=(WU hj.img.code).2;have h3:=Aj hj.img.code;have g1:=hj.img.lp;have g2:=hj.img.lf;have g3:=hj.img.ll;exact⟨ω,ω,ω,ω,ω⟩
def Ax6(s:C)(m:J)(bud e:Int):(Unit×Unit×Int×Int×Unit)×((ByteArray×ByteArray×Int×Unit)×(List Int×List Bool×List Bool×List Entry×Unit)×Unit):=(((),(),bud,e,()),((s.h0,s.h1,s.sel,()),m.tup,()))
def CT(b:B)(s:C)(bud:Int):C×J×Int×Int:=
 bif(Dn b s (Cs b s) bud).2.2 !=0 then((Dn b s (Cs b s) bud).1,aA,0,(Dn b s (Cs b s) bud).2.2)
 else((Dn b s (Cs b s) bud).1,Cs b s,(Dn b s (Cs b s) bud).2.1,0)
def Ag0(hcode:b.code=0)(s:C)(hs:s.cur.size≤500000):ImgOK b (Cs b s)∧(Cs b s).A0.length≤90000∧(Cs b s).fit:=by
 have hc:=Aj hcode;obtain⟨h1,h2⟩:=Tq (ZL hcode) (rs:=Ny b s.cur) λr hr=>Uw b _ _ r hr
 have h3:=XK b s.cur.size (bl s.cur);rw[GA]at h3;have h4:(Gp b).A0.length=0:=rfl;have h5:(Ny b s.cur).length=(My b s.cur.size (bl s.cur)).length:=rfl;have g1:=h1.lp;have g2:=h1.lf;have g3:=h1.ll;exact⟨h1,by show(Ap (Gp b) (Ny b s.cur)).A0.length≤_;omega,by show(Ap (Gp b) (Ny b s.cur)).F0.length≤_;omega,by show(Ap (Gp b) (Ny b s.cur)).O0.length≤_;omega,by show(Ap (Gp b) (Ny b s.cur)).K0.length≤_;omega,by show(Ap (Gp b) (Ny b s.cur)).A0.length≤_;omega⟩
def Pd(b:B)(m:J):Bool:=m.ok b&&decide (18*((b.B0.length:Int)+(m.A0.length:Int))+6≤b.H0)
def Bk5{a b:Nat}(h:a≤100000)(h':b≤100000):Q.wrap (aE Q (18*Q.wrap ((a:Int)+(b:Int)))+6)=18*((a:Int)+(b:Int))+6:=by
 rw[Ac (n:=(a:Int)+(b:Int)) ω ω,Ac (n:=18*((a:Int)+(b:Int))) ω ω,Ac ω ω]
def Acx(hb:b.small)(m:J)(hc:b.B0.length≤100000)(hf:m.fit):Ml b.C0 b.E0 b.H0 b.M0 b.J0 b.L0 b.N0 b.B0 m.F0 m.O0 m.K0 m.A0=E ((Pd b m,()),()):=by
 have hmx:100000≤maxLen:=by decide
 have hp:=hf.p;have he:=hf.e;unfold Ml Pd;rw[CL hb m ω ω]
 simp only[a_,Bk5 hc he];cases m.ok b<;>rfl
def US:Belief:=⟨-1,0,0,[],0,D⟩
def HC(b:B)(i:Nat):Car:=b.B0.getD i ⟨0,0,0,0,0,0,0,0,0⟩
def RU(b:B)(e:Entry):Int:=bif decide (0≤e.Q0)then(HC b e.Q0.toNat).F1 else 0
def Mch.none:Mch:=⟨aA,L,[],[],[],[],[],[],0,0,0⟩
def Ab2(b:B)(m:J)(s:C):Mch:=⟨m,s,aD b.B0.length Cm,aD b.B0.length US,aD b.B0.length AS,aD b.B0.length GV,m.A0.map (RU b),aD b.B0.length Aey,0,0,0⟩
def Mch.withB(m:Mch)(l:List Belief):Mch:={ m with W0:=l }
def Mch.withE(m:Mch)(l:List Int):Mch:={ m with D2:=l }
def Al1{α:Type}(a:α):∀k i:Nat,(List.range' i k).flatMap (λ_=>[a])=aD k a
 |0,_=>rfl
 |k+1,i=>by rw[e9_,a0_,Al1 a k (i+1),List.replicate_succ];rfl
def Ba4{α β:Type}(f:α→β)(l:List α):l.flatMap (λx=>[f x])=l.map f:=by
 induction l with
 |nil=>rfl
 |cons a t ih=>rw[a0_,ih];rfl
def Pf(b:B)(m:J)(s:C):Mch×Int:=bif Pd b m&&decide (s.ok b.H0)then(Ab2 b m s,0)else(Mch.none,1)
def OS(b:B)(s:C)(bud:Int):Mch×Int×Int:=
 bif(CT b s bud).2.2.2 !=0 then({ Mch.none with Z0:=(CT b s bud).1 },0,(CT b s bud).2.2.2)
 else bif(Pf b (CT b s bud).2.1 (CT b s bud).1).2 !=0 then(Mch.none,0,(Pf b (CT b s bud).2.1 (CT b s bud).1).2)
 else((Pf b (CT b s bud).2.1 (CT b s bud).1).1,(CT b s bud).2.2.1,0)
def Bge(hcode:b.code=0)(s:C)(hs:s.cur.size≤500000)(bud:Int):(CT b s bud).2.1.fit:=by
 obtain⟨_,_,hf⟩:=Ag0 hcode s hs;unfold CT;cases(Dn b s (Cs b s) bud).2.2 !=0 with
 |true=>exact⟨a3_ _,a3_ _,a3_ _,a3_ _⟩
 |false=>exact hf
def LS(b:B):Mch×Int:=bif b.code==0 then((OS b L 1048576).1,(OS b L 1048576).2.2)else(Mch.none,1)
def Ao0:∀{l:List Nat}{a n:Nat},l.Pairwise (· < ·)→(∀x∈l,a≤x∧x<n)→l.length+a≤n∨l=[]
 |[],_,_,_,_=>.inr rfl
 |x::t,a,n,h,hr=>by
  left;obtain⟨h1,h2⟩:=f7_.1 h;have hx:=hr x (E_ ..);rcases Ao0 (a:=x+1) (n:=n) h2 (λy hy=>⟨h1 y hy,(hr y (K_ _ hy)).2⟩)with q | q
  ·rw[z_];omega
  ·subst q
   simp;omega
def Bfs(hb:b.small)(hm:ImgOK b m):(m.A0.length:Int)≤2*(b.C0-1):=by
 have lo:=hb.lo;have hi:=hb.hi
 let ix:Int×Int→Nat:=λp=>if p.1=0 then 0 else if p.1=b.C0-1 then(2*b.C0-3).toNat else(2*p.1+p.2-2).toNat
 have hv:∀p∈m.A0.map HB,(p.2=1∧0≤p.1∧p.1≤b.C0-2)∨(p.2=2∧1≤p.1∧p.1≤b.C0-1):=λp hp=>by
  obtain⟨e,he,rfl⟩:=c3_.1 hp;have h1:=(EO.1 (hm.en e he)).1;unfold Ak OT at h1;simp only[e_,b3_,Y_,Am]at h1;show(e.I0=1∧0≤e.D0∧e.D0≤b.C0-2)∨(e.I0=2∧1≤e.D0∧e.D0≤b.C0-1);omega
 have hp:((m.A0.map HB).map ix).Pairwise (· < ·):=by
  rw[List.pairwise_map];refine List.Pairwise.imp_of_mem (λ{p q} hp hq h=>?_) hm.so
  have v1:=hv p hp;have v2:=hv q hq;unfold ltC at h;show ix p<ix q;simp only[ix];split<;>split<;>(try split)<;>(try split)<;>omega
 rcases Ao0 (a:=0) (n:=(2*b.C0-2).toNat) hp (λx hx=>by
  obtain⟨p,hp,rfl⟩:=c3_.1 hx;have v1:=hv p hp;refine⟨a3_ _,?_⟩;show ix p<_;simp only[ix];split
  ·omega
  ·split<;>omega)with q | q
 ·rw[d2_,d2_]at q;omega
 ·have:=f0_ List.length q
  rw[d2_,d2_,d1_]at this;omega
def Aow(hm:ImgOK b m)(hfit:18*((b.B0.length:Int)+(m.A0.length:Int))+6≤b.H0):Pd b m=I:=by
 unfold Pd;rw[Img.ok_iff.2 hm,b_ hfit];rfl
def ZH(hm:ImgOK b m)(hfit:18*((b.B0.length:Int)+(m.A0.length:Int))+6≤b.H0)(hs:s.ok b.H0):Pf b m s=(Ab2 b m s,0):=by
 unfold Pf;rw[Aow hm hfit,b_ hs];rfl
def Bfi(_hb:b.small)(hs:s.ok b.H0)(hm:ImgOK b m)(hrep:Cs b s=m)(hfit:18*((b.B0.length:Int)+(m.A0.length:Int))+6≤b.H0)(hb0:0≤bud):
  (2+18*((b.B0.length:Int)+(m.A0.length:Int))≤bud∧OS b s bud=(Ab2 b m { s.set (1-s.sel) (txt ((CG m).flatMap Cl))with sel:=1-s.sel },bud-(2+18*((b.B0.length:Int)+(m.A0.length:Int))),0)∧Jst b { s.set (1-s.sel) (txt ((CG m).flatMap Cl))with sel:=1-s.sel } m)∨
  (bud<2+18*((b.B0.length:Int)+(m.A0.length:Int))∧∃s',OS b s bud=({ Mch.none with Z0:=s' },0,8)∧s'.ok b.H0∧Cs b s'=m):=by
 have hsel:=XQ hs;unfold OS CT;rw[hrep];rcases Abe hs hm hb0 ω with⟨q1,q2⟩ | ⟨q1,s',q2,q3,q4⟩
 ·left
  have hj:Jst b { s.set (1-s.sel) (txt ((CG m).flatMap Cl))with sel:=1-s.sel } m:=by
   refine⟨Aya (Tc hs ?_) ω,hm,⟨CG m,?_,RS hm,Ac5 hm⟩,hfit⟩
   ·rw[Fu,Aap hm];omega
   ·rw[Abi hsel,FP]
  rw[q2];refine⟨q1,?_,hj⟩;simp only[Q_,c_];rw[ZH hm hfit hj.ok];rfl
 ·right
  rw[q2];refine⟨q1,s',rfl,q3,?_⟩;rw[← hrep];unfold Cs;rw[q4]
end Go.Ovl
