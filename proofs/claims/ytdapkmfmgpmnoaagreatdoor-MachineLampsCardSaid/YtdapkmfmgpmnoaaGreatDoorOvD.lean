/- Layer 2: the sum of 8 bits, the program's and the reference's. -/
import Derived.Test.YtdapkmfmgpmnoaaGreatDoorOvA
import Derived.Test.YtdapkmfmgpmnoaaGreatDoorDefs4
import Derived.Test.YtdapkmfmgpmnoaaGreatDoorOvC
import Derived.Test.YtdapkmfmgpmnoaaGreatDoorOvB
set_option linter.all false
open Go.Ovl renaming Bldg->B,Sto->C,Record->H,Img->J
open Bool renaming false->D,true->I
open Option renaming some->E
open Go.Ovl.Sto renaming no->L,cur->aC
open Go.IntKind renaming u8->N,i64->Q,wrap->aE
open Array renaming mk->O
open ByteArray renaming mk->P
open Go.Ovl.Img renaming none->aA
open Go.Ovl.Record renaming mk->aB
open List renaming replicate->aD
open BitVec renaming ofInt->aF
open UInt8 renaming toNat_lt->aG
namespace Go.Ovl
open Go Go.Ab
set_option maxRecDepth 100000
variable{b:B}{s:C}{m:J}{r:H}{bud room n:Int}{l t:List UInt8}
def bl(s:ByteArray):List UInt8:=s.data.toList
def Nq{a c:ByteArray}(h:bl a=bl c):a=c:=by
 apply ByteArray.ext;unfold bl at h;exact Array.toList_inj.1 h
def Lc(a c:ByteArray):bl (a++c)=bl a++bl c:=by simp[bl]
def Rr(a:ByteArray)(i j:Nat):bl (a.extract i j)=((bl a).drop i).take (j-i):=by simp[bl]
def Gg(a:ByteArray):(bl a).length=a.size:=by simp[bl]
def Brb(l:List UInt8):bl ⟨l.toArray⟩=l:=by simp[bl]
def FR(s:ByteArray)(i:Nat):AF s i=(((bl s).getD i 0).toNat:Int):=by
 unfold AF bl;simp[w_,k_]
def PU(r:Nat):Nat:=if 128≤r then(r*2%256)^^^7 else r*2%256
def it8:Nat→Nat→Nat
 |0,r=>r
 |k+1,r=>it8 k (PU r)
def Uo(r x:Nat):Nat:=it8 8 (r^^^x)
def SR(l:List UInt8):Nat:=l.foldl (λr x=>Uo r x.toNat) 0
def Ab4{r:Nat}(_h:r<256):PU r<256:=by
 unfold PU;split
 ·exact d6_ (n:=8) ω (by decide)
 ·omega
def Ayx:∀(k:Nat) {r:Nat},r<256→it8 k r<256
 |0,_,h=>h
 |k+1,_,h=>Ayx k (Ab4 h)
def Aaz{r x:Nat}(h:r<256)(h':x<256):Uo r x<256:=Ayx 8 (d6_ (n:=8) h h')
def Bia(l:List UInt8):∀r:Nat,r<256→l.foldl (λr x=>Uo r x.toNat) r<256:=by
 induction l with
 |nil=>exact λr h=>h
 |cons x t ih=>
  intro r h;rw[f1_];have hx:x.toNat<256:=aG x;exact ih _ (Aaz h hx)
def Arg(l:List UInt8):SR l<256:=Bia l 0 ω
def Qy(h:0≤n)(h':n<256):N.wrap n=n:=by
 simp only[aE,IntKind.signed,IntKind.bits];simp;omega
def Bqg{a c:Nat}(ha:a<256)(hc:c<256):N.wrap (stk (a:Int) (c:Int) (BitVec.toNat ((aF (IntKind.bits .u8) (a:Int))^^^(aF (IntKind.bits .u8) (c:Int)))))=((a^^^c:Nat):Int):=by
 have h:=d6_ (n:=8) ha hc;rw[Kf,BitVec.toNat_xor,W_,W_];rw[show(((a:Int))%((2^IntKind.bits .u8:Nat):Int)).toNat=a by simp only[IntKind.bits];omega,show(((c:Int))%((2^IntKind.bits .u8:Nat):Int)).toNat=c by simp only[IntKind.bits];omega]
 exact Qy ω ω
def Bgy{a c:Nat}(ha:a<256)(hc:c<256):Q.wrap (stk (a:Int) (c:Int) (BitVec.toNat ((aF (IntKind.bits .i64) (a:Int))^^^(aF (IntKind.bits .i64) (c:Int)))))=((a^^^c:Nat):Int):=by
 have h:=d6_ (n:=8) ha hc;rw[Kf,BitVec.toNat_xor,W_,W_];rw[show(((a:Int))%((2^IntKind.bits .i64:Nat):Int)).toNat=a by simp only[IntKind.bits];omega,show(((c:Int))%((2^IntKind.bits .i64:Nat):Int)).toNat=c by simp only[IntKind.bits];omega]
 exact Aa ω ω
def Ato:∀(k i r:Nat),AK (λ_ r=>PU r) k i r=it8 k r
 |0,_,_=>rfl
 |k+1,i,r=>Ato k (i+1) (PU r)
def Ayi(s:ByteArray)(s7 s8:Int){r k:Nat}(hr:r<256)(hk:k<8):Pl s (r:Int) s7 s8 (k:Int)=E (Sum.inl ((s,((PU r:Nat):Int),s7,s8,((k+1:Nat):Int),()),())):=by
 unfold Pl;have w:Q.wrap ((k:Int)+1)=((k+1:Nat):Int):=by rw[Aa ω ω];omega
 have h0:N.wrap ((r:Int)*((2:Int)^(Min.min (Int.toNat (1:Int)) (IntKind.bits N))))=((r*2%256:Nat):Int):=by
  rw[show((2:Int)^(Min.min (Int.toNat (1:Int)) (IntKind.bits N)))=2 from rfl]
  simp only[aE,IntKind.signed,IntKind.bits];simp
 have h1:N.wrap ((Int.fdiv (r:Int) ((2:Int)^(Min.min (Int.toNat (7:Int)) (IntKind.bits N))))*(7:Int))=(((if 128≤r then 7 else 0):Nat):Int):=by
  rw[show((2:Int)^(Min.min (Int.toNat (7:Int)) (IntKind.bits N)))=128 from rfl,V_ _ ω]
  split
  ·rw[show(r:Int)/128=1 by omega];rfl
  ·rw[show(r:Int)/128=0 by omega];rfl
 simp only[b_ (ω:(k:Int)<8),d_,h0,h1,w]
 rw[Bqg ω (by split<;>omega)]
 unfold PU;split
 ·rfl
 ·rw[Nat.xor_zero]
def Azx(s:ByteArray)(i:Int){r k:Nat}(hr:r<256)(hk:k<8):Pn s (r:Int) i (k:Int)=E (Sum.inl ((s,((PU r:Nat):Int),i,((k+1:Nat):Int),()),())):=by
 unfold Pn;have w:Q.wrap ((k:Int)+1)=((k+1:Nat):Int):=by rw[Aa ω ω];omega
 have h0:Int.tmod (aE Q ((r:Int)*2)) 256=((r*2%256:Nat):Int):=by
  rw[Aa ω ω,e4_ ω];omega
 simp only[b_ (ω:(k:Int)<8),d_,h0,w]
 unfold PU;by_cases h:128≤r
 ·rw[b_ (ω:(128:Int)≤(r:Int)),if_pos h,d_]
  have hx:=Bgy (a:=r*2%256) (c:=7) ω ω
  rw[show((7:Nat):Int)=7 from rfl]at hx
  rw[hx]
 ·rw[f_ (ω:¬(128:Int)≤(r:Int)),if_neg h];rfl
def Ayh(s:ByteArray)(s7 s8:Int){r:Nat}(hr:r<256):Pb ((s,(r:Int),s7,s8,(0:Int),()),())=E ((s,((it8 8 r:Nat):Int),s7,s8,()),()):=by
 have h:=AP (step:=λx=>Pl x.1.1 x.1.2.1 x.1.2.2.1 x.1.2.2.2.1 x.1.2.2.2.2.1) 8 (λk r=>((s,((r:Nat):Int),s7,s8,(k:Int),()),())) (λ_ r=>PU r) (λ_ r=>r<256) (λr=>((s,((r:Nat):Int),s7,s8,()),())) (λk r hk hr=>⟨Ayi s s7 s8 hr hk,Ab4 hr⟩) (λr _=>rfl) 8 0 r rfl hr
 have h':=h.1;rw[Ato]at h';exact Ai h' ω
def Azw(s:ByteArray)(i:Int){r:Nat}(hr:r<256):Pe ((s,(r:Int),i,(0:Int),()),())=E ((s,((it8 8 r:Nat):Int),i,()),()):=by
 have h:=AP (step:=λx=>Pn x.1.1 x.1.2.1 x.1.2.2.1 x.1.2.2.2.1) 8 (λk r=>((s,((r:Nat):Int),i,(k:Int),()),())) (λ_ r=>PU r) (λ_ r=>r<256) (λr=>((s,((r:Nat):Int),i,()),())) (λk r hk hr=>⟨Azx s i hr hk,Ab4 hr⟩) (λr _=>rfl) 8 0 r rfl hr
 have h':=h.1;rw[Ato]at h';exact Ai h' ω
def Ve{α β:Type}(f:β→α→β)(d:α):∀(l:List α) (k i:Nat) (s:β),i+k=l.length→AK (λi s=>f s (l.getD i d)) k i s=(l.drop i).foldl f s
 |l,0,i,s,h=>by
  obtain rfl:i=l.length:=ω
  simp[AK]
 |l,k+1,i,s,h=>by
  have hi:i<l.length:=ω
  simp only[AK];rw[Ve f d l k (i+1) _ ω,h3_ hi,f1_]
  simp[hi]
def Aoy{s:ByteArray}(hs:s.size≤1000000):Se s=E ((((SR (bl s):Nat):Int),()),()):=by
 have h:=AP (step:=λx=>JR x.1.1 x.1.2.1 x.1.2.2.1 x.1.2.2.2.1) s.size (λi r=>((s,((r:Nat):Int),(s.size:Int),(i:Int),()),())) (λi r=>Uo r ((bl s).getD i 0).toNat) (λ_ r=>r<256) (λr=>((((r:Nat):Int),()),())) (λi r hi hr=>by
  have hx:=aG ((bl s).getD i 0);refine⟨?_,Aaz hr hx⟩;show JR s ((r:Nat):Int) (s.size:Int) (i:Int)=_;have w:Q.wrap ((i:Int)+1)=((i+1:Nat):Int):=by rw[Aa ω ω];omega
  unfold JR;simp only[b_ (ω:(i:Int)<(s.size:Int)),Ac (ω:(0:Int)≤(i:Int)) (ω:(i:Int)<(s.size:Int)),d_,i_,FR]
  rw[Bqg hr hx,Ayh s _ _ (d6_ (n:=8) hr hx),a_,w]
  rfl) (λr _=>by
  show JR s ((r:Nat):Int) (s.size:Int) (s.size:Int)=_;unfold JR;simp only[f_ (H_ (s.size:Int)),c_]) s.size 0 0 ω ω
 have h':=Ai h.1 ω
 rw[Ve (λr (x:UInt8)=>Uo r x.toNat) 0 (bl s) s.size 0 0 (by rw[Gg];omega),Q_]at h'
 unfold Se;rw[show Pa ((s,(0:Int),(s.size:Int),(0:Int),()),())=_ from h']
 rfl
def Ape{s:ByteArray}(hs:s.size≤1000000):OQ s=E ((((SR (bl s):Nat):Int),()),()):=by
 have h:=AP (step:=λx=>JT x.1.1 x.1.2.1 x.1.2.2.1) s.size (λi r=>((s,((r:Nat):Int),(i:Int),()),())) (λi r=>Uo r ((bl s).getD i 0).toNat) (λ_ r=>r<256) (λr=>((((r:Nat):Int),()),())) (λi r hi hr=>by
  have hx:=aG ((bl s).getD i 0);refine⟨?_,Aaz hr hx⟩;show JT s ((r:Nat):Int) (i:Int)=_;have w:Q.wrap ((i:Int)+1)=((i+1:Nat):Int):=by rw[Aa ω ω];omega
  unfold JT;simp only[b_ (ω:(i:Int)<(s.size:Int)),Ac (ω:(0:Int)≤(i:Int)) (ω:(i:Int)<(s.size:Int)),d_,i_,FR,Aa (n:=(((bl s).getD i 0).toNat:Int)) ω ω]
  rw[Bgy hr hx,Azw s _ (d6_ (n:=8) hr hx),a_,w]
  rfl) (λr _=>by
  show JT s ((r:Nat):Int) (s.size:Int)=_;unfold JT;simp only[f_ (H_ (s.size:Int)),c_]) s.size 0 0 ω ω
 have h':=Ai h.1 ω
 rw[Ve (λr (x:UInt8)=>Uo r x.toNat) 0 (bl s) s.size 0 0 (by rw[Gg];omega),Q_]at h'
 have hl:=Arg (bl s);unfold OQ;rw[show Pd ((s,(0:Int),(0:Int),()),())=_ from h']
 simp only[a_];rw[show((bl s).foldl (λr (x:UInt8)=>Uo r x.toNat) 0)=SR (bl s)from rfl,Qy ω ω]
def u8n(n:Int):UInt8:=UInt8.ofNat n.toNat
def Tb(h:0≤n∧n<256):((u8n n).toNat:Int)=n:=by
 unfold u8n;rw[UInt8.toNat_ofNat'];omega
def txt(l:List UInt8):ByteArray:=⟨l.toArray⟩
def Gh(l:List UInt8):bl (txt l)=l:=Brb l
def Bp7(s:ByteArray):txt (bl s)=s:=Nq (Gh _)
def Ag2(a c:List UInt8):txt a++txt c=txt (a++c):=Nq (by rw[Lc,Gh,Gh,Gh])
def FI(l:List UInt8):(txt l).size=l.length:=by rw[← Gg,Gh]
def Ab6(l:List Int):Hg l=txt (l.map u8n):=rfl
def Abx(r:H):List UInt8:=[u8n r.R0,u8n r.D0,u8n r.I0,u8n (r.S0+2),u8n r.G2]
def Cr(r:H):List UInt8:=Abx r++[u8n ((SR (Abx r):Nat):Int)]
def HZ(r:H):(Cr r).length=6:=rfl
def QT(hb:b.small){f d:Int}(h:Am b f d=I):(0≤f∧f<100)∧(1≤d∧d≤2):=by
 have lo:=hb.lo;have hi:=hb.hi;unfold Am NQ at h;simp only[e_,Y_,R_,Ao]at h;omega
structure RecOK(r:Record):Prop where
 k:1≤r.R0∧r.R0≤7
 f:0≤r.D0∧r.D0<100
 d:0≤r.I0∧r.I0<100
 c:-2≤r.S0∧r.S0<100
 v:0≤r.G2∧r.G2<256
def Vq(hb:b.small)(hc:b.B0.length≤100)(h:Au b r=I):RecOK r:=by
 have hk:=(Vp h).2
 have hcar:(r.R0=4∨r.R0=5∨r.R0=6)→r.D0=0∧r.I0=0:=λhq=>by
  unfold Au Tw at h;rcases hq with q | q | q
  all_goals
   rw[q]at h;simp only[show((4:Int)==1)=D from rfl,show((4:Int)==2)=D from rfl,show((4:Int)==3)=D from rfl,show((5:Int)==1)=D from rfl,show((5:Int)==2)=D from rfl,show((5:Int)==3)=D from rfl,show((5:Int)==4)=D from rfl,show((6:Int)==1)=D from rfl,show((6:Int)==2)=D from rfl,show((6:Int)==3)=D from rfl,show((6:Int)==4)=D from rfl,show((6:Int)==5)=D from rfl,l_,d_,c_,e_,R_]at h
   exact h.2.1.2
 rcases hk with h1 | h1 | h1 | h1 | h1 | h1 | h1
 ·have:=QT hb h1.2.1
  exact⟨ω,this.1,ω,ω,ω⟩
 ·have:=QT hb h1.2.1
  exact⟨ω,this.1,ω,ω,ω⟩
 ·have:=QT hb h1.2.1
  exact⟨ω,this.1,ω,ω,ω⟩
 ·have:=hcar ω
  exact⟨ω,ω,ω,ω,ω⟩
 ·have:=hcar ω
  exact⟨ω,ω,ω,ω,ω⟩
 ·have:=hcar ω
  exact⟨ω,ω,ω,ω,ω⟩
 ·have:=QT hb h1.2.1
  exact⟨ω,this.1,ω,ω,ω⟩
def Bgu(h:RecOK r):Hg [N.wrap r.R0,N.wrap r.D0,N.wrap r.I0,N.wrap (aE Q (r.S0+2)),N.wrap r.G2]=txt (Abx r):=by
 obtain⟨h1,h2,h3,h4,h5⟩:=h;rw[Qy (n:=r.R0) ω ω,Qy (n:=r.D0) ω ω,Qy (n:=r.I0) ω ω,Aa (n:=r.S0+2) ω ω,Qy (n:=r.S0+2) ω ω,Qy (n:=r.G2) ω ω]
 rfl
def Hy(b:B)(r:H):ByteArray:=bif Au b r then txt (Cr r)else txt []
section
variable{b:B}(hb:b.small)(hc:b.B0.length≤100)
include hb hc
theorem TQ(r:H):IQ b.C0 b.E0 b.H0 b.M0 b.J0 b.L0 b.N0 b.B0 r.R0 r.D0 r.I0 r.S0 r.G2=E ((Hy b r,(bif Au b r then 0 else 1),()),()):=by
 unfold IQ Hy;rw[UJ hb hc r];simp only[a_];cases hv:Au b r with
 |false=>rfl
 |true=>
  have h:=Vq hb hc hv;simp only[o_,c_,d_,Bgu h];rw[Aoy (by rw[FI];show 5≤1000000;omega)]
  simp only[a_,Gh,Ab6];rw[Ay (by rw[FI,FI];show 5+1≤4611686018427387904;omega),Ag2]
  rfl
theorem Ajv(r:H):OU b.C0 b.E0 b.H0 b.M0 b.J0 b.L0 b.N0 b.B0 r.R0 r.D0 r.I0 r.S0 r.G2=E ((Hy b r,(bif Au b r then 0 else 1),()),()):=by
 unfold OU Hy;rw[Ank hb hc r];simp only[a_];cases hv:Au b r with
 |false=>rfl
 |true=>
  have h:=Vq hb hc hv;simp only[o_,c_,d_,Bgu h];rw[Ape (by rw[FI];show 5≤1000000;omega)]
  simp only[a_,Gh,Ab6];rw[Ay (by rw[FI,FI];show 5+1≤4611686018427387904;omega),Ag2]
  rfl
end
def fld(l:List UInt8)(i:Nat):Int:=((l.getD i 0).toNat:Int)
def Aug(l:List UInt8):H:=⟨fld l 0,fld l 1,fld l 2,fld l 3-2,fld l 4⟩
def Ac7(b:B)(l:List UInt8):Option H:=
 bif l.length==6&&(((((SR (l.take 5):Nat):Int))==fld l 5)&&Au b (Aug l))then E (Aug l)else none
def Aym(h:Ac7 b l=E r):Au b r=I:=by
 unfold Ac7 at h;cases hq:(l.length==6&&(((((SR (l.take 5):Nat):Int))==fld l 5)&&Au b (Aug l)))with
 |false=>rw[hq]at h;cases h
 |true=>
  rw[hq]at h;cases h;rw[e_,e_]at hq;exact hq.2.2
def Bhe(hb:b.small)(hc:b.B0.length≤100)(h:Au b r=I):Ac7 b (Cr r)=E r:=by
 obtain⟨h1,h2,h3,h4,h5⟩:=Vq hb hc h;have hs:=Arg (Abx r)
 have e:Aug (Cr r)=r:=by
  show aB ((u8n r.R0).toNat:Int) ((u8n r.D0).toNat:Int) ((u8n r.I0).toNat:Int) (((u8n (r.S0+2)).toNat:Int)-2) ((u8n r.G2).toNat:Int)=r;rw[Tb ω,Tb ω,Tb ω,Tb ω,Tb ω,show r.S0+2-2=r.S0 by omega]
 have e5:fld (Cr r) 5=((SR (Abx r):Nat):Int):=by
  show((u8n ((SR (Abx r):Nat):Int)).toNat:Int)=_;exact Tb ω
 unfold Ac7;rw[e,h,e5,show(Cr r).take 5=Abx r from rfl,HZ]
 simp
def Na(b:B):Nat→List UInt8→List H
 |0,_=>[]
 |k+1,l=>if 6≤l.length then match Ac7 b (l.take 6)with | some r=>r::Na b k (l.drop 6) | none=>[]else []
def NV(b:B)(s:ByteArray):List H:=Na b s.size (bl s)
def YL(b:B):∀(k:Nat) (l:List UInt8),6*(Na b k l).length≤l.length
 |0,_=>by simp[Na]
 |k+1,l=>by
  simp only[Na];split
  ·split
   ·rename_i h _ r _
    have:=YL b k (l.drop 6)
    rw[Z_]at this;rw[C_];omega
   ·simp
  ·simp
def Vl(b:B):∀(k:Nat) (l:List UInt8),∀r∈Na b k l,Au b r=I
 |0,_,_,h=>by simp[Na]at h
 |k+1,l,r,h=>by
  simp only[Na]at h;split at h
  ·split at h
   ·rename_i _ _ r' hr
    rcases r_.1 h with rfl | h
    ·exact Aym hr
    ·exact Vl b k _ r h
   ·cases h
  ·cases h
def Anq{b:B}(hb:b.small)(hc:b.B0.length≤100){t:List UInt8}(ht:t.length<6):∀(rs:List H) (k:Nat),rs.length≤k→(∀r∈rs,Au b r=I)→Na b k (rs.flatMap Cr++t)=rs
 |[],0,_,_=>rfl
 |[],k+1,_,_=>by
  simp only[Na,List.flatMap_nil,a2_];rw[if_neg ω]
 |r::rs,0,h,_=>by simp at h
 |r::rs,k+1,h,hv=>by
  have e1:(r::rs).flatMap Cr++t=Cr r++(rs.flatMap Cr++t):=by rw[a1_,M_]
  have e2:(Cr r++(rs.flatMap Cr++t)).take 6=Cr r:=f0_ (HZ r);have e3:(Cr r++(rs.flatMap Cr++t)).drop 6=rs.flatMap Cr++t:=List.drop_left' (HZ r);simp only[Na];rw[e1,e2,e3,Bhe hb hc (hv r (s_ ..)),if_pos (by rw[h_,HZ];omega),Anq hb hc ht rs k (by simp at h;omega) λx hx=>hv x (x_ _ hx)]
def KJ(l:List UInt8):List Int:=l.map λx=>(x.toNat:Int)
def Au4(l:List UInt8):Hg (KJ l)=txt l:=by
 rw[Ab6];unfold KJ;rw[List.map_map];congr 1
 conv=>rhs;rw[← List.map_id l]
 refine List.map_congr_left λx _=>?_
 show UInt8.ofNat (Int.toNat (x.toNat:Int))=x;rw[i_,UInt8.ofNat_toNat]
def Bc1(l:List UInt8):(KJ l).all (λn=>decide (0≤n)&&decide (n<256))=I:=by
 rw[E_];intro n hn;obtain⟨x,_,rfl⟩:=b6_.1 hn
 have:x.toNat<256:=aG x
 simp only[e_,t_];omega
def Awo(h:l≠[]):Fx (KJ l)=E ((txt l,()),(((),KJ l,()),())):=by
 unfold Fx
 rw[Bc1,Au4,show Auw (KJ l)=I by
  cases l with
  |nil=>exact absurd rfl h
  |cons a t=>rfl]
 rfl
def Ba7(s:ByteArray)(h:l.length+s.size≤2147483648):DO s (KJ l)=E (((s.size:Int),(),()),(((),KJ (l++bl s),()),())):=by
 unfold DO wsF;rw[show(KJ l).length=l.length from b5_ _,Ay h]
 unfold KJ bl;rw[List.map_append];rfl
def Ahk(b:B)(r:H):(bl (Hy b r)).length≤6:=by
 unfold Hy;cases Au b r with
 |true=>rw[d_,Gh,HZ];omega
 |false=>rw[c_,Gh];simp
def Ws(h:Au b r=I):Hy b r=txt (Cr r):=by unfold Hy;rw[h];rfl
def Aa6{b:B}:∀{rs:List H},(∀r∈rs,Au b r=I)→rs.flatMap (λr=>bl (Hy b r))=rs.flatMap Cr
 |[],_=>rfl
 |r::t,h=>by
  rw[a1_,a1_,Ws (h r (s_ ..)),Gh,Aa6 λx hx=>h x (x_ _ hx)]
def Zu(rs:List H):(rs.flatMap Cr).length=6*rs.length:=by
 induction rs with
 |nil=>rfl
 |cons r t ih=>rw[a1_,h_,ih,HZ,C_];omega
section
variable{b:B}(hb:b.small)(hc:b.B0.length≤100)
include hb hc
theorem Akr(bud:Int){rs:List H}(hl:rs.length≤1000000)(s t:C):LJ ((bud,(),(),(),(),rs,(rs.length:Int),(0:Int),()),(b.tup,(s.h0,s.h1,s.sel,()),(t.h0,t.h1,t.sel,()),((),[],()),()))=E ((bud,(),(),(),(),()),(b.tup,(s.h0,s.h1,s.sel,()),(t.h0,t.h1,t.sel,()),((),KJ (rs.flatMap λr=>bl (Hy b r)),()),())):=by
 have h:=AP (step:=λx=>letI a:=x.2.1.2.2;letI c:=x.1.2.2.2.2.2;letI d:=x.2.2;letI f:=a.2.2;GW x.1.1 c.1 c.2.1 c.2.2.1 x.2.1.1 x.2.1.2.1 a.1 a.2.1 f.1 f.2.1 f.2.2.1 f.2.2.2.1 d.1.1 d.1.2.1 d.1.2.2.1 d.2.1.1 d.2.1.2.1 d.2.1.2.2.1 d.2.2.1.2.1) rs.length
  (λi (l:List UInt8)=>((bud,(),(),(),(),rs,(rs.length:Int),(i:Int),()),(b.tup,(s.h0,s.h1,s.sel,()),(t.h0,t.h1,t.sel,()),((),KJ l,()),()))) (λi l=>l++bl (Hy b (rs.getD i (aB 0 0 0 0 0)))) (λi l=>l.length≤6*i) (λl=>((bud,(),(),(),(),()),(b.tup,(s.h0,s.h1,s.sel,()),(t.h0,t.h1,t.sel,()),((),KJ l,()),()))) (λi l hi hs=>by
   have he:=Ahk b (rs.getD i (aB 0 0 0 0 0));refine⟨?_,by rw[h_];omega⟩
   show GW bud rs (rs.length:Int) (i:Int) b.C0 b.E0 b.H0 b.M0 b.J0 b.L0 b.N0 b.B0 s.h0 s.h1 s.sel t.h0 t.h1 t.sel (KJ l)=_;unfold GW;simp only[b_ (ω:(i:Int)<(rs.length:Int)),Ac (ω:(0:Int)≤(i:Int)) (ω:(i:Int)<(rs.length:Int)),d_,i_,TQ hb hc,a_,Ba7 (Hy b (rs.getD i (aB 0 0 0 0 0))) (l:=l) (by rw[← Gg];omega),Dp hi (show rs.length≤AG by unfold AG;omega)]
   rfl) (λl _=>by
   show GW bud rs (rs.length:Int) (rs.length:Int) b.C0 b.E0 b.H0 b.M0 b.J0 b.L0 b.N0 b.B0 s.h0 s.h1 s.sel t.h0 t.h1 t.sel (KJ l)=_;unfold GW;simp only[f_ (H_ (rs.length:Int)),c_]
   rfl) rs.length 0 [] ω (by simp)
 have h':=Ai h.1 ω
 have e:AK (λi l=>l++bl (Hy b (rs.getD i (aB 0 0 0 0 0)))) rs.length 0 []=rs.flatMap λr=>bl (Hy b r):=by
  rw[HE (λi=>bl (Hy b (rs.getD i (aB 0 0 0 0 0)))),a2_,MY (λr=>bl (Hy b r)) (aB 0 0 0 0 0) rs 0 rs.length ω,Q_]
 rw[e]at h';exact h'
end
def Dy(b:B)(s:C)(m:J)(bud:Int):C×Int×Int:=
 bif !(decide (s.ok b.H0))then(L,0,1)else bif decide (bud<0)then(L,0,1)else bif !(m.ok b)then(L,0,1)else
 bif((s.erase b.H0 (1-s.sel) bud).2.2==0)then
  (bif(((s.erase b.H0 (1-s.sel) bud).1.write b.H0 (1-s.sel) (txt ((CN m).flatMap Cr)) (s.erase b.H0 (1-s.sel) bud).2.1).2.2==0)then
   ((s.erase b.H0 (1-s.sel) bud).1.write b.H0 (1-s.sel) (txt ((CN m).flatMap Cr)) (s.erase b.H0 (1-s.sel) bud).2.1).1.choose b.H0 (1-s.sel) ((s.erase b.H0 (1-s.sel) bud).1.write b.H0 (1-s.sel) (txt ((CN m).flatMap Cr)) (s.erase b.H0 (1-s.sel) bud).2.1).2.1
  else(s.erase b.H0 (1-s.sel) bud).1.write b.H0 (1-s.sel) (txt ((CN m).flatMap Cr)) (s.erase b.H0 (1-s.sel) bud).2.1)
 else s.erase b.H0 (1-s.sel) bud
def Ap0(room:Int)(s:C)(half bud:Int)(t:C)(hb:bud<9223372036854775808):(s.act room half bud t).2.1<9223372036854775808:=by
 unfold Sto.act;split
 ·show(0:Int)<_;omega
 ·split
  ·show(0:Int)<_;omega
  ·show bud-1<_;omega
def Ai8(room:Int)(s:C)(half:Int)(d:ByteArray)(bud:Int)(hb:bud<9223372036854775808):(s.write room half d bud).2.1<9223372036854775808:=by
 unfold Sto.write;split
 ·show(0:Int)<_;omega
 ·split
  ·show(0:Int)<_;omega
  ·split
   ·show(0:Int)<_;omega
   ·show bud-(d.size:Int)<_;omega
def Agc(hb:b.small)(hc:b.B0.length≤100)(s:C)(hf:m.fit)(hbud:bud<9223372036854775808):
  Nx b.C0 b.E0 b.H0 b.M0 b.J0 b.L0 b.N0 b.B0 s.h0 s.h1 s.sel m.F0 m.O0 m.K0 m.A0 bud=E (Sto.out (Dy b s m bud)):=by
 have hmx:100000≤maxLen:=by decide
 have hp:=hf.p;have he:=hf.e;unfold Nx Dy;rw[IS,CS hb m ω ω,Ad2 hb hf]
 simp only[a_];by_cases hs:s.ok b.H0
 ·rw[b_ (show Sto.ok b.H0 ⟨s.h0,s.h1,s.sel⟩from hs)]
  by_cases hb0:bud<0
  ·rw[b_ hb0];rfl
  rw[f_ hb0];cases hok:m.ok b with
  |false=>rfl
  |true=>
   have hm:=Img.ok_iff.1 hok;have hcars:=Aj hm.code;have hlp:=hm.lp;have hsn:UP b m=CN m:=by unfold UP;rw[hok];rfl
   have hsl:=YV m
   have hne:(CN m).flatMap Cr≠[]:=λh0=>by
    have h1:=Zu (CN m);rw[h0,hsl,d5_]at h1;omega
   have hloop:=Akr hb hc bud (rs:=CN m) (by rw[hsl];omega) s L
   rw[Aa6 (SQ hm)]at hloop;simp only[Bldg.tup,L,noB]at hloop
   have hsel:Q.wrap (1-s.sel)=1-s.sel:=by
    obtain⟨_,_,_,_,h5⟩:=hs;exact Aa ω ω
   simp only[o_,c_,hsn,hloop,a_,hsel,Au7 _ _ _ _ _ _ hbud,Sto.out];have hb1:=Ap0 b.H0 s (1-s.sel) bud (s.set (1-s.sel) noB) hbud;rw[show s.act b.H0 (1-s.sel) bud (s.set (1-s.sel) noB)=s.erase b.H0 (1-s.sel) bud from rfl]at hb1
   rw[show Sto.mk s.h0 s.h1 s.sel=s from rfl]
   generalize s.erase b.H0 (1-s.sel) bud=r1 at hb1⊢;cases hq:r1.2.2==0 with
   |false=>
    simp only[c_,a_,hq]
   |true=>
    simp only[d_,Awo hne,a_,Tj _ _ _ _ _ _ _ hb1,Sto.out];have hb2:=Ai8 b.H0 r1.1 (1-s.sel) (txt ((CN m).flatMap Cr)) r1.2.1 hb1;rw[show Sto.mk r1.1.h0 r1.1.h1 r1.1.sel=r1.1 from rfl]
    generalize r1.1.write b.H0 (1-s.sel) (txt ((CN m).flatMap Cr)) r1.2.1=r2 at hb2⊢;cases hq2:r2.2.2==0 with
    |false=>simp only[c_]
    |true=>
     simp only[d_,Apx _ _ _ _ _ _ hb2,a_,Sto.out]
 ·rw[f_ (show ¬Sto.ok b.H0 ⟨s.h0,s.h1,s.sel⟩from hs)]
  rfl
def Jv(b:B)(m:J)(r:H):Bool:=r.R0==1&&(!(FU (At r.D0 r.I0) m.A0)&&!(KM b m))
def FV(b:B)(s:C)(m:J)(r:H)(bud:Int):C×Int×Int:=
 bif decide ((6:Int)≤b.H0-(s.cur.size:Int))then s.write b.H0 s.sel (txt (Cr r)) bud else Dy b s (AC m r) bud
def Vy(b:B)(s:C)(m:J)(r:H)(bud:Int):C×J×Int×Int:=
 bif !(m.ok b&&Au b r)then(L,aA,0,1)else bif !(decide (s.ok b.H0))then(L,aA,0,1)else bif decide (bud<0)then(L,aA,0,1)else
 bif Jv b m r then(L,aA,0,7)else
 bif(FV b s m r bud).2.2==0 then((FV b s m r bud).1,AC m r,(FV b s m r bud).2.1,(FV b s m r bud).2.2)
 else bif(FV b s m r bud).2.2==8 then((FV b s m r bud).1,m,0,(FV b s m r bud).2.2)else(L,aA,0,(FV b s m r bud).2.2)
def Ak3(r:C×J×Int×Int):(Unit×Unit×Int×Int×Unit)×((ByteArray×ByteArray×Int×Unit)×(List Int×List Bool×List Bool×List Entry×Unit)×Unit):=(((),(),r.2.2.1,r.2.2.2,()),((r.1.h0,r.1.h1,r.1.sel,()),r.2.1.tup,()))
def Ajh(hb:b.small)(hc:b.B0.length≤100)(s:C)(hp:m.F0.length≤100000)(hl:m.A0.length≤10000)(r:H)(hbud:bud<9223372036854775808):
    OM b.C0 b.E0 b.H0 b.M0 b.J0 b.L0 b.N0 b.B0 s.h0 s.h1 s.sel m.F0 m.O0 m.K0 m.A0 r.R0 r.D0 r.I0 r.S0 r.G2 bud=E (Ak3 (Vy b s m r bud)):=by
  unfold OM Vy
  rw[Ys hb hc m hp hl r,IS]
  unfold XL
  cases hq:m.ok b&&Au b r with
  |false=>rfl
  |true=>
    rw[e_]at hq
    have hm:=Img.ok_iff.1 hq.1
    simp only[a_,d_,T_,c_,o_]
    by_cases hs:s.ok b.H0
    · rw[b_ (show Sto.ok b.H0 ⟨s.h0,s.h1,s.sel⟩from hs)]
      by_cases hb0:bud<0
      · rw[b_ hb0];rfl
      rw[f_ hb0]
      obtain⟨hm2,hl2⟩:=Oo hm hq.2
      have h1:=hm.lp
      have h2:=hm.lf
      have h3:=hm.ll
      have g1:=hm2.lp
      have g2:=hm2.lf
      have g3:=hm2.ll
      have hf2:(AC m r).fit:=⟨ω,ω,ω,ω⟩
      have hcur:(s.cur.size:Int)≤b.H0:=by
        obtain⟨_,_,h3,h4,_⟩:=hs
        unfold aC
        split
        · exact h4
        · exact h3
      have hroom:=XU hm.code
      have wr:Q.wrap (b.H0-(s.cur.size:Int))=b.H0-(s.cur.size:Int):=Aa ω ω
      have hsz:((Hy b r).size:Int)=6:=by rw[Ws hq.2,FI,HZ];rfl
      rw[Aaf m hm.so ω]
      have step:∀q:Bool,q=Jv b m r→(bif q then E (((),(),(0:Int),(7:Int),()),(((P (O [])),(P (O [])),(0:Int),()),(([]:List Int),([]:List Bool),([]:List Bool),([]:List Entry),()),()))else
          E (Ak3 (bif(FV b s m r bud).2.2==0 then((FV b s m r bud).1,AC m r,(FV b s m r bud).2.1,(FV b s m r bud).2.2)else bif(FV b s m r bud).2.2==8 then((FV b s m r bud).1,m,0,(FV b s m r bud).2.2)else(L,aA,0,(FV b s m r bud).2.2))))=
        E (Ak3 (bif Jv b m r then(L,aA,0,7)else(bif(FV b s m r bud).2.2==0 then((FV b s m r bud).1,AC m r,(FV b s m r bud).2.1,(FV b s m r bud).2.2)else bif(FV b s m r bud).2.2==8 then((FV b s m r bud).1,m,0,(FV b s m r bud).2.2)else(L,aA,0,(FV b s m r bud).2.2)))):=by
        rintro q rfl
        cases Jv b m r<;>rfl
      simp only[o_,c_,a_]
      rw[← step _ rfl]
      have e5 : ∀ q : Bool, (bif (r.R0 == (1 : Int)) then
              bif(!(FU (At r.D0 r.I0) m.A0))then
                (MC b.C0 b.E0 b.H0 b.M0 b.J0 b.L0 b.N0 b.B0 m.F0 m.O0 m.K0 m.A0).bind λy4=>
                E ((bud,(),(),(),(),(),(),(),(!y4.1.1),()),((b.C0,b.E0,b.H0,b.M0,b.J0,b.L0,b.N0,b.B0,()),(s.h0,s.h1,s.sel,()),(m.F0,m.O0,m.K0,m.A0,()),(r.R0,r.D0,r.I0,r.S0,r.G2,()),((P (O [])),(P (O [])),(0:Int),()),(([]:List Int),([]:List Bool),([]:List Bool),([]:List Entry),()),(AC m r).tup,()))
              else
                E ((bud,(),(),(),(),(),(),(),D,()),((b.C0,b.E0,b.H0,b.M0,b.J0,b.L0,b.N0,b.B0,()),(s.h0,s.h1,s.sel,()),(m.F0,m.O0,m.K0,m.A0,()),(r.R0,r.D0,r.I0,r.S0,r.G2,()),((P (O [])),(P (O [])),(0:Int),()),(([]:List Int),([]:List Bool),([]:List Bool),([]:List Entry),()),(AC m r).tup,()))
            else
              E ((bud,(),(),(),(),(),(),(),D,()),((b.C0,b.E0,b.H0,b.M0,b.J0,b.L0,b.N0,b.B0,()),(s.h0,s.h1,s.sel,()),(m.F0,m.O0,m.K0,m.A0,()),(r.R0,r.D0,r.I0,r.S0,r.G2,()),((P (O [])),(P (O [])),(0:Int),()),(([]:List Int),([]:List Bool),([]:List Bool),([]:List Entry),()),(AC m r).tup,())))=E ((bud,(),(),(),(),(),(),(),Jv b m r,()),((b.C0,b.E0,b.H0,b.M0,b.J0,b.L0,b.N0,b.B0,()),(s.h0,s.h1,s.sel,()),(m.F0,m.O0,m.K0,m.A0,()),(r.R0,r.D0,r.I0,r.S0,r.G2,()),((P (O [])),(P (O [])),(0:Int),()),(([]:List Int),([]:List Bool),([]:List Bool),([]:List Entry),()),(AC m r).tup,())):=λ_=>by
        rw[Aae hb m ω hp ω]
        unfold Jv
        cases r.R0==1<;>cases FU (At r.D0 r.I0) m.A0<;>rfl
      have e5':=e5 I
      simp only[Img.tup]at e5'⊢
      rw[e5']
      simp only[a_]
      cases Jv b m r with
      |true=>rfl
      |false=>
        simp only[c_]
        rw[TQ hb hc,XE]
        simp only[a_,hsz]
        rw[show aC ⟨s.h0,s.h1,s.sel⟩=s.cur from rfl,wr,Ws hq.2]
        have hw:Iu b.H0 s.h0 s.h1 s.sel s.sel (txt (Cr r)) bud=_:=Tj b.H0 s.h0 s.h1 s.sel s.sel (txt (Cr r)) bud hbud
        have hcp:=Agc hb hc s hf2 hbud
        rw[hw,hcp]
        simp only[a_]
        have e10:∀{A:Type}(f:C×Int×Int→A),(bif decide ((6:Int)≤b.H0-(s.cur.size:Int))then E (f (s.write b.H0 s.sel (txt (Cr r)) bud))else E (f (Dy b s (AC m r) bud)))=E (f (FV b s m r bud)):=λf=>by
          unfold FV
          cases decide ((6:Int)≤b.H0-(s.cur.size:Int))<;>rfl
        rw[show Sto.mk s.h0 s.h1 s.sel=s from rfl]
        have e10':=e10 λw=>((w.2.1,(),(),(),(),(),w.2.2,()),((w.1.h0,w.1.h1,w.1.sel,()),(m.F0,m.O0,m.K0,m.A0,()),((P (O [])),(P (O [])),(0:Int),()),(([]:List Int),([]:List Bool),([]:List Bool),([]:List Entry),()),(AC m r).tup,()))
        simp only[Img.tup]at e10'
        simp only[Sto.out]
        rw[e10']
        simp only[a_]
        generalize FV b s m r bud=w
        cases w.2.2==0 with
        |true=>rfl
        |false=>
          simp only[c_]
          cases w.2.2==8 with
          |true=>
            rw[Yv m hp ω ω ω]
            rfl
          |false=>rfl
    · rw[f_ (show ¬Sto.ok b.H0 ⟨s.h0,s.h1,s.sel⟩from hs)]
      rfl
def CC(b:B)(s:C):J:=AB (GG b) (NV b s.cur)
def sB:B:=KD 4 2 30
def sM1:J:=⟨[0,0],[D,D],[D,D],[⟨2,1,-1,0,D⟩]⟩
def sM2:J:=⟨[0,0],[D,D],[D,D],[⟨2,1,0,0,D⟩]⟩
def Ard:sB.code=0:=Ar3 ω ω ω ω ⟨ω,ω⟩
def ok1:sM1.ok sB=I:=by
 unfold Img.ok EE Ha Am;rw[Ard];rfl
def ok2:sM2.ok sB=I:=by
 unfold Img.ok EE Ha Am;rw[Ard];rfl
section
variable{s:C}{room half bud:Int}(hs:s.ok room)(hh:half=0∨half=1)(hb:0≤bud)
include hs hh hb
theorem Ayc:s.chk room half bud=0:=by
 unfold Sto.chk;rw[if_pos hs,if_neg ω]
theorem An9(hr:((s.get half).size:Int)+(t.length:Int)≤room):s.write room half (txt t) bud=if bud<(t.length:Int)then(s.set half (s.get half++txt (t.take bud.toNat)),0,8)else(s.set half (s.get half++txt t),bud-(t.length:Int),0):=by
 have he:(txt t).extract 0 bud.toNat=txt (t.take bud.toNat):=Nq (by rw[Rr,Gh,Gh];simp)
 unfold Sto.write;rw[Ayc hs hh hb,if_neg ω,FI,if_neg ω,he]
theorem Axy(t:C):s.act room half bud t=if bud=0 then(s,0,8)else(t,bud-1,0):=by
 unfold Sto.act;rw[Ayc hs hh hb,if_neg ω]
end
def TV{half:Int}(hs:s.ok room){x:ByteArray}(hx:(x.size:Int)≤room):(s.set half x).ok room:=by
 obtain⟨h1,h2,h3,h4,h5⟩:=hs;unfold Sto.set Sto.ok;split
 ·exact⟨h1,h2,hx,h4,h5⟩
 ·exact⟨h1,h2,h3,hx,h5⟩
def Az9{half:Int}(hs:s.ok room)(hh:half=0∨half=1):Sto.ok room { s with sel:=half }:=by
 obtain⟨h1,h2,h3,h4,_⟩:=hs;exact⟨h1,h2,h3,h4,hh⟩
def YS(hs:s.ok room):s.sel=0∨s.sel=1:=hs.2.2.2.2
def Ap8(hh:s.sel=0∨s.sel=1):s.cur=s.get s.sel:=by
 unfold aC Sto.get;rcases hh with h | h<;>rw[h]<;>rfl
def Ap9(hh:s.sel=0∨s.sel=1)(x:ByteArray):(s.set s.sel x).cur=x:=by
  obtain⟨h0,h1,sel⟩:=s
  rcases hh with h | h<;>
    (simp only at h
     subst h;simp[aC,Sto.set])
def Ahg(hh:s.sel=0∨s.sel=1)(x:ByteArray):(s.set (1-s.sel) x).cur=s.cur:=by
  obtain⟨h0,h1,sel⟩:=s
  rcases hh with h | h<;>
    (simp only at h
     subst h;simp[aC,Sto.set])
def Ahz(hh:s.sel=0∨s.sel=1)(x:ByteArray):(s.set (1-s.sel) x).get (1-s.sel)=x:=by
  obtain⟨h0,h1,sel⟩:=s
  rcases hh with h | h<;>
    (simp only at h
     subst h;simp[Sto.set,Sto.get])
def Aix(hh:s.sel=0∨s.sel=1)(x y:ByteArray):(s.set (1-s.sel) x).set (1-s.sel) y=s.set (1-s.sel) y:=by
  obtain⟨h0,h1,sel⟩:=s
  rcases hh with h | h<;>
    (simp only at h
     subst h;simp[Sto.set])
def Ac6(hh:s.sel=0∨s.sel=1)(x:ByteArray):aC { s.set (1-s.sel) x with sel:=1-s.sel }=x:=by
  obtain⟨h0,h1,sel⟩:=s
  rcases hh with h | h<;>
    (simp only at h
     subst h;simp[aC,Sto.set])
def YO(hb:b.small)(hc:b.B0.length≤100){rs:List H}(h:bl s.cur=rs.flatMap Cr++t)(ht:t.length<6)(hv:∀r∈rs,Au b r=I):CC b s=AB (GG b) rs:=by
 unfold CC NV;have hl:s.cur.size=6*rs.length+t.length:=by rw[← Gg,h,h_,Zu]
 rw[h,Anq hb hc ht rs s.cur.size ω hv]
structure Jst(b:Bldg)(s:Sto)(m:Img):Prop where
 ok:s.ok b.H0
 img:ImgOK b m
 rs:∃rs:List Record,bl s.cur=rs.flatMap Cr∧(∀r∈rs,Au b r=true)∧AB (GG b) rs=m
 fits:18*((b.B0.length:Int)+(m.A0.length:Int))+6≤b.H0
def Ag7(hs:Bj m.A0)(h:r.R0=1→FU (At r.D0 r.I0) m.A0=I):(AC m r).A0.length≤m.A0.length:=by
 unfold AC;cases r.R0==4 with
 |true=>exact z_ _
 |false=>
 cases r.R0==5 with
 |true=>exact z_ _
 |false=>
 cases r.R0==6 with
 |true=>exact z_ _
 |false=>
 simp only[c_];have hf:=RA (c:=At r.D0 r.I0) 0 hs;rw[show DP r.D0 r.I0 m.A0 0=_ from hf]
 cases hq:FU (At r.D0 r.I0) m.A0 with
 |false=>
  simp only[c_,l_,d_];by_cases k1:r.R0=1
  ·rw[h k1]at hq;cases hq
  ·rw[An k1];exact z_ _
 |true=>
  rw[d_,An (ω:¬((0+AA (At r.D0 r.I0) m.A0:Nat):Int)=-1),c_]
  cases r.R0==2 with
  |true=>
   show(m.A0.take _++m.A0.drop _).length≤_;rw[h_,y_,Z_];omega
  |false=>
  cases r.R0==3 with
  |true=>show(m.A0.set _ _).length≤_;rw[A_];exact z_ _
  |false=>
  cases r.R0==7 with
  |true=>show(m.A0.set _ _).length≤_;rw[A_];exact z_ _
  |false=>exact z_ _
def Ahr(hj:Jst b s m)(hv:Au b r=I)(hfull:Jv b m r=D):18*((b.B0.length:Int)+((AC m r).A0.length:Int))+6≤b.H0:=by
 have h0:=hj.fits;have h2:=(Oo hj.img hv).2;by_cases hk:r.R0=1
 ·cases hq:FU (At r.D0 r.I0) m.A0 with
  |true=>have:=Ag7 hj.img.so λ_=>hq;omega
  |false=>
   unfold Jv KM at hfull;rw[hk,hq,Img.ok_iff.2 hj.img]at hfull;simp at hfull;omega
 ·have:=Ag7 hj.img.so (r:=r) λh=>absurd h hk
  omega
def Ab7(h:ImgOK b m):(((CN m).flatMap Cr).length:Int)=18*((b.B0.length:Int)+(m.A0.length:Int)):=by
 rw[Zu,YV,h.lp];omega
def Ac2(hs:s.ok b.H0)(hm:ImgOK b m)(hb0:0≤bud)(hfit:18*((b.B0.length:Int)+(m.A0.length:Int))≤b.H0):
  (2+18*((b.B0.length:Int)+(m.A0.length:Int))≤bud∧Dy b s m bud=({ s.set (1-s.sel) (txt ((CN m).flatMap Cr))with sel:=1-s.sel },bud-(2+18*((b.B0.length:Int)+(m.A0.length:Int))),0))∨
  (bud<2+18*((b.B0.length:Int)+(m.A0.length:Int))∧∃s',Dy b s m bud=(s',0,8)∧s'.ok b.H0∧s'.cur=s.cur):=by
 have hsel:=YS hs;have hh:1-s.sel=0∨1-s.sel=1:=ω
 have hL:=Ab7 hm;have hroom:=hs.1;have he:s.erase b.H0 (1-s.sel) bud=if bud=0 then(s,0,8)else(s.set (1-s.sel) noB,bud-1,0):=Axy hs hh hb0 _
 unfold Dy;rw[b_ hs,f_ (ω:¬bud<0),Img.ok_iff.2 hm]
 simp only[o_,c_];generalize hT:(CN m).flatMap Cr=T at hL⊢;by_cases h0:bud=0
 ·right
  rw[he,if_pos h0];exact⟨ω,s,rfl,hs,rfl⟩
 ·rw[if_neg h0]at he
  rw[he];have hs1:(s.set (1-s.sel) noB).ok b.H0:=TV hs (by show(0:Int)≤_;omega)
  have hw:=An9 (t:=T) hs1 hh (ω:0≤bud-1) (by rw[Ahz hsel];show((0:Nat):Int)+_≤_;omega)
  rw[Ahz hsel,Aix hsel,Aix hsel]at hw;have nb:∀x:ByteArray,noB++x=x:=λx=>Nq (by rw[Lc];rfl)
  rw[nb,nb]at hw;simp only[l_,d_,hw];by_cases h1:bud-1<(T.length:Int)
  ·right
   rw[if_pos h1];refine⟨ω,_,rfl,TV hs ?_,Ahg hsel _⟩
   rw[FI,y_];omega
  ·rw[if_neg h1]
   have hs2:(s.set (1-s.sel) (txt T)).ok b.H0:=TV hs (by rw[FI];omega)
   have hc:=Axy hs2 hh (ω:0≤bud-1-(T.length:Int)) { s.set (1-s.sel) (txt T)with sel:=1-s.sel }
   have hc':(s.set (1-s.sel) (txt T)).choose b.H0 (1-s.sel) (bud-1-(T.length:Int))=_:=hc;simp only[l_,d_,hc'];by_cases h2:bud-1-(T.length:Int)=0
   ·right
    rw[if_pos h2];exact⟨ω,_,rfl,hs2,Ahg hsel _⟩
   ·left
    rw[if_neg h2,show bud-1-(T.length:Int)-1=bud-(2+18*((b.B0.length:Int)+(m.A0.length:Int)))by omega]
    exact⟨ω,rfl⟩
def UG(b:B)(s:C)(m:J)(r:H):Int:=if(s.cur.size:Int)+6≤b.H0 then 6 else 2+18*((b.B0.length:Int)+((AC m r).A0.length:Int))
def Ax2(hb:b.small)(hj:Jst b s m)(hv:Au b r=I)(hfull:Jv b m r=D)(hb0:0≤bud):
  (UG b s m r≤bud∧∃s',Vy b s m r bud=(s',AC m r,bud-UG b s m r,0)∧Jst b s' (AC m r))∨
  (bud<UG b s m r∧∃s',Vy b s m r bud=(s',m,0,8)∧s'.ok b.H0∧CC b s'=m):=by
 have hcars:=Aj hj.img.code;have hc:b.B0.length≤100:=ω
 have hm2:=(Oo hj.img hv).1;have hfit:=Ahr hj hv hfull;obtain⟨rs,e1,e2,e3⟩:=hj.rs;have hsel:=YS hj.ok;unfold Vy;rw[Img.ok_iff.2 hj.img,hv,b_ hj.ok,f_ (ω:¬bud<0),hfull]
 simp only[a3_,o_,c_];unfold UG FV;by_cases g:(s.cur.size:Int)+6≤b.H0
 ·rw[if_pos g,b_ (ω:(6:Int)≤b.H0-(s.cur.size:Int)),d_]
  have hw:=An9 (t:=Cr r) hj.ok hsel hb0 (by rw[← Ap8 hsel,HZ];omega)
  rw[HZ,← Ap8 hsel]at hw;rw[hw];by_cases h1:bud<((6:Nat):Int)
  ·right
   rw[if_pos h1];have hl:((Cr r).take bud.toNat).length<6:=by rw[y_,HZ];omega
   refine⟨ω,_,rfl,TV hj.ok ?_,?_⟩
   ·rw[← Gg,Lc,Gh,h_,Gg];omega
   ·rw[YO hb hc (rs:=rs) (t:=(Cr r).take bud.toNat) (by rw[Ap9 hsel,Lc,Gh,e1]) hl e2,e3]
  ·left
   rw[if_neg h1];refine⟨ω,_,rfl,TV hj.ok ?_,hm2,⟨rs++[r],?_,?_,?_⟩,hfit⟩
   ·rw[← Gg,Lc,Gh,h_,Gg,HZ];omega
   ·rw[Ap9 hsel,Lc,Gh,e1,List.flatMap_append]
    simp
   ·intro x hx
    rcases q_.1 hx with hx | hx
    ·exact e2 x hx
    ·rw[P_.1 hx];exact hv
   ·rw[EL,e3];rfl
 ·rw[if_neg g,f_ (ω:¬(6:Int)≤b.H0-(s.cur.size:Int)),c_]
  rcases Ac2 hj.ok hm2 hb0 ω with⟨q1,q2⟩ | ⟨q1,s',q2,q3,q4⟩
  ·left
   rw[q2];refine⟨q1,_,rfl,Az9 (TV hj.ok ?_) ω,hm2,⟨CN (AC m r),?_,SQ hm2,Aer hm2⟩,hfit⟩
   ·rw[FI,Ab7 hm2];omega
   ·rw[Ac6 hsel,Gh]
  ·right
   rw[q2];refine⟨q1,s',rfl,q3,?_⟩;rw[YO hb hc (rs:=rs) (t:=[]) (by rw[q4,e1,a9_]) (by simp) e2,e3]
def Jst.replay(hb:b.small)(hj:Jst b s m):CC b s=m:=by
 have hcars:=Aj hj.img.code;obtain⟨rs,e1,e2,e3⟩:=hj.rs;rw[YO hb ω (rs:=rs) (t:=[]) (by rw[e1,a9_]) (by simp) e2,e3]
def Jst.first(hcode:b.code=0):Jst b L (GG b):=by
 have hr:=XU hcode;have hcars:=Aj hcode;refine⟨⟨ω,ω,?_,?_,.inl rfl⟩,Abc hcode,⟨[],rfl,(λr h=>by cases h),rfl⟩,?_⟩
 ·show(0:Int)≤_;omega
 ·show(0:Int)≤_;omega
 ·show 18*((b.B0.length:Int)+((0:Nat):Int))+6≤_;omega
def Jst.ents(hj:Jst b s m):m.A0.length≤4000∧m.fit:=by
 have h1:=hj.fits;have h2:=(XU hj.img.code).2;have h3:=Aj hj.img.code;have g1:=hj.img.lp;have g2:=hj.img.lf;have g3:=hj.img.ll;exact⟨ω,ω,ω,ω,ω⟩
def Az5(s:C)(m:J)(bud e:Int):(Unit×Unit×Int×Int×Unit)×((ByteArray×ByteArray×Int×Unit)×(List Int×List Bool×List Bool×List Entry×Unit)×Unit):=(((),(),bud,e,()),((s.h0,s.h1,s.sel,()),m.tup,()))
def Dd(b:B)(s:C)(bud:Int):C×J×Int×Int:=
 bif(Dy b s (CC b s) bud).2.2 !=0 then((Dy b s (CC b s) bud).1,aA,0,(Dy b s (CC b s) bud).2.2)
 else((Dy b s (CC b s) bud).1,CC b s,(Dy b s (CC b s) bud).2.1,0)
def Aip(hcode:b.code=0)(s:C)(hs:s.cur.size≤500000):ImgOK b (CC b s)∧(CC b s).A0.length≤90000∧(CC b s).fit:=by
 have hc:=Aj hcode;obtain⟨h1,h2⟩:=Uj (Abc hcode) (rs:=NV b s.cur) λr hr=>Vl b _ _ r hr
 have h3:=YL b s.cur.size (bl s.cur);rw[Gg]at h3;have h4:(GG b).A0.length=0:=rfl;have h5:(NV b s.cur).length=(Na b s.cur.size (bl s.cur)).length:=rfl;have g1:=h1.lp;have g2:=h1.lf;have g3:=h1.ll;exact⟨h1,by show(AB (GG b) (NV b s.cur)).A0.length≤_;omega,by show(AB (GG b) (NV b s.cur)).F0.length≤_;omega,by show(AB (GG b) (NV b s.cur)).O0.length≤_;omega,by show(AB (GG b) (NV b s.cur)).K0.length≤_;omega,by show(AB (GG b) (NV b s.cur)).A0.length≤_;omega⟩
def PI(b:B)(m:J):Bool:=m.ok b&&decide (18*((b.B0.length:Int)+(m.A0.length:Int))+6≤b.H0)
def Bm1{a b:Nat}(h:a≤100000)(h':b≤100000):Q.wrap (aE Q (18*Q.wrap ((a:Int)+(b:Int)))+6)=18*((a:Int)+(b:Int))+6:=by
 rw[Aa (n:=(a:Int)+(b:Int)) ω ω,Aa (n:=18*((a:Int)+(b:Int))) ω ω,Aa ω ω]
def Aei(hb:b.small)(m:J)(hc:b.B0.length≤100000)(hf:m.fit):MJ b.C0 b.E0 b.H0 b.M0 b.J0 b.L0 b.N0 b.B0 m.F0 m.O0 m.K0 m.A0=E ((PI b m,()),()):=by
 have hmx:100000≤maxLen:=by decide
 have hp:=hf.p;have he:=hf.e;unfold MJ PI;rw[CS hb m ω ω]
 simp only[a_,Bm1 hc he];cases m.ok b<;>rfl
def VJ:Belief:=⟨-1,0,0,[],0,D⟩
def HY(b:B)(i:Nat):Car:=b.B0.getD i ⟨0,0,0,0,0,0,0,0,0⟩
def SS(b:B)(e:Entry):Int:=bif decide (0≤e.S0)then(HY b e.S0.toNat).I1 else 0
def Mch.none:Mch:=⟨aA,L,[],[],[],[],[],[],0,0,0⟩
def Ado(b:B)(m:J)(s:C):Mch:=⟨m,s,aD b.B0.length Ct,aD b.B0.length VJ,aD b.B0.length AX,aD b.B0.length Hs,m.A0.map (SS b),aD b.B0.length Agl,0,0,0⟩
def Mch.withB(m:Mch)(l:List Belief):Mch:={ m with W0:=l }
def Mch.withE(m:Mch)(l:List Int):Mch:={ m with U1:=l }
def Ant{α:Type}(a:α):∀k i:Nat,(List.range' i k).flatMap (λ_=>[a])=aD k a
 |0,_=>rfl
 |k+1,i=>by rw[d8_,a1_,Ant a k (i+1),List.replicate_succ];rfl
def Bcz{α β:Type}(f:α→β)(l:List α):l.flatMap (λx=>[f x])=l.map f:=by
 induction l with
 |nil=>rfl
 |cons a t ih=>rw[a1_,ih];rfl
def PK(b:B)(m:J)(s:C):Mch×Int:=bif PI b m&&decide (s.ok b.H0)then(Ado b m s,0)else(Mch.none,1)
def Px(b:B)(s:C)(bud:Int):Mch×Int×Int:=
 bif(Dd b s bud).2.2.2 !=0 then({ Mch.none with Z0:=(Dd b s bud).1 },0,(Dd b s bud).2.2.2)
 else bif(PK b (Dd b s bud).2.1 (Dd b s bud).1).2 !=0 then(Mch.none,0,(PK b (Dd b s bud).2.1 (Dd b s bud).1).2)
 else((PK b (Dd b s bud).2.1 (Dd b s bud).1).1,(Dd b s bud).2.2.1,0)
def Bh4(hcode:b.code=0)(s:C)(hs:s.cur.size≤500000)(bud:Int):(Dd b s bud).2.1.fit:=by
 obtain⟨_,_,hf⟩:=Aip hcode s hs;unfold Dd;cases(Dy b s (CC b s) bud).2.2 !=0 with
 |true=>exact⟨a6_ _,a6_ _,a6_ _,a6_ _⟩
 |false=>exact hf
def PT(b:B):Mch×Int:=bif b.code==0 then((Px b L 1048576).1,(Px b L 1048576).2.2)else(Mch.none,1)
def Aqs:∀{l:List Nat}{a n:Nat},l.Pairwise (· < ·)→(∀x∈l,a≤x∧x<n)→l.length+a≤n∨l=[]
 |[],_,_,_,_=>.inr rfl
 |x::t,a,n,h,hr=>by
  left;obtain⟨h1,h2⟩:=e6_.1 h;have hx:=hr x (s_ ..);rcases Aqs (a:=x+1) (n:=n) h2 (λy hy=>⟨h1 y hy,(hr y (x_ _ hy)).2⟩)with q | q
  ·rw[C_];omega
  ·subst q
   simp;omega
def Bhj(hb:b.small)(hm:ImgOK b m):(m.A0.length:Int)≤2*(b.C0-1):=by
 have lo:=hb.lo;have hi:=hb.hi
 let ix:Int×Int→Nat:=λp=>if p.1=0 then 0 else if p.1=b.C0-1 then(2*b.C0-3).toNat else(2*p.1+p.2-2).toNat
 have hv:∀p∈m.A0.map BT,(p.2=1∧0≤p.1∧p.1≤b.C0-2)∨(p.2=2∧1≤p.1∧p.1≤b.C0-1):=λp hp=>by
  obtain⟨e,he,rfl⟩:=b6_.1 hp;have h1:=(Dt.1 (hm.en e he)).1;unfold Am NQ at h1;simp only[e_,Y_,R_,Ao]at h1;show(e.I0=1∧0≤e.D0∧e.D0≤b.C0-2)∨(e.I0=2∧1≤e.D0∧e.D0≤b.C0-1);omega
 have hp:((m.A0.map BT).map ix).Pairwise (· < ·):=by
  rw[List.pairwise_map];refine List.Pairwise.imp_of_mem (λ{p q} hp hq h=>?_) hm.so
  have v1:=hv p hp;have v2:=hv q hq;unfold ltC at h;show ix p<ix q;simp only[ix];split<;>split<;>(try split)<;>(try split)<;>omega
 rcases Aqs (a:=0) (n:=(2*b.C0-2).toNat) hp (λx hx=>by
  obtain⟨p,hp,rfl⟩:=b6_.1 hx;have v1:=hv p hp;refine⟨a6_ _,?_⟩;show ix p<_;simp only[ix];split
  ·omega
  ·split<;>omega)with q | q
 ·rw[b5_,b5_]at q;omega
 ·have:=b8_ List.length q
  rw[b5_,b5_,d5_]at this;omega
def Aqo(hm:ImgOK b m)(hfit:18*((b.B0.length:Int)+(m.A0.length:Int))+6≤b.H0):PI b m=I:=by
 unfold PI;rw[Img.ok_iff.2 hm,b_ hfit];rfl
def Aa9(hm:ImgOK b m)(hfit:18*((b.B0.length:Int)+(m.A0.length:Int))+6≤b.H0)(hs:s.ok b.H0):PK b m s=(Ado b m s,0):=by
 unfold PK;rw[Aqo hm hfit,b_ hs];rfl
def Bg8(_hb:b.small)(hs:s.ok b.H0)(hm:ImgOK b m)(hrep:CC b s=m)(hfit:18*((b.B0.length:Int)+(m.A0.length:Int))+6≤b.H0)(hb0:0≤bud):
  (2+18*((b.B0.length:Int)+(m.A0.length:Int))≤bud∧Px b s bud=(Ado b m { s.set (1-s.sel) (txt ((CN m).flatMap Cr))with sel:=1-s.sel },bud-(2+18*((b.B0.length:Int)+(m.A0.length:Int))),0)∧Jst b { s.set (1-s.sel) (txt ((CN m).flatMap Cr))with sel:=1-s.sel } m)∨
  (bud<2+18*((b.B0.length:Int)+(m.A0.length:Int))∧∃s',Px b s bud=({ Mch.none with Z0:=s' },0,8)∧s'.ok b.H0∧CC b s'=m):=by
 have hsel:=YS hs;unfold Px Dd;rw[hrep];rcases Ac2 hs hm hb0 ω with⟨q1,q2⟩ | ⟨q1,s',q2,q3,q4⟩
 ·left
  have hj:Jst b { s.set (1-s.sel) (txt ((CN m).flatMap Cr))with sel:=1-s.sel } m:=by
   refine⟨Az9 (TV hs ?_) ω,hm,⟨CN m,?_,SQ hm,Aer hm⟩,hfit⟩
   ·rw[FI,Ab7 hm];omega
   ·rw[Ac6 hsel,Gh]
  rw[q2];refine⟨q1,?_,hj⟩;simp only[T_,c_];rw[Aa9 hm hfit hj.ok];rfl
 ·right
  rw[q2];refine⟨q1,s',rfl,q3,?_⟩;rw[← hrep];unfold CC;rw[q4]
end Go.Ovl
