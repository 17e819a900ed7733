/- Layer 2: the sum of 8 bits, the program's and the reference's. -/
import Derived.Test.YtoppkmfgeaflcaaGreatDoorOvA
import Derived.Test.YtoppkmfgeaflcaaGreatDoorDefs4
import Derived.Test.YtoppkmfgeaflcaaGreatDoorOvC
import Derived.Test.YtoppkmfgeaflcaaGreatDoorOvB
set_option linter.all false
open Go.Ovl renaming Bldg->B,Sto->C,Record->H,Img->J
open Bool renaming false->D,true->I
open Option renaming some->E
open Go.Ovl.Sto renaming no->L,cur->aC
open Go.IntKind renaming u8->N,i64->Q,wrap->aE
open Array renaming mk->O
open ByteArray renaming mk->P
open Go.Ovl.Img renaming none->aA
open Go.Ovl.Record renaming mk->aB
open List renaming replicate->aD
open BitVec renaming ofInt->aF
open UInt8 renaming toNat_lt->aG
namespace Go.Ovl
open Go Go.Ab
set_option maxRecDepth 100000
variable{b:B}{s:C}{m:J}{r:H}{bud room n:Int}{l t:List UInt8}
def bl(s:ByteArray):List UInt8:=s.data.toList
def MY{a c:ByteArray}(h:bl a=bl c):a=c:=by
 apply ByteArray.ext;unfold bl at h;exact Array.toList_inj.1 h
def KR(a c:ByteArray):bl (a++c)=bl a++bl c:=by simp[bl]
def QX(a:ByteArray)(i j:Nat):bl (a.extract i j)=((bl a).drop i).take (j-i):=by simp[bl]
def FW(a:ByteArray):(bl a).length=a.size:=by simp[bl]
def Bqn(l:List UInt8):bl ⟨l.toArray⟩=l:=by simp[bl]
def FJ(s:ByteArray)(i:Nat):AD s i=(((bl s).getD i 0).toNat:Int):=by
 unfold AD bl;simp[u_,k_]
def PF(r:Nat):Nat:=if 128≤r then(r*2%256)^^^7 else r*2%256
def it8:Nat→Nat→Nat
 |0,r=>r
 |k+1,r=>it8 k (PF r)
def TT(r x:Nat):Nat:=it8 8 (r^^^x)
def Ss(l:List UInt8):Nat:=l.foldl (λr x=>TT r x.toNat) 0
def Abk{r:Nat}(_h:r<256):PF r<256:=by
 unfold PF;split
 ·exact d5_ (n:=8) ω (by decide)
 ·omega
def Ax4:∀(k:Nat) {r:Nat},r<256→it8 k r<256
 |0,_,h=>h
 |k+1,_,h=>Ax4 k (Abk h)
def Aag{r x:Nat}(h:r<256)(h':x<256):TT r x<256:=Ax4 8 (d5_ (n:=8) h h')
def Bhq(l:List UInt8):∀r:Nat,r<256→l.foldl (λr x=>TT r x.toNat) r<256:=by
 induction l with
 |nil=>exact λr h=>h
 |cons x t ih=>
  intro r h;rw[f4_];have hx:x.toNat<256:=aG x;exact ih _ (Aag h hx)
def Aqm(l:List UInt8):Ss l<256:=Bhq l 0 ω
def Ql(h:0≤n)(h':n<256):N.wrap n=n:=by
 simp only[aE,IntKind.signed,IntKind.bits];simp;omega
def Bpt{a c:Nat}(ha:a<256)(hc:c<256):N.wrap (stk (a:Int) (c:Int) (BitVec.toNat ((aF (IntKind.bits .u8) (a:Int))^^^(aF (IntKind.bits .u8) (c:Int)))))=((a^^^c:Nat):Int):=by
 have h:=d5_ (n:=8) ha hc;rw[JU,BitVec.toNat_xor,W_,W_];rw[show(((a:Int))%((2^IntKind.bits .u8:Nat):Int)).toNat=a by simp only[IntKind.bits];omega,show(((c:Int))%((2^IntKind.bits .u8:Nat):Int)).toNat=c by simp only[IntKind.bits];omega]
 exact Ql ω ω
def Bgd{a c:Nat}(ha:a<256)(hc:c<256):Q.wrap (stk (a:Int) (c:Int) (BitVec.toNat ((aF (IntKind.bits .i64) (a:Int))^^^(aF (IntKind.bits .i64) (c:Int)))))=((a^^^c:Nat):Int):=by
 have h:=d5_ (n:=8) ha hc;rw[JU,BitVec.toNat_xor,W_,W_];rw[show(((a:Int))%((2^IntKind.bits .i64:Nat):Int)).toNat=a by simp only[IntKind.bits];omega,show(((c:Int))%((2^IntKind.bits .i64:Nat):Int)).toNat=c by simp only[IntKind.bits];omega]
 exact Ac ω ω
def Ast:∀(k i r:Nat),AO (λ_ r=>PF r) k i r=it8 k r
 |0,_,_=>rfl
 |k+1,i,r=>Ast k (i+1) (PF r)
def Axn(s:ByteArray)(s7 s8:Int){r k:Nat}(hr:r<256)(hk:k<8):OT s (r:Int) s7 s8 (k:Int)=E (Sum.inl ((s,((PF r:Nat):Int),s7,s8,((k+1:Nat):Int),()),())):=by
 unfold OT;have w:Q.wrap ((k:Int)+1)=((k+1:Nat):Int):=by rw[Ac ω ω];omega
 have h0:N.wrap ((r:Int)*((2:Int)^(Min.min (Int.toNat (1:Int)) (IntKind.bits N))))=((r*2%256:Nat):Int):=by
  rw[show((2:Int)^(Min.min (Int.toNat (1:Int)) (IntKind.bits N)))=2 from rfl]
  simp only[aE,IntKind.signed,IntKind.bits];simp
 have h1:N.wrap ((Int.fdiv (r:Int) ((2:Int)^(Min.min (Int.toNat (7:Int)) (IntKind.bits N))))*(7:Int))=(((if 128≤r then 7 else 0):Nat):Int):=by
  rw[show((2:Int)^(Min.min (Int.toNat (7:Int)) (IntKind.bits N)))=128 from rfl,V_ _ ω]
  split
  ·rw[show(r:Int)/128=1 by omega];rfl
  ·rw[show(r:Int)/128=0 by omega];rfl
 simp only[b_ (ω:(k:Int)<8),d_,h0,h1,w]
 rw[Bpt ω (by split<;>omega)]
 unfold PF;split
 ·rfl
 ·rw[Nat.xor_zero]
def Ay5(s:ByteArray)(i:Int){r k:Nat}(hr:r<256)(hk:k<8):OV s (r:Int) i (k:Int)=E (Sum.inl ((s,((PF r:Nat):Int),i,((k+1:Nat):Int),()),())):=by
 unfold OV;have w:Q.wrap ((k:Int)+1)=((k+1:Nat):Int):=by rw[Ac ω ω];omega
 have h0:Int.tmod (aE Q ((r:Int)*2)) 256=((r*2%256:Nat):Int):=by
  rw[Ac ω ω,e1_ ω];omega
 simp only[b_ (ω:(k:Int)<8),d_,h0,w]
 unfold PF;by_cases h:128≤r
 ·rw[b_ (ω:(128:Int)≤(r:Int)),if_pos h,d_]
  have hx:=Bgd (a:=r*2%256) (c:=7) ω ω
  rw[show((7:Nat):Int)=7 from rfl]at hx
  rw[hx]
 ·rw[f_ (ω:¬(128:Int)≤(r:Int)),if_neg h];rfl
def Axm(s:ByteArray)(s7 s8:Int){r:Nat}(hr:r<256):OK ((s,(r:Int),s7,s8,(0:Int),()),())=E ((s,((it8 8 r:Nat):Int),s7,s8,()),()):=by
 have h:=AQ (step:=λx=>OT x.1.1 x.1.2.1 x.1.2.2.1 x.1.2.2.2.1 x.1.2.2.2.2.1) 8 (λk r=>((s,((r:Nat):Int),s7,s8,(k:Int),()),())) (λ_ r=>PF r) (λ_ r=>r<256) (λr=>((s,((r:Nat):Int),s7,s8,()),())) (λk r hk hr=>⟨Axn s s7 s8 hr hk,Abk hr⟩) (λr _=>rfl) 8 0 r rfl hr
 have h':=h.1;rw[Ast]at h';exact Ai h' ω
def Ay4(s:ByteArray)(i:Int){r:Nat}(hr:r<256):ON ((s,(r:Int),i,(0:Int),()),())=E ((s,((it8 8 r:Nat):Int),i,()),()):=by
 have h:=AQ (step:=λx=>OV x.1.1 x.1.2.1 x.1.2.2.1 x.1.2.2.2.1) 8 (λk r=>((s,((r:Nat):Int),i,(k:Int),()),())) (λ_ r=>PF r) (λ_ r=>r<256) (λr=>((s,((r:Nat):Int),i,()),())) (λk r hk hr=>⟨Ay5 s i hr hk,Abk hr⟩) (λr _=>rfl) 8 0 r rfl hr
 have h':=h.1;rw[Ast]at h';exact Ai h' ω
def UK{α β:Type}(f:β→α→β)(d:α):∀(l:List α) (k i:Nat) (s:β),i+k=l.length→AO (λi s=>f s (l.getD i d)) k i s=(l.drop i).foldl f s
 |l,0,i,s,h=>by
  obtain rfl:i=l.length:=ω
  simp[AO]
 |l,k+1,i,s,h=>by
  have hi:i<l.length:=ω
  simp only[AO];rw[UK f d l k (i+1) _ ω,List.drop_eq_getElem_cons hi,f4_]
  simp[hi]
def An6{s:ByteArray}(hs:s.size≤1000000):RO s=E ((((Ss (bl s):Nat):Int),()),()):=by
 have h:=AQ (step:=λx=>JE x.1.1 x.1.2.1 x.1.2.2.1 x.1.2.2.2.1) s.size (λi r=>((s,((r:Nat):Int),(s.size:Int),(i:Int),()),())) (λi r=>TT r ((bl s).getD i 0).toNat) (λ_ r=>r<256) (λr=>((((r:Nat):Int),()),())) (λi r hi hr=>by
  have hx:=aG ((bl s).getD i 0);refine⟨?_,Aag hr hx⟩;show JE s ((r:Nat):Int) (s.size:Int) (i:Int)=_;have w:Q.wrap ((i:Int)+1)=((i+1:Nat):Int):=by rw[Ac ω ω];omega
  unfold JE;simp only[b_ (ω:(i:Int)<(s.size:Int)),Aa (ω:(0:Int)≤(i:Int)) (ω:(i:Int)<(s.size:Int)),d_,j_,FJ]
  rw[Bpt hr hx,Axm s _ _ (d5_ (n:=8) hr hx),a_,w]
  rfl) (λr _=>by
  show JE s ((r:Nat):Int) (s.size:Int) (s.size:Int)=_;unfold JE;simp only[f_ (L_ (s.size:Int)),c_]) s.size 0 0 ω ω
 have h':=Ai h.1 ω
 rw[UK (λr (x:UInt8)=>TT r x.toNat) 0 (bl s) s.size 0 0 (by rw[FW];omega),R_]at h'
 unfold RO;rw[show OJ ((s,(0:Int),(s.size:Int),(0:Int),()),())=_ from h']
 rfl
def Aom{s:ByteArray}(hs:s.size≤1000000):Oz s=E ((((Ss (bl s):Nat):Int),()),()):=by
 have h:=AQ (step:=λx=>JG x.1.1 x.1.2.1 x.1.2.2.1) s.size (λi r=>((s,((r:Nat):Int),(i:Int),()),())) (λi r=>TT r ((bl s).getD i 0).toNat) (λ_ r=>r<256) (λr=>((((r:Nat):Int),()),())) (λi r hi hr=>by
  have hx:=aG ((bl s).getD i 0);refine⟨?_,Aag hr hx⟩;show JG s ((r:Nat):Int) (i:Int)=_;have w:Q.wrap ((i:Int)+1)=((i+1:Nat):Int):=by rw[Ac ω ω];omega
  unfold JG;simp only[b_ (ω:(i:Int)<(s.size:Int)),Aa (ω:(0:Int)≤(i:Int)) (ω:(i:Int)<(s.size:Int)),d_,j_,FJ,Ac (n:=(((bl s).getD i 0).toNat:Int)) ω ω]
  rw[Bgd hr hx,Ay4 s _ (d5_ (n:=8) hr hx),a_,w]
  rfl) (λr _=>by
  show JG s ((r:Nat):Int) (s.size:Int)=_;unfold JG;simp only[f_ (L_ (s.size:Int)),c_]) s.size 0 0 ω ω
 have h':=Ai h.1 ω
 rw[UK (λr (x:UInt8)=>TT r x.toNat) 0 (bl s) s.size 0 0 (by rw[FW];omega),R_]at h'
 have hl:=Aqm (bl s);unfold Oz;rw[show OM ((s,(0:Int),(0:Int),()),())=_ from h']
 simp only[a_];rw[show((bl s).foldl (λr (x:UInt8)=>TT r x.toNat) 0)=Ss (bl s)from rfl,Ql ω ω]
def u8n(n:Int):UInt8:=UInt8.ofNat n.toNat
def SH(h:0≤n∧n<256):((u8n n).toNat:Int)=n:=by
 unfold u8n;rw[UInt8.toNat_ofNat'];omega
def txt(l:List UInt8):ByteArray:=⟨l.toArray⟩
def FX(l:List UInt8):bl (txt l)=l:=Bqn l
def Bpk(s:ByteArray):txt (bl s)=s:=MY (FX _)
def Agb(a c:List UInt8):txt a++txt c=txt (a++c):=MY (by rw[KR,FX,FX,FX])
def FA(l:List UInt8):(txt l).size=l.length:=by rw[← FW,FX]
def Abm(l:List Int):GV l=txt (l.map u8n):=rfl
def Abg(r:H):List UInt8:=[u8n r.S0,u8n r.D0,u8n r.I0,u8n (r.Q0+2),u8n r.U1]
def Cm(r:H):List UInt8:=Abg r++[u8n ((Ss (Abg r):Nat):Int)]
def HN(r:H):(Cm r).length=6:=rfl
def QD(hb:b.small){f d:Int}(h:An b f d=I):(0≤f∧f<100)∧(1≤d∧d≤2):=by
 have lo:=hb.lo;have hi:=hb.hi;unfold An Pf at h;simp only[e_,a6_,U_,Am]at h;omega
structure RecOK(r:Record):Prop where
 k:1≤r.S0∧r.S0≤7
 f:0≤r.D0∧r.D0<100
 d:0≤r.I0∧r.I0<100
 c:-2≤r.Q0∧r.Q0<100
 v:0≤r.U1∧r.U1<256
def UU(hb:b.small)(hc:b.B0.length≤100)(h:Az b r=I):RecOK r:=by
 have hk:=(ZS h).2
 have hcar:(r.S0=4∨r.S0=5∨r.S0=6)→r.D0=0∧r.I0=0:=λhq=>by
  unfold Az Ta at h;rcases hq with q | q | q
  all_goals
   rw[q]at h;simp only[show((4:Int)==1)=D from rfl,show((4:Int)==2)=D from rfl,show((4:Int)==3)=D from rfl,show((5:Int)==1)=D from rfl,show((5:Int)==2)=D from rfl,show((5:Int)==3)=D from rfl,show((5:Int)==4)=D from rfl,show((6:Int)==1)=D from rfl,show((6:Int)==2)=D from rfl,show((6:Int)==3)=D from rfl,show((6:Int)==4)=D from rfl,show((6:Int)==5)=D from rfl,l_,d_,c_,e_,U_]at h
   exact h.2.1.2
 rcases hk with h1 | h1 | h1 | h1 | h1 | h1 | h1
 ·have:=QD hb h1.2.1
  exact⟨ω,this.1,ω,ω,ω⟩
 ·have:=QD hb h1.2.1
  exact⟨ω,this.1,ω,ω,ω⟩
 ·have:=QD hb h1.2.1
  exact⟨ω,this.1,ω,ω,ω⟩
 ·have:=hcar ω
  exact⟨ω,ω,ω,ω,ω⟩
 ·have:=hcar ω
  exact⟨ω,ω,ω,ω,ω⟩
 ·have:=hcar ω
  exact⟨ω,ω,ω,ω,ω⟩
 ·have:=QD hb h1.2.1
  exact⟨ω,this.1,ω,ω,ω⟩
def Bf9(h:RecOK r):GV [N.wrap r.S0,N.wrap r.D0,N.wrap r.I0,N.wrap (aE Q (r.Q0+2)),N.wrap r.U1]=txt (Abg r):=by
 obtain⟨h1,h2,h3,h4,h5⟩:=h;rw[Ql (n:=r.S0) ω ω,Ql (n:=r.D0) ω ω,Ql (n:=r.I0) ω ω,Ac (n:=r.Q0+2) ω ω,Ql (n:=r.Q0+2) ω ω,Ql (n:=r.U1) ω ω]
 rfl
def Hi(b:B)(r:H):ByteArray:=bif Az b r then txt (Cm r)else txt []
section
variable{b:B}(hb:b.small)(hc:b.B0.length≤100)
include hb hc
theorem Tr(r:H):IF b.C0 b.E0 b.H0 b.M0 b.J0 b.L0 b.N0 b.B0 r.S0 r.D0 r.I0 r.Q0 r.U1=E ((Hi b r,(bif Az b r then 0 else 1),()),()):=by
 unfold IF Hi;rw[Ul hb hc r];simp only[a_];cases hv:Az b r with
 |false=>rfl
 |true=>
  have h:=UU hb hc hv;simp only[o_,c_,d_,Bf9 h];rw[An6 (by rw[FA];show 5≤1000000;omega)]
  simp only[a_,FX,Abm];rw[Ax (by rw[FA,FA];show 5+1≤4611686018427387904;omega),Agb]
  rfl
theorem Ai1(r:H):OD b.C0 b.E0 b.H0 b.M0 b.J0 b.L0 b.N0 b.B0 r.S0 r.D0 r.I0 r.Q0 r.U1=E ((Hi b r,(bif Az b r then 0 else 1),()),()):=by
 unfold OD Hi;rw[Amq hb hc r];simp only[a_];cases hv:Az b r with
 |false=>rfl
 |true=>
  have h:=UU hb hc hv;simp only[o_,c_,d_,Bf9 h];rw[Aom (by rw[FA];show 5≤1000000;omega)]
  simp only[a_,FX,Abm];rw[Ax (by rw[FA,FA];show 5+1≤4611686018427387904;omega),Agb]
  rfl
end
def fld(l:List UInt8)(i:Nat):Int:=((l.getD i 0).toNat:Int)
def Atl(l:List UInt8):H:=⟨fld l 0,fld l 1,fld l 2,fld l 3-2,fld l 4⟩
def Acj(b:B)(l:List UInt8):Option H:=
 bif l.length==6&&(((((Ss (l.take 5):Nat):Int))==fld l 5)&&Az b (Atl l))then E (Atl l)else none
def Axr(h:Acj b l=E r):Az b r=I:=by
 unfold Acj at h;cases hq:(l.length==6&&(((((Ss (l.take 5):Nat):Int))==fld l 5)&&Az b (Atl l)))with
 |false=>rw[hq]at h;cases h
 |true=>
  rw[hq]at h;cases h;rw[e_,e_]at hq;exact hq.2.2
def Bgu(hb:b.small)(hc:b.B0.length≤100)(h:Az b r=I):Acj b (Cm r)=E r:=by
 obtain⟨h1,h2,h3,h4,h5⟩:=UU hb hc h;have hs:=Aqm (Abg r)
 have e:Atl (Cm r)=r:=by
  show aB ((u8n r.S0).toNat:Int) ((u8n r.D0).toNat:Int) ((u8n r.I0).toNat:Int) (((u8n (r.Q0+2)).toNat:Int)-2) ((u8n r.U1).toNat:Int)=r;rw[SH ω,SH ω,SH ω,SH ω,SH ω,show r.Q0+2-2=r.Q0 by omega]
 have e5:fld (Cm r) 5=((Ss (Abg r):Nat):Int):=by
  show((u8n ((Ss (Abg r):Nat):Int)).toNat:Int)=_;exact SH ω
 unfold Acj;rw[e,h,e5,show(Cm r).take 5=Abg r from rfl,HN]
 simp
def MI(b:B):Nat→List UInt8→List H
 |0,_=>[]
 |k+1,l=>if 6≤l.length then match Acj b (l.take 6)with | some r=>r::MI b k (l.drop 6) | none=>[]else []
def NH(b:B)(s:ByteArray):List H:=MI b s.size (bl s)
def Ys(b:B):∀(k:Nat) (l:List UInt8),6*(MI b k l).length≤l.length
 |0,_=>by simp[MI]
 |k+1,l=>by
  simp only[MI];split
  ·split
   ·rename_i h _ r _
    have:=Ys b k (l.drop 6)
    rw[Y_]at this;rw[y_];omega
   ·simp
  ·simp
def UR(b:B):∀(k:Nat) (l:List UInt8),∀r∈MI b k l,Az b r=I
 |0,_,_,h=>by simp[MI]at h
 |k+1,l,r,h=>by
  simp only[MI]at h;split at h
  ·split at h
   ·rename_i _ _ r' hr
    rcases z_.1 h with rfl | h
    ·exact Axr hr
    ·exact UR b k _ r h
   ·cases h
  ·cases h
def Amw{b:B}(hb:b.small)(hc:b.B0.length≤100){t:List UInt8}(ht:t.length<6):∀(rs:List H) (k:Nat),rs.length≤k→(∀r∈rs,Az b r=I)→MI b k (rs.flatMap Cm++t)=rs
 |[],0,_,_=>rfl
 |[],k+1,_,_=>by
  simp only[MI,List.flatMap_nil,a0_];rw[if_neg ω]
 |r::rs,0,h,_=>by simp at h
 |r::rs,k+1,h,hv=>by
  have e1:(r::rs).flatMap Cm++t=Cm r++(rs.flatMap Cm++t):=by rw[a1_,O_]
  have e2:(Cm r++(rs.flatMap Cm++t)).take 6=Cm r:=e8_ (HN r);have e3:(Cm r++(rs.flatMap Cm++t)).drop 6=rs.flatMap Cm++t:=List.drop_left' (HN r);simp only[MI];rw[e1,e2,e3,Bgu hb hc (hv r (B_ ..)),if_pos (by rw[h_,HN];omega),Amw hb hc ht rs k (by simp at h;omega) λx hx=>hv x (F_ _ hx)]
def KB(l:List UInt8):List Int:=l.map λx=>(x.toNat:Int)
def At9(l:List UInt8):GV (KB l)=txt l:=by
 rw[Abm];unfold KB;rw[List.map_map];congr 1
 conv=>rhs;rw[← List.map_id l]
 refine List.map_congr_left λx _=>?_
 show UInt8.ofNat (Int.toNat (x.toNat:Int))=x;rw[j_,UInt8.ofNat_toNat]
def Bcb(l:List UInt8):(KB l).all (λn=>decide (0≤n)&&decide (n<256))=I:=by
 rw[D_];intro n hn;obtain⟨x,_,rfl⟩:=c3_.1 hn
 have:x.toNat<256:=aG x
 simp only[e_,A_];omega
def Avu(h:l≠[]):Fq (KB l)=E ((txt l,()),(((),KB l,()),())):=by
 unfold Fq
 rw[Bcb,At9,show At1 (KB l)=I by
  cases l with
  |nil=>exact absurd rfl h
  |cons a t=>rfl]
 rfl
def Baf(s:ByteArray)(h:l.length+s.size≤2147483648):DI s (KB l)=E (((s.size:Int),(),()),(((),KB (l++bl s),()),())):=by
 unfold DI wsF;rw[show(KB l).length=l.length from b5_ _,Ax h]
 unfold KB bl;rw[List.map_append];rfl
def Agw(b:B)(r:H):(bl (Hi b r)).length≤6:=by
 unfold Hi;cases Az b r with
 |true=>rw[d_,FX,HN];omega
 |false=>rw[c_,FX];simp
def VW(h:Az b r=I):Hi b r=txt (Cm r):=by unfold Hi;rw[h];rfl
def Aao{b:B}:∀{rs:List H},(∀r∈rs,Az b r=I)→rs.flatMap (λr=>bl (Hi b r))=rs.flatMap Cm
 |[],_=>rfl
 |r::t,h=>by
  rw[a1_,a1_,VW (h r (B_ ..)),FX,Aao λx hx=>h x (F_ _ hx)]
def Za(rs:List H):(rs.flatMap Cm).length=6*rs.length:=by
 induction rs with
 |nil=>rfl
 |cons r t ih=>rw[a1_,h_,ih,HN,y_];omega
section
variable{b:B}(hb:b.small)(hc:b.B0.length≤100)
include hb hc
theorem Ajw(bud:Int){rs:List H}(hl:rs.length≤1000000)(s t:C):Lw ((bud,(),(),(),(),rs,(rs.length:Int),(0:Int),()),(b.tup,(s.h0,s.h1,s.sel,()),(t.h0,t.h1,t.sel,()),((),[],()),()))=E ((bud,(),(),(),(),()),(b.tup,(s.h0,s.h1,s.sel,()),(t.h0,t.h1,t.sel,()),((),KB (rs.flatMap λr=>bl (Hi b r)),()),())):=by
 have h:=AQ (step:=λx=>letI a:=x.2.1.2.2;letI c:=x.1.2.2.2.2.2;letI d:=x.2.2;letI f:=a.2.2;GM x.1.1 c.1 c.2.1 c.2.2.1 x.2.1.1 x.2.1.2.1 a.1 a.2.1 f.1 f.2.1 f.2.2.1 f.2.2.2.1 d.1.1 d.1.2.1 d.1.2.2.1 d.2.1.1 d.2.1.2.1 d.2.1.2.2.1 d.2.2.1.2.1) rs.length
  (λi (l:List UInt8)=>((bud,(),(),(),(),rs,(rs.length:Int),(i:Int),()),(b.tup,(s.h0,s.h1,s.sel,()),(t.h0,t.h1,t.sel,()),((),KB l,()),()))) (λi l=>l++bl (Hi b (rs.getD i (aB 0 0 0 0 0)))) (λi l=>l.length≤6*i) (λl=>((bud,(),(),(),(),()),(b.tup,(s.h0,s.h1,s.sel,()),(t.h0,t.h1,t.sel,()),((),KB l,()),()))) (λi l hi hs=>by
   have he:=Agw b (rs.getD i (aB 0 0 0 0 0));refine⟨?_,by rw[h_];omega⟩
   show GM bud rs (rs.length:Int) (i:Int) b.C0 b.E0 b.H0 b.M0 b.J0 b.L0 b.N0 b.B0 s.h0 s.h1 s.sel t.h0 t.h1 t.sel (KB l)=_;unfold GM;simp only[b_ (ω:(i:Int)<(rs.length:Int)),Aa (ω:(0:Int)≤(i:Int)) (ω:(i:Int)<(rs.length:Int)),d_,j_,Tr hb hc,a_,Baf (Hi b (rs.getD i (aB 0 0 0 0 0))) (l:=l) (by rw[← FW];omega),DA hi (show rs.length≤AJ by unfold AJ;omega)]
   rfl) (λl _=>by
   show GM bud rs (rs.length:Int) (rs.length:Int) b.C0 b.E0 b.H0 b.M0 b.J0 b.L0 b.N0 b.B0 s.h0 s.h1 s.sel t.h0 t.h1 t.sel (KB l)=_;unfold GM;simp only[f_ (L_ (rs.length:Int)),c_]
   rfl) rs.length 0 [] ω (by simp)
 have h':=Ai h.1 ω
 have e:AO (λi l=>l++bl (Hi b (rs.getD i (aB 0 0 0 0 0)))) rs.length 0 []=rs.flatMap λr=>bl (Hi b r):=by
  rw[Hr (λi=>bl (Hi b (rs.getD i (aB 0 0 0 0 0)))),a0_,MH (λr=>bl (Hi b r)) (aB 0 0 0 0 0) rs 0 rs.length ω,R_]
 rw[e]at h';exact h'
end
def Do(b:B)(s:C)(m:J)(bud:Int):C×Int×Int:=
 bif !(decide (s.ok b.H0))then(L,0,1)else bif decide (bud<0)then(L,0,1)else bif !(m.ok b)then(L,0,1)else
 bif((s.erase b.H0 (1-s.sel) bud).2.2==0)then
  (bif(((s.erase b.H0 (1-s.sel) bud).1.write b.H0 (1-s.sel) (txt ((CG m).flatMap Cm)) (s.erase b.H0 (1-s.sel) bud).2.1).2.2==0)then
   ((s.erase b.H0 (1-s.sel) bud).1.write b.H0 (1-s.sel) (txt ((CG m).flatMap Cm)) (s.erase b.H0 (1-s.sel) bud).2.1).1.choose b.H0 (1-s.sel) ((s.erase b.H0 (1-s.sel) bud).1.write b.H0 (1-s.sel) (txt ((CG m).flatMap Cm)) (s.erase b.H0 (1-s.sel) bud).2.1).2.1
  else(s.erase b.H0 (1-s.sel) bud).1.write b.H0 (1-s.sel) (txt ((CG m).flatMap Cm)) (s.erase b.H0 (1-s.sel) bud).2.1)
 else s.erase b.H0 (1-s.sel) bud
def Ao7(room:Int)(s:C)(half bud:Int)(t:C)(hb:bud<9223372036854775808):(s.act room half bud t).2.1<9223372036854775808:=by
 unfold Sto.act;split
 ·show(0:Int)<_;omega
 ·split
  ·show(0:Int)<_;omega
  ·show bud-1<_;omega
def Aid(room:Int)(s:C)(half:Int)(d:ByteArray)(bud:Int)(hb:bud<9223372036854775808):(s.write room half d bud).2.1<9223372036854775808:=by
 unfold Sto.write;split
 ·show(0:Int)<_;omega
 ·split
  ·show(0:Int)<_;omega
  ·split
   ·show(0:Int)<_;omega
   ·show bud-(d.size:Int)<_;omega
def Afm(hb:b.small)(hc:b.B0.length≤100)(s:C)(hf:m.fit)(hbud:bud<9223372036854775808):
  Nh b.C0 b.E0 b.H0 b.M0 b.J0 b.L0 b.N0 b.B0 s.h0 s.h1 s.sel m.F0 m.O0 m.K0 m.A0 bud=E (Sto.out (Do b s m bud)):=by
 have hmx:100000≤maxLen:=by decide
 have hp:=hf.p;have he:=hf.e;unfold Nh Do;rw[IH,CM hb m ω ω,Adf hb hf]
 simp only[a_];by_cases hs:s.ok b.H0
 ·rw[b_ (show Sto.ok b.H0 ⟨s.h0,s.h1,s.sel⟩from hs)]
  by_cases hb0:bud<0
  ·rw[b_ hb0];rfl
  rw[f_ hb0];cases hok:m.ok b with
  |false=>rfl
  |true=>
   have hm:=Img.ok_iff.1 hok;have hcars:=Aj hm.code;have hlp:=hm.lp;have hsn:Uu b m=CG m:=by unfold Uu;rw[hok];rfl
   have hsl:=YA m
   have hne:(CG m).flatMap Cm≠[]:=λh0=>by
    have h1:=Za (CG m);rw[h0,hsl,d4_]at h1;omega
   have hloop:=Ajw hb hc bud (rs:=CG m) (by rw[hsl];omega) s L
   rw[Aao (Sr hm)]at hloop;simp only[Bldg.tup,L,noB]at hloop
   have hsel:Q.wrap (1-s.sel)=1-s.sel:=by
    obtain⟨_,_,_,_,h5⟩:=hs;exact Ac ω ω
   simp only[o_,c_,hsn,hloop,a_,hsel,Aud _ _ _ _ _ _ hbud,Sto.out];have hb1:=Ao7 b.H0 s (1-s.sel) bud (s.set (1-s.sel) noB) hbud;rw[show s.act b.H0 (1-s.sel) bud (s.set (1-s.sel) noB)=s.erase b.H0 (1-s.sel) bud from rfl]at hb1
   rw[show Sto.mk s.h0 s.h1 s.sel=s from rfl]
   generalize s.erase b.H0 (1-s.sel) bud=r1 at hb1⊢;cases hq:r1.2.2==0 with
   |false=>
    simp only[c_,a_,hq]
   |true=>
    simp only[d_,Avu hne,a_,SP _ _ _ _ _ _ _ hb1,Sto.out];have hb2:=Aid b.H0 r1.1 (1-s.sel) (txt ((CG m).flatMap Cm)) r1.2.1 hb1;rw[show Sto.mk r1.1.h0 r1.1.h1 r1.1.sel=r1.1 from rfl]
    generalize r1.1.write b.H0 (1-s.sel) (txt ((CG m).flatMap Cm)) r1.2.1=r2 at hb2⊢;cases hq2:r2.2.2==0 with
    |false=>simp only[c_]
    |true=>
     simp only[d_,Ao4 _ _ _ _ _ _ hb2,a_,Sto.out]
 ·rw[f_ (show ¬Sto.ok b.H0 ⟨s.h0,s.h1,s.sel⟩from hs)]
  rfl
def Ji(b:B)(m:J)(r:H):Bool:=r.S0==1&&(!(FN (Au r.D0 r.I0) m.A0)&&!(PB b m))
def FO(b:B)(s:C)(m:J)(r:H)(bud:Int):C×Int×Int:=
 bif decide ((6:Int)≤b.H0-(s.cur.size:Int))then s.write b.H0 s.sel (txt (Cm r)) bud else Do b s (Ao m r) bud
def Vc(b:B)(s:C)(m:J)(r:H)(bud:Int):C×J×Int×Int:=
 bif !(m.ok b&&Az b r)then(L,aA,0,1)else bif !(decide (s.ok b.H0))then(L,aA,0,1)else bif decide (bud<0)then(L,aA,0,1)else
 bif Ji b m r then(L,aA,0,7)else
 bif(FO b s m r bud).2.2==0 then((FO b s m r bud).1,Ao m r,(FO b s m r bud).2.1,(FO b s m r bud).2.2)
 else bif(FO b s m r bud).2.2==8 then((FO b s m r bud).1,m,0,(FO b s m r bud).2.2)else(L,aA,0,(FO b s m r bud).2.2)
def Aj8(r:C×J×Int×Int):(Unit×Unit×Int×Int×Unit)×((ByteArray×ByteArray×Int×Unit)×(List Int×List Bool×List Bool×List Entry×Unit)×Unit):=(((),(),r.2.2.1,r.2.2.2,()),((r.1.h0,r.1.h1,r.1.sel,()),r.2.1.tup,()))
def Ain(hb:b.small)(hc:b.B0.length≤100)(s:C)(hp:m.F0.length≤100000)(hl:m.A0.length≤10000)(r:H)(hbud:bud<9223372036854775808):
    Ov b.C0 b.E0 b.H0 b.M0 b.J0 b.L0 b.N0 b.B0 s.h0 s.h1 s.sel m.F0 m.O0 m.K0 m.A0 r.S0 r.D0 r.I0 r.Q0 r.U1 bud=E (Aj8 (Vc b s m r bud)):=by
  unfold Ov Vc
  rw[Ya hb hc m hp hl r,IH]
  unfold Xs
  cases hq:m.ok b&&Az b r with
  |false=>rfl
  |true=>
    rw[e_]at hq
    have hm:=Img.ok_iff.1 hq.1
    simp only[a_,d_,Q_,c_,o_]
    by_cases hs:s.ok b.H0
    · rw[b_ (show Sto.ok b.H0 ⟨s.h0,s.h1,s.sel⟩from hs)]
      by_cases hb0:bud<0
      · rw[b_ hb0];rfl
      rw[f_ hb0]
      obtain⟨hm2,hl2⟩:=QT hm hq.2
      have h1:=hm.lp
      have h2:=hm.lf
      have h3:=hm.ll
      have g1:=hm2.lp
      have g2:=hm2.lf
      have g3:=hm2.ll
      have hf2:(Ao m r).fit:=⟨ω,ω,ω,ω⟩
      have hcur:(s.cur.size:Int)≤b.H0:=by
        obtain⟨_,_,h3,h4,_⟩:=hs
        unfold aC
        split
        · exact h4
        · exact h3
      have hroom:=XC hm.code
      have wr:Q.wrap (b.H0-(s.cur.size:Int))=b.H0-(s.cur.size:Int):=Ac ω ω
      have hsz:((Hi b r).size:Int)=6:=by rw[VW hq.2,FA,HN];rfl
      rw[ZM m hm.so ω]
      have step:∀q:Bool,q=Ji b m r→(bif q then E (((),(),(0:Int),(7:Int),()),(((P (O [])),(P (O [])),(0:Int),()),(([]:List Int),([]:List Bool),([]:List Bool),([]:List Entry),()),()))else
          E (Aj8 (bif(FO b s m r bud).2.2==0 then((FO b s m r bud).1,Ao m r,(FO b s m r bud).2.1,(FO b s m r bud).2.2)else bif(FO b s m r bud).2.2==8 then((FO b s m r bud).1,m,0,(FO b s m r bud).2.2)else(L,aA,0,(FO b s m r bud).2.2))))=
        E (Aj8 (bif Ji b m r then(L,aA,0,7)else(bif(FO b s m r bud).2.2==0 then((FO b s m r bud).1,Ao m r,(FO b s m r bud).2.1,(FO b s m r bud).2.2)else bif(FO b s m r bud).2.2==8 then((FO b s m r bud).1,m,0,(FO b s m r bud).2.2)else(L,aA,0,(FO b s m r bud).2.2)))):=by
        rintro q rfl
        cases Ji b m r<;>rfl
      simp only[o_,c_,a_]
      rw[← step _ rfl]
      have e5 : ∀ q : Bool, (bif (r.S0 == (1 : Int)) then
              bif(!(FN (Au r.D0 r.I0) m.A0))then
                (Mm b.C0 b.E0 b.H0 b.M0 b.J0 b.L0 b.N0 b.B0 m.F0 m.O0 m.K0 m.A0).bind λy4=>
                E ((bud,(),(),(),(),(),(),(),(!y4.1.1),()),((b.C0,b.E0,b.H0,b.M0,b.J0,b.L0,b.N0,b.B0,()),(s.h0,s.h1,s.sel,()),(m.F0,m.O0,m.K0,m.A0,()),(r.S0,r.D0,r.I0,r.Q0,r.U1,()),((P (O [])),(P (O [])),(0:Int),()),(([]:List Int),([]:List Bool),([]:List Bool),([]:List Entry),()),(Ao m r).tup,()))
              else
                E ((bud,(),(),(),(),(),(),(),D,()),((b.C0,b.E0,b.H0,b.M0,b.J0,b.L0,b.N0,b.B0,()),(s.h0,s.h1,s.sel,()),(m.F0,m.O0,m.K0,m.A0,()),(r.S0,r.D0,r.I0,r.Q0,r.U1,()),((P (O [])),(P (O [])),(0:Int),()),(([]:List Int),([]:List Bool),([]:List Bool),([]:List Entry),()),(Ao m r).tup,()))
            else
              E ((bud,(),(),(),(),(),(),(),D,()),((b.C0,b.E0,b.H0,b.M0,b.J0,b.L0,b.N0,b.B0,()),(s.h0,s.h1,s.sel,()),(m.F0,m.O0,m.K0,m.A0,()),(r.S0,r.D0,r.I0,r.Q0,r.U1,()),((P (O [])),(P (O [])),(0:Int),()),(([]:List Int),([]:List Bool),([]:List Bool),([]:List Entry),()),(Ao m r).tup,())))=E ((bud,(),(),(),(),(),(),(),Ji b m r,()),((b.C0,b.E0,b.H0,b.M0,b.J0,b.L0,b.N0,b.B0,()),(s.h0,s.h1,s.sel,()),(m.F0,m.O0,m.K0,m.A0,()),(r.S0,r.D0,r.I0,r.Q0,r.U1,()),((P (O [])),(P (O [])),(0:Int),()),(([]:List Int),([]:List Bool),([]:List Bool),([]:List Entry),()),(Ao m r).tup,())):=λ_=>by
        rw[ZL hb m ω hp ω]
        unfold Ji
        cases r.S0==1<;>cases FN (Au r.D0 r.I0) m.A0<;>rfl
      have e5':=e5 I
      simp only[Img.tup]at e5'⊢
      rw[e5']
      simp only[a_]
      cases Ji b m r with
      |true=>rfl
      |false=>
        simp only[c_]
        rw[Tr hb hc,Xk]
        simp only[a_,hsz]
        rw[show aC ⟨s.h0,s.h1,s.sel⟩=s.cur from rfl,wr,VW hq.2]
        have hw:Ii b.H0 s.h0 s.h1 s.sel s.sel (txt (Cm r)) bud=_:=SP b.H0 s.h0 s.h1 s.sel s.sel (txt (Cm r)) bud hbud
        have hcp:=Afm hb hc s hf2 hbud
        rw[hw,hcp]
        simp only[a_]
        have e10:∀{A:Type}(f:C×Int×Int→A),(bif decide ((6:Int)≤b.H0-(s.cur.size:Int))then E (f (s.write b.H0 s.sel (txt (Cm r)) bud))else E (f (Do b s (Ao m r) bud)))=E (f (FO b s m r bud)):=λf=>by
          unfold FO
          cases decide ((6:Int)≤b.H0-(s.cur.size:Int))<;>rfl
        rw[show Sto.mk s.h0 s.h1 s.sel=s from rfl]
        have e10':=e10 λw=>((w.2.1,(),(),(),(),(),w.2.2,()),((w.1.h0,w.1.h1,w.1.sel,()),(m.F0,m.O0,m.K0,m.A0,()),((P (O [])),(P (O [])),(0:Int),()),(([]:List Int),([]:List Bool),([]:List Bool),([]:List Entry),()),(Ao m r).tup,()))
        simp only[Img.tup]at e10'
        simp only[Sto.out]
        rw[e10']
        simp only[a_]
        generalize FO b s m r bud=w
        cases w.2.2==0 with
        |true=>rfl
        |false=>
          simp only[c_]
          cases w.2.2==8 with
          |true=>
            rw[Yd m hp ω ω ω]
            rfl
          |false=>rfl
    · rw[f_ (show ¬Sto.ok b.H0 ⟨s.h0,s.h1,s.sel⟩from hs)]
      rfl
def Cw(b:B)(s:C):J:=Ak (Gw b) (NH b s.cur)
def sB:B:=Kv 4 2 30
def sM1:J:=⟨[0,0],[D,D],[D,D],[⟨2,1,-1,0,D⟩]⟩
def sM2:J:=⟨[0,0],[D,D],[D,D],[⟨2,1,0,0,D⟩]⟩
def Aqj:sB.code=0:=Aq9 ω ω ω ω ⟨ω,ω⟩
def ok1:sM1.ok sB=I:=by
 unfold Img.ok EB GQ An;rw[Aqj];rfl
def ok2:sM2.ok sB=I:=by
 unfold Img.ok EB GQ An;rw[Aqj];rfl
section
variable{s:C}{room half bud:Int}(hs:s.ok room)(hh:half=0∨half=1)(hb:0≤bud)
include hs hh hb
theorem Axh:s.chk room half bud=0:=by
 unfold Sto.chk;rw[if_pos hs,if_neg ω]
theorem Anh(hr:((s.get half).size:Int)+(t.length:Int)≤room):s.write room half (txt t) bud=if bud<(t.length:Int)then(s.set half (s.get half++txt (t.take bud.toNat)),0,8)else(s.set half (s.get half++txt t),bud-(t.length:Int),0):=by
 have he:(txt t).extract 0 bud.toNat=txt (t.take bud.toNat):=MY (by rw[QX,FX,FX];simp)
 unfold Sto.write;rw[Axh hs hh hb,if_neg ω,FA,if_neg ω,he]
theorem Aw3(t:C):s.act room half bud t=if bud=0 then(s,0,8)else(t,bud-1,0):=by
 unfold Sto.act;rw[Axh hs hh hb,if_neg ω]
end
def Tw{half:Int}(hs:s.ok room){x:ByteArray}(hx:(x.size:Int)≤room):(s.set half x).ok room:=by
 obtain⟨h1,h2,h3,h4,h5⟩:=hs;unfold Sto.set Sto.ok;split
 ·exact⟨h1,h2,hx,h4,h5⟩
 ·exact⟨h1,h2,h3,hx,h5⟩
def Azg{half:Int}(hs:s.ok room)(hh:half=0∨half=1):Sto.ok room { s with sel:=half }:=by
 obtain⟨h1,h2,h3,h4,_⟩:=hs;exact⟨h1,h2,h3,h4,hh⟩
def Yx(hs:s.ok room):s.sel=0∨s.sel=1:=hs.2.2.2.2
def Ape(hh:s.sel=0∨s.sel=1):s.cur=s.get s.sel:=by
 unfold aC Sto.get;rcases hh with h | h<;>rw[h]<;>rfl
def Apf(hh:s.sel=0∨s.sel=1)(x:ByteArray):(s.set s.sel x).cur=x:=by
  obtain⟨h0,h1,sel⟩:=s
  rcases hh with h | h<;>
    (simp only at h
     subst h;simp[aC,Sto.set])
def Agr(hh:s.sel=0∨s.sel=1)(x:ByteArray):(s.set (1-s.sel) x).cur=s.cur:=by
  obtain⟨h0,h1,sel⟩:=s
  rcases hh with h | h<;>
    (simp only at h
     subst h;simp[aC,Sto.set])
def Aha(hh:s.sel=0∨s.sel=1)(x:ByteArray):(s.set (1-s.sel) x).get (1-s.sel)=x:=by
  obtain⟨h0,h1,sel⟩:=s
  rcases hh with h | h<;>
    (simp only at h
     subst h;simp[Sto.set,Sto.get])
def Ah3(hh:s.sel=0∨s.sel=1)(x y:ByteArray):(s.set (1-s.sel) x).set (1-s.sel) y=s.set (1-s.sel) y:=by
  obtain⟨h0,h1,sel⟩:=s
  rcases hh with h | h<;>
    (simp only at h
     subst h;simp[Sto.set])
def Aci(hh:s.sel=0∨s.sel=1)(x:ByteArray):aC { s.set (1-s.sel) x with sel:=1-s.sel }=x:=by
  obtain⟨h0,h1,sel⟩:=s
  rcases hh with h | h<;>
    (simp only at h
     subst h;simp[aC,Sto.set])
def Yu(hb:b.small)(hc:b.B0.length≤100){rs:List H}(h:bl s.cur=rs.flatMap Cm++t)(ht:t.length<6)(hv:∀r∈rs,Az b r=I):Cw b s=Ak (Gw b) rs:=by
 unfold Cw NH;have hl:s.cur.size=6*rs.length+t.length:=by rw[← FW,h,h_,Za]
 rw[h,Amw hb hc ht rs s.cur.size ω hv]
structure Jst(b:Bldg)(s:Sto)(m:Img):Prop where
 ok:s.ok b.H0
 img:ImgOK b m
 rs:∃rs:List Record,bl s.cur=rs.flatMap Cm∧(∀r∈rs,Az b r=true)∧Ak (Gw b) rs=m
 fits:18*((b.B0.length:Int)+(m.A0.length:Int))+6≤b.H0
def Agh(hs:Bq m.A0)(h:r.S0=1→FN (Au r.D0 r.I0) m.A0=I):(Ao m r).A0.length≤m.A0.length:=by
 unfold Ao;cases r.S0==4 with
 |true=>exact w_ _
 |false=>
 cases r.S0==5 with
 |true=>exact w_ _
 |false=>
 cases r.S0==6 with
 |true=>exact w_ _
 |false=>
 simp only[c_];have hf:=Ri (c:=Au r.D0 r.I0) 0 hs;rw[show Dy r.D0 r.I0 m.A0 0=_ from hf]
 cases hq:FN (Au r.D0 r.I0) m.A0 with
 |false=>
  simp only[c_,l_,d_];by_cases k1:r.S0=1
  ·rw[h k1]at hq;cases hq
  ·rw[Ar k1];exact w_ _
 |true=>
  rw[d_,Ar (ω:¬((0+AA (Au r.D0 r.I0) m.A0:Nat):Int)=-1),c_]
  cases r.S0==2 with
  |true=>
   show(m.A0.take _++m.A0.drop _).length≤_;rw[h_,v_,Y_];omega
  |false=>
  cases r.S0==3 with
  |true=>show(m.A0.set _ _).length≤_;rw[r_];exact w_ _
  |false=>
  cases r.S0==7 with
  |true=>show(m.A0.set _ _).length≤_;rw[r_];exact w_ _
  |false=>exact w_ _
def Ag3(hj:Jst b s m)(hv:Az b r=I)(hfull:Ji b m r=D):18*((b.B0.length:Int)+((Ao m r).A0.length:Int))+6≤b.H0:=by
 have h0:=hj.fits;have h2:=(QT hj.img hv).2;by_cases hk:r.S0=1
 ·cases hq:FN (Au r.D0 r.I0) m.A0 with
  |true=>have:=Agh hj.img.so λ_=>hq;omega
  |false=>
   unfold Ji PB at hfull;rw[hk,hq,Img.ok_iff.2 hj.img]at hfull;simp at hfull;omega
 ·have:=Agh hj.img.so (r:=r) λh=>absurd h hk
  omega
def Abn(h:ImgOK b m):(((CG m).flatMap Cm).length:Int)=18*((b.B0.length:Int)+(m.A0.length:Int)):=by
 rw[Za,YA,h.lp];omega
def Ace(hs:s.ok b.H0)(hm:ImgOK b m)(hb0:0≤bud)(hfit:18*((b.B0.length:Int)+(m.A0.length:Int))≤b.H0):
  (2+18*((b.B0.length:Int)+(m.A0.length:Int))≤bud∧Do b s m bud=({ s.set (1-s.sel) (txt ((CG m).flatMap Cm))with sel:=1-s.sel },bud-(2+18*((b.B0.length:Int)+(m.A0.length:Int))),0))∨
  (bud<2+18*((b.B0.length:Int)+(m.A0.length:Int))∧∃s',Do b s m bud=(s',0,8)∧s'.ok b.H0∧s'.cur=s.cur):=by
 have hsel:=Yx hs;have hh:1-s.sel=0∨1-s.sel=1:=ω
 have hL:=Abn hm;have hroom:=hs.1;have he:s.erase b.H0 (1-s.sel) bud=if bud=0 then(s,0,8)else(s.set (1-s.sel) noB,bud-1,0):=Aw3 hs hh hb0 _
 unfold Do;rw[b_ hs,f_ (ω:¬bud<0),Img.ok_iff.2 hm]
 simp only[o_,c_];generalize hT:(CG m).flatMap Cm=T at hL⊢;by_cases h0:bud=0
 ·right
  rw[he,if_pos h0];exact⟨ω,s,rfl,hs,rfl⟩
 ·rw[if_neg h0]at he
  rw[he];have hs1:(s.set (1-s.sel) noB).ok b.H0:=Tw hs (by show(0:Int)≤_;omega)
  have hw:=Anh (t:=T) hs1 hh (ω:0≤bud-1) (by rw[Aha hsel];show((0:Nat):Int)+_≤_;omega)
  rw[Aha hsel,Ah3 hsel,Ah3 hsel]at hw;have nb:∀x:ByteArray,noB++x=x:=λx=>MY (by rw[KR];rfl)
  rw[nb,nb]at hw;simp only[l_,d_,hw];by_cases h1:bud-1<(T.length:Int)
  ·right
   rw[if_pos h1];refine⟨ω,_,rfl,Tw hs ?_,Agr hsel _⟩
   rw[FA,v_];omega
  ·rw[if_neg h1]
   have hs2:(s.set (1-s.sel) (txt T)).ok b.H0:=Tw hs (by rw[FA];omega)
   have hc:=Aw3 hs2 hh (ω:0≤bud-1-(T.length:Int)) { s.set (1-s.sel) (txt T)with sel:=1-s.sel }
   have hc':(s.set (1-s.sel) (txt T)).choose b.H0 (1-s.sel) (bud-1-(T.length:Int))=_:=hc;simp only[l_,d_,hc'];by_cases h2:bud-1-(T.length:Int)=0
   ·right
    rw[if_pos h2];exact⟨ω,_,rfl,hs2,Agr hsel _⟩
   ·left
    rw[if_neg h2,show bud-1-(T.length:Int)-1=bud-(2+18*((b.B0.length:Int)+(m.A0.length:Int)))by omega]
    exact⟨ω,rfl⟩
def Ui(b:B)(s:C)(m:J)(r:H):Int:=if(s.cur.size:Int)+6≤b.H0 then 6 else 2+18*((b.B0.length:Int)+((Ao m r).A0.length:Int))
def Aw7(hb:b.small)(hj:Jst b s m)(hv:Az b r=I)(hfull:Ji b m r=D)(hb0:0≤bud):
  (Ui b s m r≤bud∧∃s',Vc b s m r bud=(s',Ao m r,bud-Ui b s m r,0)∧Jst b s' (Ao m r))∨
  (bud<Ui b s m r∧∃s',Vc b s m r bud=(s',m,0,8)∧s'.ok b.H0∧Cw b s'=m):=by
 have hcars:=Aj hj.img.code;have hc:b.B0.length≤100:=ω
 have hm2:=(QT hj.img hv).1;have hfit:=Ag3 hj hv hfull;obtain⟨rs,e1,e2,e3⟩:=hj.rs;have hsel:=Yx hj.ok;unfold Vc;rw[Img.ok_iff.2 hj.img,hv,b_ hj.ok,f_ (ω:¬bud<0),hfull]
 simp only[a4_,o_,c_];unfold Ui FO;by_cases g:(s.cur.size:Int)+6≤b.H0
 ·rw[if_pos g,b_ (ω:(6:Int)≤b.H0-(s.cur.size:Int)),d_]
  have hw:=Anh (t:=Cm r) hj.ok hsel hb0 (by rw[← Ape hsel,HN];omega)
  rw[HN,← Ape hsel]at hw;rw[hw];by_cases h1:bud<((6:Nat):Int)
  ·right
   rw[if_pos h1];have hl:((Cm r).take bud.toNat).length<6:=by rw[v_,HN];omega
   refine⟨ω,_,rfl,Tw hj.ok ?_,?_⟩
   ·rw[← FW,KR,FX,h_,FW];omega
   ·rw[Yu hb hc (rs:=rs) (t:=(Cm r).take bud.toNat) (by rw[Apf hsel,KR,FX,e1]) hl e2,e3]
  ·left
   rw[if_neg h1];refine⟨ω,_,rfl,Tw hj.ok ?_,hm2,⟨rs++[r],?_,?_,?_⟩,hfit⟩
   ·rw[← FW,KR,FX,h_,FW,HN];omega
   ·rw[Apf hsel,KR,FX,e1,List.flatMap_append]
    simp
   ·intro x hx
    rcases q_.1 hx with hx | hx
    ·exact e2 x hx
    ·rw[E_.1 hx];exact hv
   ·rw[EI,e3];rfl
 ·rw[if_neg g,f_ (ω:¬(6:Int)≤b.H0-(s.cur.size:Int)),c_]
  rcases Ace hj.ok hm2 hb0 ω with⟨q1,q2⟩ | ⟨q1,s',q2,q3,q4⟩
  ·left
   rw[q2];refine⟨q1,_,rfl,Azg (Tw hj.ok ?_) ω,hm2,⟨CG (Ao m r),?_,Sr hm2,Ad4 hm2⟩,hfit⟩
   ·rw[FA,Abn hm2];omega
   ·rw[Aci hsel,FX]
  ·right
   rw[q2];refine⟨q1,s',rfl,q3,?_⟩;rw[Yu hb hc (rs:=rs) (t:=[]) (by rw[q4,e1,b1_]) (by simp) e2,e3]
def Jst.replay(hb:b.small)(hj:Jst b s m):Cw b s=m:=by
 have hcars:=Aj hj.img.code;obtain⟨rs,e1,e2,e3⟩:=hj.rs;rw[Yu hb ω (rs:=rs) (t:=[]) (by rw[e1,b1_]) (by simp) e2,e3]
def Jst.first(hcode:b.code=0):Jst b L (Gw b):=by
 have hr:=XC hcode;have hcars:=Aj hcode;refine⟨⟨ω,ω,?_,?_,.inl rfl⟩,Aau hcode,⟨[],rfl,(λr h=>by cases h),rfl⟩,?_⟩
 ·show(0:Int)≤_;omega
 ·show(0:Int)≤_;omega
 ·show 18*((b.B0.length:Int)+((0:Nat):Int))+6≤_;omega
def Jst.ents(hj:Jst b s m):m.A0.length≤4000∧m.fit:=by
 have h1:=hj.fits;have h2:=(XC hj.img.code).2;have h3:=Aj hj.img.code;have g1:=hj.img.lp;have g2:=hj.img.lf;have g3:=hj.img.ll;exact⟨ω,ω,ω,ω,ω⟩
def Azc(s:C)(m:J)(bud e:Int):(Unit×Unit×Int×Int×Unit)×((ByteArray×ByteArray×Int×Unit)×(List Int×List Bool×List Bool×List Entry×Unit)×Unit):=(((),(),bud,e,()),((s.h0,s.h1,s.sel,()),m.tup,()))
def CV(b:B)(s:C)(bud:Int):C×J×Int×Int:=
 bif(Do b s (Cw b s) bud).2.2 !=0 then((Do b s (Cw b s) bud).1,aA,0,(Do b s (Cw b s) bud).2.2)
 else((Do b s (Cw b s) bud).1,Cw b s,(Do b s (Cw b s) bud).2.1,0)
def Ahx(hcode:b.code=0)(s:C)(hs:s.cur.size≤500000):ImgOK b (Cw b s)∧(Cw b s).A0.length≤90000∧(Cw b s).fit:=by
 have hc:=Aj hcode;obtain⟨h1,h2⟩:=TM (Aau hcode) (rs:=NH b s.cur) λr hr=>UR b _ _ r hr
 have h3:=Ys b s.cur.size (bl s.cur);rw[FW]at h3;have h4:(Gw b).A0.length=0:=rfl;have h5:(NH b s.cur).length=(MI b s.cur.size (bl s.cur)).length:=rfl;have g1:=h1.lp;have g2:=h1.lf;have g3:=h1.ll;exact⟨h1,by show(Ak (Gw b) (NH b s.cur)).A0.length≤_;omega,by show(Ak (Gw b) (NH b s.cur)).F0.length≤_;omega,by show(Ak (Gw b) (NH b s.cur)).O0.length≤_;omega,by show(Ak (Gw b) (NH b s.cur)).K0.length≤_;omega,by show(Ak (Gw b) (NH b s.cur)).A0.length≤_;omega⟩
def Pq(b:B)(m:J):Bool:=m.ok b&&decide (18*((b.B0.length:Int)+(m.A0.length:Int))+6≤b.H0)
def Bmf{a b:Nat}(h:a≤100000)(h':b≤100000):Q.wrap (aE Q (18*Q.wrap ((a:Int)+(b:Int)))+6)=18*((a:Int)+(b:Int))+6:=by
 rw[Ac (n:=(a:Int)+(b:Int)) ω ω,Ac (n:=18*((a:Int)+(b:Int))) ω ω,Ac ω ω]
def Adw(hb:b.small)(m:J)(hc:b.B0.length≤100000)(hf:m.fit):Ms b.C0 b.E0 b.H0 b.M0 b.J0 b.L0 b.N0 b.B0 m.F0 m.O0 m.K0 m.A0=E ((Pq b m,()),()):=by
 have hmx:100000≤maxLen:=by decide
 have hp:=hf.p;have he:=hf.e;unfold Ms Pq;rw[CM hb m ω ω]
 simp only[a_,Bmf hc he];cases m.ok b<;>rfl
def Vl:Belief:=⟨-1,0,0,[],0,D⟩
def HM(b:B)(i:Nat):Car:=b.B0.getD i ⟨0,0,0,0,0,0,0,0,0⟩
def Su(b:B)(e:Entry):Int:=bif decide (0≤e.Q0)then(HM b e.Q0.toNat).I1 else 0
def Mch.none:Mch:=⟨aA,L,[],[],[],[],[],[],0,0,0⟩
def Ac2(b:B)(m:J)(s:C):Mch:=⟨m,s,aD b.B0.length Cp,aD b.B0.length Vl,aD b.B0.length AV,aD b.B0.length Hc,m.A0.map (Su b),aD b.B0.length Aft,0,0,0⟩
def Mch.withB(m:Mch)(l:List Belief):Mch:={ m with W0:=l }
def Mch.withE(m:Mch)(l:List Int):Mch:={ m with D2:=l }
def Am0{α:Type}(a:α):∀k i:Nat,(List.range' i k).flatMap (λ_=>[a])=aD k a
 |0,_=>rfl
 |k+1,i=>by rw[e3_,a1_,Am0 a k (i+1),List.replicate_succ];rfl
def Bb9{α β:Type}(f:α→β)(l:List α):l.flatMap (λx=>[f x])=l.map f:=by
 induction l with
 |nil=>rfl
 |cons a t ih=>rw[a1_,ih];rfl
def Ps(b:B)(m:J)(s:C):Mch×Int:=bif Pq b m&&decide (s.ok b.H0)then(Ac2 b m s,0)else(Mch.none,1)
def Pe(b:B)(s:C)(bud:Int):Mch×Int×Int:=
 bif(CV b s bud).2.2.2 !=0 then({ Mch.none with X0:=(CV b s bud).1 },0,(CV b s bud).2.2.2)
 else bif(Ps b (CV b s bud).2.1 (CV b s bud).1).2 !=0 then(Mch.none,0,(Ps b (CV b s bud).2.1 (CV b s bud).1).2)
 else((Ps b (CV b s bud).2.1 (CV b s bud).1).1,(CV b s bud).2.2.1,0)
def Bhk(hcode:b.code=0)(s:C)(hs:s.cur.size≤500000)(bud:Int):(CV b s bud).2.1.fit:=by
 obtain⟨_,_,hf⟩:=Ahx hcode s hs;unfold CV;cases(Do b s (Cw b s) bud).2.2 !=0 with
 |true=>exact⟨a3_ _,a3_ _,a3_ _,a3_ _⟩
 |false=>exact hf
def PE(b:B):Mch×Int:=bif b.code==0 then((Pe b L 1048576).1,(Pe b L 1048576).2.2)else(Mch.none,1)
def Apy:∀{l:List Nat}{a n:Nat},l.Pairwise (· < ·)→(∀x∈l,a≤x∧x<n)→l.length+a≤n∨l=[]
 |[],_,_,_,_=>.inr rfl
 |x::t,a,n,h,hr=>by
  left;obtain⟨h1,h2⟩:=g1_.1 h;have hx:=hr x (B_ ..);rcases Apy (a:=x+1) (n:=n) h2 (λy hy=>⟨h1 y hy,(hr y (F_ _ hy)).2⟩)with q | q
  ·rw[y_];omega
  ·subst q
   simp;omega
def Bgy(hb:b.small)(hm:ImgOK b m):(m.A0.length:Int)≤2*(b.C0-1):=by
 have lo:=hb.lo;have hi:=hb.hi
 let ix:Int×Int→Nat:=λp=>if p.1=0 then 0 else if p.1=b.C0-1 then(2*b.C0-3).toNat else(2*p.1+p.2-2).toNat
 have hv:∀p∈m.A0.map HL,(p.2=1∧0≤p.1∧p.1≤b.C0-2)∨(p.2=2∧1≤p.1∧p.1≤b.C0-1):=λp hp=>by
  obtain⟨e,he,rfl⟩:=c3_.1 hp;have h1:=(EA.1 (hm.en e he)).1;unfold An Pf at h1;simp only[e_,a6_,U_,Am]at h1;show(e.I0=1∧0≤e.D0∧e.D0≤b.C0-2)∨(e.I0=2∧1≤e.D0∧e.D0≤b.C0-1);omega
 have hp:((m.A0.map HL).map ix).Pairwise (· < ·):=by
  rw[List.pairwise_map];refine List.Pairwise.imp_of_mem (λ{p q} hp hq h=>?_) hm.so
  have v1:=hv p hp;have v2:=hv q hq;unfold ltC at h;show ix p<ix q;simp only[ix];split<;>split<;>(try split)<;>(try split)<;>omega
 rcases Apy (a:=0) (n:=(2*b.C0-2).toNat) hp (λx hx=>by
  obtain⟨p,hp,rfl⟩:=c3_.1 hx;have v1:=hv p hp;refine⟨a3_ _,?_⟩;show ix p<_;simp only[ix];split
  ·omega
  ·split<;>omega)with q | q
 ·rw[b5_,b5_]at q;omega
 ·have:=b9_ List.length q
  rw[b5_,b5_,d4_]at this;omega
def Apu(hm:ImgOK b m)(hfit:18*((b.B0.length:Int)+(m.A0.length:Int))+6≤b.H0):Pq b m=I:=by
 unfold Pq;rw[Img.ok_iff.2 hm,b_ hfit];rfl
def Aar(hm:ImgOK b m)(hfit:18*((b.B0.length:Int)+(m.A0.length:Int))+6≤b.H0)(hs:s.ok b.H0):Ps b m s=(Ac2 b m s,0):=by
 unfold Ps;rw[Apu hm hfit,b_ hs];rfl
def Bgo(_hb:b.small)(hs:s.ok b.H0)(hm:ImgOK b m)(hrep:Cw b s=m)(hfit:18*((b.B0.length:Int)+(m.A0.length:Int))+6≤b.H0)(hb0:0≤bud):
  (2+18*((b.B0.length:Int)+(m.A0.length:Int))≤bud∧Pe b s bud=(Ac2 b m { s.set (1-s.sel) (txt ((CG m).flatMap Cm))with sel:=1-s.sel },bud-(2+18*((b.B0.length:Int)+(m.A0.length:Int))),0)∧Jst b { s.set (1-s.sel) (txt ((CG m).flatMap Cm))with sel:=1-s.sel } m)∨
  (bud<2+18*((b.B0.length:Int)+(m.A0.length:Int))∧∃s',Pe b s bud=({ Mch.none with X0:=s' },0,8)∧s'.ok b.H0∧Cw b s'=m):=by
 have hsel:=Yx hs;unfold Pe CV;rw[hrep];rcases Ace hs hm hb0 ω with⟨q1,q2⟩ | ⟨q1,s',q2,q3,q4⟩
 ·left
  have hj:Jst b { s.set (1-s.sel) (txt ((CG m).flatMap Cm))with sel:=1-s.sel } m:=by
   refine⟨Azg (Tw hs ?_) ω,hm,⟨CG m,?_,Sr hm,Ad4 hm⟩,hfit⟩
   ·rw[FA,Abn hm];omega
   ·rw[Aci hsel,FX]
  rw[q2];refine⟨q1,?_,hj⟩;simp only[Q_,c_];rw[Aar hm hfit hj.ok];rfl
 ·right
  rw[q2];refine⟨q1,s',rfl,q3,?_⟩;rw[← hrep];unfold Cw;rw[q4]
end Go.Ovl
