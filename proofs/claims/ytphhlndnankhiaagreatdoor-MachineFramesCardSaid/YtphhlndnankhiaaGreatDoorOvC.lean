import Derived.Test.YtphhlndnankhiaaGreatDoorOvA
import Derived.Test.YtphhlndnankhiaaGreatDoorOvB
import Derived.Test.YtphhlndnankhiaaGreatDoorDefs4
set_option linter.all false
open Bool renaming false->B,true->E
open Option renaming some->C
open Go.Ovl renaming Bldg->H,Record->I,Entry->J
open Array renaming mk->L
open ByteArray renaming mk->N
open Go.IntKind renaming u8->O,u32->P,wrap->Q,i64->aB
open Int renaming toNat->aA
open Go.Ovl.Img renaming none->aC
open List renaming range'->aD
open Go.Ovl.Record renaming mk->aE
open BitVec renaming ofInt->aF,getLsbD_or->aH
open UInt8 renaming toNat_lt->aG
namespace Go.Ovl
open Go Go.Ab
set_option maxRecDepth 100000
variable{c p:Int×Int}{b:H}{f:Nat}{d:Int}
def Vv(floor:Int):Int:=P.wrap (1*2^min (aA floor) (IntKind.bits .u32))
def Fi(floor dir:Int):Int×Int:=bif inR 0 31 floor then(bif dir==1 then(Vv floor,0)else bif dir==2 then(0,Vv floor)else(0,0))else(0,0)
def orC(a c:Int):Int:=vb (bv a|||bv c)
def Ab0(a c:Int):Int:=vb (bv a&&& ~~~ bv c)
def Cc(a c:Int×Int):Int×Int:=(orC a.1 c.1,orC a.2 c.2)
def AX(a c:Int×Int):Int×Int:=(Ab0 a.1 c.1,Ab0 a.2 c.2)
def Aj(c:Int×Int)(f:Nat)(d:Int):Bool:=bif d==1 then CU c.1 f else bif d==2 then CU c.2 f else B
def Ef(c:Int×Int):Prop:=(0≤c.1∧c.1<4294967296)∧(0≤c.2∧c.2<4294967296)
def MB(a c:Int×Int):Ef (Cc a c):=⟨KT _,KT _⟩
def HD(a c:Int×Int):Ef (AX a c):=⟨KT _,KT _⟩
def FJ:Ef (0,0):=⟨⟨τ,τ⟩,⟨τ,τ⟩⟩
def Ya(i:Nat):CU 0 i=B:=by unfold CU bv;simp
def Eb(f:Nat)(d:Int):Aj (0,0) f d=B:=by unfold Aj;simp only[Ya];cases d==1<;>cases d==2<;>rfl
def FD(a c:Int×Int)(f:Nat)(d:Int):Aj (Cc a c) f d=(Aj a f d||Aj c f d):=by unfold Aj Cc orC;simp only[Tt,aH];cases d==1<;>cases d==2<;>rfl
def Bt(a c:Int×Int)(hf:f<32)(d:Int):Aj (AX a c) f d=(Aj a f d&&!Aj c f d):=by unfold Aj AX Ab0;simp only[Tt,f6_,BitVec.getLsbD_not,hf,decide_true,s_];cases d==1<;>cases d==2<;>rfl
def KD{F D:Int}(hF:0≤F∧F<32)(hD:D=1∨D=2)(f:Nat)(hd:d=1∨d=2):Aj (Fi F D) f d=decide (((f:Int),d)=(F,D)):=by
 have hp:CU (Vv F) f=decide (f=F.toNat):=Aqc (k:=F.toNat) ω f;have e:decide (((f:Int),d)=(F,D))=(decide (f=F.toNat)&&decide (d=D)):=by
  rw[Bool.eq_iff_iff,e_,r_,r_,r_,g6_];constructor
  ·rintro⟨h1,h2⟩;exact⟨ω,h2⟩
  ·rintro⟨h1,h2⟩;exact⟨ω,h2⟩
 rw[e];unfold Fi Aj;rw[Ap.2 ⟨hF.1,show F≤31 by omega⟩];rcases hD with rfl | rfl<;>rcases hd with rfl | rfl
 ·simp[hp]
 ·simp[Ya]
 ·simp[Ya]
 ·simp[hp]
def OH{a:Int×Int}(ha:Ef a)(hc:Ef c)(h:∀f:Nat,f<32→∀d:Int,(d=1∨d=2)→Aj a f d=Aj c f d):a=c:=by have h1:a.1=c.1:=Aqb ha.1 hc.1 λi hi=>h i hi 1 (.inl rfl);have h2:a.2=c.2:=Aqb ha.2 hc.2 λi hi=>h i hi 2 (.inr rfl);exact Prod.ext h1 h2
def Re(e:J):Prop:=(0≤e.D0∧e.D0<32)∧(e.I0=1∨e.I0=2)
def ofC:List J→Int×Int→Int×Int
 |[],c=>c
 |e::t,c=>ofC t (Cc c (Fi e.D0 e.I0))
def VX:∀(l:List J) {c:Int×Int},Ef c→Ef (ofC l c)
 |[],_,h=>h
 |_::t,_,_=>VX t (MB _ _)
def ZH:∀{l:List J}{c:Int×Int},(∀e∈l,Re e)→∀(f:Nat) {d:Int},(d=1∨d=2)→(Aj (ofC l c) f d=E↔Aj c f d=E∨((f:Int),d)∈l.map BQ)
 |[],_,_,f,d,_=>by simp[ofC]
 |e::t,c,h,f,d,hd=>by have he:=h e (t_ ..);simp only[ofC];rw[ZH (λx hx=>h x (B_ _ hx)) f hd,FD,KD he.1 he.2 f hd,S_,r_,c2_,q_];show(_∨_=(e.D0,e.I0))∨_↔_∨_=(e.D0,e.I0)∨_;exact or_assoc
def Lj(c:Int×Int)(f:Nat):List J:=(bif Aj c f 1 then [⟨(f:Int),1,-1,0,B⟩]else [])++(bif Aj c f 2 then [⟨(f:Int),2,-1,0,B⟩]else [])
def Adn(c:Int×Int)(f:Nat):(Lj c f).length≤2:=by unfold Lj;cases Aj c f 1<;>cases Aj c f 2<;>simp
def Fd(c:Int×Int):List J:=(aD 0 32).flatMap (Lj c)
def Xg:p∈(Lj c f).map BQ↔p.1=(f:Int)∧(p.2=1∨p.2=2)∧Aj c f p.2=E:=by
 obtain⟨a,d⟩:=p;unfold Lj;rw[List.map_append,p_];have h:∀D:Int,(a,d)∈(bif Aj c f D then [Entry.mk (f:Int) D (-1) 0 B]else []).map BQ↔a=(f:Int)∧d=D∧Aj c f D=E:=λD=>by cases Aj c f D<;>simp[BQ]
 rw[h,h];constructor
 ·rintro(⟨h1,rfl,h3⟩ | ⟨h1,rfl,h3⟩)
  ·exact⟨h1,.inl rfl,h3⟩
  ·exact⟨h1,.inr rfl,h3⟩
 ·rintro⟨h1,h2,h3⟩;simp only at h1 h2 h3;rcases h2 with rfl | rfl
  ·exact .inl ⟨h1,rfl,h3⟩
  ·exact .inr ⟨h1,rfl,h3⟩
def mem_range{i k:Nat}:p∈((aD i k).flatMap (Lj c)).map BQ↔∃f:Nat,(i≤f∧f<i+k)∧p.1=(f:Int)∧(p.2=1∨p.2=2)∧Aj c f p.2=E:=by
 constructor
 ·intro h;obtain⟨e,he,rfl⟩:=b5_.1 h;obtain⟨f,hf,he⟩:=c9_.1 he;exact⟨f,List.mem_range'_1.1 hf,Xg.1 (b5_.2 ⟨e,he,rfl⟩)⟩
 ·rintro⟨f,hf,h⟩;obtain⟨e,he,h2⟩:=b5_.1 (Xg.2 h);exact b5_.2 ⟨e,c9_.2 ⟨f,List.mem_range'_1.2 hf,he⟩,h2⟩
def Zg(c:Int×Int):∀k i:Nat,Bh ((aD i k).flatMap (Lj c))
 |0,i=>by simp[Bh]
 |k+1,i=>by
  unfold Bh;rw[f0_,a1_,List.map_append,g0_];refine⟨?_,Zg c k (i+1),λp hp q hq=>?_⟩
  ·unfold Lj;cases Aj c i 1<;>cases Aj c i 2<;>simp[BQ,ltC]
  ·have h1:=Xg.1 hp;obtain⟨f,hf,h2,_⟩:=mem_range.1 hq;left;rw[h1.1,h2];omega
def JY(floor dir:Int):Eg floor dir=C (((),()),(((Fi floor dir).1,(Fi floor dir).2,()),())):=by
 unfold Eg Fi inR;by_cases g:0≤floor
 ·by_cases g':floor<32
  ·rw[b_ g,b_ g',b_ (ω:floor≤31)];simp only[d_,a_,a0_,b_ g];cases dir==1<;>cases dir==2<;>rfl
  ·rw[b_ g,f_ g',f_ (ω:¬floor≤31)];rfl
 ·rw[f_ g];rfl
def Gy(a c:Int×Int):CT a.1 a.2 c.1 c.2=C (((),()),(((Cc a c).1,(Cc a c).2,()),())):=by unfold CT;rw[Avq,Avq];rfl
def Qv(a c:Int×Int):Io a.1 a.2 c.1 c.2=C (((),()),(((AX a c).1,(AX a c).2,()),())):=by unfold Io;rw[OC,OC];rfl
def DJ(a c:Int×Int):Int×Int:=(vb (bv a.1&&&bv c.1),vb (bv a.2&&&bv c.2))
def Wn(a c:Int×Int):Ef (DJ a c):=⟨KT _,KT _⟩
def Li(a c:Int×Int):DX a.1 a.2 c.1 c.2=C (((),()),(((DJ a c).1,(DJ a c).2,()),())):=by unfold DX;rw[ZN,ZN];rfl
def Mp(a c:Int×Int)(f:Nat)(d:Int):Aj (DJ a c) f d=(Aj a f d&&Aj c f d):=by unfold Aj DJ;simp only[Tt,f6_];cases d==1<;>cases d==2<;>rfl
def isZ(c:Int×Int):Bool:=(c.1==0)&&((c.2==0)&&E)
def Ng(hc:Ef c):isZ c=E↔∀f:Nat,f<32→∀d:Int,(d=1∨d=2)→Aj c f d=B:=by
 constructor
 ·intro h f _ d _;unfold isZ at h;simp only[e_,W_]at h;obtain⟨h1,h2,_⟩:=h;rw[show c=(0,0)from Prod.ext h1 h2,Eb]
 ·intro h
  have:c=(0,0):=OH hc FJ λf hf d hd=>by rw[h f hf d hd,Eb]
  rw[this];rfl
def PH(c:Int×Int){F D:Int}(hF:0≤F∧F<32)(hD:D=1∨D=2):Ds c.1 c.2 F D=C ((Aj c F.toNat D,()),()):=by
 unfold Ds;rw[JY];simp only[a_];rw[Li c (Fi F D)];simp only[a_];show C ((!(isZ (DJ c (Fi F D))),()),())=_;have e:isZ (DJ c (Fi F D))=!Aj c F.toNat D:=by
  cases h:Aj c F.toNat D with
  |false=>
   refine(Ng (Wn _ _)).2 λf hf d hd=>?_;rw[Mp,KD hF hD f hd];by_cases g:((f:Int),d)=(F,D)
   ·obtain⟨h1,h2⟩:=Prod.mk.inj g;rw[show f=F.toNat by omega,h2,h];rfl
   ·rw[f_ g,c1_]
  |true=>
   cases hz:isZ (DJ c (Fi F D))with
   |false=>rfl
   |true=>
    have:=(Ng (Wn _ _)).1 hz F.toNat ω D hD
    rw[Mp,KD hF hD F.toNat hD,h,b_ (show(((F.toNat:Nat):Int),D)=(F,D)by rw[e5_ hF.1])]at this;cases this
 rw[e,Bool.not_not]
def Bx(b:H):Int×Int:=(Q P (Q P (1*2^min (aA (b.C0-1)) (IntKind.bits .u32))-1),P.wrap (Q P (Q P (1*2^min (aA (b.C0-1)) (IntKind.bits .u32))-1)*2^min (aA (1:Int)) (IntKind.bits .u32)))
def KF(hb:b.small)(hcode:b.code=0):Fl b.C0 b.E0 b.H0 b.M0 b.J0 b.L0 b.N0 b.B0=C (((),()),(((Bx b).1,(Bx b).2,()),())):=by have lo:=hb.lo;have hi:=hb.hi;unfold Fl Bx;rw[Bg,hcode];simp only[a_,O_,c_,Aa (n:=b.C0-1) ω ω,b_ (ω:0≤b.C0-1),d_]
def Ako(n:Nat):Int:=P.wrap (Q P (1*2^min n (IntKind.bits .u32))-1)
def Bc2:((List.range 9).all λn=>(List.range 32).all λi=>(CU (Ako n) i==decide (i<n))&&(CU (Q P (Ako n*2^min (aA 1) (IntKind.bits .u32))) i==(decide (1≤i)&&decide (i≤n))))=E:=κ
def Bc3(b:H):Ef (Bx b):=by
 have k:∀n:Int,0≤P.wrap n∧P.wrap n<4294967296:=λn=>by simp only[Q,IntKind.signed,IntKind.bits];simp;omega
 exact⟨k _,k _⟩
def Ov(hb:b.small)(hcode:b.code=0)(hf:f<32)(hd:d=1∨d=2):Aj (Bx b) f d=Ai b (f:Int) d:=by
 have lo:=hb.lo;have hi:=hb.hi;have t:=K_.1 (K_.1 Bc2 (b.C0-1).toNat (List.mem_range.2 ω)) f (List.mem_range.2 hf);rw[e_,W_,W_]at t;unfold Ai NY;rw[hcode];rcases hd with rfl | rfl
 ·have e:Aj (Bx b) f 1=CU (Ako (b.C0-1).toNat) f:=rfl;rw[e,t.1];unfold inR;rw[b_ (ω:(0:Int)≤(f:Int))];by_cases g:f<(b.C0-1).toNat
  ·rw[b_ g,b_ (ω:(f:Int)≤b.C0-2)];rfl
  ·rw[f_ g,f_ (ω:¬(f:Int)≤b.C0-2)];rfl
 ·have e:Aj (Bx b) f 2=CU (Q P (Ako (b.C0-1).toNat*2^min (aA 1) (IntKind.bits .u32))) f:=rfl;rw[e,t.2];unfold inR;by_cases g:1≤f
  ·rw[b_ g,b_ (ω:(1:Int)≤(f:Int))];by_cases g':f≤(b.C0-1).toNat
   ·rw[b_ g',b_ (ω:(f:Int)≤b.C0-1)];rfl
   ·rw[f_ g',f_ (ω:¬(f:Int)≤b.C0-1)];rfl
  ·rw[f_ g,f_ (ω:¬(1:Int)≤(f:Int))];rfl
def WW(b:H)(i:Nat)(s:Int×Int):Int×Int:=(bif Ai b (i:Int) 1 then orC s.1 (Vv (i:Int))else s.1,bif Ai b (i:Int) 2 then orC s.2 (Vv (i:Int))else s.2)
def Apn(hb:b.small)(hcode:b.code=0):Sj b.C0 b.E0 b.H0 b.M0 b.J0 b.L0 b.N0 b.B0=C (((),()),(((Bx b).1,(Bx b).2,()),())):=by
 have h:=AP (step:=λx=>letI a:=x.2.1.2.2;letI c:=a.2.2;JS x.1.2.2.2.1 x.2.1.1 x.2.1.2.1 a.1 a.2.1 c.1 c.2.1 c.2.2.1 c.2.2.2.1 x.2.2.1.1 x.2.2.1.2.1 x.2.2.2.1.1 x.2.2.2.1.2.1) 32 (λi (s:Int×Int)=>(((),(),(),(i:Int),()),(b.tup,((0:Int),(0:Int),()),(s.1,s.2,()),()))) (WW b)
  (λi s=>Ef s∧∀f:Nat,f<32→∀d:Int,(d=1∨d=2)→Aj s f d=(decide (f<i)&&Ai b (f:Int) d)) (λs=>(((),(),()),(((0:Int),(0:Int),()),(s.1,s.2,()),()))) (λi s hi hs=>by
  have w:IntKind.u64.wrap (i:Int)=(i:Int):=Dg ω ω;have hp:∀j,CU (Vv (i:Int)) j=decide (j=i):=λj=>Aqc (k:=i) hi j;refine⟨?_,⟨?_,?_⟩,λf hf d hd=>?_⟩
  ·show JS (i:Int) b.C0 b.E0 b.H0 b.M0 b.J0 b.L0 b.N0 b.B0 0 0 s.1 s.2=_;unfold JS WW;rw[Ln hb,b_ (ω:(i:Int)<32)];simp only[a_,d_,w,b_ (ω:(0:Int)≤(i:Int)),Avq];cases Ai b (i:Int) 1 with
   |true=>simp only[d_,a_,Ln hb,w,b_ (ω:(0:Int)≤(i:Int)),Aa (n:=(i:Int)+1) ω ω];cases Ai b (i:Int) 2<;>rfl
   |false=>simp only[c_,a_,Ln hb,w,b_ (ω:(0:Int)≤(i:Int)),d_,Aa (n:=(i:Int)+1) ω ω];cases Ai b (i:Int) 2<;>rfl
  ·unfold WW;cases Ai b (i:Int) 1
   ·exact hs.1.1
   ·exact KT _
  ·unfold WW;cases Ai b (i:Int) 2
   ·exact hs.1.2
   ·exact KT _
  ·have hk:=hs.2 f hf d hd;have dk:decide (f<i+1)=(decide (f<i)||decide (f=i)):=by
    rw[Bool.eq_iff_iff,S_,r_,r_,r_];omega
   rw[dk];rcases hd with rfl | rfl
   ·have e:Aj (WW b i s) f 1=CU (bif Ai b (i:Int) 1 then orC s.1 (Vv (i:Int))else s.1) f:=rfl;have hk':CU s.1 f=_:=hk;rw[e];cases hc:Ai b (i:Int) 1 with
    |true=>
     rw[d_];unfold orC;rw[Tt,aH];show(CU s.1 f||CU (Vv (i:Int)) f)=_;rw[hk',hp];by_cases g:f=i
     ·subst g;rw[hc];simp
     ·rw[f_ g];simp
    |false=>
     rw[c_,hk'];by_cases g:f=i
     ·subst g;rw[hc];simp
     ·rw[f_ g];simp
   ·have e:Aj (WW b i s) f 2=CU (bif Ai b (i:Int) 2 then orC s.2 (Vv (i:Int))else s.2) f:=rfl;have hk':CU s.2 f=_:=hk;rw[e];cases hc:Ai b (i:Int) 2 with
    |true=>
     rw[d_];unfold orC;rw[Tt,aH];show(CU s.2 f||CU (Vv (i:Int)) f)=_;rw[hk',hp];by_cases g:f=i
     ·subst g;rw[hc];simp
     ·rw[f_ g];simp
    |false=>
     rw[c_,hk'];by_cases g:f=i
     ·subst g;rw[hc];simp
     ·rw[f_ g];simp) (λs _=>by
  show JS 32 b.C0 b.E0 b.H0 b.M0 b.J0 b.L0 b.N0 b.B0 0 0 s.1 s.2=_;unfold JS;rw[show decide ((32:Int)<32)=B from rfl];rfl) 32 0 (0,0) ω ⟨FJ,λf _ d _=>by rw[Eb];simp⟩
 have h':=Ak h.1 ω;have hall:AE (WW b) 32 0 (0,0)=Bx b:=OH h.2.1 (Bc3 b) λf hf d hd=>by rw[h.2.2 f hf d hd,Ov hb hcode hf hd,b_ hf,s_]
 rw[hall]at h';unfold Sj;simp only[Bldg.tup]at h';rw[show Pm (((),(),(),(0:Int),()),((b.C0,b.E0,b.H0,b.M0,b.J0,b.L0,b.N0,b.B0,()),((0:Int),(0:Int),()),((0:Int),(0:Int),()),()))=_ from h'];rfl
def CL(b:H)(v:View):Int×Int:=bif v.A3 then DJ (v.L3,v.Z2) (Bx b)else(0,0)
def Sd(hb:b.small)(hcode:b.code=0)(v:View):HM b.C0 b.E0 b.H0 b.M0 b.J0 b.L0 b.N0 b.B0 v.Q3 v.A3 v.G3 v.Z3 v.D0 v.I0 v.J3 v.L3 v.Z2 v.X2 v.Z1 v.R1=C (((),()),(((CL b v).1,(CL b v).2,()),())):=by
 unfold HM CL;cases v.A3 with
 |false=>rfl
 |true=>rw[KF hb hcode];simp only[o_,c_,a_,d_];rw[Li (v.L3,v.Z2) (Bx b)];rfl
def Ade{c:Int×Int}(h:Int→Int→Option ((Bool×Unit)×Unit))(hh:∀f:Nat,f<32→∀d:Int,(d=1∨d=2)→h (f:Int) d=C ((Aj c f d,()),())):∀k i:Nat,i+k≤32→Wx h (λf d=>Entry.mk f d (-1) 0 B) ((aD i k).flatMap λf:Nat=>[((f:Int),1),((f:Int),2)])=C ((aD i k).flatMap (Lj c))
 |0,_,_=>rfl
 |k+1,i,hk=>by rw[f0_,a1_,a1_];show Wx h _ (((i:Int),1)::((i:Int),2)::((aD (i+1) k).flatMap λf:Nat=>[((f:Int),1),((f:Int),2)]))=_;simp only[Wx];rw[hh i ω 1 (.inl rfl),hh i ω 2 (.inr rfl),Ade h hh k (i+1) ω];unfold Lj;cases Aj c i 1<;>cases Aj c i 2<;>rfl
def XB(c:Int×Int):Mc c.1 c.2=C ((Fd c,()),()):=by
 unfold Mc Ana;have e:pairs64=(aD 0 32).flatMap λf:Nat=>[((f:Int),1),((f:Int),2)]:=by unfold pairs64;rw[List.range_eq_range']
 have h:=Ade (c:=c) (λf d=>Ds c.1 c.2 f d) (λf hf d hd=>by have h:=PH c (F:=(f:Int)) (D:=d) ⟨ω,ω⟩ hd;rw[j_]at h;exact h) 32 0 ω;rw[e,h];rfl
end Go.Ovl
namespace Go.Ovl
open Go Go.Ab
variable{b:H}{r:I}{l:List UInt8}{s:ByteArray}{bud n:Int}{m:Img}
structure Sto where
 h0:ByteArray
 h1:ByteArray
 sel:Int
def Sto.get(s:Sto)(half:Int):ByteArray:=if half=0 then s.h0 else s.h1
def Sto.set(s:Sto)(half:Int)(x:ByteArray):Sto:=if half=0 then { s with h0:=x }else { s with h1:=x }
def Sto.no:Sto:=⟨noB,noB,0⟩
def Sto.cur(s:Sto):ByteArray:=if s.sel=1 then s.h1 else s.h0
def Sto.ok(room:Int)(s:Sto):Prop:=1≤room∧room≤65536∧s.h0.size≤room∧s.h1.size≤room∧(s.sel=0∨s.sel=1)
instance okSto_ti(room:Int)(s:Sto):Decidable (s.ok room):=by unfold Sto.ok;infer_instance
def Sto.tup(s:Sto):ByteArray×ByteArray×Int×Unit:=(s.h0,(s.h1,(s.sel,())))
def Sto.chk(room:Int)(s:Sto)(half bud:Int):Int:=if s.ok room then if(half≠0∧half≠1)∨bud<0 then 2 else 0 else 1
def Sto.write(room:Int)(s:Sto)(half:Int)(d:ByteArray)(bud:Int):Sto×Int×Int:=
 if s.chk room half bud≠0 then(.no,0,s.chk room half bud)
 else if room<(s.get half).size+d.size then(.no,0,7)
 else if bud<d.size then(s.set half (s.get half++d.extract 0 bud.toNat),0,8)
 else(s.set half (s.get half++d),bud-d.size,0)
def Sto.act(room:Int)(s:Sto)(half bud:Int)(t:Sto):Sto×Int×Int:=if s.chk room half bud≠0 then(.no,0,s.chk room half bud)else if bud=0 then(s,0,8)else(t,bud-1,0)
def Sto.erase(room:Int)(s:Sto)(half bud:Int):Sto×Int×Int:=s.act room half bud (s.set half noB)
def Sto.choose(room:Int)(s:Sto)(half bud:Int):Sto×Int×Int:=s.act room half bud { s with sel:=half }
def Sto.out(r:Sto×Int×Int):(Unit×Int×Int×Unit)×((ByteArray×ByteArray×Int×Unit)×Unit):=(((),(r.2.1,(r.2.2,()))),((r.1.h0,(r.1.h1,(r.1.sel,()))),()))
def IR(room:Int)(h0 h1:ByteArray)(sel:Int):Fw room h0 h1 sel=C ((decide (Sto.ok room ⟨h0,h1,sel⟩),()),()):=by
 unfold Fw Sto.ok;by_cases a:1≤room
 ·by_cases b:room≤65536
  ·by_cases c:(h0.size:Int)≤room
   ·by_cases d:(h1.size:Int)≤room
    ·by_cases e:sel=0
     ·simp[a,b,c,d,e]
     ·by_cases f:sel=1<;>simp[a,b,c,d,e,f,An]
    ·simp[a,b,c,d]
   ·simp[a,b,c]
  ·simp[a,b]
 ·simp[a]
def Ok(room:Int)(h0 h1:ByteArray)(sel half bud:Int):Iu room h0 h1 sel half bud=C ((Sto.chk room ⟨h0,h1,sel⟩ half bud,()),()):=by
 unfold Iu Sto.chk;rw[IR];by_cases a:Sto.ok room ⟨h0,h1,sel⟩
 ·by_cases b:half=0
  ·by_cases c:bud<0<;>simp[a,b,c]
  ·by_cases d:half=1
   ·by_cases c:bud<0<;>simp[a,c,d]
   ·simp[a,b,d,Ig]
 ·simp[a]
def Qw{room:Int}{s:Sto}{half:Int}(h:s.chk room half bud=0):s.ok room∧(half=0∨half=1)∧0≤bud:=by
 unfold Sto.chk at h;split at h
 ·split at h
  ·cases h
  ·rename_i h1 h2;refine⟨h1,?_,?_⟩<;>omega
 ·cases h
def Tj(room:Int)(h0 h1:ByteArray)(sel half:Int)(d:ByteArray)(bud:Int)(hb:bud<9223372036854775808) :
  It room h0 h1 sel half d bud=C (Sto.out (Sto.write room ⟨h0,h1,sel⟩ half d bud)):=by
 unfold It Sto.write;rw[Ok];generalize hc:Sto.chk room ⟨h0,h1,sel⟩ half bud=c;by_cases h:c=0
 ·subst h;obtain⟨⟨o1,o2,o3,o4,o5⟩,hh,hb0⟩:=Qw hc;simp only at o3 o4;have hin:inB half 2=E:=Ac ω ω;have hg:(List.getD [h0,h1] half.toNat noB)=Sto.get ⟨h0,h1,sel⟩ half:=by
   rcases hh with rfl | rfl<;>rfl
  have hgs:((Sto.get ⟨h0,h1,sel⟩ half).size:Int)≤room:=by rcases hh with rfl | rfl<;>simpa[Sto.get]
  have hset:∀x:ByteArray,((bif Nat.beq half.toNat 0 then x else h0),((bif Nat.beq half.toNat 1 then x else h1),(sel,())))=((Sto.set ⟨h0,h1,sel⟩ half x).h0,((Sto.set ⟨h0,h1,sel⟩ half x).h1,((Sto.set ⟨h0,h1,sel⟩ half x).sel,()))):=by intro x;rcases hh with rfl | rfl<;>rfl
  have hg':(List.getD [h0,h1] half.toNat (N (L [])))=Sto.get ⟨h0,h1,sel⟩ half:=hg;simp only[a_,hin,d_,hg',hset];generalize Sto.get ⟨h0,h1,sel⟩ half=g at hgs⊢;rw[Aa (n:=room-g.size) ω ω];by_cases h2:room<(g.size:Int)+d.size
  ·have e:decide (room-(g.size:Int)<d.size)=E:=by simp;omega
   simp[e,h2,Sto.out,Sto.no,noB]
  ·have e:decide (room-(g.size:Int)<d.size)=B:=by simp;omega
   by_cases h3:bud<d.size
   ·have e2:decide (bud<(d.size:Int))=E:=by simpa using h3
    have e3:(decide (0≤bud)&&decide (bud≤(d.size:Int)))=E:=by simp;omega
    have e4:Nat.ble (g.size+(d.extract 0 bud.toNat).size) 4611686018427387904=E:=by rw[WL d ω];exact Av ω
    simp only[e,e3,e4,h2,h3,d_,c_,g8_,e8_,Sto.out];simp
   ·have e2:decide (bud<(d.size:Int))=B:=by simpa using h3
    have e4:Nat.ble (g.size+d.size) 4611686018427387904=E:=Av ω;rw[Aa (n:=bud-d.size) ω ω];simp only[e,e4,h2,h3,d_,c_,e8_,Sto.out];simp
 ·simp[h,Sto.out,Sto.no,noB,Ig]
def Avn(room:Int)(h0 h1:ByteArray)(sel half bud:Int)(hb:bud<9223372036854775808):NN room h0 h1 sel half bud=C (Sto.out (Sto.erase room ⟨h0,h1,sel⟩ half bud)):=by
 unfold NN Hn Sto.erase Sto.act;rw[Ok];generalize hc:Sto.chk room ⟨h0,h1,sel⟩ half bud=c;by_cases h:c=0
 ·subst h;obtain⟨_,hh,hb0⟩:=Qw hc;by_cases h2:bud=0
  ·simp[h2,Sto.out]
  ·have hin:inB half 2=E:=Ac ω ω;unfold Ph;rw[Aa (n:=bud-1) ω ω];have e:(bud==0)=B:=by simpa using h2
   rcases hh with rfl | rfl<;>simp[hin,e,h2,Sto.out,Sto.set,noB]<;>rfl
 ·simp[h,Sto.out,Sto.no,noB,Ig]
def Ap4(room:Int)(h0 h1:ByteArray)(sel half bud:Int)(hb:bud<9223372036854775808):MU room h0 h1 sel half bud=C (Sto.out (Sto.choose room ⟨h0,h1,sel⟩ half bud)):=by
 unfold MU GN Sto.choose Sto.act;rw[Ok];generalize hc:Sto.chk room ⟨h0,h1,sel⟩ half bud=c;by_cases h:c=0
 ·subst h;obtain⟨_,hh,hb0⟩:=Qw hc;by_cases h2:bud=0
  ·simp[h2,Sto.out]
  ·unfold Oj;rw[Aa (n:=bud-1) ω ω];have e:(bud==0)=B:=by simpa using h2
   simp[e,h2,Sto.out]
 ·simp[h,Sto.out,Sto.no,noB,Ig]
def XP(h0 h1:ByteArray)(sel:Int):LN h0 h1 sel=C ((Sto.cur ⟨h0,h1,sel⟩,()),()):=by unfold LN Sto.cur;by_cases h:sel=1<;>simp[h,An]
def Fk:Debounced:=Debounced.mk 0 B B B B 0 0 0 0 0 0 0 0 0 0 0 0 0 0 0 0 0 0 0 0 0 0 0 0 0 0 0 0 0 0 0 0 0 0 0 0
def GT:Duty:=Duty.mk 0 0 0
def Bu:NewCar:=NewCar.mk 0 0 0 0 0 B 0 0 0 0 0 0 0 B
def Ab2:Loaded:=Loaded.mk 0
def Agx:Calls:=Calls.mk 0 0
def GH:Belief:=Belief.mk 0 0 0 [] 0 B
def Belief.tup(x:Belief):Int×Int×Int×List Duty×Int×Bool×Unit:=(x.D0,x.I0,x.F3,x.W0,x.B3,x.V3,())
structure Mch where
 G0:Img
 B1:Sto
 K1:List Debounced
 U0:List Belief
 B0:List NewCar
 D3:List Loaded
 E2:List Int
 H3:List Calls
 B4:Int
 I3:Int
 Y2:Int
def Mch.tup(m:Mch):List Int×List Bool×List Bool×List J×ByteArray×ByteArray×Int×List Debounced×List Belief×List NewCar×List Loaded×List Int×List Calls×Int×Int×Int×Unit:=(m.G0.F0,m.G0.O0,m.G0.K0,m.G0.A0,m.B1.h0,m.B1.h1,m.B1.sel,m.K1,m.U0,m.B0,m.D3,m.E2,m.H3,m.B4,m.I3,m.Y2,())
structure Mch.fit(m:Mch):Prop where
 im:m.G0.fit
 co:m.K1.length≤100000
 be:m.U0.length≤100000
 du:∀x∈m.U0,x.W0.length≤100000
 ca:m.B0.length≤100000
 lo:m.D3.length≤100000
 ex:m.E2.length≤100000
 li:m.H3.length≤100000
section
variable{a c:Mch}(ha:a.fit)
include ha
end
def bl(s:ByteArray):List UInt8:=s.data.toList
def Lh{a c:ByteArray}(h:bl a=bl c):a=c:=by apply ByteArray.ext;unfold bl at h;exact Array.toList_inj.1 h
def JW(a c:ByteArray):bl (a++c)=bl a++bl c:=by simp[bl]
def PF(a:ByteArray)(i j:Nat):bl (a.extract i j)=((bl a).drop i).take (j-i):=by simp[bl]
def FE(a:ByteArray):(bl a).length=a.size:=by simp[bl]
def Bse(l:List UInt8):bl ⟨l.toArray⟩=l:=by simp[bl]
def GR(s:ByteArray)(i:Nat):AJ s i=(((bl s).getD i 0).toNat:Int):=by unfold AJ bl;simp[z_,k_]
def Qd(r:Nat):Nat:=if 128≤r then(r*2%256)^^^7 else r*2%256
def it8:Nat→Nat→Nat
 |0,r=>r
 |k+1,r=>it8 k (Qd r)
def Ut(r x:Nat):Nat:=it8 8 (r^^^x)
def SS(l:List UInt8):Nat:=l.foldl (λr x=>Ut r x.toNat) 0
def Acg{r:Nat}(_h:r<256):Qd r<256:=by
 unfold Qd;split
 ·exact d6_ (n:=8) ω τ
 ·omega
def Azk:∀(k:Nat) {r:Nat},r<256→it8 k r<256
 |0,_,h=>h
 |k+1,_,h=>Azk k (Acg h)
def Aa7{r x:Nat}(h:r<256)(h':x<256):Ut r x<256:=Azk 8 (d6_ (n:=8) h h')
def Biv(l:List UInt8):∀r:Nat,r<256→l.foldl (λr x=>Ut r x.toNat) r<256:=by
 induction l with
 |nil=>exact λr h=>h
 |cons x t ih=>intro r h;rw[e7_];have hx:x.toNat<256:=aG x;exact ih _ (Aa7 h hx)
def Arp(l:List UInt8):SS l<256:=Biv l 0 ω
def QI(h:0≤n)(h':n<256):O.wrap n=n:=by simp only[Q,IntKind.signed,IntKind.bits];simp;omega
def Brg{a c:Nat}(ha:a<256)(hc:c<256):O.wrap (stk (a:Int) (c:Int) (BitVec.toNat ((aF (IntKind.bits .u8) (a:Int))^^^(aF (IntKind.bits .u8) (c:Int)))))=((a^^^c:Nat):Int):=by have h:=d6_ (n:=8) ha hc;rw[Kf,BitVec.toNat_xor,V_,V_];rw[show(((a:Int))%((2^IntKind.bits .u8:Nat):Int)).toNat=a by simp only[IntKind.bits];omega,show(((c:Int))%((2^IntKind.bits .u8:Nat):Int)).toNat=c by simp only[IntKind.bits];omega];exact QI ω ω
def Bhm{a c:Nat}(ha:a<256)(hc:c<256):aB.wrap (stk (a:Int) (c:Int) (BitVec.toNat ((aF (IntKind.bits .i64) (a:Int))^^^(aF (IntKind.bits .i64) (c:Int)))))=((a^^^c:Nat):Int):=by have h:=d6_ (n:=8) ha hc;rw[Kf,BitVec.toNat_xor,V_,V_];rw[show(((a:Int))%((2^IntKind.bits .i64:Nat):Int)).toNat=a by simp only[IntKind.bits];omega,show(((c:Int))%((2^IntKind.bits .i64:Nat):Int)).toNat=c by simp only[IntKind.bits];omega];exact Aa ω ω
def At4:∀(k i r:Nat),AE (λ_ r=>Qd r) k i r=it8 k r
 |0,_,_=>rfl
 |k+1,i,r=>At4 k (i+1) (Qd r)
def Ay5(s:ByteArray)(s7 s8:Int){r k:Nat}(hr:r<256)(hk:k<8):Pw s (r:Int) s7 s8 (k:Int)=C (Sum.inl ((s,((Qd r:Nat):Int),s7,s8,((k+1:Nat):Int),()),())):=by
 unfold Pw;have w:aB.wrap ((k:Int)+1)=((k+1:Nat):Int):=by rw[Aa ω ω];omega
 have h0:O.wrap ((r:Int)*((2:Int)^(Min.min (aA (1:Int)) (IntKind.bits O))))=((r*2%256:Nat):Int):=by rw[show((2:Int)^(Min.min (aA (1:Int)) (IntKind.bits O)))=2 from rfl];simp only[Q,IntKind.signed,IntKind.bits];simp
 have h1:O.wrap ((Int.fdiv (r:Int) ((2:Int)^(Min.min (aA (7:Int)) (IntKind.bits O))))*(7:Int))=(((if 128≤r then 7 else 0):Nat):Int):=by
  rw[show((2:Int)^(Min.min (aA (7:Int)) (IntKind.bits O)))=128 from rfl,a4_ _ ω];split
  ·rw[show(r:Int)/128=1 by omega];rfl
  ·rw[show(r:Int)/128=0 by omega];rfl
 simp only[b_ (ω:(k:Int)<8),d_,h0,h1,w];rw[Brg ω (by split<;>omega)];unfold Qd;split
 ·rfl
 ·rw[Nat.xor_zero]
def Bai(s:ByteArray)(i:Int){r k:Nat}(hr:r<256)(hk:k<8):Py s (r:Int) i (k:Int)=C (Sum.inl ((s,((Qd r:Nat):Int),i,((k+1:Nat):Int),()),())):=by
 unfold Py;have w:aB.wrap ((k:Int)+1)=((k+1:Nat):Int):=by rw[Aa ω ω];omega
 have h0:Int.tmod (Q aB ((r:Int)*2)) 256=((r*2%256:Nat):Int):=by rw[Aa ω ω,e3_ ω];omega
 simp only[b_ (ω:(k:Int)<8),d_,h0,w];unfold Qd;by_cases h:128≤r
 ·rw[b_ (ω:(128:Int)≤(r:Int)),if_pos h,d_];have hx:=Bhm (a:=r*2%256) (c:=7) ω ω;rw[show((7:Nat):Int)=7 from rfl]at hx;rw[hx]
 ·rw[f_ (ω:¬(128:Int)≤(r:Int)),if_neg h];rfl
def Ay4(s:ByteArray)(s7 s8:Int){r:Nat}(hr:r<256):Pl ((s,(r:Int),s7,s8,(0:Int),()),())=C ((s,((it8 8 r:Nat):Int),s7,s8,()),()):=by have h:=AP (step:=λx=>Pw x.1.1 x.1.2.1 x.1.2.2.1 x.1.2.2.2.1 x.1.2.2.2.2.1) 8 (λk r=>((s,((r:Nat):Int),s7,s8,(k:Int),()),())) (λ_ r=>Qd r) (λ_ r=>r<256) (λr=>((s,((r:Nat):Int),s7,s8,()),())) (λk r hk hr=>⟨Ay5 s s7 s8 hr hk,Acg hr⟩) (λr _=>rfl) 8 0 r rfl hr;have h':=h.1;rw[At4]at h';exact Ak h' ω
def Bah(s:ByteArray)(i:Int){r:Nat}(hr:r<256):Po ((s,(r:Int),i,(0:Int),()),())=C ((s,((it8 8 r:Nat):Int),i,()),()):=by have h:=AP (step:=λx=>Py x.1.1 x.1.2.1 x.1.2.2.1 x.1.2.2.2.1) 8 (λk r=>((s,((r:Nat):Int),i,(k:Int),()),())) (λ_ r=>Qd r) (λ_ r=>r<256) (λr=>((s,((r:Nat):Int),i,()),())) (λk r hk hr=>⟨Bai s i hr hk,Acg hr⟩) (λr _=>rfl) 8 0 r rfl hr;have h':=h.1;rw[At4]at h';exact Ak h' ω
def Vo{α β:Type}(f:β→α→β)(d:α):∀(l:List α) (k i:Nat) (s:β),i+k=l.length→AE (λi s=>f s (l.getD i d)) k i s=(l.drop i).foldl f s
 |l,0,i,s,h=>by obtain rfl:i=l.length:=ω;simp[AE]
 |l,k+1,i,s,h=>by have hi:i<l.length:=ω;simp only[AE];rw[Vo f d l k (i+1) _ ω,h4_ hi,e7_];simp[hi]
def Ao8(hs:s.size≤1000000):Si s=C ((((SS (bl s):Nat):Int),()),()):=by
 have h:=AP (step:=λx=>JQ x.1.1 x.1.2.1 x.1.2.2.1 x.1.2.2.2.1) s.size (λi r=>((s,((r:Nat):Int),(s.size:Int),(i:Int),()),())) (λi r=>Ut r ((bl s).getD i 0).toNat) (λ_ r=>r<256) (λr=>((((r:Nat):Int),()),())) (λi r hi hr=>by
  have hx:=aG ((bl s).getD i 0);refine⟨?_,Aa7 hr hx⟩;show JQ s ((r:Nat):Int) (s.size:Int) (i:Int)=_;have w:aB.wrap ((i:Int)+1)=((i+1:Nat):Int):=by rw[Aa ω ω];omega
  unfold JQ;simp only[b_ (ω:(i:Int)<(s.size:Int)),Ac (ω:(0:Int)≤(i:Int)) (ω:(i:Int)<(s.size:Int)),d_,j_,GR];rw[Brg hr hx,Ay4 s _ _ (d6_ (n:=8) hr hx),a_,w];rfl) (λr _=>by
  show JQ s ((r:Nat):Int) (s.size:Int) (s.size:Int)=_;unfold JQ;simp only[f_ (Q_ (s.size:Int)),c_]) s.size 0 0 ω ω
 have h':=Ak h.1 ω;rw[Vo (λr (x:UInt8)=>Ut r x.toNat) 0 (bl s) s.size 0 0 (by rw[FE];omega),R_]at h';unfold Si;rw[show Pj ((s,(0:Int),(s.size:Int),(0:Int),()),())=_ from h'];rfl
def App(hs:s.size≤1000000):Pa s=C ((((SS (bl s):Nat):Int),()),()):=by
 have h:=AP (step:=λx=>JT x.1.1 x.1.2.1 x.1.2.2.1) s.size (λi r=>((s,((r:Nat):Int),(i:Int),()),())) (λi r=>Ut r ((bl s).getD i 0).toNat) (λ_ r=>r<256) (λr=>((((r:Nat):Int),()),())) (λi r hi hr=>by
  have hx:=aG ((bl s).getD i 0);refine⟨?_,Aa7 hr hx⟩;show JT s ((r:Nat):Int) (i:Int)=_;have w:aB.wrap ((i:Int)+1)=((i+1:Nat):Int):=by rw[Aa ω ω];omega
  unfold JT;simp only[b_ (ω:(i:Int)<(s.size:Int)),Ac (ω:(0:Int)≤(i:Int)) (ω:(i:Int)<(s.size:Int)),d_,j_,GR,Aa (n:=(((bl s).getD i 0).toNat:Int)) ω ω];rw[Bhm hr hx,Bah s _ (d6_ (n:=8) hr hx),a_,w];rfl) (λr _=>by
  show JT s ((r:Nat):Int) (s.size:Int)=_;unfold JT;simp only[f_ (Q_ (s.size:Int)),c_]) s.size 0 0 ω ω
 have h':=Ak h.1 ω;rw[Vo (λr (x:UInt8)=>Ut r x.toNat) 0 (bl s) s.size 0 0 (by rw[FE];omega),R_]at h';have hl:=Arp (bl s);unfold Pa;rw[show Pn ((s,(0:Int),(0:Int),()),())=_ from h'];simp only[a_];rw[show((bl s).foldl (λr (x:UInt8)=>Ut r x.toNat) 0)=SS (bl s)from rfl,QI ω ω]
def u8n(n:Int):UInt8:=UInt8.ofNat n.toNat
def Td(h:0≤n∧n<256):((u8n n).toNat:Int)=n:=by unfold u8n;rw[UInt8.toNat_ofNat'];omega
def txt(l:List UInt8):ByteArray:=⟨l.toArray⟩
def Gg(l:List UInt8):bl (txt l)=l:=Bse l
def Bq7(s:ByteArray):txt (bl s)=s:=Lh (Gg _)
def Ahf(a c:List UInt8):txt a++txt c=txt (a++c):=Lh (by rw[JW,Gg,Gg,Gg])
def FI(l:List UInt8):(txt l).size=l.length:=by rw[← FE,Gg]
def Aci(l:List Int):Hh l=txt (l.map u8n):=rfl
def Ab8(r:I):List UInt8:=[u8n r.R0,u8n r.D0,u8n r.I0,u8n (r.T0+2),u8n r.L2]
def Cb(r:I):List UInt8:=Ab8 r++[u8n ((SS (Ab8 r):Nat):Int)]
def Gz(r:I):(Cb r).length=6:=rfl
def Rf(hb:b.small){f d:Int}(h:Ai b f d=E):(0≤f∧f<100)∧(1≤d∧d≤2):=by have lo:=hb.lo;have hi:=hb.hi;unfold Ai NY at h;simp only[e_,S_,W_,Ap]at h;omega
structure RecOK(r:Record):Prop where
 k:1≤r.R0∧r.R0≤7
 f:0≤r.D0∧r.D0<100
 d:0≤r.I0∧r.I0<100
 c:-2≤r.T0∧r.T0<100
 v:0≤r.L2∧r.L2<256
def VE(hb:b.small)(hc:b.B0.length≤100)(h:At b r=E):RecOK r:=by
 have hk:=(VD h).2;have hcar:(r.R0=4∨r.R0=5∨r.R0=6)→r.D0=0∧r.I0=0:=λhq=>by
  unfold At Tw at h;rcases hq with q | q | q
  all_goals
   rw[q]at h;simp only[show((4:Int)==1)=B from rfl,show((4:Int)==2)=B from rfl,show((4:Int)==3)=B from rfl,show((5:Int)==1)=B from rfl,show((5:Int)==2)=B from rfl,show((5:Int)==3)=B from rfl,show((5:Int)==4)=B from rfl,show((6:Int)==1)=B from rfl,show((6:Int)==2)=B from rfl,show((6:Int)==3)=B from rfl,show((6:Int)==4)=B from rfl,show((6:Int)==5)=B from rfl,l_,d_,c_,e_,W_]at h;exact h.2.1.2
 rcases hk with h1 | h1 | h1 | h1 | h1 | h1 | h1
 ·have:=Rf hb h1.2.1
  exact⟨ω,this.1,ω,ω,ω⟩
 ·have:=Rf hb h1.2.1
  exact⟨ω,this.1,ω,ω,ω⟩
 ·have:=Rf hb h1.2.1
  exact⟨ω,this.1,ω,ω,ω⟩
 ·have:=hcar ω
  exact⟨ω,ω,ω,ω,ω⟩
 ·have:=hcar ω
  exact⟨ω,ω,ω,ω,ω⟩
 ·have:=hcar ω
  exact⟨ω,ω,ω,ω,ω⟩
 ·have:=Rf hb h1.2.1
  exact⟨ω,this.1,ω,ω,ω⟩
def Bhi(h:RecOK r):Hh [O.wrap r.R0,O.wrap r.D0,O.wrap r.I0,O.wrap (Q aB (r.T0+2)),O.wrap r.L2]=txt (Ab8 r):=by obtain⟨h1,h2,h3,h4,h5⟩:=h;rw[QI (n:=r.R0) ω ω,QI (n:=r.D0) ω ω,QI (n:=r.I0) ω ω,Aa (n:=r.T0+2) ω ω,QI (n:=r.T0+2) ω ω,QI (n:=r.L2) ω ω];rfl
def Hu(b:H)(r:I):ByteArray:=bif At b r then txt (Cb r)else txt []
section
variable{b:H}(hb:b.small)(hc:b.B0.length≤100)
include hb hc
theorem TT(r:I):IP b.C0 b.E0 b.H0 b.M0 b.J0 b.L0 b.N0 b.B0 r.R0 r.D0 r.I0 r.T0 r.L2=C ((Hu b r,(bif At b r then 0 else 1),()),()):=by
 unfold IP Hu;rw[UQ hb hc r];simp only[a_];cases hv:At b r with
 |false=>rfl
 |true=>have h:=VE hb hc hv;simp only[o_,c_,d_,Bhi h];rw[Ao8 (by rw[FI];show 5≤1000000;omega)];simp only[a_,Gg,Aci];rw[Av (by rw[FI,FI];show 5+1≤4611686018427387904;omega),Ahf];rfl
theorem Aj7(r:I):Pd b.C0 b.E0 b.H0 b.M0 b.J0 b.L0 b.N0 b.B0 r.R0 r.D0 r.I0 r.T0 r.L2=C ((Hu b r,(bif At b r then 0 else 1),()),()):=by
 unfold Pd Hu;rw[Anw hb hc r];simp only[a_];cases hv:At b r with
 |false=>rfl
 |true=>have h:=VE hb hc hv;simp only[o_,c_,d_,Bhi h];rw[App (by rw[FI];show 5≤1000000;omega)];simp only[a_,Gg,Aci];rw[Av (by rw[FI,FI];show 5+1≤4611686018427387904;omega),Ahf];rfl
end
def fld(l:List UInt8)(i:Nat):Int:=((l.getD i 0).toNat:Int)
def Auu(l:List UInt8):I:=⟨fld l 0,fld l 1,fld l 2,fld l 3-2,fld l 4⟩
def Adj(b:H)(l:List UInt8):Option I:=bif l.length==6&&(((((SS (l.take 5):Nat):Int))==fld l 5)&&At b (Auu l))then C (Auu l)else none
def Ay9(h:Adj b l=C r):At b r=E:=by
 unfold Adj at h;cases hq:(l.length==6&&(((((SS (l.take 5):Nat):Int))==fld l 5)&&At b (Auu l)))with
 |false=>rw[hq]at h;cases h
 |true=>rw[hq]at h;cases h;rw[e_,e_]at hq;exact hq.2.2
def Bh0(hb:b.small)(hc:b.B0.length≤100)(h:At b r=E):Adj b (Cb r)=C r:=by
 obtain⟨h1,h2,h3,h4,h5⟩:=VE hb hc h;have hs:=Arp (Ab8 r);have e:Auu (Cb r)=r:=by show aE ((u8n r.R0).toNat:Int) ((u8n r.D0).toNat:Int) ((u8n r.I0).toNat:Int) (((u8n (r.T0+2)).toNat:Int)-2) ((u8n r.L2).toNat:Int)=r;rw[Td ω,Td ω,Td ω,Td ω,Td ω,show r.T0+2-2=r.T0 by omega]
 have e5:fld (Cb r) 5=((SS (Ab8 r):Nat):Int):=by show((u8n ((SS (Ab8 r):Nat):Int)).toNat:Int)=_;exact Td ω
 unfold Adj;rw[e,h,e5,show(Cb r).take 5=Ab8 r from rfl,Gz];simp
def Nj(b:H):Nat→List UInt8→List I
 |0,_=>[]
 |k+1,l=>if 6≤l.length then match Adj b (l.take 6)with | some r=>r::Nj b k (l.drop 6) | none=>[]else []
def Od(b:H)(s:ByteArray):List I:=Nj b s.size (bl s)
def YX(b:H):∀(k:Nat) (l:List UInt8),6*(Nj b k l).length≤l.length
 |0,_=>by simp[Nj]
 |k+1,l=>by
  simp only[Nj];split
  ·split
   ·rename_i h _ r _
    have:=YX b k (l.drop 6)
    rw[X_]at this;rw[x_];omega
   ·simp
  ·simp
def Vy(b:H):∀(k:Nat) (l:List UInt8),∀r∈Nj b k l,At b r=E
 |0,_,_,h=>by simp[Nj]at h
 |k+1,l,r,h=>by
  simp only[Nj]at h;split at h
  ·split at h
   ·rename_i _ _ r' hr;rcases q_.1 h with rfl | h
    ·exact Ay9 hr
    ·exact Vy b k _ r h
   ·cases h
  ·cases h
def An1{b:H}(hb:b.small)(hc:b.B0.length≤100){t:List UInt8}(ht:t.length<6):∀(rs:List I) (k:Nat),rs.length≤k→(∀r∈rs,At b r=E)→Nj b k (rs.flatMap Cb++t)=rs
 |[],0,_,_=>rfl
 |[],k+1,_,_=>by simp only[Nj,List.flatMap_nil,a5_];rw[if_neg ω]
 |r::rs,0,h,_=>by simp at h
 |r::rs,k+1,h,hv=>by
  have e1:(r::rs).flatMap Cb++t=Cb r++(rs.flatMap Cb++t):=by rw[a1_,M_]
  have e2:(Cb r++(rs.flatMap Cb++t)).take 6=Cb r:=e6_ (Gz r);have e3:(Cb r++(rs.flatMap Cb++t)).drop 6=rs.flatMap Cb++t:=List.drop_left' (Gz r);simp only[Nj];rw[e1,e2,e3,Bh0 hb hc (hv r (t_ ..)),if_pos (by rw[h_,Gz];omega),An1 hb hc ht rs k (by simp at h;omega) λx hx=>hv x (B_ _ hx)]
def KM(l:List UInt8):List Int:=l.map λx=>(x.toNat:Int)
def Avk(l:List UInt8):Hh (KM l)=txt l:=by
 rw[Aci];unfold KM;rw[List.map_map];congr 1
 conv=>rhs;rw[← List.map_id l]
 refine List.map_congr_left λx _=>?_;show UInt8.ofNat (aA (x.toNat:Int))=x;rw[j_,UInt8.ofNat_toNat]
def Bdq(l:List UInt8):(KM l).all (λn=>decide (0≤n)&&decide (n<256))=E:=by
 rw[K_];intro n hn;obtain⟨x,_,rfl⟩:=b5_.1 hn
 have:x.toNat<256:=aG x
 simp only[e_,r_];omega
def Aw7(h:l≠[]):Fx (KM l)=C ((txt l,()),(((),KM l,()),())):=by
 unfold Fx;rw[Bdq,Avk,show Avc (KM l)=E by
  cases l with
  |nil=>exact absurd rfl h
  |cons a t=>rfl]
 rfl
def Bbu(s:ByteArray)(h:l.length+s.size≤2147483648):DR s (KM l)=C (((s.size:Int),(),()),(((),KM (l++bl s),()),())):=by unfold DR wsF;rw[show(KM l).length=l.length from c8_ _,Av h];unfold KM bl;rw[List.map_append];rfl
def Ahx(b:H)(r:I):(bl (Hu b r)).length≤6:=by
 unfold Hu;cases At b r with
 |true=>rw[d_,Gg,Gz];omega
 |false=>rw[c_,Gg];simp
def WG(h:At b r=E):Hu b r=txt (Cb r):=by unfold Hu;rw[h];rfl
def Abg{b:H}:∀{rs:List I},(∀r∈rs,At b r=E)→rs.flatMap (λr=>bl (Hu b r))=rs.flatMap Cb
 |[],_=>rfl
 |r::t,h=>by rw[a1_,a1_,WG (h r (t_ ..)),Gg,Abg λx hx=>h x (B_ _ hx)]
def ZD(rs:List I):(rs.flatMap Cb).length=6*rs.length:=by
 induction rs with
 |nil=>rfl
 |cons r t ih=>rw[a1_,h_,ih,Gz,x_];omega
section
variable{b:H}(hb:b.small)(hc:b.B0.length≤100)
include hb hc
theorem Ak2(bud:Int){rs:List I}(hl:rs.length≤1000000)(s t:Sto):LR ((bud,(),(),(),(),rs,(rs.length:Int),(0:Int),()),(b.tup,(s.h0,s.h1,s.sel,()),(t.h0,t.h1,t.sel,()),((),[],()),()))=C ((bud,(),(),(),(),()),(b.tup,(s.h0,s.h1,s.sel,()),(t.h0,t.h1,t.sel,()),((),KM (rs.flatMap λr=>bl (Hu b r)),()),())):=by
 have h:=AP (step:=λx=>letI a:=x.2.1.2.2;letI c:=x.1.2.2.2.2.2;letI d:=x.2.2;letI f:=a.2.2;GZ x.1.1 c.1 c.2.1 c.2.2.1 x.2.1.1 x.2.1.2.1 a.1 a.2.1 f.1 f.2.1 f.2.2.1 f.2.2.2.1 d.1.1 d.1.2.1 d.1.2.2.1 d.2.1.1 d.2.1.2.1 d.2.1.2.2.1 d.2.2.1.2.1) rs.length
  (λi (l:List UInt8)=>((bud,(),(),(),(),rs,(rs.length:Int),(i:Int),()),(b.tup,(s.h0,s.h1,s.sel,()),(t.h0,t.h1,t.sel,()),((),KM l,()),()))) (λi l=>l++bl (Hu b (rs.getD i (aE 0 0 0 0 0)))) (λi l=>l.length≤6*i) (λl=>((bud,(),(),(),(),()),(b.tup,(s.h0,s.h1,s.sel,()),(t.h0,t.h1,t.sel,()),((),KM l,()),()))) (λi l hi hs=>by
   have he:=Ahx b (rs.getD i (aE 0 0 0 0 0));refine⟨?_,by rw[h_];omega⟩;show GZ bud rs (rs.length:Int) (i:Int) b.C0 b.E0 b.H0 b.M0 b.J0 b.L0 b.N0 b.B0 s.h0 s.h1 s.sel t.h0 t.h1 t.sel (KM l)=_;unfold GZ;simp only[b_ (ω:(i:Int)<(rs.length:Int)),Ac (ω:(0:Int)≤(i:Int)) (ω:(i:Int)<(rs.length:Int)),d_,j_,TT hb hc,a_,Bbu (Hu b (rs.getD i (aE 0 0 0 0 0))) (l:=l) (by rw[← FE];omega),Gb hi (show rs.length≤Ba by unfold Ba;omega)];rfl) (λl _=>by
   show GZ bud rs (rs.length:Int) (rs.length:Int) b.C0 b.E0 b.H0 b.M0 b.J0 b.L0 b.N0 b.B0 s.h0 s.h1 s.sel t.h0 t.h1 t.sel (KM l)=_;unfold GZ;simp only[f_ (Q_ (rs.length:Int)),c_];rfl) rs.length 0 [] ω σ
 have h':=Ak h.1 ω;have e:AE (λi l=>l++bl (Hu b (rs.getD i (aE 0 0 0 0 0)))) rs.length 0 []=rs.flatMap λr=>bl (Hu b r):=by rw[HB (λi=>bl (Hu b (rs.getD i (aE 0 0 0 0 0)))),a5_,Ni (λr=>bl (Hu b r)) (aE 0 0 0 0 0) rs 0 rs.length ω,R_]
 rw[e]at h';exact h'
end
def Dz(b:H)(s:Sto)(m:Img)(bud:Int):Sto×Int×Int:=
 bif !(decide (s.ok b.H0))then(Sto.no,0,1)else bif decide (bud<0)then(Sto.no,0,1)else bif !(m.ok b)then(Sto.no,0,1)else
 bif((s.erase b.H0 (1-s.sel) bud).2.2==0)then
  (bif(((s.erase b.H0 (1-s.sel) bud).1.write b.H0 (1-s.sel) (txt ((CM m).flatMap Cb)) (s.erase b.H0 (1-s.sel) bud).2.1).2.2==0)then
   ((s.erase b.H0 (1-s.sel) bud).1.write b.H0 (1-s.sel) (txt ((CM m).flatMap Cb)) (s.erase b.H0 (1-s.sel) bud).2.1).1.choose b.H0 (1-s.sel) ((s.erase b.H0 (1-s.sel) bud).1.write b.H0 (1-s.sel) (txt ((CM m).flatMap Cb)) (s.erase b.H0 (1-s.sel) bud).2.1).2.1
  else(s.erase b.H0 (1-s.sel) bud).1.write b.H0 (1-s.sel) (txt ((CM m).flatMap Cb)) (s.erase b.H0 (1-s.sel) bud).2.1)
 else s.erase b.H0 (1-s.sel) bud
def Ap7(room:Int)(s:Sto)(half bud:Int)(t:Sto)(hb:bud<9223372036854775808):(s.act room half bud t).2.1<9223372036854775808:=by
 unfold Sto.act;split
 ·show(0:Int)<_;omega
 ·split
  ·show(0:Int)<_;omega
  ·show bud-1<_;omega
def Ajl(room:Int)(s:Sto)(half:Int)(d:ByteArray)(bud:Int)(hb:bud<9223372036854775808):(s.write room half d bud).2.1<9223372036854775808:=by
 unfold Sto.write;split
 ·show(0:Int)<_;omega
 ·split
  ·show(0:Int)<_;omega
  ·split
   ·show(0:Int)<_;omega
   ·show bud-(d.size:Int)<_;omega
def Agp(hb:b.small)(hc:b.B0.length≤100)(s:Sto)(hf:m.fit)(hbud:bud<9223372036854775808):
  NF b.C0 b.E0 b.H0 b.M0 b.J0 b.L0 b.N0 b.B0 s.h0 s.h1 s.sel m.F0 m.O0 m.K0 m.A0 bud=C (Sto.out (Dz b s m bud)):=by
 have hmx:100000≤maxLen:=by decide
 have hp:=hf.p;have he:=hf.e;unfold NF Dz;rw[IR,CW hb m ω ω,Aeg hb hf];simp only[a_];by_cases hs:s.ok b.H0
 ·rw[b_ (show Sto.ok b.H0 ⟨s.h0,s.h1,s.sel⟩from hs)];by_cases hb0:bud<0
  ·rw[b_ hb0];rfl
  rw[f_ hb0];cases hok:m.ok b with
  |false=>rfl
  |true=>
   have hm:=Img.ok_iff.1 hok;have hcars:=Am hm.code;have hlp:=hm.lp;have hsn:UY b m=CM m:=by unfold UY;rw[hok];rfl
   have hsl:=Zf m;have hne:(CM m).flatMap Cb≠[]:=λh0=>by have h1:=ZD (CM m);rw[h0,hsl,c7_]at h1;omega
   have hloop:=Ak2 hb hc bud (rs:=CM m) (by rw[hsl];omega) s Sto.no;rw[Abg (SR hm)]at hloop;simp only[Bldg.tup,Sto.no,noB]at hloop;have hsel:aB.wrap (1-s.sel)=1-s.sel:=by obtain⟨_,_,_,_,h5⟩:=hs;exact Aa ω ω
   simp only[o_,c_,hsn,hloop,a_,hsel,Avn _ _ _ _ _ _ hbud,Sto.out];have hb1:=Ap7 b.H0 s (1-s.sel) bud (s.set (1-s.sel) noB) hbud;rw[show s.act b.H0 (1-s.sel) bud (s.set (1-s.sel) noB)=s.erase b.H0 (1-s.sel) bud from rfl]at hb1;rw[show Sto.mk s.h0 s.h1 s.sel=s from rfl];generalize s.erase b.H0 (1-s.sel) bud=r1 at hb1⊢;cases hq:r1.2.2==0 with
   |false=>simp only[c_,a_,hq]
   |true=>
    simp only[d_,Aw7 hne,a_,Tj _ _ _ _ _ _ _ hb1,Sto.out];have hb2:=Ajl b.H0 r1.1 (1-s.sel) (txt ((CM m).flatMap Cb)) r1.2.1 hb1;rw[show Sto.mk r1.1.h0 r1.1.h1 r1.1.sel=r1.1 from rfl];generalize r1.1.write b.H0 (1-s.sel) (txt ((CM m).flatMap Cb)) r1.2.1=r2 at hb2⊢;cases hq2:r2.2.2==0 with
    |false=>simp only[c_]
    |true=>simp only[d_,Ap4 _ _ _ _ _ _ hb2,a_,Sto.out]
 ·rw[f_ (show ¬Sto.ok b.H0 ⟨s.h0,s.h1,s.sel⟩from hs)];rfl
def Je(b:H)(m:Img)(r:I):Bool:=r.R0==1&&(!(FV (Au r.D0 r.I0) m.A0)&&!(KP b m))
def FH(b:H)(s:Sto)(m:Img)(r:I)(bud:Int):Sto×Int×Int:=bif decide ((6:Int)≤b.H0-(s.cur.size:Int))then s.write b.H0 s.sel (txt (Cb r)) bud else Dz b s (Aw m r) bud
def Qq(b:H)(s:Sto)(m:Img)(r:I)(bud:Int):Sto×Img×Int×Int:=
 bif !(m.ok b&&At b r)then(Sto.no,aC,0,1)else bif !(decide (s.ok b.H0))then(Sto.no,aC,0,1)else bif decide (bud<0)then(Sto.no,aC,0,1)else
 bif Je b m r then(Sto.no,aC,0,7)else
 bif(FH b s m r bud).2.2==0 then((FH b s m r bud).1,Aw m r,(FH b s m r bud).2.1,(FH b s m r bud).2.2)
 else bif(FH b s m r bud).2.2==8 then((FH b s m r bud).1,m,0,(FH b s m r bud).2.2)else(Sto.no,aC,0,(FH b s m r bud).2.2)
def Ale(r:Sto×Img×Int×Int):(Unit×Unit×Int×Int×Unit)×((ByteArray×ByteArray×Int×Unit)×(List Int×List Bool×List Bool×List J×Unit)×Unit):=(((),(),r.2.2.1,r.2.2.2,()),((r.1.h0,r.1.h1,r.1.sel,()),r.2.1.tup,()))
def Aju(hb:b.small)(hc:b.B0.length≤100)(s:Sto)(hp:m.F0.length≤100000)(hl:m.A0.length≤10000)(r:I)(hbud:bud<9223372036854775808):
    OX b.C0 b.E0 b.H0 b.M0 b.J0 b.L0 b.N0 b.B0 s.h0 s.h1 s.sel m.F0 m.O0 m.K0 m.A0 r.R0 r.D0 r.I0 r.T0 r.L2 bud=C (Ale (Qq b s m r bud)):=by
  unfold OX Qq;rw[YF hb hc m hp hl r,IR];unfold XZ;cases hq:m.ok b&&At b r with
  |false=>rfl
  |true=>
    rw[e_]at hq;have hm:=Img.ok_iff.1 hq.1;simp only[a_,d_,O_,c_,o_];by_cases hs:s.ok b.H0
    · rw[b_ (show Sto.ok b.H0 ⟨s.h0,s.h1,s.sel⟩from hs)]
      by_cases hb0:bud<0
      · rw[b_ hb0];rfl
      rw[f_ hb0];obtain⟨hm2,hl2⟩:=Mo hm hq.2;have h1:=hm.lp;have h2:=hm.lf;have h3:=hm.ll;have g1:=hm2.lp;have g2:=hm2.lf;have g3:=hm2.ll;have hf2:(Aw m r).fit:=⟨ω,ω,ω,ω⟩
      have hcur:(s.cur.size:Int)≤b.H0:=by
        obtain⟨_,_,h3,h4,_⟩:=hs;unfold Sto.cur;split
        · exact h4
        · exact h3
      have hroom:=Yh hm.code;have wr:aB.wrap (b.H0-(s.cur.size:Int))=b.H0-(s.cur.size:Int):=Aa ω ω;have hsz:((Hu b r).size:Int)=6:=by rw[WG hq.2,FI,Gz];rfl
      rw[Aaq m hm.so ω];have step:∀q:Bool,q=Je b m r→(bif q then C (((),(),(0:Int),(7:Int),()),(((N (L [])),(N (L [])),(0:Int),()),(([]:List Int),([]:List Bool),([]:List Bool),([]:List J),()),()))else
          C (Ale (bif(FH b s m r bud).2.2==0 then((FH b s m r bud).1,Aw m r,(FH b s m r bud).2.1,(FH b s m r bud).2.2)else bif(FH b s m r bud).2.2==8 then((FH b s m r bud).1,m,0,(FH b s m r bud).2.2)else(Sto.no,aC,0,(FH b s m r bud).2.2))))=
        C (Ale (bif Je b m r then(Sto.no,aC,0,7)else(bif(FH b s m r bud).2.2==0 then((FH b s m r bud).1,Aw m r,(FH b s m r bud).2.1,(FH b s m r bud).2.2)else bif(FH b s m r bud).2.2==8 then((FH b s m r bud).1,m,0,(FH b s m r bud).2.2)else(Sto.no,aC,0,(FH b s m r bud).2.2)))):=by
        rintro q rfl;cases Je b m r<;>rfl
      simp only[o_,c_,a_];rw[← step _ rfl];have e5 : ∀ q : Bool, (bif (r.R0 == (1 : Int)) then
              bif(!(FV (Au r.D0 r.I0) m.A0))then
                (MK b.C0 b.E0 b.H0 b.M0 b.J0 b.L0 b.N0 b.B0 m.F0 m.O0 m.K0 m.A0).bind λy4=>
                C ((bud,(),(),(),(),(),(),(),(!y4.1.1),()),((b.C0,b.E0,b.H0,b.M0,b.J0,b.L0,b.N0,b.B0,()),(s.h0,s.h1,s.sel,()),(m.F0,m.O0,m.K0,m.A0,()),(r.R0,r.D0,r.I0,r.T0,r.L2,()),((N (L [])),(N (L [])),(0:Int),()),(([]:List Int),([]:List Bool),([]:List Bool),([]:List J),()),(Aw m r).tup,()))
              else
                C ((bud,(),(),(),(),(),(),(),B,()),((b.C0,b.E0,b.H0,b.M0,b.J0,b.L0,b.N0,b.B0,()),(s.h0,s.h1,s.sel,()),(m.F0,m.O0,m.K0,m.A0,()),(r.R0,r.D0,r.I0,r.T0,r.L2,()),((N (L [])),(N (L [])),(0:Int),()),(([]:List Int),([]:List Bool),([]:List Bool),([]:List J),()),(Aw m r).tup,()))
            else
              C ((bud,(),(),(),(),(),(),(),B,()),((b.C0,b.E0,b.H0,b.M0,b.J0,b.L0,b.N0,b.B0,()),(s.h0,s.h1,s.sel,()),(m.F0,m.O0,m.K0,m.A0,()),(r.R0,r.D0,r.I0,r.T0,r.L2,()),((N (L [])),(N (L [])),(0:Int),()),(([]:List Int),([]:List Bool),([]:List Bool),([]:List J),()),(Aw m r).tup,())))=C ((bud,(),(),(),(),(),(),(),Je b m r,()),((b.C0,b.E0,b.H0,b.M0,b.J0,b.L0,b.N0,b.B0,()),(s.h0,s.h1,s.sel,()),(m.F0,m.O0,m.K0,m.A0,()),(r.R0,r.D0,r.I0,r.T0,r.L2,()),((N (L [])),(N (L [])),(0:Int),()),(([]:List Int),([]:List Bool),([]:List Bool),([]:List J),()),(Aw m r).tup,())):=λ_=>by
        rw[Aap hb m ω hp ω];unfold Je;cases r.R0==1<;>cases FV (Au r.D0 r.I0) m.A0<;>rfl
      have e5':=e5 E;simp only[Img.tup]at e5'⊢;rw[e5'];simp only[a_];cases Je b m r with
      |true=>rfl
      |false=>
        simp only[c_];rw[TT hb hc,XP];simp only[a_,hsz];rw[show Sto.cur ⟨s.h0,s.h1,s.sel⟩=s.cur from rfl,wr,WG hq.2];have hw:It b.H0 s.h0 s.h1 s.sel s.sel (txt (Cb r)) bud=_:=Tj b.H0 s.h0 s.h1 s.sel s.sel (txt (Cb r)) bud hbud;have hcp:=Agp hb hc s hf2 hbud;rw[hw,hcp];simp only[a_];have e10:∀{A:Type}(f:Sto×Int×Int→A),(bif decide ((6:Int)≤b.H0-(s.cur.size:Int))then C (f (s.write b.H0 s.sel (txt (Cb r)) bud))else C (f (Dz b s (Aw m r) bud)))=C (f (FH b s m r bud)):=λf=>by unfold FH;cases decide ((6:Int)≤b.H0-(s.cur.size:Int))<;>rfl
        rw[show Sto.mk s.h0 s.h1 s.sel=s from rfl];have e10':=e10 λw=>((w.2.1,(),(),(),(),(),w.2.2,()),((w.1.h0,w.1.h1,w.1.sel,()),(m.F0,m.O0,m.K0,m.A0,()),((N (L [])),(N (L [])),(0:Int),()),(([]:List Int),([]:List Bool),([]:List Bool),([]:List J),()),(Aw m r).tup,()))
        simp only[Img.tup]at e10';simp only[Sto.out];rw[e10'];simp only[a_];generalize FH b s m r bud=w;cases w.2.2==0 with
        |true=>rfl
        |false=>
          simp only[c_];cases w.2.2==8 with
          |true=>rw[YI m hp ω ω ω];rfl
          |false=>rfl
    · rw[f_ (show ¬Sto.ok b.H0 ⟨s.h0,s.h1,s.sel⟩from hs)]
      rfl
def CA(b:H)(s:Sto):Img:=Aq (GG b) (Od b s.cur)
def sB:H:=KE 4 2 30
def sM1:Img:=⟨[0,0],[B,B],[B,B],[⟨2,1,-1,0,B⟩]⟩
def sM2:Img:=⟨[0,0],[B,B],[B,B],[⟨2,1,0,0,B⟩]⟩
def Arm:sB.code=0:=Asf ω ω ω ω ⟨ω,ω⟩
def ok1:sM1.ok sB=E:=by unfold Img.ok FY Hv Ai;rw[Arm];rfl
def ok2:sM2.ok sB=E:=by unfold Img.ok FY Hv Ai;rw[Arm];rfl
end Go.Ovl
