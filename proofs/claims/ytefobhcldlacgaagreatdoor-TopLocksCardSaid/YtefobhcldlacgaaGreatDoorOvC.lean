import Derived.Test.YtefobhcldlacgaaGreatDoorOvB
import Derived.Test.YtefobhcldlacgaaGreatDoorDefs4
import Derived.Test.YtefobhcldlacgaaGreatDoorOvA
set_option linter.all false
open Option renaming some->B
open Bool renaming false->C,true->E
open Go renaming b_->H
open Go.Ovl renaming Bldg->I,Record->J
open Int renaming toNat->L
open Array renaming mk->N
open ByteArray renaming mk->O
open Go.IntKind renaming u8->P,u32->aA,wrap->aB,i64->aD
open Go.Ovl.Record renaming mk->Q
open Go.Ovl.Img renaming none->aC
open UInt8 renaming toNat_lt->aE
namespace Go.Ovl
open Go Go.Ab
set_option maxRecDepth 100000
variable{b:I}
def Ks(floor dir:Int):Eg floor dir=B (((),()),(((FH floor dir).1,(FH floor dir).2,()),())):=by
 unfold Eg FH inR;by_cases g:0≤floor
 ·by_cases g':floor<32
  ·rw[H g,H g',H (ω:floor≤31)];simp only[d_,a_,a6_,H g];cases dir==1<;>cases dir==2<;>rfl
  ·rw[H g,f_ g',f_ (ω:¬floor≤31)];rfl
 ·rw[f_ g];rfl
def Fb(a c:Int×Int):Cm a.1 a.2 c.1 c.2=B (((),()),(((BS a c).1,(BS a c).2,()),())):=by unfold Cm;rw[Au4,Au4];rfl
def GB(a c:Int×Int):Ef a.1 a.2 c.1 c.2=B (((),()),(((Az a c).1,(Az a c).2,()),())):=by unfold Ef;rw[OF,OF];rfl
def Ct(a c:Int×Int):Int×Int:=(vb (bv a.1&&&bv c.1),vb (bv a.2&&&bv c.2))
def Wa(a c:Int×Int):EC (Ct a c):=⟨Ln _,Ln _⟩
def FV(a c:Int×Int):Cp a.1 a.2 c.1 c.2=B (((),()),(((Ct a c).1,(Ct a c).2,()),())):=by unfold Cp;rw[ZK,ZK];rfl
def Jq(a c:Int×Int)(f:Nat)(d:Int):Am (Ct a c) f d=(Am a f d&&Am c f d):=by unfold Am Ct;simp only[Ti,f7_];cases d==1<;>cases d==2<;>rfl
def isZ(c:Int×Int):Bool:=(c.1==0)&&((c.2==0)&&E)
def Kx{c:Int×Int}(hc:EC c):isZ c=E↔∀f:Nat,f<32→∀d:Int,(d=1∨d=2)→Am c f d=C:=by
 constructor
 ·intro h f _ d _;unfold isZ at h;simp only[e_,U_]at h;obtain⟨h1,h2,_⟩:=h;rw[show c=(0,0)from Prod.ext h1 h2,EJ]
 ·intro h
  have:c=(0,0):=ME hc GH λf hf d hd=>by rw[h f hf d hd,EJ]
  rw[this];rfl
def PA(c:Int×Int){F D:Int}(hF:0≤F∧F<32)(hD:D=1∨D=2):Dt c.1 c.2 F D=B ((Am c F.toNat D,()),()):=by
 unfold Dt;rw[Ks];simp only[a_];rw[FV c (FH F D)];simp only[a_];show B ((!(isZ (Ct c (FH F D))),()),())=_;have e:isZ (Ct c (FH F D))=!Am c F.toNat D:=by
  cases h:Am c F.toNat D with
  |false=>
   refine(Kx (Wa _ _)).2 λf hf d hd=>?_;rw[Jq,MA hF hD f hd];by_cases g:((f:Int),d)=(F,D)
   ·obtain⟨h1,h2⟩:=Prod.mk.inj g;rw[show f=F.toNat by omega,h2,h];rfl
   ·rw[f_ g,c8_]
  |true=>
   cases hz:isZ (Ct c (FH F D))with
   |false=>rfl
   |true=>
    have:=(Kx (Wa _ _)).1 hz F.toNat ω D hD
    rw[Jq,MA hF hD F.toNat hD,h,H (show(((F.toNat:Nat):Int),D)=(F,D)by rw[f4_ hF.1])]at this;cases this
 rw[e,Bool.not_not]
def Bz(b:I):Int×Int:=(aB aA (aB aA (1*2^min (L (b.C0-1)) (IntKind.bits .u32))-1),aA.wrap (aB aA (aB aA (1*2^min (L (b.C0-1)) (IntKind.bits .u32))-1)*2^min (L (1:Int)) (IntKind.bits .u32)))
def Ld(hb:b.small)(hcode:b.code=0):Fl b.C0 b.F0 b.H0 b.M0 b.K0 b.L0 b.N0 b.B0=B (((),()),(((Bz b).1,(Bz b).2,()),())):=by have lo:=hb.lo;have hi:=hb.hi;unfold Fl Bz;rw[AR,hcode];simp only[a_,P_,c_,Aa (n:=b.C0-1) ω ω,H (ω:0≤b.C0-1),d_]
def Aj0(n:Nat):Int:=aA.wrap (aB aA (1*2^min n (IntKind.bits .u32))-1)
def Bcj:((List.range 9).all λn=>(List.range 32).all λi=>(CW (Aj0 n) i==decide (i<n))&&(CW (aB aA (Aj0 n*2^min (L 1) (IntKind.bits .u32))) i==(decide (1≤i)&&decide (i≤n))))=E:=κ
def Bck(b:I):EC (Bz b):=by
 have k:∀n:Int,0≤aA.wrap n∧aA.wrap n<4294967296:=λn=>by simp only[aB,IntKind.signed,IntKind.bits];simp;omega
 exact⟨k _,k _⟩
def WM(hb:b.small)(hcode:b.code=0){f:Nat}(hf:f<32){d:Int}(hd:d=1∨d=2):Am (Bz b) f d=Ap b (f:Int) d:=by
 have lo:=hb.lo;have hi:=hb.hi;have t:=I_.1 (I_.1 Bcj (b.C0-1).toNat (List.mem_range.2 ω)) f (List.mem_range.2 hf);rw[e_,U_,U_]at t;unfold Ap Oj;rw[hcode];rcases hd with rfl | rfl
 ·have e:Am (Bz b) f 1=CW (Aj0 (b.C0-1).toNat) f:=rfl;rw[e,t.1];unfold inR;rw[H (ω:(0:Int)≤(f:Int))];by_cases g:f<(b.C0-1).toNat
  ·rw[H g,H (ω:(f:Int)≤b.C0-2)];rfl
  ·rw[f_ g,f_ (ω:¬(f:Int)≤b.C0-2)];rfl
 ·have e:Am (Bz b) f 2=CW (aB aA (Aj0 (b.C0-1).toNat*2^min (L 1) (IntKind.bits .u32))) f:=rfl;rw[e,t.2];unfold inR;by_cases g:1≤f
  ·rw[H g,H (ω:(1:Int)≤(f:Int))];by_cases g':f≤(b.C0-1).toNat
   ·rw[H g',H (ω:(f:Int)≤b.C0-1)];rfl
   ·rw[f_ g',f_ (ω:¬(f:Int)≤b.C0-1)];rfl
  ·rw[f_ g,f_ (ω:¬(1:Int)≤(f:Int))];rfl
def WL(b:I)(i:Nat)(s:Int×Int):Int×Int:=(bif Ap b (i:Int) 1 then orC s.1 (Vj (i:Int))else s.1,bif Ap b (i:Int) 2 then orC s.2 (Vj (i:Int))else s.2)
def Ao8(hb:b.small)(hcode:b.code=0):RS b.C0 b.F0 b.H0 b.M0 b.K0 b.L0 b.N0 b.B0=B (((),()),(((Bz b).1,(Bz b).2,()),())):=by
 have h:=Bc (step:=λx=>letI a:=x.2.1.2.2;letI c:=a.2.2;Km x.1.2.2.2.1 x.2.1.1 x.2.1.2.1 a.1 a.2.1 c.1 c.2.1 c.2.2.1 c.2.2.2.1 x.2.2.1.1 x.2.2.1.2.1 x.2.2.2.1.1 x.2.2.2.1.2.1) 32 (λi (s:Int×Int)=>(((),(),(),(i:Int),()),(b.tup,((0:Int),(0:Int),()),(s.1,s.2,()),()))) (WL b)
  (λi s=>EC s∧∀f:Nat,f<32→∀d:Int,(d=1∨d=2)→Am s f d=(decide (f<i)&&Ap b (f:Int) d)) (λs=>(((),(),()),(((0:Int),(0:Int),()),(s.1,s.2,()),()))) (λi s hi hs=>by
  have w:IntKind.u64.wrap (i:Int)=(i:Int):=CN ω ω;have hp:∀j,CW (Vj (i:Int)) j=decide (j=i):=λj=>Apt (k:=i) hi j;refine⟨?_,⟨?_,?_⟩,λf hf d hd=>?_⟩
  ·show Km (i:Int) b.C0 b.F0 b.H0 b.M0 b.K0 b.L0 b.N0 b.B0 0 0 s.1 s.2=_;unfold Km WL;rw[RI hb,H (ω:(i:Int)<32)];simp only[a_,d_,w,H (ω:(0:Int)≤(i:Int)),Au4];cases Ap b (i:Int) 1 with
   |true=>simp only[d_,a_,RI hb,w,H (ω:(0:Int)≤(i:Int)),Aa (n:=(i:Int)+1) ω ω];cases Ap b (i:Int) 2<;>rfl
   |false=>simp only[c_,a_,RI hb,w,H (ω:(0:Int)≤(i:Int)),d_,Aa (n:=(i:Int)+1) ω ω];cases Ap b (i:Int) 2<;>rfl
  ·unfold WL;cases Ap b (i:Int) 1
   ·exact hs.1.1
   ·exact Ln _
  ·unfold WL;cases Ap b (i:Int) 2
   ·exact hs.1.2
   ·exact Ln _
  ·have hk:=hs.2 f hf d hd;have dk:decide (f<i+1)=(decide (f<i)||decide (f=i)):=by
    rw[Bool.eq_iff_iff,R_,t_,t_,t_];omega
   rw[dk];rcases hd with rfl | rfl
   ·have e:Am (WL b i s) f 1=CW (bif Ap b (i:Int) 1 then orC s.1 (Vj (i:Int))else s.1) f:=rfl;have hk':CW s.1 f=_:=hk;rw[e];cases hc:Ap b (i:Int) 1 with
    |true=>
     rw[d_];unfold orC;rw[Ti,BitVec.getLsbD_or];show(CW s.1 f||CW (Vj (i:Int)) f)=_;rw[hk',hp];by_cases g:f=i
     ·subst g;rw[hc];simp
     ·rw[f_ g];simp
    |false=>
     rw[c_,hk'];by_cases g:f=i
     ·subst g;rw[hc];simp
     ·rw[f_ g];simp
   ·have e:Am (WL b i s) f 2=CW (bif Ap b (i:Int) 2 then orC s.2 (Vj (i:Int))else s.2) f:=rfl;have hk':CW s.2 f=_:=hk;rw[e];cases hc:Ap b (i:Int) 2 with
    |true=>
     rw[d_];unfold orC;rw[Ti,BitVec.getLsbD_or];show(CW s.2 f||CW (Vj (i:Int)) f)=_;rw[hk',hp];by_cases g:f=i
     ·subst g;rw[hc];simp
     ·rw[f_ g];simp
    |false=>
     rw[c_,hk'];by_cases g:f=i
     ·subst g;rw[hc];simp
     ·rw[f_ g];simp) (λs _=>by
  show Km 32 b.C0 b.F0 b.H0 b.M0 b.K0 b.L0 b.N0 b.B0 0 0 s.1 s.2=_;unfold Km;rw[show decide ((32:Int)<32)=C from rfl];rfl) 32 0 (0,0) ω ⟨GH,λf _ d _=>by rw[EJ];simp⟩
 have h':=As h.1 ω;have hall:AM (WL b) 32 0 (0,0)=Bz b:=ME h.2.1 (Bck b) λf hf d hd=>by rw[h.2.2 f hf d hd,WM hb hcode hf hd,H hf,z_]
 rw[hall]at h';unfold RS;simp only[Bldg.tup]at h';rw[show Pj (((),(),(),(0:Int),()),((b.C0,b.F0,b.H0,b.M0,b.K0,b.L0,b.N0,b.B0,()),((0:Int),(0:Int),()),((0:Int),(0:Int),()),()))=_ from h'];rfl
def Dc(b:I)(v:View):Int×Int:=bif v.D3 then Ct (v.I3,v.T2) (Bz b)else(0,0)
def RN(hb:b.small)(hcode:b.code=0)(v:View):Ie b.C0 b.F0 b.H0 b.M0 b.K0 b.L0 b.N0 b.B0 v.C3 v.D3 v.H3 v.V3 v.E0 v.I0 v.G3 v.I3 v.T2 v.R2 v.D2 v.U1=B (((),()),(((Dc b v).1,(Dc b v).2,()),())):=by
 unfold Ie Dc;cases v.D3 with
 |false=>rfl
 |true=>rw[Ld hb hcode];simp only[q_,c_,a_,d_];rw[FV (v.I3,v.T2) (Bz b)];rfl
def Ac5{c:Int×Int}(h:Int→Int→Option ((Bool×Unit)×Unit))(hh:∀f:Nat,f<32→∀d:Int,(d=1∨d=2)→h (f:Int) d=B ((Am c f d,()),())):∀k i:Nat,i+k≤32→Wj h (λf d=>Entry.mk f d (-1) 0 C) ((List.range' i k).flatMap λf:Nat=>[((f:Int),1),((f:Int),2)])=B ((List.range' i k).flatMap (Lz c))
 |0,_,_=>rfl
 |k+1,i,hk=>by rw[d8_,a1_,a1_];show Wj h _ (((i:Int),1)::((i:Int),2)::((List.range' (i+1) k).flatMap λf:Nat=>[((f:Int),1),((f:Int),2)]))=_;simp only[Wj];rw[hh i ω 1 (.inl rfl),hh i ω 2 (.inr rfl),Ac5 h hh k (i+1) ω];unfold Lz;cases Am c i 1<;>cases Am c i 2<;>rfl
def Xw(c:Int×Int):Mm c.1 c.2=B ((Fg c,()),()):=by
 unfold Mm Amv;have e:pairs64=(List.range' 0 32).flatMap λf:Nat=>[((f:Int),1),((f:Int),2)]:=by unfold pairs64;rw[List.range_eq_range']
 have h:=Ac5 (c:=c) (λf d=>Dt c.1 c.2 f d) (λf hf d hd=>by have h:=PA c (F:=(f:Int)) (D:=d) ⟨ω,ω⟩ hd;rw[j_]at h;exact h) 32 0 ω;rw[e,h];rfl
end Go.Ovl
namespace Go.Ovl
open Go Go.Ab
variable{b:I}{r:J}{l:List UInt8}{bud n:Int}{m:Img}
structure Sto where
 h0:ByteArray
 h1:ByteArray
 sel:Int
def Sto.get(s:Sto)(half:Int):ByteArray:=if half=0 then s.h0 else s.h1
def Sto.set(s:Sto)(half:Int)(x:ByteArray):Sto:=if half=0 then { s with h0:=x }else { s with h1:=x }
def Sto.no:Sto:=⟨noB,noB,0⟩
def Sto.cur(s:Sto):ByteArray:=if s.sel=1 then s.h1 else s.h0
def Sto.ok(room:Int)(s:Sto):Prop:=1≤room∧room≤65536∧s.h0.size≤room∧s.h1.size≤room∧(s.sel=0∨s.sel=1)
instance okSto_ti(room:Int)(s:Sto):Decidable (s.ok room):=by unfold Sto.ok;infer_instance
def Sto.tup(s:Sto):ByteArray×ByteArray×Int×Unit:=(s.h0,(s.h1,(s.sel,())))
def Sto.chk(room:Int)(s:Sto)(half bud:Int):Int:=if s.ok room then if(half≠0∧half≠1)∨bud<0 then 2 else 0 else 1
def Sto.write(room:Int)(s:Sto)(half:Int)(d:ByteArray)(bud:Int):Sto×Int×Int:=
 if s.chk room half bud≠0 then(.no,0,s.chk room half bud)
 else if room<(s.get half).size+d.size then(.no,0,7)
 else if bud<d.size then(s.set half (s.get half++d.extract 0 bud.toNat),0,8)
 else(s.set half (s.get half++d),bud-d.size,0)
def Sto.act(room:Int)(s:Sto)(half bud:Int)(t:Sto):Sto×Int×Int:=if s.chk room half bud≠0 then(.no,0,s.chk room half bud)else if bud=0 then(s,0,8)else(t,bud-1,0)
def Sto.erase(room:Int)(s:Sto)(half bud:Int):Sto×Int×Int:=s.act room half bud (s.set half noB)
def Sto.choose(room:Int)(s:Sto)(half bud:Int):Sto×Int×Int:=s.act room half bud { s with sel:=half }
def Sto.out(r:Sto×Int×Int):(Unit×Int×Int×Unit)×((ByteArray×ByteArray×Int×Unit)×Unit):=(((),(r.2.1,(r.2.2,()))),((r.1.h0,(r.1.h1,(r.1.sel,()))),()))
def GT(room:Int)(h0 h1:ByteArray)(sel:Int):DH room h0 h1 sel=B ((decide (Sto.ok room ⟨h0,h1,sel⟩),()),()):=by
 unfold DH Sto.ok;by_cases a:1≤room
 ·by_cases b:room≤65536
  ·by_cases c:(h0.size:Int)≤room
   ·by_cases d:(h1.size:Int)≤room
    ·by_cases e:sel=0
     ·simp[a,b,c,d,e]
     ·by_cases f:sel=1<;>simp[a,b,c,d,e,f,An]
    ·simp[a,b,c,d]
   ·simp[a,b,c]
  ·simp[a,b]
 ·simp[a]
def Ov(room:Int)(h0 h1:ByteArray)(sel half bud:Int):IJ room h0 h1 sel half bud=B ((Sto.chk room ⟨h0,h1,sel⟩ half bud,()),()):=by
 unfold IJ Sto.chk;rw[GT];by_cases a:Sto.ok room ⟨h0,h1,sel⟩
 ·by_cases b:half=0
  ·by_cases c:bud<0<;>simp[a,b,c]
  ·by_cases d:half=1
   ·by_cases c:bud<0<;>simp[a,c,d]
   ·simp[a,b,d,JR]
 ·simp[a]
def Aa8{room:Int}{s:Sto}{half:Int}(h:s.chk room half bud=0):s.ok room∧(half=0∨half=1)∧0≤bud:=by
 unfold Sto.chk at h;split at h
 ·split at h
  ·cases h
  ·rename_i h1 h2;refine⟨h1,?_,?_⟩<;>omega
 ·cases h
def SZ(room:Int)(h0 h1:ByteArray)(sel half:Int)(d:ByteArray)(bud:Int)(hb:bud<9223372036854775808) :
  II room h0 h1 sel half d bud=B (Sto.out (Sto.write room ⟨h0,h1,sel⟩ half d bud)):=by
 unfold II Sto.write;rw[Ov];generalize hc:Sto.chk room ⟨h0,h1,sel⟩ half bud=c;by_cases h:c=0
 ·subst h;obtain⟨⟨o1,o2,o3,o4,o5⟩,hh,hb0⟩:=Aa8 hc;simp only at o3 o4;have hin:inB half 2=E:=Ac ω ω;have hg:(List.getD [h0,h1] half.toNat noB)=Sto.get ⟨h0,h1,sel⟩ half:=by
   rcases hh with rfl | rfl<;>rfl
  have hgs:((Sto.get ⟨h0,h1,sel⟩ half).size:Int)≤room:=by rcases hh with rfl | rfl<;>simpa[Sto.get]
  have hset:∀x:ByteArray,((bif Nat.beq half.toNat 0 then x else h0),((bif Nat.beq half.toNat 1 then x else h1),(sel,())))=((Sto.set ⟨h0,h1,sel⟩ half x).h0,((Sto.set ⟨h0,h1,sel⟩ half x).h1,((Sto.set ⟨h0,h1,sel⟩ half x).sel,()))):=by intro x;rcases hh with rfl | rfl<;>rfl
  have hg':(List.getD [h0,h1] half.toNat (O (N [])))=Sto.get ⟨h0,h1,sel⟩ half:=hg;simp only[a_,hin,d_,hg',hset];generalize Sto.get ⟨h0,h1,sel⟩ half=g at hgs⊢;rw[Aa (n:=room-g.size) ω ω];by_cases h2:room<(g.size:Int)+d.size
  ·have e:decide (room-(g.size:Int)<d.size)=E:=by simp;omega
   simp[e,h2,Sto.out,Sto.no,noB]
  ·have e:decide (room-(g.size:Int)<d.size)=C:=by simp;omega
   by_cases h3:bud<d.size
   ·have e2:decide (bud<(d.size:Int))=E:=by simpa using h3
    have e3:(decide (0≤bud)&&decide (bud≤(d.size:Int)))=E:=by simp;omega
    have e4:Nat.ble (g.size+(d.extract 0 bud.toNat).size) 4611686018427387904=E:=by rw[Wy d ω];exact AD ω
    simp only[e,e3,e4,h2,h3,d_,c_,g9_,f3_,Sto.out];simp
   ·have e2:decide (bud<(d.size:Int))=C:=by simpa using h3
    have e4:Nat.ble (g.size+d.size) 4611686018427387904=E:=AD ω;rw[Aa (n:=bud-d.size) ω ω];simp only[e,e4,h2,h3,d_,c_,f3_,Sto.out];simp
 ·simp[h,Sto.out,Sto.no,noB,JR]
def Au2(room:Int)(h0 h1:ByteArray)(sel half bud:Int)(hb:bud<9223372036854775808):NZ room h0 h1 sel half bud=B (Sto.out (Sto.erase room ⟨h0,h1,sel⟩ half bud)):=by
 unfold NZ Hs Sto.erase Sto.act;rw[Ov];generalize hc:Sto.chk room ⟨h0,h1,sel⟩ half bud=c;by_cases h:c=0
 ·subst h;obtain⟨_,hh,hb0⟩:=Aa8 hc;by_cases h2:bud=0
  ·simp[h2,Sto.out]
  ·have hin:inB half 2=E:=Ac ω ω;unfold Pf;rw[Aa (n:=bud-1) ω ω];have e:(bud==0)=C:=by simpa using h2
   rcases hh with rfl | rfl<;>simp[hin,e,h2,Sto.out,Sto.set,noB]<;>rfl
 ·simp[h,Sto.out,Sto.no,noB,JR]
def App(room:Int)(h0 h1:ByteArray)(sel half bud:Int)(hb:bud<9223372036854775808):Nb room h0 h1 sel half bud=B (Sto.out (Sto.choose room ⟨h0,h1,sel⟩ half bud)):=by
 unfold Nb GU Sto.choose Sto.act;rw[Ov];generalize hc:Sto.chk room ⟨h0,h1,sel⟩ half bud=c;by_cases h:c=0
 ·subst h;obtain⟨_,hh,hb0⟩:=Aa8 hc;by_cases h2:bud=0
  ·simp[h2,Sto.out]
  ·unfold Ou;rw[Aa (n:=bud-1) ω ω];have e:(bud==0)=C:=by simpa using h2
   simp[e,h2,Sto.out]
 ·simp[h,Sto.out,Sto.no,noB,JR]
def QX(h0 h1:ByteArray)(sel:Int):Jc h0 h1 sel=B ((Sto.cur ⟨h0,h1,sel⟩,()),()):=by unfold Jc Sto.cur;by_cases h:sel=1<;>simp[h,An]
def Du:Debounced:=Debounced.mk 0 C C C C 0 0 0 0 0 0 0 0 0 0 0 0 0 0 0 0 0 0 0 0 0 0 0 0 0 0 0 0 0 0 0 0 0 0 0 0
def HD:Duty:=Duty.mk 0 0 0
def Bw:NewCar:=NewCar.mk 0 0 0 0 0 C 0 0 0 0 0 0 0 C
def Aby:Loaded:=Loaded.mk 0
def Agj:Calls:=Calls.mk 0 0
def GN:Belief:=Belief.mk 0 0 0 [] 0 C
def Belief.tup(x:Belief):Int×Int×Int×List Duty×Int×Bool×Unit:=(x.E0,x.I0,x.F3,x.X0,x.A3,x.R3,())
structure Mch where
 D0:Img
 D1:Sto
 E1:List Debounced
 U0:List Belief
 B0:List NewCar
 V2:List Loaded
 Y1:List Int
 Y2:List Calls
 Z3:Int
 Z2:Int
 M2:Int
def Mch.tup(m:Mch):List Int×List Bool×List Bool×List Entry×ByteArray×ByteArray×Int×List Debounced×List Belief×List NewCar×List Loaded×List Int×List Calls×Int×Int×Int×Unit:=(m.D0.G0,m.D0.O0,m.D0.J0,m.D0.A0,m.D1.h0,m.D1.h1,m.D1.sel,m.E1,m.U0,m.B0,m.V2,m.Y1,m.Y2,m.Z3,m.Z2,m.M2,())
structure Mch.fit(m:Mch):Prop where
 im:m.D0.fit
 co:m.E1.length≤100000
 be:m.U0.length≤100000
 du:∀x∈m.U0,x.X0.length≤100000
 ca:m.B0.length≤100000
 lo:m.V2.length≤100000
 ex:m.Y1.length≤100000
 li:m.Y2.length≤100000
section
variable{a c:Mch}(ha:a.fit)
include ha
end
def bl(s:ByteArray):List UInt8:=s.data.toList
def Py{a c:ByteArray}(h:bl a=bl c):a=c:=by apply ByteArray.ext;unfold bl at h;exact Array.toList_inj.1 h
def Ly(a c:ByteArray):bl (a++c)=bl a++bl c:=by simp[bl]
def NI(a:ByteArray)(i j:Nat):bl (a.extract i j)=((bl a).drop i).take (j-i):=by simp[bl]
def Ev(a:ByteArray):(bl a).length=a.size:=by simp[bl]
def Bre(l:List UInt8):bl ⟨l.toArray⟩=l:=by simp[bl]
def FU(s:ByteArray)(i:Nat):AC s i=(((bl s).getD i 0).toNat:Int):=by unfold AC bl;simp[A_,k_]
def UK(r:Nat):Nat:=if 128≤r then(r*2%256)^^^7 else r*2%256
def it8:Nat→Nat→Nat
 |0,r=>r
 |k+1,r=>it8 k (UK r)
def Ac1(r x:Nat):Nat:=it8 8 (r^^^x)
def UL(l:List UInt8):Nat:=l.foldl (λr x=>Ac1 r x.toNat) 0
def Ans{r:Nat}(_h:r<256):UK r<256:=by
 unfold UK;split
 ·exact f5_ (n:=8) ω τ
 ·omega
def Ay3:∀(k:Nat) {r:Nat},r<256→it8 k r<256
 |0,_,h=>h
 |k+1,_,h=>Ay3 k (Ans h)
def Ak2{r x:Nat}(h:r<256)(h':x<256):Ac1 r x<256:=Ay3 8 (f5_ (n:=8) h h')
def Bil(l:List UInt8):∀r:Nat,r<256→l.foldl (λr x=>Ac1 r x.toNat) r<256:=by
 induction l with
 |nil=>exact λr h=>h
 |cons x t ih=>intro r h;rw[f2_];have hx:x.toNat<256:=aE x;exact ih _ (Ak2 h hx)
def Bim(l:List UInt8):UL l<256:=Bil l 0 ω
def SS(h:0≤n)(h':n<256):P.wrap n=n:=by simp only[aB,IntKind.signed,IntKind.bits];simp;omega
def Bqk{a c:Nat}(ha:a<256)(hc:c<256):P.wrap (stk (a:Int) (c:Int) (BitVec.toNat ((BitVec.ofInt (IntKind.bits .u8) (a:Int))^^^(BitVec.ofInt (IntKind.bits .u8) (c:Int)))))=((a^^^c:Nat):Int):=by have h:=f5_ (n:=8) ha hc;rw[LC,BitVec.toNat_xor,a0_,a0_];rw[show(((a:Int))%((2^IntKind.bits .u8:Nat):Int)).toNat=a by simp only[IntKind.bits];omega,show(((c:Int))%((2^IntKind.bits .u8:Nat):Int)).toNat=c by simp only[IntKind.bits];omega];exact SS ω ω
def Bgj:∀(k i r:Nat),AM (λ_ r=>UK r) k i r=it8 k r
 |0,_,_=>rfl
 |k+1,i,r=>Bgj k (i+1) (UK r)
def Ayl(s:ByteArray)(s7 s8:Int){r k:Nat}(hr:r<256)(hk:k<8):Po s (r:Int) s7 s8 (k:Int)=B (Sum.inl ((s,((UK r:Nat):Int),s7,s8,((k+1:Nat):Int),()),())):=by
 unfold Po;have w:aD.wrap ((k:Int)+1)=((k+1:Nat):Int):=by rw[Aa ω ω];omega
 have h0:P.wrap ((r:Int)*((2:Int)^(Min.min (L (1:Int)) (IntKind.bits P))))=((r*2%256:Nat):Int):=by rw[show((2:Int)^(Min.min (L (1:Int)) (IntKind.bits P)))=2 from rfl];simp only[aB,IntKind.signed,IntKind.bits];simp
 have h1:P.wrap ((Int.fdiv (r:Int) ((2:Int)^(Min.min (L (7:Int)) (IntKind.bits P))))*(7:Int))=(((if 128≤r then 7 else 0):Nat):Int):=by
  rw[show((2:Int)^(Min.min (L (7:Int)) (IntKind.bits P)))=128 from rfl,X_ _ ω];split
  ·rw[show(r:Int)/128=1 by omega];rfl
  ·rw[show(r:Int)/128=0 by omega];rfl
 simp only[H (ω:(k:Int)<8),d_,h0,h1,w];rw[Bqk ω (by split<;>omega)];unfold UK;split
 ·rfl
 ·rw[Nat.xor_zero]
def Ayk(s:ByteArray)(s7 s8:Int){r:Nat}(hr:r<256):Pi ((s,(r:Int),s7,s8,(0:Int),()),())=B ((s,((it8 8 r:Nat):Int),s7,s8,()),()):=by have h:=Bc (step:=λx=>Po x.1.1 x.1.2.1 x.1.2.2.1 x.1.2.2.2.1 x.1.2.2.2.2.1) 8 (λk r=>((s,((r:Nat):Int),s7,s8,(k:Int),()),())) (λ_ r=>UK r) (λ_ r=>r<256) (λr=>((s,((r:Nat):Int),s7,s8,()),())) (λk r hk hr=>⟨Ayl s s7 s8 hr hk,Ans hr⟩) (λr _=>rfl) 8 0 r rfl hr;have h':=h.1;rw[Bgj]at h';exact As h' ω
def Vc{α β:Type}(f:β→α→β)(d:α):∀(l:List α) (k i:Nat) (s:β),i+k=l.length→AM (λi s=>f s (l.getD i d)) k i s=(l.drop i).foldl f s
 |l,0,i,s,h=>by obtain rfl:i=l.length:=ω;simp[AM]
 |l,k+1,i,s,h=>by have hi:i<l.length:=ω;simp only[AM];rw[Vc f d l k (i+1) _ ω,h5_ hi,f2_];simp[hi]
def Aai{s:ByteArray}(hs:s.size≤1000000):OR s=B ((((UL (bl s):Nat):Int),()),()):=by
 have h:=Bc (step:=λx=>Kk x.1.1 x.1.2.1 x.1.2.2.1 x.1.2.2.2.1) s.size (λi r=>((s,((r:Nat):Int),(s.size:Int),(i:Int),()),())) (λi r=>Ac1 r ((bl s).getD i 0).toNat) (λ_ r=>r<256) (λr=>((((r:Nat):Int),()),())) (λi r hi hr=>by
  have hx:=aE ((bl s).getD i 0);refine⟨?_,Ak2 hr hx⟩;show Kk s ((r:Nat):Int) (s.size:Int) (i:Int)=_;have w:aD.wrap ((i:Int)+1)=((i+1:Nat):Int):=by rw[Aa ω ω];omega
  unfold Kk;simp only[H (ω:(i:Int)<(s.size:Int)),Ac (ω:(0:Int)≤(i:Int)) (ω:(i:Int)<(s.size:Int)),d_,j_,FU];rw[Bqk hr hx,Ayk s _ _ (f5_ (n:=8) hr hx),a_,w];rfl) (λr _=>by
  show Kk s ((r:Nat):Int) (s.size:Int) (s.size:Int)=_;unfold Kk;simp only[f_ (Q_ (s.size:Int)),c_]) s.size 0 0 ω ω
 have h':=As h.1 ω;rw[Vc (λr (x:UInt8)=>Ac1 r x.toNat) 0 (bl s) s.size 0 0 (by rw[Ev];omega),S_]at h';unfold OR;rw[show Ph ((s,(0:Int),(s.size:Int),(0:Int),()),())=_ from h'];rfl
def u8n(n:Int):UInt8:=UInt8.ofNat n.toNat
def SQ(h:0≤n∧n<256):((u8n n).toNat:Int)=n:=by unfold u8n;rw[UInt8.toNat_ofNat'];omega
def txt(l:List UInt8):ByteArray:=⟨l.toArray⟩
def HC(l:List UInt8):bl (txt l)=l:=Bre l
def Bio(a c:List UInt8):txt a++txt c=txt (a++c):=Py (by rw[Ly,HC,HC,HC])
def Lm(l:List UInt8):(txt l).size=l.length:=by rw[← Ev,HC]
def Any(l:List Int):ID l=txt (l.map u8n):=rfl
def Ab4(r:J):List UInt8:=[u8n r.Q0,u8n r.E0,u8n r.I0,u8n (r.R0+2),u8n r.Z1]
def CC(r:J):List UInt8:=Ab4 r++[u8n ((UL (Ab4 r):Nat):Int)]
def GC(r:J):(CC r).length=6:=rfl
def QK(hb:b.small){f d:Int}(h:Ap b f d=E):(0≤f∧f<100)∧(1≤d∧d≤2):=by have lo:=hb.lo;have hi:=hb.hi;unfold Ap Oj at h;simp only[e_,R_,U_,Ao]at h;omega
structure RecOK(r:Record):Prop where
 k:1≤r.Q0∧r.Q0≤7
 f:0≤r.E0∧r.E0<100
 d:0≤r.I0∧r.I0<100
 c:-2≤r.R0∧r.R0<100
 v:0≤r.Z1∧r.Z1<256
def Aau(hb:b.small)(hc:b.B0.length≤100)(h:Ax b r=E):RecOK r:=by
 have hk:=(Vn h).2;have hcar:(r.Q0=4∨r.Q0=5∨r.Q0=6)→r.E0=0∧r.I0=0:=λhq=>by
  unfold Ax UW at h;rcases hq with q | q | q
  all_goals
   rw[q]at h;simp only[show((4:Int)==1)=C from rfl,show((4:Int)==2)=C from rfl,show((4:Int)==3)=C from rfl,show((5:Int)==1)=C from rfl,show((5:Int)==2)=C from rfl,show((5:Int)==3)=C from rfl,show((5:Int)==4)=C from rfl,show((6:Int)==1)=C from rfl,show((6:Int)==2)=C from rfl,show((6:Int)==3)=C from rfl,show((6:Int)==4)=C from rfl,show((6:Int)==5)=C from rfl,l_,d_,c_,e_,U_]at h;exact h.2.1.2
 rcases hk with h1 | h1 | h1 | h1 | h1 | h1 | h1
 ·have:=QK hb h1.2.1
  exact⟨ω,this.1,ω,ω,ω⟩
 ·have:=QK hb h1.2.1
  exact⟨ω,this.1,ω,ω,ω⟩
 ·have:=QK hb h1.2.1
  exact⟨ω,this.1,ω,ω,ω⟩
 ·have:=hcar ω
  exact⟨ω,ω,ω,ω,ω⟩
 ·have:=hcar ω
  exact⟨ω,ω,ω,ω,ω⟩
 ·have:=hcar ω
  exact⟨ω,ω,ω,ω,ω⟩
 ·have:=QK hb h1.2.1
  exact⟨ω,this.1,ω,ω,ω⟩
def Bsq(h:RecOK r):ID [P.wrap r.Q0,P.wrap r.E0,P.wrap r.I0,P.wrap (aB aD (r.R0+2)),P.wrap r.Z1]=txt (Ab4 r):=by obtain⟨h1,h2,h3,h4,h5⟩:=h;rw[SS (n:=r.Q0) ω ω,SS (n:=r.E0) ω ω,SS (n:=r.I0) ω ω,Aa (n:=r.R0+2) ω ω,SS (n:=r.R0+2) ω ω,SS (n:=r.Z1) ω ω];rfl
def OC(b:I)(r:J):ByteArray:=bif Ax b r then txt (CC r)else txt []
section
variable{b:I}(hb:b.small)(hc:b.B0.length≤100)
include hb hc
theorem TE(r:J):Ja b.C0 b.F0 b.H0 b.M0 b.K0 b.L0 b.N0 b.B0 r.Q0 r.E0 r.I0 r.R0 r.Z1=B ((OC b r,(bif Ax b r then 0 else 1),()),()):=by
 unfold Ja OC;rw[PS hb hc r];simp only[a_];cases hv:Ax b r with
 |false=>rfl
 |true=>have h:=Aau hb hc hv;simp only[q_,c_,d_,Bsq h];rw[Aai (by rw[Lm];show 5≤1000000;omega)];simp only[a_,HC,Any];rw[AD (by rw[Lm,Lm];show 5+1≤4611686018427387904;omega),Bio];rfl
end
def fld(l:List UInt8)(i:Nat):Int:=((l.getD i 0).toNat:Int)
def Xf(l:List UInt8):J:=⟨fld l 0,fld l 1,fld l 2,fld l 3-2,fld l 4⟩
def Se(b:I)(l:List UInt8):Option J:=bif l.length==6&&(((((UL (l.take 5):Nat):Int))==fld l 5)&&Ax b (Xf l))then B (Xf l)else none
def Yq(l:List UInt8)(i:Nat):0≤fld l i∧fld l i<256:=by have h:(l.getD i 0).toNat<256:=aE _;unfold fld;omega
def Ayp(h:Se b l=B r):Ax b r=E:=by
 unfold Se at h;cases hq:(l.length==6&&(((((UL (l.take 5):Nat):Int))==fld l 5)&&Ax b (Xf l)))with
 |false=>rw[hq]at h;cases h
 |true=>rw[hq]at h;cases h;rw[e_,e_]at hq;exact hq.2.2
def Bhj(hb:b.small)(hc:b.B0.length≤100)(h:Ax b r=E):Se b (CC r)=B r:=by
 obtain⟨h1,h2,h3,h4,h5⟩:=Aau hb hc h;have hs:=Bim (Ab4 r);have e:Xf (CC r)=r:=by show Q ((u8n r.Q0).toNat:Int) ((u8n r.E0).toNat:Int) ((u8n r.I0).toNat:Int) (((u8n (r.R0+2)).toNat:Int)-2) ((u8n r.Z1).toNat:Int)=r;rw[SQ ω,SQ ω,SQ ω,SQ ω,SQ ω,show r.R0+2-2=r.R0 by omega]
 have e5:fld (CC r) 5=((UL (Ab4 r):Nat):Int):=by show((u8n ((UL (Ab4 r):Nat):Int)).toNat:Int)=_;exact SQ ω
 unfold Se;rw[e,h,e5,show(CC r).take 5=Ab4 r from rfl,GC];simp
def Ab5(hb:b.small)(hc:b.B0.length≤100)(hcode:b.code=0)(s:ByteArray)(_hs:s.size≤1000000):
  ∃(e:Int) (r0:J),LZ b.C0 b.F0 b.H0 b.M0 b.K0 b.L0 b.N0 b.B0 s=B (((),e,()),((r0.Q0,r0.E0,r0.I0,r0.R0,r0.Z1,()),()))∧(e !=0)=(Se b (bl s)).isNone∧∀r,Se b (bl s)=B r→r0=r:=by
 unfold LZ;rw[AR,hcode];simp only[a_,P_,c_];unfold Se;by_cases h6:s.size=6
 ·have l6:(bl s).length=6:=by rw[Ev];exact h6
  have ib:∀i:Int,0≤i→i<6→inB i s.size=E:=λi h h'=>Ac h ω;have x5:bl (s.extract 0 5)=(bl s).take 5:=by rw[NI];rfl
  rw[show((s.size:Int) !=6)=C by rw[h6];rfl,H (ω:(5:Int)≤(s.size:Int)),Aai (by rw[← Ev,x5,u_];omega),x5];simp only[c_,d_,a_,ib 5 ω ω,ib 0 ω ω,ib 1 ω ω,ib 2 ω ω,ib 3 ω ω,ib 4 ω ω,FU];rw[l6,show L 5=5 from rfl,show L 0=0 from rfl,show L 1=1 from rfl,show L 2=2 from rfl,show L 3=3 from rfl,show L 4=4 from rfl];simp only[show ∀i:Nat,(((bl s).getD i 0).toNat:Int)=fld (bl s) i from λ_=>rfl];have f0:=Yq (bl s) 0;have f1:=Yq (bl s) 1;have f2:=Yq (bl s) 2;have f3:=Yq (bl s) 3;have f4:=Yq (bl s) 4;rw[Aa (n:=fld (bl s) 0) ω ω,Aa (n:=fld (bl s) 1) ω ω,Aa (n:=fld (bl s) 2) ω ω,Aa (n:=fld (bl s) 3) ω ω,Aa (n:=fld (bl s) 3-2) ω ω,Aa (n:=fld (bl s) 4) ω ω];simp only[bne];cases hq:(((UL ((bl s).take 5):Nat):Int))==fld (bl s) 5 with
  |false=>exact⟨5,⟨0,0,0,0,0⟩,rfl,rfl,λr h=>by cases h⟩
  |true=>
   have hv:=PS hb hc (Xf (bl s));unfold Xf at hv;simp only at hv;simp only[q_,c_,hv,a_];show ∃e r0,(bif !(Ax b (Xf (bl s)))then _ else _)=_∧_;cases Ax b (Xf (bl s))with
   |false=>exact⟨9,⟨0,0,0,0,0⟩,rfl,rfl,λr h=>by cases h⟩
   |true=>exact⟨0,Xf (bl s),rfl,rfl,λr h=>F_ h⟩
 ·rw[show((s.size:Int) !=6)=E from JR ω,show((bl s).length==6)=C from An (by rw[Ev];exact h6)];exact⟨4,⟨0,0,0,0,0⟩,rfl,rfl,λr h=>by cases h⟩
def Jy(b:I):Nat→List UInt8→List J
 |0,_=>[]
 |k+1,l=>if 6≤l.length then match Se b (l.take 6)with | some r=>r::Jy b k (l.drop 6) | none=>[]else []
def Ns(b:I)(s:ByteArray):List J:=Jy b s.size (bl s)
def YV(b:I):∀(k:Nat) (l:List UInt8),6*(Jy b k l).length≤l.length
 |0,_=>by simp[Jy]
 |k+1,l=>by
  simp only[Jy];split
  ·split
   ·rename_i h _ r _
    have:=YV b k (l.drop 6)
    rw[V_]at this;rw[B_];omega
   ·simp
  ·simp
def Vk(b:I):∀(k:Nat) (l:List UInt8),∀r∈Jy b k l,Ax b r=E
 |0,_,_,h=>by simp[Jy]at h
 |k+1,l,r,h=>by
  simp only[Jy]at h;split at h
  ·split at h
   ·rename_i _ _ r' hr;rcases s_.1 h with rfl | h
    ·exact Ayp hr
    ·exact Vk b k _ r h
   ·cases h
  ·cases h
def Ani{b:I}(hb:b.small)(hc:b.B0.length≤100){t:List UInt8}(ht:t.length<6):∀(rs:List J) (k:Nat),rs.length≤k→(∀r∈rs,Ax b r=E)→Jy b k (rs.flatMap CC++t)=rs
 |[],0,_,_=>rfl
 |[],k+1,_,_=>by simp only[Jy,List.flatMap_nil,a5_];rw[if_neg ω]
 |r::rs,0,h,_=>by simp at h
 |r::rs,k+1,h,hv=>by
  have e1:(r::rs).flatMap CC++t=CC r++(rs.flatMap CC++t):=by rw[a1_,M_]
  have e2:(CC r++(rs.flatMap CC++t)).take 6=CC r:=f1_ (GC r);have e3:(CC r++(rs.flatMap CC++t)).drop 6=rs.flatMap CC++t:=List.drop_left' (GC r);simp only[Jy];rw[e1,e2,e3,Bhj hb hc (hv r (p_ ..)),if_pos (by rw[h_,GC];omega),Ani hb hc ht rs k (by simp at h;omega) λx hx=>hv x (r_ _ hx)]
def Agt(hb:b.small)(hc:b.B0.length≤100)(hcode:b.code=0)(s:ByteArray)(hs:s.size≤1000000):
  ∃n:Int,NY b.C0 b.F0 b.H0 b.M0 b.K0 b.L0 b.N0 b.B0 s=B ((Ns b s,n,()),()):=by
 have key:∀(k n:Nat) (l:List J),s.size≤n+6*k→n≤s.size→l.length≤n→∃y:Int,Cd (λx=>letI a:=x.2.1.2.2;letI c:=a.2.2;EI x.1.1 x.1.2.2.1 x.1.2.2.2.1 x.2.1.1 x.2.1.2.1 a.1 a.2.1 c.1 c.2.1 c.2.2.1 c.2.2.2.1) (k+1) ((s,(),l,(n:Int),()),(b.tup,()))=B ((l++Jy b k ((bl s).drop n),y,()),()):=by
  intro k;induction k with
  |zero=>intro n l h1 h2 _;refine⟨(n:Int),AU ?_⟩;show EI s l (n:Int) b.C0 b.F0 b.H0 b.M0 b.K0 b.L0 b.N0 b.B0=_;unfold EI;rw[Aa (n:=(n:Int)+6) ω ω,f_ (ω:¬(n:Int)+6≤(s.size:Int))];simp only[c_,Jy,Z_]
  |succ k ih=>
   intro n l h1 h2 h3;have w:aD.wrap ((n:Int)+6)=((n+6:Nat):Int):=by rw[Aa ω ω];omega
   by_cases g:n+6≤s.size
   ·have hbl:((bl s).drop n).length=s.size-n:=by rw[V_,Ev]
    have hx:bl (s.extract n (n+6))=((bl s).drop n).take 6:=by rw[NI,show n+6-n=6 by omega]
    obtain⟨e,r0,d1,d2,d3⟩:=Ab5 hb hc hcode (s.extract n (n+6)) (by rw[← Ev,hx,u_];omega);rw[hx]at d2 d3;have hstep:∀X,(bif(e !=0)then B (Sum.inr ((l,(n:Int),()),()))else B (Sum.inl ((s,(),(l++[r0]),((n+6:Nat):Int),()),(b.tup,()))))=X→EI s l (n:Int) b.C0 b.F0 b.H0 b.M0 b.K0 b.L0 b.N0 b.B0=X:=by rintro X rfl;unfold EI;simp only[w,H (ω:((n+6:Nat):Int)≤(s.size:Int)),H (ω:(0:Int)≤((n+6:Nat):Int)),H (ω:(0:Int)≤(n:Int)),j_,H (ω:(n:Int)≤((n+6:Nat):Int)),a6_,d_,d1,a_];rw[AD (show l.length+[Q r0.Q0 r0.E0 r0.I0 r0.R0 r0.Z1].length≤2147483648 by rw[H_];omega)];rfl
    cases hd:Se b (((bl s).drop n).take 6)with
    |none=>rw[hd]at d2;rw[d2]at hstep;refine⟨(n:Int),(AU (hstep _ rfl)).trans ?_⟩;simp only[Jy,hbl,hd];rw[if_pos ω,Z_]
    |some r=>rw[hd]at d2;rw[d2]at hstep;obtain rfl:=d3 r hd;obtain⟨y,hy⟩:=ih (n+6) (l++[r0]) ω g (by rw[h_,H_];omega);refine⟨y,(Ca (hstep _ rfl)).trans (hy.trans ?_)⟩;simp only[Jy,hbl,hd];rw[if_pos ω,M_,List.drop_drop];rfl
   ·refine⟨(n:Int),AU ?_⟩;show EI s l (n:Int) b.C0 b.F0 b.H0 b.M0 b.K0 b.L0 b.N0 b.B0=_;unfold EI;rw[w,f_ (ω:¬((n+6:Nat):Int)≤(s.size:Int))];simp only[c_,Jy];rw[if_neg (by rw[V_,Ev];omega),Z_]
 obtain⟨y,hy⟩:=key s.size 0 [] ω ω σ;have hy':=As hy ω;refine⟨y,?_⟩;unfold NY;rw[show Mi ((s,(),[],(0:Int),()),((b.C0,b.F0,b.H0,b.M0,b.K0,b.L0,b.N0,b.B0,()),()))=_ from hy'];rw[S_,a5_];rfl
def Lj(l:List UInt8):List Int:=l.map λx=>(x.toNat:Int)
def Auy(l:List UInt8):ID (Lj l)=txt l:=by
 rw[Any];unfold Lj;rw[List.map_map];congr 1
 conv=>rhs;rw[← List.map_id l]
 refine List.map_congr_left λx _=>?_;show UInt8.ofNat (L (x.toNat:Int))=x;rw[j_,UInt8.ofNat_toNat]
def Bc7(l:List UInt8):(Lj l).all (λn=>decide (0≤n)&&decide (n<256))=E:=by
 rw[I_];intro n hn;obtain⟨x,_,rfl⟩:=b6_.1 hn
 have:x.toNat<256:=aE x
 simp only[e_,t_];omega
def Awj(h:l≠[]):Fx (Lj l)=B ((txt l,()),(((),Lj l,()),())):=by
 unfold Fx;rw[Bc7,Auy,show Auq (Lj l)=E by
  cases l with
  |nil=>exact absurd rfl h
  |cons a t=>rfl]
 rfl
def Ba6(s:ByteArray)(h:l.length+s.size≤2147483648):DT s (Lj l)=B (((s.size:Int),(),()),(((),Lj (l++bl s),()),())):=by unfold DT wsF;rw[show(Lj l).length=l.length from b2_ _,AD h];unfold Lj bl;rw[List.map_append];rfl
def Ayt(b:I)(r:J):(bl (OC b r)).length≤6:=by
 unfold OC;cases Ax b r with
 |true=>rw[d_,HC,GC];omega
 |false=>rw[c_,HC];simp
def Wt(h:Ax b r=E):OC b r=txt (CC r):=by unfold OC;rw[h];rfl
def Aly{b:I}:∀{rs:List J},(∀r∈rs,Ax b r=E)→rs.flatMap (λr=>bl (OC b r))=rs.flatMap CC
 |[],_=>rfl
 |r::t,h=>by rw[a1_,a1_,Wt (h r (p_ ..)),HC,Aly λx hx=>h x (r_ _ hx)]
def Afv(rs:List J):(rs.flatMap CC).length=6*rs.length:=by
 induction rs with
 |nil=>rfl
 |cons r t ih=>rw[a1_,h_,ih,GC,B_];omega
section
variable{b:I}(hb:b.small)(hc:b.B0.length≤100)
include hb hc
theorem Akf(bud:Int){rs:List J}(hl:rs.length≤1000000)(s t:Sto):Mf ((bud,(),(),(),(),rs,(rs.length:Int),(0:Int),()),(b.tup,(s.h0,s.h1,s.sel,()),(t.h0,t.h1,t.sel,()),((),[],()),()))=B ((bud,(),(),(),(),()),(b.tup,(s.h0,s.h1,s.sel,()),(t.h0,t.h1,t.sel,()),((),Lj (rs.flatMap λr=>bl (OC b r)),()),())):=by
 have h:=Bc (step:=λx=>letI a:=x.2.1.2.2;letI c:=x.1.2.2.2.2.2;letI d:=x.2.2;letI f:=a.2.2;Hi x.1.1 c.1 c.2.1 c.2.2.1 x.2.1.1 x.2.1.2.1 a.1 a.2.1 f.1 f.2.1 f.2.2.1 f.2.2.2.1 d.1.1 d.1.2.1 d.1.2.2.1 d.2.1.1 d.2.1.2.1 d.2.1.2.2.1 d.2.2.1.2.1) rs.length
  (λi (l:List UInt8)=>((bud,(),(),(),(),rs,(rs.length:Int),(i:Int),()),(b.tup,(s.h0,s.h1,s.sel,()),(t.h0,t.h1,t.sel,()),((),Lj l,()),()))) (λi l=>l++bl (OC b (rs.getD i (Q 0 0 0 0 0)))) (λi l=>l.length≤6*i) (λl=>((bud,(),(),(),(),()),(b.tup,(s.h0,s.h1,s.sel,()),(t.h0,t.h1,t.sel,()),((),Lj l,()),()))) (λi l hi hs=>by
   have he:=Ayt b (rs.getD i (Q 0 0 0 0 0));refine⟨?_,by rw[h_];omega⟩;show Hi bud rs (rs.length:Int) (i:Int) b.C0 b.F0 b.H0 b.M0 b.K0 b.L0 b.N0 b.B0 s.h0 s.h1 s.sel t.h0 t.h1 t.sel (Lj l)=_;unfold Hi;simp only[H (ω:(i:Int)<(rs.length:Int)),Ac (ω:(0:Int)≤(i:Int)) (ω:(i:Int)<(rs.length:Int)),d_,j_,TE hb hc,a_,Ba6 (OC b (rs.getD i (Q 0 0 0 0 0))) (l:=l) (by rw[← Ev];omega),Hn hi (show rs.length≤Bs by unfold Bs;omega)];rfl) (λl _=>by
   show Hi bud rs (rs.length:Int) (rs.length:Int) b.C0 b.F0 b.H0 b.M0 b.K0 b.L0 b.N0 b.B0 s.h0 s.h1 s.sel t.h0 t.h1 t.sel (Lj l)=_;unfold Hi;simp only[f_ (Q_ (rs.length:Int)),c_];rfl) rs.length 0 [] ω σ
 have h':=As h.1 ω;have e:AM (λi l=>l++bl (OC b (rs.getD i (Q 0 0 0 0 0)))) rs.length 0 []=rs.flatMap λr=>bl (OC b r):=by rw[MH (λi=>bl (OC b (rs.getD i (Q 0 0 0 0 0)))),a5_,PQ (λr=>bl (OC b r)) (Q 0 0 0 0 0) rs 0 rs.length ω,S_]
 rw[e]at h';exact h'
end
def FE(b:I)(s:Sto)(m:Img)(bud:Int):Sto×Int×Int:=
 bif !(decide (s.ok b.H0))then(Sto.no,0,1)else bif decide (bud<0)then(Sto.no,0,1)else bif !(m.ok b)then(Sto.no,0,1)else
 bif((s.erase b.H0 (1-s.sel) bud).2.2==0)then
  (bif(((s.erase b.H0 (1-s.sel) bud).1.write b.H0 (1-s.sel) (txt ((Es m).flatMap CC)) (s.erase b.H0 (1-s.sel) bud).2.1).2.2==0)then
   ((s.erase b.H0 (1-s.sel) bud).1.write b.H0 (1-s.sel) (txt ((Es m).flatMap CC)) (s.erase b.H0 (1-s.sel) bud).2.1).1.choose b.H0 (1-s.sel) ((s.erase b.H0 (1-s.sel) bud).1.write b.H0 (1-s.sel) (txt ((Es m).flatMap CC)) (s.erase b.H0 (1-s.sel) bud).2.1).2.1
  else(s.erase b.H0 (1-s.sel) bud).1.write b.H0 (1-s.sel) (txt ((Es m).flatMap CC)) (s.erase b.H0 (1-s.sel) bud).2.1)
 else s.erase b.H0 (1-s.sel) bud
def Bg5(room:Int)(s:Sto)(half bud:Int)(t:Sto)(hb:bud<9223372036854775808):(s.act room half bud t).2.1<9223372036854775808:=by
 unfold Sto.act;split
 ·show(0:Int)<_;omega
 ·split
  ·show(0:Int)<_;omega
  ·show bud-1<_;omega
def Bag(room:Int)(s:Sto)(half:Int)(d:ByteArray)(bud:Int)(hb:bud<9223372036854775808):(s.write room half d bud).2.1<9223372036854775808:=by
 unfold Sto.write;split
 ·show(0:Int)<_;omega
 ·split
  ·show(0:Int)<_;omega
  ·split
   ·show(0:Int)<_;omega
   ·show bud-(d.size:Int)<_;omega
def VD(hb:b.small)(hc:b.B0.length≤100)(s:Sto)(hf:m.fit)(hbud:bud<9223372036854775808):
  Ls b.C0 b.F0 b.H0 b.M0 b.K0 b.L0 b.N0 b.B0 s.h0 s.h1 s.sel m.G0 m.O0 m.J0 m.A0 bud=B (Sto.out (FE b s m bud)):=by
 have hmx:100000≤maxLen:=by decide
 have hp:=hf.p;have he:=hf.e;unfold Ls FE;rw[GT,CY hb m ω ω,Ad2 hb hf];simp only[a_];by_cases hs:s.ok b.H0
 ·rw[H (show Sto.ok b.H0 ⟨s.h0,s.h1,s.sel⟩from hs)];by_cases hb0:bud<0
  ·rw[H hb0];rfl
  rw[f_ hb0];cases hok:m.ok b with
  |false=>rfl
  |true=>
   have hm:=Img.ok_iff.1 hok;have hcars:=Aj hm.code;have hlp:=hm.lp;have hsn:Aj9 b m=Es m:=by unfold Aj9;rw[hok];rfl
   have hsl:=Air m;have hne:(Es m).flatMap CC≠[]:=λh0=>by have h1:=Afv (Es m);rw[h0,hsl,d7_]at h1;omega
   have hloop:=Akf hb hc bud (rs:=Es m) (by rw[hsl];omega) s Sto.no;rw[Aly (Xo hm)]at hloop;simp only[Bldg.tup,Sto.no,noB]at hloop;have hsel:aD.wrap (1-s.sel)=1-s.sel:=by obtain⟨_,_,_,_,h5⟩:=hs;exact Aa ω ω
   simp only[q_,c_,hsn,hloop,a_,hsel,Au2 _ _ _ _ _ _ hbud,Sto.out];have hb1:=Bg5 b.H0 s (1-s.sel) bud (s.set (1-s.sel) noB) hbud;rw[show s.act b.H0 (1-s.sel) bud (s.set (1-s.sel) noB)=s.erase b.H0 (1-s.sel) bud from rfl]at hb1;rw[show Sto.mk s.h0 s.h1 s.sel=s from rfl];generalize s.erase b.H0 (1-s.sel) bud=r1 at hb1⊢;cases hq:r1.2.2==0 with
   |false=>simp only[c_,a_,hq]
   |true=>
    simp only[d_,Awj hne,a_,SZ _ _ _ _ _ _ _ hb1,Sto.out];have hb2:=Bag b.H0 r1.1 (1-s.sel) (txt ((Es m).flatMap CC)) r1.2.1 hb1;rw[show Sto.mk r1.1.h0 r1.1.h1 r1.1.sel=r1.1 from rfl];generalize r1.1.write b.H0 (1-s.sel) (txt ((Es m).flatMap CC)) r1.2.1=r2 at hb2⊢;cases hq2:r2.2.2==0 with
    |false=>simp only[c_]
    |true=>simp only[d_,App _ _ _ _ _ _ hb2,a_,Sto.out]
 ·rw[f_ (show ¬Sto.ok b.H0 ⟨s.h0,s.h1,s.sel⟩from hs)];rfl
def Jt(b:I)(m:Img)(r:J):Bool:=r.Q0==1&&(!(FY (Aw r.E0 r.I0) m.A0)&&!(JU b m))
def FI(b:I)(s:Sto)(m:Img)(r:J)(bud:Int):Sto×Int×Int:=bif decide ((6:Int)≤b.H0-(s.cur.size:Int))then s.write b.H0 s.sel (txt (CC r)) bud else FE b s (Ak m r) bud
def Qh(b:I)(s:Sto)(m:Img)(r:J)(bud:Int):Sto×Img×Int×Int:=
 bif !(m.ok b&&Ax b r)then(Sto.no,aC,0,1)else bif !(decide (s.ok b.H0))then(Sto.no,aC,0,1)else bif decide (bud<0)then(Sto.no,aC,0,1)else
 bif Jt b m r then(Sto.no,aC,0,7)else
 bif(FI b s m r bud).2.2==0 then((FI b s m r bud).1,Ak m r,(FI b s m r bud).2.1,(FI b s m r bud).2.2)
 else bif(FI b s m r bud).2.2==8 then((FI b s m r bud).1,m,0,(FI b s m r bud).2.2)else(Sto.no,aC,0,(FI b s m r bud).2.2)
def Aks(r:Sto×Img×Int×Int):(Unit×Unit×Int×Int×Unit)×((ByteArray×ByteArray×Int×Unit)×(List Int×List Bool×List Bool×List Entry×Unit)×Unit):=(((),(),r.2.2.1,r.2.2.2,()),((r.1.h0,r.1.h1,r.1.sel,()),r.2.1.tup,()))
def Ai8(hb:b.small)(hc:b.B0.length≤100)(s:Sto)(hp:m.G0.length≤100000)(hl:m.A0.length≤10000)(r:J)(hbud:bud<9223372036854775808):
    OZ b.C0 b.F0 b.H0 b.M0 b.K0 b.L0 b.N0 b.B0 s.h0 s.h1 s.sel m.G0 m.O0 m.J0 m.A0 r.Q0 r.E0 r.I0 r.R0 r.Z1 bud=B (Aks (Qh b s m r bud)):=by
  unfold OZ Qh;rw[YE hb hc m hp hl r,GT];unfold XW;cases hq:m.ok b&&Ax b r with
  |false=>rfl
  |true=>
    rw[e_]at hq;have hm:=Img.ok_iff.1 hq.1;simp only[a_,d_,P_,c_,q_];by_cases hs:s.ok b.H0
    · rw[H (show Sto.ok b.H0 ⟨s.h0,s.h1,s.sel⟩from hs)]
      by_cases hb0:bud<0
      · rw[H hb0];rfl
      rw[f_ hb0];obtain⟨hm2,hl2⟩:=KH hm hq.2;have h1:=hm.lp;have h2:=hm.lf;have h3:=hm.ll;have g1:=hm2.lp;have g2:=hm2.lf;have g3:=hm2.ll;have hf2:(Ak m r).fit:=⟨ω,ω,ω,ω⟩
      have hcur:(s.cur.size:Int)≤b.H0:=by
        obtain⟨_,_,h3,h4,_⟩:=hs;unfold Sto.cur;split
        · exact h4
        · exact h3
      have hroom:=Yg hm.code;have wr:aD.wrap (b.H0-(s.cur.size:Int))=b.H0-(s.cur.size:Int):=Aa ω ω;have hsz:((OC b r).size:Int)=6:=by rw[Wt hq.2,Lm,GC];rfl
      rw[Aao m hm.so ω];have step:∀q:Bool,q=Jt b m r→(bif q then B (((),(),(0:Int),(7:Int),()),(((O (N [])),(O (N [])),(0:Int),()),(([]:List Int),([]:List Bool),([]:List Bool),([]:List Entry),()),()))else
          B (Aks (bif(FI b s m r bud).2.2==0 then((FI b s m r bud).1,Ak m r,(FI b s m r bud).2.1,(FI b s m r bud).2.2)else bif(FI b s m r bud).2.2==8 then((FI b s m r bud).1,m,0,(FI b s m r bud).2.2)else(Sto.no,aC,0,(FI b s m r bud).2.2))))=
        B (Aks (bif Jt b m r then(Sto.no,aC,0,7)else(bif(FI b s m r bud).2.2==0 then((FI b s m r bud).1,Ak m r,(FI b s m r bud).2.1,(FI b s m r bud).2.2)else bif(FI b s m r bud).2.2==8 then((FI b s m r bud).1,m,0,(FI b s m r bud).2.2)else(Sto.no,aC,0,(FI b s m r bud).2.2)))):=by
        rintro q rfl;cases Jt b m r<;>rfl
      simp only[q_,c_,a_];rw[← step _ rfl];have e5 : ∀ q : Bool, (bif (r.Q0 == (1 : Int)) then
              bif(!(FY (Aw r.E0 r.I0) m.A0))then
                (MU b.C0 b.F0 b.H0 b.M0 b.K0 b.L0 b.N0 b.B0 m.G0 m.O0 m.J0 m.A0).bind λy4=>
                B ((bud,(),(),(),(),(),(),(),(!y4.1.1),()),((b.C0,b.F0,b.H0,b.M0,b.K0,b.L0,b.N0,b.B0,()),(s.h0,s.h1,s.sel,()),(m.G0,m.O0,m.J0,m.A0,()),(r.Q0,r.E0,r.I0,r.R0,r.Z1,()),((O (N [])),(O (N [])),(0:Int),()),(([]:List Int),([]:List Bool),([]:List Bool),([]:List Entry),()),(Ak m r).tup,()))
              else
                B ((bud,(),(),(),(),(),(),(),C,()),((b.C0,b.F0,b.H0,b.M0,b.K0,b.L0,b.N0,b.B0,()),(s.h0,s.h1,s.sel,()),(m.G0,m.O0,m.J0,m.A0,()),(r.Q0,r.E0,r.I0,r.R0,r.Z1,()),((O (N [])),(O (N [])),(0:Int),()),(([]:List Int),([]:List Bool),([]:List Bool),([]:List Entry),()),(Ak m r).tup,()))
            else
              B ((bud,(),(),(),(),(),(),(),C,()),((b.C0,b.F0,b.H0,b.M0,b.K0,b.L0,b.N0,b.B0,()),(s.h0,s.h1,s.sel,()),(m.G0,m.O0,m.J0,m.A0,()),(r.Q0,r.E0,r.I0,r.R0,r.Z1,()),((O (N [])),(O (N [])),(0:Int),()),(([]:List Int),([]:List Bool),([]:List Bool),([]:List Entry),()),(Ak m r).tup,())))=B ((bud,(),(),(),(),(),(),(),Jt b m r,()),((b.C0,b.F0,b.H0,b.M0,b.K0,b.L0,b.N0,b.B0,()),(s.h0,s.h1,s.sel,()),(m.G0,m.O0,m.J0,m.A0,()),(r.Q0,r.E0,r.I0,r.R0,r.Z1,()),((O (N [])),(O (N [])),(0:Int),()),(([]:List Int),([]:List Bool),([]:List Bool),([]:List Entry),()),(Ak m r).tup,())):=λ_=>by
        rw[Aan hb m ω hp ω];unfold Jt;cases r.Q0==1<;>cases FY (Aw r.E0 r.I0) m.A0<;>rfl
      have e5':=e5 E;simp only[Img.tup]at e5'⊢;rw[e5'];simp only[a_];cases Jt b m r with
      |true=>rfl
      |false=>
        simp only[c_];rw[TE hb hc,QX];simp only[a_,hsz];rw[show Sto.cur ⟨s.h0,s.h1,s.sel⟩=s.cur from rfl,wr,Wt hq.2];have hw:II b.H0 s.h0 s.h1 s.sel s.sel (txt (CC r)) bud=_:=SZ b.H0 s.h0 s.h1 s.sel s.sel (txt (CC r)) bud hbud;have hcp:=VD hb hc s hf2 hbud;rw[hw,hcp];simp only[a_];have e10:∀{A:Type}(f:Sto×Int×Int→A),(bif decide ((6:Int)≤b.H0-(s.cur.size:Int))then B (f (s.write b.H0 s.sel (txt (CC r)) bud))else B (f (FE b s (Ak m r) bud)))=B (f (FI b s m r bud)):=λf=>by unfold FI;cases decide ((6:Int)≤b.H0-(s.cur.size:Int))<;>rfl
        rw[show Sto.mk s.h0 s.h1 s.sel=s from rfl];have e10':=e10 λw=>((w.2.1,(),(),(),(),(),w.2.2,()),((w.1.h0,w.1.h1,w.1.sel,()),(m.G0,m.O0,m.J0,m.A0,()),((O (N [])),(O (N [])),(0:Int),()),(([]:List Int),([]:List Bool),([]:List Bool),([]:List Entry),()),(Ak m r).tup,()))
        simp only[Img.tup]at e10';simp only[Sto.out];rw[e10'];simp only[a_];generalize FI b s m r bud=w;cases w.2.2==0 with
        |true=>rfl
        |false=>
          simp only[c_];cases w.2.2==8 with
          |true=>rw[YH m hp ω ω ω];rfl
          |false=>rfl
    · rw[f_ (show ¬Sto.ok b.H0 ⟨s.h0,s.h1,s.sel⟩from hs)]
      rfl
def An8{rs:List J}(hv:∀r∈rs,Ax b r=E)(hl:rs.length≤90000)(m0 m:Img)(hm:ImgOK b m)(hml:m.A0.length=0):
  Nd (((),(),rs,(rs.length:Int),(0:Int),()),(m0.tup,m.tup,()))=B (((),(),()),(m0.tup,(Ai m rs).tup,())):=by
 have hcars:=Aj hm.code;have h:=Bc (step:=λx=>letI a:=x.2.2.1;HY x.1.2.2.1 x.1.2.2.2.1 x.1.2.2.2.2.1 x.2.1.1 x.2.1.2.1 x.2.1.2.2.1 x.2.1.2.2.2.1 a.1 a.2.1 a.2.2.1 a.2.2.2.1) rs.length
  (λi (m:Img)=>(((),(),rs,(rs.length:Int),(i:Int),()),(m0.tup,m.tup,()))) (λi m=>Ak m (rs.getD i (Q 0 0 0 0 0))) (λi m=>ImgOK b m∧m.A0.length≤i) (λm=>(((),(),()),(m0.tup,m.tup,()))) (λi m hi hs=>by
   obtain⟨hm,hle⟩:=hs;have hr:=hv _ (BN (Q 0 0 0 0 0) hi);obtain⟨a1,a2⟩:=KH hm hr;refine⟨?_,a1,ω⟩;show HY rs (rs.length:Int) (i:Int) m0.G0 m0.O0 m0.J0 m0.A0 m.G0 m.O0 m.J0 m.A0=_;unfold HY;simp only[H (ω:(i:Int)<(rs.length:Int)),Ac (ω:(0:Int)≤(i:Int)) (ω:(i:Int)<(rs.length:Int)),d_,j_,Hn hi (show rs.length≤Bs by unfold Bs;omega)];rw[XB hm.so ω (rs.getD i (Q 0 0 0 0 0)) λhk=>by have h0:=Ae0 hr hk;have h1:=hm.lp;have h2:=hm.lf;have h3:=hm.ll;omega];rfl) (λm _=>by
   show HY rs (rs.length:Int) (rs.length:Int) m0.G0 m0.O0 m0.J0 m0.A0 m.G0 m.O0 m.J0 m.A0=_;unfold HY;simp only[f_ (Q_ (rs.length:Int)),c_];rfl) rs.length 0 m ω ⟨hm,ω⟩
 have h':=As h.1 ω;have e:∀(l:List J) (m:Img),l.foldl Ak m=Ai m l:=λl=>by
  induction l with
  |nil=>exact λm=>rfl
  |cons r t ih=>exact λm=>ih (Ak m r)
 rw[Vc Ak (Q 0 0 0 0 0) rs rs.length 0 m ω,S_,e]at h';exact h'
def Dv(b:I)(s:Sto):Img:=Ai (FG b) (Ns b s.cur)
def Ajb(hb:b.small)(hcode:b.code=0)(s:Sto)(hs:s.cur.size≤500000):
  Pa b.C0 b.F0 b.H0 b.M0 b.K0 b.L0 b.N0 b.B0 s.h0 s.h1 s.sel=B (((),()),((Dv b s).tup,())):=by
 have hcars:=Aj hcode;obtain⟨n,hr⟩:=Agt hb ω hcode s.cur ω;have hlen:(Ns b s.cur).length≤90000:=by
  have:=YV b s.cur.size (bl s.cur)
  rw[Ev]at this;unfold Ns;omega
 have hl:=An8 (b:=b) (rs:=Ns b s.cur) (λr hr=>Vk b _ _ r hr) hlen aC (FG b) (Abj hcode) rfl;unfold Pa;rw[Af9,hcode,QX];simp only[a_,l_,d_];rw[show Sto.cur ⟨s.h0,s.h1,s.sel⟩=s.cur from rfl,hr];simp only[a_];simp only[Img.tup,aC]at hl⊢;rw[hl];rfl
def sB:I:=Lc 4 2 30
def sM1:Img:=⟨[0,0],[C,C],[C,C],[⟨2,1,-1,0,C⟩]⟩
def sM2:Img:=⟨[0,0],[C,C],[C,C],[⟨2,1,0,0,C⟩]⟩
def Aq2:sB.code=0:=Aru ω ω ω ω ⟨ω,ω⟩
def ok1:sM1.ok sB=E:=by unfold Img.ok HG Iz Ap;rw[Aq2];rfl
def ok2:sM2.ok sB=E:=by unfold Img.ok HG Iz Ap;rw[Aq2];rfl
end Go.Ovl
