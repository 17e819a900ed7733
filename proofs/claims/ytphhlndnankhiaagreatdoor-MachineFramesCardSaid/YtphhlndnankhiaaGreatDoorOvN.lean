import Derived.Test.YtphhlndnankhiaaGreatDoorOvM
import Derived.Test.YtphhlndnankhiaaGreatDoorOvC
import Derived.Test.YtphhlndnankhiaaGreatDoorDefs4
set_option linter.all false
open Bool renaming true->A,false->D,eq_iff_iff->aE
open Go.Ovl renaming Aj->B,ofC->E,Bldg->J,Record->aA,CarOutput->aB,F_l27_MachineFrames->aF
open Go.Ovl.Sat renaming bindE->C,bifT->I,bifF->O,ret->V,bindS->aC
open Go.IntKind renaming wrap->H,u64->L,i64->U
open Go.Ovl.Outputs renaming mk->aD
open List renaming foldl_append->aG
namespace Go.Ovl
open Go Go.Ab
set_option maxRecDepth 100000
variable{c:Int×Int}{x:Outputs}{b:J}{a f:Nat}{m:Img}{d:Int}
def Agj(c:aB):Int×Int:=(c.J1,c.C1)
def YB(c:aB):Int×Int:=(c.N2,c.K2)
structure CoOK(b:Bldg)(c:CarOutput):Prop where
 inj:Ev b (Agj c)
 lan:Ev b (YB c)
 cmd:0≤c.H2∧c.H2≤5
 ph:0≤c.U3∧c.U3≤4
structure OutOK(b:Bldg)(x:Outputs):Prop where
 lamps:Ev b (x.Q2,x.G2)
 served:Ev b (x.X1,x.G1)
 st:0≤x.R2∧x.R2≤65535
 len:x.B0.length=b.B0.length
 cars:∀i,i<b.B0.length→CoOK b (x.B0.getD i AQ)
def PZ(s:ByteArray)(c:aB):ByteArray:=s++EM (Agj c)++EM (YB c)++LY [c.U1,c.A4,c.C4]++nmB (H L c.H2) 1++nmB (H L c.U3) 1
def UZ:List aB→ByteArray
 |[]=>noB
 |c::l=>EM (Agj c)++(EM (YB c)++(LY [c.U1,c.A4,c.C4]++(nmB (H L c.H2) 1++(nmB (H L c.U3) 1++UZ l))))
def Aam:∀(l:List aB) (s:ByteArray),l.foldl PZ s=s++UZ l
 |[],s=>(Ap8 s).symm
 |c::l,s=>by rw[e7_,Aam l];unfold PZ;rw[show UZ (c::l)=EM (Agj c)++(EM (YB c)++(LY [c.U1,c.A4,c.C4]++(nmB (H L c.H2) 1++(nmB (H L c.U3) 1++UZ l))))from rfl];simp only[e4_]
def Aiw(s:ByteArray)(c:aB):(PZ s c).size=s.size+19:=by unfold PZ;simp only[y_,AA,ER,CJ]
def Adw(l:List aB)(s:ByteArray):(l.foldl PZ s).size=s.size+19*l.length:=by
 induction l generalizing s with
 |nil=>simp
 |cons c t ih=>rw[e7_,ih,Aiw,x_];omega
def PV(b:J)(x:Outputs):ByteArray:=nmB 90 1++nmB (H L (b.B0.length:Int)) 1++EM (x.Q2,x.G2)++EM (x.X1,x.G1)++LY [x.H5,x.L0]++nmB (H L x.R2) 2
def WX(b:J)(x:Outputs):(PV b x).size=21:=by unfold PV;simp only[y_,AA,ER,CJ]
def outV(b:J)(x:Outputs):ByteArray:=FZ (x.B0.foldl PZ (PV b x))
def Az9(h:x.B0.length=b.B0.length):(outV b x).size=23+19*b.B0.length:=by unfold outV;rw[KQ,Adw,WX,h];omega
section
variable{b:J}(hb:b.small)(hcode:b.code=0)
include hb hcode
theorem Ant(h:OutOK b x):Nx b.C0 b.E0 b.H0 b.M0 b.J0 b.L0 b.N0 b.B0 x.Q2 x.G2 x.X1 x.G1 x.H5 x.L0 x.R2 x.B0=some ((A,()),()):=by
 have hc:=Am hcode;have hl:=h.len;have hS:Sat (Nx b.C0 b.E0 b.H0 b.M0 b.J0 b.L0 b.N0 b.B0 x.Q2 x.G2 x.X1 x.G1 x.H5 x.L0 x.R2 x.B0) λy=>y=((A,()),()):=by
  unfold Nx;have w:∀{c:Int×Int},Ev b c→HS b.C0 b.E0 b.H0 b.M0 b.J0 b.L0 b.N0 b.B0 c.1 c.2=some ((A,()),()):=λ{c} h=>by rw[Lo hb hcode c,h.1]
  have r:∀{n lo hi:Int},lo≤n∧n≤hi→HR n lo hi=some ((A,()),()):=λ{n lo hi} h=>by rw[Kk,Ap.2 h]
  refine C (Em b) (O (by show(b.code !=0)=D;rw[hcode];rfl) (C (w h.lamps) (O rfl (C (w h.served) (O rfl (C (r h.st) (O rfl (O (by rw[hl];exact O_ _) ?_))))))));refine aC (Q:=λy=>y=.inl ((),())) ?_ λy hy=>by subst hy;exact V rfl
  unfold NU;refine Sat.loop (λ(k:Nat) z=>∃i:Nat,z=(((),(),(i:Int),()),(b.tup,outP x,()))∧i+k=x.B0.length) (λk z hz=>?_) x.B0.length ⟨0,rfl,n_ _⟩ ω;obtain⟨i,rfl,hk⟩:=hz;show Sat (RR (i:Int) b.C0 b.E0 b.H0 b.M0 b.J0 b.L0 b.N0 b.B0 x.Q2 x.G2 x.X1 x.G1 x.H5 x.L0 x.R2 x.B0) _;unfold RR;refine Sat.bic (λq=>?_) λ_=>V rfl;have q:(i:Int)<(x.B0.length:Int):=m_ q;have wr:=CG (n:=i) ω;have hc:=h.cars i ω;refine I (Ac ω q) ?_;simp only[j_];rw[show CarOutput.mk 0 0 D 0 0 D 0 0 D=AQ from rfl];generalize x.B0.getD i AQ=c at hc⊢;exact(C (w hc.inj) (O rfl (C (w hc.lan) (O rfl (C (r hc.cmd) (O rfl (C (r hc.ph) (O rfl (V ⟨k-1,ω,i+1,by first | (rw[← wr];rfl) | rw[← wr],ω⟩)))))))))
 obtain⟨y,h1,h2⟩:=hS;rw[h1,h2]
theorem Aer(h:OutOK b x):Mh b.C0 b.E0 b.H0 b.M0 b.J0 b.L0 b.N0 b.B0 x.Q2 x.G2 x.X1 x.G1 x.H5 x.L0 x.R2 x.B0=some ((outV b x,0,()),()):=by
 have hc:=Am hcode;have hl:=h.len;have hS:Sat (Mh b.C0 b.E0 b.H0 b.M0 b.J0 b.L0 b.N0 b.B0 x.Q2 x.G2 x.X1 x.G1 x.H5 x.L0 x.R2 x.B0) λy=>y=((outV b x,0,()),()):=by
  unfold Mh;have bl2:∀{s t:ByteArray},s.size≤10000→t.size≤8→Nat.ble (s.size+t.size) 4611686018427387904=A:=λh1 h2=>Av ω;refine C (Ant hb hcode h) (O rfl (C (CF 90 (k:=1) ω) (C (CF (H L (b.B0.length:Int)) (k:=1) ω) (I (bl2 (by rw[AA];omega) (by rw[AA];omega)) ?_))));refine C (Mx (x.Q2,x.G2)) (I (bl2 (by simp only[y_,AA];omega) (by rw[CJ];omega)) ?_);refine C (Mx (x.X1,x.G1)) (I (bl2 (by simp only[y_,AA,CJ];omega) (by rw[CJ];omega)) ?_);refine C (Vx (l:=[x.H5,x.L0]) (by show 2≤100;omega)) (I (bl2 (by simp only[y_,AA,CJ];omega) (by rw[ER];omega)) ?_);refine C (CF (H L x.R2) (k:=2) ω) (I (bl2 (by simp only[y_,AA,CJ,ER];omega) (by rw[AA];omega)) ?_);show Sat (Option.bind (Ny (((),PV b x,(0:Int),()),(outP x,()))) _) _;refine aC (Q:=λy=>y=((x.B0.foldl PZ (PV b x),()),())) ?_ λy hy=>?_
  ·have h0:=WX b x;generalize PV b x=s0 at h0;unfold Ny;refine Sat.loop (λ(k:Nat) z=>∃(i:Nat) (s:ByteArray),z=(((),s,(i:Int),()),(outP x,()))∧i+k=x.B0.length∧s.size=21+19*i∧(x.B0.drop i).foldl PZ s=x.B0.foldl PZ s0) (λk z hz=>?_) x.B0.length ⟨0,s0,rfl,n_ _,h0,rfl⟩ ω;obtain⟨i,s,rfl,hk,hs,hT⟩:=hz;show Sat (Vd s (i:Int) x.Q2 x.G2 x.X1 x.G1 x.H5 x.L0 x.R2 x.B0) _;unfold Vd;refine Sat.bic (λq=>?_) λq=>V ?_
   ·have q:(i:Int)<(x.B0.length:Int):=m_ q;have wr:=CG (n:=i) ω;rw[By AQ (ω:i<x.B0.length),e7_]at hT;have hz:=Aiw s (x.B0.getD i AQ);refine I (Ac ω q) ?_;refine C (Mx (Agj (x.B0.getD i AQ))) (I (bl2 ω (by rw[CJ];omega)) ?_);refine C (Mx (YB (x.B0.getD i AQ))) (I (bl2 (by simp only[y_,CJ];omega) (by rw[CJ];omega)) ?_);refine C (Vx (l:=[(x.B0.getD i AQ).U1,(x.B0.getD i AQ).A4,(x.B0.getD i AQ).C4]) (by show 3≤100;omega)) (I (bl2 (by simp only[y_,CJ];omega) (by rw[ER];omega)) ?_);refine C (CF (H L (x.B0.getD i AQ).H2) (k:=1) ω) (I (bl2 (by simp only[y_,CJ,ER];omega) (by rw[AA];omega)) ?_);refine C (CF (H L (x.B0.getD i AQ).U3) (k:=1) ω) (I (bl2 (by simp only[y_,CJ,ER,AA];omega) (by rw[AA];omega)) ?_);exact V ⟨k-1,ω,i+1,PZ s (x.B0.getD i AQ),by first | (rw[← wr];rfl) | rw[← wr],ω,by rw[hz];omega,hT⟩
   ·have q:=E_ q;rw[List.drop_of_length_le ω]at hT;show((s,()),())=_;rw[← hT];rfl
  ·subst hy;exact C (Vw (by rw[Adw,WX];omega)) (V rfl)
 obtain⟨y,h1,h2⟩:=hS;rw[h1,h2]
end
def Rh{s r:ByteArray}(h:tl a s=EM c++r)(hu:Ef c):Akv s a=c∧tl (a+8) s=r:=by unfold EM at h;rw[e4_]at h;have t4:=(Afe 4 a s).symm.trans ((d3_ (tl 4) h).trans (Hs (AA _ 4) _));have t8:=(Afe 4 (a+4) s).symm.trans ((d3_ (tl 4) t4).trans (Hs (AA _ 4) _));refine⟨?_,t8⟩;unfold Akv;rw[ZM,ZM,h,t4,Tc,Tc,We hu.1,We hu.2]
def Uu{s r:ByteArray}{n:Int}(h:tl a s=nmB (H L n) 1++r)(hn:0≤n∧n<256):U.wrap (AJ s a)=n∧tl (a+1) s=r:=by refine⟨?_,(Afe 1 a s).symm.trans ((d3_ (tl 1) h).trans (Hs (AA _ 1) _))⟩;rw[show a=a+0 from rfl,Yd,h,GR,Dg hn.1 ω];have e:(((bl (nmB n 1++r)).getD 0 0).toNat:Int)=n:=Qt hn r;rw[e];exact Aa ω ω
def Ahm{s r:ByteArray}{l:List Bool}(h:tl a s=LY l++r)(hn:0≤AE (Mq l) l.length 0 0∧AE (Mq l) l.length 0 0<256):(∀k,Bb0 s a k=Yb (AE (Mq l) l.length 0 0) k)∧tl (a+1) s=r:=by
 refine⟨λk=>?_,(Afe 1 a s).symm.trans ((d3_ (tl 1) h).trans (Hs (ER _) _))⟩;have e:AJ s a=AE (Mq l) l.length 0 0:=by rw[show a=a+0 from rfl,Yd,h,GR];exact Qt hn _
 unfold Bb0 Yb;rw[e]
def Bsd(a b c:Bool):(0≤AE (Mq [a,b,c]) 3 0 0∧AE (Mq [a,b,c]) 3 0 0<256)∧Yb (AE (Mq [a,b,c]) 3 0 0) 0=a∧Yb (AE (Mq [a,b,c]) 3 0 0) 1=b∧Yb (AE (Mq [a,b,c]) 3 0 0) 2=c:=by cases a<;>cases b<;>cases c<;>decide+kernel
def Bsc(a b:Bool):(0≤AE (Mq [a,b]) 2 0 0∧AE (Mq [a,b]) 2 0 0<256)∧Yb (AE (Mq [a,b]) 2 0 0) 0=a∧Yb (AE (Mq [a,b]) 2 0 0) 1=b:=by cases a<;>cases b<;>decide+kernel
section
variable{b:J}(hb:b.small)(hcode:b.code=0)
include hb hcode
theorem Ag4(h:OutOK b x):Iq b.C0 b.E0 b.H0 b.M0 b.J0 b.L0 b.N0 b.B0 (outV b x)=some (((),0,()),(outP x,())):=by
 have hc:=Am hcode;have hl:=h.len;have hz:=Az9 (b:=b) hl;have es:∃S,outV b x=nmB 90 1++(nmB (H L (b.B0.length:Int)) 1++(EM (x.Q2,x.G2)++(EM (x.X1,x.G1)++(LY [x.H5,x.L0]++(nmB (H L x.R2) 2++(UZ x.B0++S)))))):=by refine⟨UV (x.B0.foldl PZ (PV b x)),?_⟩;unfold outV FZ;generalize UV (x.B0.foldl PZ (PV b x))=S;rw[Aam];unfold PV;simp only[e4_]
 obtain⟨S,es⟩:=es;have ho:(Hg (outV b x)).2=0:=by
  have e1:(outV b x).extract 0 ((outV b x).size-2)=x.B0.foldl PZ (PV b x):=by unfold outV;rw[KQ,Nat.add_sub_cancel];unfold FZ;apply Lh;rw[PF,JW,R_,Nat.sub_zero];exact e6_ (FE _)
  unfold Hg;rw[f_ (ω:¬((outV b x).size:Int)<2),e1,show FZ (x.B0.foldl PZ (PV b x))=outV b x from rfl,Ama];rfl
 generalize hs:outV b x=s at es ho hz;have t0:tl 0 s=s:=Lh (by rw[Ac9];rfl);obtain⟨v0,t1⟩:=Uu (n:=90) (t0.trans es) τ;obtain⟨v1,t2⟩:=Uu (n:=(b.B0.length:Int)) t1 ω;obtain⟨v2,t10⟩:=Rh t2 h.lamps.2;obtain⟨v10,t18⟩:=Rh t10 h.served.2;obtain⟨b0,b1,b2⟩:=Bsc x.H5 x.L0;obtain⟨v18,t19⟩:=Ahm t18 b0;have t21:=(Afe 2 19 s).symm.trans ((d3_ (tl 2) t19).trans (Hs (AA _ 2) _));have v19:U.wrap (Ahh s 19 2)=x.R2:=by have hst:=h.st;rw[ZM,t19,Dg (n:=x.R2) hst.1 ω,Am1 x.R2 τ hst.1,show x.R2.toNat%2^(8*2)=x.R2.toNat by show _%65536=_;omega,e5_ hst.1];exact Aa ω ω
 have hsz:s.size≤1000000:=ω;have hS:Sat (Iq b.C0 b.E0 b.H0 b.M0 b.J0 b.L0 b.N0 b.B0 s) λy=>y=(((),0,()),(outP x,())):=by
  have e23:U.wrap (23+U.wrap (19*(b.B0.length:Int)))=23+19*(b.B0.length:Int):=by rw[Aa (n:=19*(b.B0.length:Int)) ω ω,Aa ω ω]
  have hsize:Sn b.C0 b.E0 b.H0 b.M0 b.J0 b.L0 b.N0 b.B0=some ((H U (14+U.wrap (19*(b.B0.length:Int))),23+19*(b.B0.length:Int),()),()):=by unfold Sn;rw[Em];refine Ae rfl ?_;show(bif b.code !=0 then _ else _)=_;rw[hcode,e23];rfl
  have hopen:So b.C0 b.E0 b.H0 b.M0 b.J0 b.L0 b.N0 b.B0 s (23+19*(b.B0.length:Int)) 90=some ((0,()),()):=by unfold So;rw[Em];refine Ae rfl ?_;show(bif b.code !=0 then _ else _)=_;rw[hcode,show((s.size:Int) !=23+19*(b.B0.length:Int))=D by rw[hz];simp,Ac ω (ω:(0:Int)<(s.size:Int)),Ac ω (ω:(1:Int)<(s.size:Int))];show(bif U.wrap (AJ s 0) !=90 then _ else bif U.wrap (AJ s 1) !=(b.B0.length:Int)then _ else _)=_;rw[v0,v1,O_,O_,c_,c_,Apo hsz,ho];rfl
  unfold Iq;refine C hsize (C hopen (O rfl ?_));refine C (Rn (s:=s) (a:=2) ω hsz) (C (Rn (s:=s) (a:=10) ω hsz) (C (Xm (s:=s) (a:=18) (k:=0) ω ω) (C (Xm (s:=s) (a:=18) (k:=1) ω ω) (C (TR (s:=s) (a:=19) (k:=2) ω hsz) ?_))));rw[v2,v10,v18,v18,v19];simp only[x_,c7_,n_,Nat.reduceAdd,b1,b2];have hz0:(aD 0 0 0 0 D D 0 []).B0=[]:=rfl;refine aC (Q:=λy=>y=((s,(),(),(),()),(b.tup,outP (aD 0 0 0 0 D D 0 []),outP x,()))) ?_ λy hy=>?_
  ·unfold LV;refine Sat.loop (λ(k:Nat) z=>∃(i:Nat),z=((s,(),(),(),(i:Int),()),(b.tup,outP (aD 0 0 0 0 D D 0 []),outP { x with B0:=x.B0.take i },()))∧i+k=b.B0.length∧tl (21+19*i) s=UZ (x.B0.drop i)++S) (λk z hz=>?_) b.B0.length ⟨0,rfl,n_ _,t21⟩ ω;obtain⟨i,rfl,hk,ht⟩:=hz;show Sat (Pz s (i:Int) b.C0 b.E0 b.H0 b.M0 b.J0 b.L0 b.N0 b.B0 0 0 0 0 D D 0 [] x.Q2 x.G2 x.X1 x.G1 x.H5 x.L0 x.R2 (x.B0.take i)) _;unfold Pz;refine Sat.bic (λq=>?_) λq=>V ?_
   ·have q:(i:Int)<(b.B0.length:Int):=m_ q;have wr:=CG (n:=i) ω;have hco:=h.cars i ω;rw[By AQ (ω:i<x.B0.length)]at ht;generalize hcc:x.B0.getD i AQ=c at ht hco;rw[show UZ (c::x.B0.drop (i+1))=EM (Agj c)++(EM (YB c)++(LY [c.U1,c.A4,c.C4]++(nmB (H L c.H2) 1++(nmB (H L c.U3) 1++UZ (x.B0.drop (i+1))))))from rfl]at ht;simp only[e4_]at ht;have hcmd:=hco.cmd;have hph:=hco.ph;obtain⟨w0,r8⟩:=Rh ht hco.inj.2;obtain⟨w8,r16⟩:=Rh r8 hco.lan.2;obtain⟨d0,d1,d2,d3⟩:=Bsd c.U1 c.A4 c.C4;obtain⟨w16,r17⟩:=Ahm r16 d0;obtain⟨w17,r18⟩:=Uu r17 ω;obtain⟨w18,r19⟩:=Uu r18 ω;have e0:U.wrap (21+U.wrap (19*(i:Int)))=((21+19*i:Nat):Int):=by
     rw[Aa (n:=19*(i:Int)) ω ω,Aa ω ω];norm_cast
    have ea:∀k:Nat,k≤100→U.wrap (((21+19*i:Nat):Int)+(k:Int))=((21+19*i+k:Nat):Int):=λk hk=>by rw[Aa ω ω];norm_cast
    have a8:U.wrap (((21+19*i:Nat):Int)+8)=((21+19*i+8:Nat):Int):=ea 8 ω;have a16:U.wrap (((21+19*i:Nat):Int)+16)=((21+19*i+16:Nat):Int):=ea 16 ω;have a17:U.wrap (((21+19*i:Nat):Int)+17)=((21+19*i+8+8+1:Nat):Int):=ea 17 ω;have a18:U.wrap (((21+19*i:Nat):Int)+18)=((21+19*i+8+8+1+1:Nat):Int):=ea 18 ω;have hsl:21+19*i+19≤s.size:=by rw[hz];omega
    simp only[e0,a8,a16,a17,a18,wr];have hb3:∀j:Nat,j<3→Mi s ((21+19*i+16:Nat):Int) (j:Int)=some ((Yb (AE (Mq [c.U1,c.A4,c.C4]) 3 0 0) j,()),()):=λj hj=>by rw[Xm (s:=s) (a:=21+19*i+16) (k:=j) ω ω,show 21+19*i+16=21+19*i+8+8 from rfl,w16];rfl
    refine C (Rn (s:=s) (a:=21+19*i) ω hsz) (C (hb3 0 τ) (C (Rn (s:=s) (a:=21+19*i+8) ω hsz) (C (hb3 1 τ) (C (hb3 2 τ) ?_))));refine I (Ac ω ω) (I (Ac ω ω) (I (Av (by rw[w_];show _+1≤_;omega)) (V ⟨k-1,ω,i+1,?_,ω,?_⟩)))
    ·rw[w0,w8,j_,j_,w17,w18,d1,d2,d3];have e:x.B0.take (i+1)=x.B0.take i++[c]:=by
      rw[List.take_succ,← hcc,k_,i_ (ω:i<x.B0.length)];rfl
     show _=((s,(),(),(),((i+1:Nat):Int),()),(b.tup,outP (aD 0 0 0 0 D D 0 []),(x.Q2,x.G2,x.X1,x.G1,x.H5,x.L0,x.R2,x.B0.take (i+1),()),()));rw[e];rfl
    ·rw[show 21+19*(i+1)=21+19*i+8+8+1+1+1 by omega];exact r19
   ·have q:=E_ q;show((s,(),(),(),()),(b.tup,outP (aD 0 0 0 0 D D 0 []),(x.Q2,x.G2,x.X1,x.G1,x.H5,x.L0,x.R2,x.B0.take i,()),()))=_;rw[a3_ ω]
  ·subst hy;refine C (Aer hb hcode h) (O rfl (O ?_ (V rfl)));show(!eqB (outV b x) s)=D;rw[hs,Ama];rfl
 obtain⟨y,h1,h2⟩:=hS;rw[h1,h2]
end
def Hi(c:Int×Int)(r:aA):Int×Int:=bif r.R0==2 then AX (bif r.R0==1 then Cc c (Fi r.D0 r.I0)else c) (Fi r.D0 r.I0)else(bif r.R0==1 then Cc c (Fi r.D0 r.I0)else c)
def Ba4(h:Ef c)(r:aA):Ef (Hi c r):=by
 unfold Hi;cases r.R0==2 with
 |true=>exact HD _ _
 |false=>
  cases r.R0==1 with
  |true=>exact MB _ _
  |false=>exact h
def Acp(c:Int×Int)(m:Img):Prop:=∀f:Nat,f<32→∀d:Int,(d=1∨d=2)→(B c f d=A↔((f:Int),d)∈m.A0.map BQ)
def Agr(p:Int×Int):¬ltC p p:=λh=>by unfold ltC at h;omega
def Bh1{l:List (Int×Int)}(hs:l.Pairwise ltC){k:Nat}(hk:k<l.length)(p:Int×Int):p∈l.take k++l.drop (k+1)↔p∈l∧p≠l[k]:=by
 have e:l=l.take k++l[k]::l.drop (k+1):=by rw[← h4_ hk,List.take_append_drop]
 have hs':=hs;rw[e]at hs';obtain⟨_,h2,h3⟩:=g0_.1 hs';obtain⟨h4,_⟩:=f1_.1 h2;constructor
 ·intro h;rcases p_.1 h with h | h
  ·exact⟨d8_ h,λq=>Agr _ (q▸h3 p h l[k] (t_ ..))⟩
  ·exact⟨d9_ h,λq=>Agr _ (q▸h4 p h)⟩
 ·rintro⟨h,hne⟩;rw[e]at h;rcases p_.1 h with h | h
  ·exact p_.2 (.inl h)
  ·rcases q_.1 h with h | h
   ·exact absurd h hne
   ·exact p_.2 (.inr h)
def Ar3(hb:b.small)(ha:Acp c m)(hm:ImgOK b m){r:aA}(hv:At b r=A):Acp (Hi c r) (Aw m r):=by
 intro f hf d hd;have h0:=ha f hf d hd;have hk:=(VD hv).2;have hcall:(r.R0=1∨r.R0=2)→(0≤r.D0∧r.D0<32)∧(r.I0=1∨r.I0=2):=λh=>by
  have lo:=hb.lo;have hi:=hb.hi;have hc:Ai b r.D0 r.I0=A:=by
   rcases hk with q | q | q | q | q | q | q
   ·exact q.2.1
   ·exact q.2.1
   all_goals omega
  unfold Ai NY at hc;simp only[e_,S_,W_,Ap]at hc;omega
 have hone:(r.R0=1∨r.R0=2)→(B (Fi r.D0 r.I0) f d=A↔((f:Int),d)=(r.D0,r.I0)):=λh=>by obtain⟨h1,h2⟩:=hcall h;rw[KD h1 h2 f hd,r_]
 have same:∀l:List Entry,l.map BQ=m.A0.map BQ→¬r.R0=1→¬r.R0=2→(B (Hi c r) f d=A↔((f:Int),d)∈l.map BQ):=λl hl h1 h2=>by unfold Hi;rw[An h1,An h2,hl];exact h0
 unfold Aw;by_cases k4:r.R0=4
 ·rw[show(r.R0==4)=A by rw[k4];rfl];exact same _ rfl ω ω
 rw[An k4,c_];by_cases k5:r.R0=5
 ·rw[show(r.R0==5)=A by rw[k5];rfl];exact same _ rfl ω ω
 rw[An k5,c_];by_cases k6:r.R0=6
 ·rw[show(r.R0==6)=A by rw[k6];rfl];exact same _ rfl ω ω
 rw[An k6,c_];rcases SF r.D0 r.I0 m.A0 0 with⟨h1,h2⟩ | ⟨k,h1,h2,h3⟩
 ·rw[h1,show((-1:Int)==-1)=A from rfl,d_];by_cases k1:r.R0=1
  ·rw[show(r.R0==1)=A by rw[k1];rfl,d_];have hins:=Xa (c:=⟨r.D0,r.I0,-1,0,D⟩) h2;show _↔((f:Int),d)∈(Hp ⟨r.D0,r.I0,-1,0,D⟩ D m.A0).map BQ;rw[hins];unfold Hi;rw[k1];simp only[show((1:Int)==2)=D from rfl,l_,d_,c_];rw[FD,S_,h0,hone (.inl k1)];generalize Az ⟨r.D0,r.I0,-1,0,D⟩ m.A0=p
   conv=>lhs;rw[← List.take_append_drop p m.A0]
   simp only[List.map_append,p_,c2_,List.map_nil,P_,BQ];constructor
   ·rintro((h | h) | h)
    ·exact .inl (.inl h)
    ·exact .inr h
    ·exact .inl (.inr h)
   ·rintro((h | h) | h)
    ·exact .inl (.inl h)
    ·exact .inr h
    ·exact .inl (.inr h)
  ·rw[An k1,c_];by_cases k2:r.R0=2
   ·unfold Hi;rw[k2];simp only[show((2:Int)==1)=D from rfl,l_,d_,c_];rw[Bt _ _ hf,e_,h0,a9_,← Bool.not_eq_true,hone (.inr k2)];refine⟨λh=>h.1,λh=>⟨h,λq=>?_⟩⟩;obtain⟨e,he,hq⟩:=b5_.1 h
    have:=h2 e he
    rw[Aq2.2 (hq.trans q)]at this;cases this
   ·exact same _ rfl k1 k2
 ·rw[n_]at h2;rw[h2,An (ω:¬(k:Int)=-1),c_,j_];have hkc:BQ (m.A0.getD k noE)=(r.D0,r.I0):=Aq2.1 h3;have hget:m.A0.getD k noE=m.A0[k]:=by simp[h1]
  by_cases k2:r.R0=2
  ·rw[show(r.R0==2)=A by rw[k2];rfl,d_];show _↔((f:Int),d)∈(m.A0.take k++m.A0.drop (k+1)).map BQ;have hd1:=Bh1 (l:=m.A0.map BQ) hm.so (k:=k) (by rw[c8_];exact h1) ((f:Int),d);rw[List.map_append,List.map_take,List.map_drop,hd1,List.getElem_map,← hget,hkc];unfold Hi;rw[k2];simp only[show((2:Int)==1)=D from rfl,l_,d_,c_];rw[Bt _ _ hf,e_,h0,a9_,← Bool.not_eq_true,hone (.inr k2)]
  ·rw[An k2,c_];by_cases k1:r.R0=1
   ·rw[k1];simp only[show((1:Int)==3)=D from rfl,show((1:Int)==7)=D from rfl,c_];unfold Hi;rw[k1];simp only[show((1:Int)==2)=D from rfl,l_,d_,c_];rw[FD,S_,h0,hone (.inl k1)];refine⟨λh=>?_,λh=>.inl h⟩;rcases h with h | h
    ·exact h
    ·rw[h,← hkc];exact b5_.2 ⟨_,BR noE h1,rfl⟩
   ·by_cases k3:r.R0=3
    ·rw[show(r.R0==3)=A by rw[k3];rfl,d_];exact same _ (TM h1 rfl) k1 k2
    ·rw[An k3,c_];by_cases k7:r.R0=7
     ·rw[show(r.R0==7)=A by rw[k7];rfl,d_];exact same _ (TM h1 rfl) k1 k2
     ·rw[An k7,c_];exact same _ rfl k1 k2
def XW{b:J}(hb:b.small):∀(rs:List aA) {c:Int×Int}{m:Img},Acp c m→Ef c→ImgOK b m→(∀r∈rs,At b r=A)→Acp (rs.foldl Hi c) (Aq m rs)∧Ef (rs.foldl Hi c)∧ImgOK b (Aq m rs)
 |[],_,_,h,hu,hm,_=>⟨h,hu,hm⟩
 |r::t,_c,_m,h,hu,hm,hv=>XW hb t (Ar3 hb h hm (hv r (t_ ..))) (Ba4 hu r) (Mo hm (hv r (t_ ..))).1 λx hx=>hv x (B_ _ hx)
def Mt(was:Int×Int)(X:Rnd):Int×Int:=X.recs.foldl Hi was
def Ah8:∀{l:List aA}(c:Int×Int),(∀r∈l,r.R0=3∨r.R0=7)→l.foldl Hi c=c
 |[],_,_=>rfl
 |r::t,c,h=>by
  have hr:=h r (t_ ..)
  have:Hi c r=c:=by unfold Hi;rw[An (ω:¬r.R0=2),An (ω:¬r.R0=1)];rfl
  rw[e7_,this];exact Ah8 c λx hx=>h x (B_ _ hx)
def Aef(b:J)(vs:List View)(ps:List Calls){f:Nat}(hf:f<32)(d:Int):∀(k i:Nat) (s:Lan),i+k=vs.length→B (AE (Il b vs ps) k i s).cl f d=(B s.cl f d||(vs.drop i).any λv=>B (CL b v) f d)
 |0,i,s,hi=>by rw[show i=vs.length by omega,b2_];simp[AE]
 |k+1,i,s,hi=>by show B (AE (Il b vs ps) k (i+1) (Il b vs ps i s)).cl f d=_;rw[Aef b vs ps hf d k (i+1) _ ω,By noV (ω:i<vs.length),List.any_cons];show(B (Cc s.cl (KK b vs i s)) f d||_)=_;unfold KK;rw[FD,Bt _ _ hf];cases B s.cl f d<;>cases B (CL b (vs.getD i noV)) f d<;>rfl
def Aio(b:J)(vs:List View)(ps:List Calls)(hf:f<32)(d:Int):B (CO b vs ps).cl f d=Ji b vs (f:Int) d:=by unfold CO Ji;rw[Aef b vs ps hf d vs.length 0 Lan.none ω,R_,j_];show(B (0,0) f d||_)=_;rw[Eb,Bool.false_or]
def Ai9(b:J)(vs:List View){f:Nat}(hf:f<32){d:Int}(hd:d=1∨d=2):∀{l:List Entry}{c:Int×Int},(∀e∈l,Re e)→(B ((CZ b vs l).foldl Hi c) f d=A↔B c f d=A∧¬(((f:Int),d)∈l.map BQ∧Ji b vs (f:Int) d=A))
 |[],c,_=>by simp[CZ]
 |e::t,c,h=>by
  have he:=h e (t_ ..);have ht:=λx hx=>h x (B_ _ hx);have e0:CZ b vs (e::t)=(bif Ji b vs e.D0 e.I0 then [Record.mk 2 e.D0 e.I0 0 0]else [])++CZ b vs t:=rfl;rw[e0,aG,Ai9 b vs hf hd ht,c2_,q_];cases hs:Ji b vs e.D0 e.I0 with
  |false=>
   show B c f d=A∧_↔_;constructor
   ·rintro⟨h1,h2⟩;refine⟨h1,λhh=>h2 ⟨?_,hh.2⟩⟩;rcases hh.1 with hh1 | hh1
    ·obtain⟨q1,q2⟩:=Prod.mk.inj (show((f:Int),d)=(e.D0,e.I0)from hh1);rw[q1,q2,hs]at hh;cases hh.2
    ·exact hh1
   ·rintro⟨h1,h2⟩;exact⟨h1,λhh=>h2 ⟨.inr hh.1,hh.2⟩⟩
  |true=>
   have hw:List.foldl Hi c [Record.mk 2 e.D0 e.I0 0 0]=AX c (Fi e.D0 e.I0):=rfl;rw[d_,hw,Bt _ _ hf,KD he.1 he.2 f hd,e_,a9_,decide_eq_false_iff_not];constructor
   ·rintro⟨⟨h1,h2⟩,h3⟩;refine⟨h1,λhh=>h3 ⟨?_,hh.2⟩⟩;rcases hh.1 with hh1 | hh1
    ·exact absurd hh1 h2
    ·exact hh1
   ·rintro⟨h1,h2⟩;refine⟨⟨h1,λhq=>h2 ⟨.inl hq,?_⟩⟩,λhh=>h2 ⟨.inr hh.1,hh.2⟩⟩;obtain⟨q1,q2⟩:=Prod.mk.inj hq;rw[q1,q2];exact hs
def Az3{b:J}:∀{l:List Entry}{X:Rnd},KP b X.img=D→(Et b l X).img=X.img
 |[],_,_=>rfl
 |e::t,X,h=>by
  have e1:(Cq b e X).img=X.img:=by unfold Cq;rw[h];rfl
  show(Et b t (Cq b e X)).img=X.img;rw[Az3 (by rw[e1];exact h),e1]
structure RegBits(b:Bldg)(was:Int×Int)(l:List Entry)(X:Rnd):Prop where
 bits:∀f:Nat,f<32→∀d:Int,(d=1∨d=2)→(Aj (Mt was (Et b l X)) f d=true↔Aj (Mt was X) f d=true∨(((f:Int),d)∈l.map BQ∧Aj (Et b l X).ref f d=false))
 up:∀f:Nat,f<32→∀d:Int,(d=1∨d=2)→Aj X.ref f d=true→Aj (Et b l X).ref f d=true
 down:∀f:Nat,f<32→∀d:Int,(d=1∨d=2)→Aj (Et b l X).ref f d=true→Aj X.ref f d=true∨((f:Int),d)∈l.map BQ
 u32:Ef X.ref→Ef (Et b l X).ref
 room:(Et b l X).ref=X.ref∨KP b (Et b l X).img=false
def Acb{b:J}{was:Int×Int}:∀{l:List Entry}{X:Rnd},(∀e∈l,Re e)→(l.map BQ).Pairwise ltC→(∀e∈l,B X.ref e.D0.toNat e.I0=D)→RegBits b was l X
 |[],X,_,_,_=>⟨λf _ d _=>by simp[Et],λ_ _ _ _ h=>h,λ_ _ _ _ h=>.inl h,λh=>h,.inl rfl⟩
 |e::t,X,hc,hp,hr=>by
  have he:=hc e (t_ ..);have hct:=λx hx=>hc x (B_ _ hx);rw[c2_]at hp;obtain⟨hp1,hp2⟩:=f1_.1 hp;have hne:(e.D0,e.I0)∉t.map BQ:=λh=>Agr _ (hp1 _ h);have h0:=hr e (t_ ..);have hrt:=λx hx=>hr x (B_ _ hx);have hR:Et b (e::t) X=Et b t (Cq b e X):=rfl;cases hroom:KP b X.img with
  |true=>
   have e1:Cq b e X=Rr (YY e) X:=by unfold Cq;rw[hroom];rfl
   have e2:(Cq b e X).ref=X.ref:=by rw[e1];rfl
   have e3:Mt was (Cq b e X)=Cc (Mt was X) (Fi e.D0 e.I0):=by rw[e1];unfold Mt Rr;simp only;rw[aG];rfl
   have ih:=Acb (b:=b) (was:=was) (X:=Cq b e X) hct hp2 (by rw[e2];exact hrt);have iu:=ih.up;have idn:=ih.down;have iu32:=ih.u32;have irm:=ih.room;rw[e2]at iu idn iu32 irm;rw[← hR]at iu idn iu32 irm;refine⟨λf hf d hd=>?_,iu,λf hf d hd h=>(idn f hf d hd h).imp id (B_ _),iu32,irm⟩;have hb:=ih.bits f hf d hd;rw[← hR,e3,FD,KD he.1 he.2 f hd,S_,r_]at hb;rw[hb,c2_,q_];constructor
   ·rintro((h | h) | ⟨h1,h2⟩)
    ·exact .inl h
    ·refine .inr ⟨.inl h,?_⟩;cases hq:B (Et b (e::t) X).ref f d with
     |false=>rfl
     |true=>
      obtain⟨q1,q2⟩:=Prod.mk.inj h;rcases idn f hf d hd hq with hh | hh
      ·rw[show f=e.D0.toNat by omega,q2,h0]at hh;cases hh
      ·rw[h]at hh;exact absurd hh hne
    ·exact .inr ⟨.inr h1,h2⟩
   ·rintro(h | ⟨h1 | h1,h2⟩)
    ·exact .inl (.inl h)
    ·exact .inl (.inr h1)
    ·exact .inr ⟨h1,h2⟩
  |false=>
   have e1:Cq b e X=⟨X.recs,X.img,X.xs,X.lan,Cc X.ref (Fi e.D0 e.I0)⟩:=by unfold Cq;rw[hroom];rfl
   have e2:(Cq b e X).ref=Cc X.ref (Fi e.D0 e.I0):=by rw[e1]
   have e3:Mt was (Cq b e X)=Mt was X:=by rw[e1];rfl
   have hx:∀f:Nat,f<32→∀d:Int,(d=1∨d=2)→(B (Cq b e X).ref f d=A↔B X.ref f d=A∨((f:Int),d)=(e.D0,e.I0)):=λf hf d hd=>by rw[e2,FD,KD he.1 he.2 f hd,S_,r_]
   have ih:=Acb (b:=b) (was:=was) (X:=Cq b e X) hct hp2 (λx hxt=>by
    have hce:=hct x hxt;cases hq:B (Cq b e X).ref x.D0.toNat x.I0 with
    |false=>rfl
    |true=>
     rcases(hx x.D0.toNat (by have:=hce.1;omega) x.I0 hce.2).1 hq with hh | hh
     ·rw[hrt x hxt]at hh;cases hh
     ·exfalso;refine hne (b5_.2 ⟨x,hxt,?_⟩);rw[← hh];show(x.D0,x.I0)=_;rw[e5_ hce.1.1])
   refine⟨λf hf d hd=>?_,λf hf d hd h=>?_,λf hf d hd h=>?_,λ_=>?_,.inr ?_⟩
   ·have hb:=ih.bits f hf d hd;rw[← hR,e3]at hb;rw[hb,c2_,q_];constructor
    ·rintro(h | ⟨h1,h2⟩)
     ·exact .inl h
     ·exact .inr ⟨.inr h1,h2⟩
    ·rintro(h | ⟨h1 | h1,h2⟩)
     ·exact .inl h
     ·exfalso
      have:=ih.up f hf d hd ((hx f hf d hd).2 (.inr h1))
      rw[← hR,h2]at this;cases this
     ·exact .inr ⟨h1,h2⟩
   ·rw[hR];exact ih.up f hf d hd ((hx f hf d hd).2 (.inl h))
   ·rw[hR]at h;rw[c2_,q_];rcases ih.down f hf d hd h with hh | hh
    ·rcases(hx f hf d hd).1 hh with h3 | h3
     ·exact .inl h3
     ·exact .inr (.inl h3)
    ·exact .inr (.inr hh)
   ·rw[hR];exact ih.u32 (by rw[e2];exact MB _ _)
   ·have e4:(Cq b e X).img=X.img:=by rw[e1]
    rw[hR,Az3 (by rw[e4];exact hroom),e4];exact hroom
def Anb(hf:f<32)(hd:d=1∨d=2):((f:Int),d)∈(Fd c).map BQ↔B c f d=A:=by
 unfold Fd;rw[mem_range];constructor
 ·rintro⟨g,_,h1,_,h3⟩;have hg:g=f:=by have:(f:Int)=(g:Int):=h1;omega
  rw[hg]at h3;exact h3
 ·intro h;exact⟨f,⟨ω,ω⟩,rfl,hd,h⟩
def UC(hb:b.small)(hm:ImgOK b m):Acp (E m.A0 (0,0)) m:=λf _ d hd=>by have hc:∀e∈m.A0,Re e:=λe he=>Ot hb (CR.1 (hm.en e he)).1;rw[ZH hc f hd,Eb];simp
section
variable{b:J}(hb:b.small)(hcode:b.code=0){m:Img}(hm:ImgOK b m){xs:List Int}(hx:xs.length=m.A0.length)(hxv:inX xs){vs:List View}(hvl:vs.length=b.B0.length)(ps:List Calls)(press:Int×Int)
include hb hcode hm hx hxv hvl
theorem Aqf(good:Bool):E (EH b m xs vs ps press good).img.A0 (0,0)=Mt (E m.A0 (0,0)) (BV b m xs vs ps press good):=by
 have hfr:=(Ack hb hcode hm hx hxv (vs:=vs) ps press good hvl).1;have hp:=Xv hb hcode hm hx hxv (vs:=vs) ps press good hvl;obtain⟨a1,a2,a3⟩:=XW hb (EH b m xs vs ps press good).recs (UC hb hm) (VX _ FJ) hm hfr.good.valid;rw[hfr.img]at a1 a3;have hc:∀e∈(EH b m xs vs ps press good).img.A0,Re e:=λe he=>Ot hb (CR.1 (a3.en e he)).1;have e1:(EH b m xs vs ps press good).recs.foldl Hi (E m.A0 (0,0))=Mt (E m.A0 (0,0)) (BV b m xs vs ps press good):=by show((BV b m xs vs ps press good).recs++(Xu b m xs vs ps press good).1).foldl Hi _=_;rw[aG,hp,Ah8 _ (SP b vs _ _)];rfl
 rw[← e1];refine OH (VX _ FJ) a2 λf hf d hd=>?_;rw[aE,ZH hc f hd,a1 f hf d hd,Eb];simp
theorem Ass:E (EH b m xs vs ps press A).img.A0 (0,0)=Cc (AX (E m.A0 (0,0)) (CO b vs ps).cl) (AX (Lk b m press) (EH b m xs vs ps press A).ref)∧isZ (AX (EH b m xs vs ps press A).ref (Lk b m press))=A∧((EH b m xs vs ps press A).ref=(0,0)∨KP b (BV b m xs vs ps press A).img=D)∧(EH b m xs vs ps press A).lan=CO b vs ps∧Ef (EH b m xs vs ps press A).ref:=by
 have hc:∀e∈m.A0,Re e:=λe he=>Ot hb (CR.1 (hm.en e he)).1;have hX:BV b m xs vs ps press A=Et b (Fd (Lk b m press)) (wrL (CZ b vs m.A0) ⟨[],m,xs,CO b vs ps,(0,0)⟩):=rfl;have hT:(EH b m xs vs ps press A).ref=(BV b m xs vs ps press A).ref:=rfl;have rb:=Acb (b:=b) (was:=E m.A0 (0,0)) (l:=Fd (Lk b m press)) (X:=wrL (CZ b vs m.A0) ⟨[],m,xs,CO b vs ps,(0,0)⟩) (λe he=>by obtain⟨h1,h2,_⟩:=Air he;exact⟨h1,h2⟩) (Zg _ 32 0) (λe _=>Eb _ _);have e0:∀f:Nat,f<32→∀d:Int,(d=1∨d=2)→(B (BV b m xs vs ps press A).ref f d=A→B (Lk b m press) f d=A):=λf hf d hd hh=>by
  have hdn:=rb.down f hf d hd;rw[← hX]at hdn;rcases hdn hh with hq | hq
  ·rw[show B (wrL (CZ b vs m.A0) ⟨[],m,xs,CO b vs ps,(0,0)⟩).ref f d=D from Eb f d]at hq;cases hq
  ·exact(Anb hf hd).1 hq
 refine⟨?_,?_,?_,?_,?_⟩
 ·rw[Aqf hb hcode hm hx hxv hvl ps press A,hT];refine OH (XW hb _ (UC hb hm) (VX _ FJ) hm (Acl hb hcode hm hx hxv (vs:=vs) ps press A).good.valid).2.1 (MB _ _) λf hf d hd=>?_;have hbb:=rb.bits f hf d hd;have hs:=Ai9 b vs hf hd (l:=m.A0) (c:=E m.A0 (0,0)) hc;have hag:=UC hb hm f hf d hd;have e2:Mt (E m.A0 (0,0)) (wrL (CZ b vs m.A0) ⟨[],m,xs,CO b vs ps,(0,0)⟩)=(CZ b vs m.A0).foldl Hi (E m.A0 (0,0)):=rfl;rw[e2,← hX]at hbb;rw[aE,hbb,hs,FD,Bt _ _ hf,Bt _ _ hf,Aio b vs ps hf d,Anb hf hd,S_,e_,e_,a9_,a9_];constructor
  ·rintro(⟨h1,h2⟩ | h1)
   ·refine .inl ⟨h1,?_⟩;cases hq:Ji b vs (f:Int) d with
    |false=>rfl
    |true=>exact absurd ⟨hag.1 h1,hq⟩ h2
   ·exact .inr h1
  ·rintro(⟨h1,h2⟩ | h1)
   ·refine .inl ⟨h1,λhh=>?_⟩;rw[h2]at hh;cases hh.2
   ·exact .inr h1
 ·rw[hT];refine(Ng (HD _ _)).2 λf hf d hd=>?_;rw[Bt _ _ hf];cases hq:B (BV b m xs vs ps press A).ref f d with
  |false=>rfl
  |true=>rw[e0 f hf d hd hq];rfl
 ·rw[hT];have hrm:=rb.room;rw[← hX]at hrm;exact hrm
 ·show(BV b m xs vs ps press A).lan=_;rw[hX,Aca];rfl
 ·rw[hT,hX];exact rb.u32 FJ
end
structure LampF(P N press cl ref served:Int×Int):Prop where
 n:∀f:Nat,f<32→∀d:Int,(d=1∨d=2)→Aj N f d=((Aj P f d&&!Aj cl f d)||(Aj press f d&&(!Aj P f d&&!Aj ref f d)))
 r:∀f:Nat,f<32→∀d:Int,(d=1∨d=2)→Aj ref f d=true→Aj press f d=true∧Aj P f d=false
 s:∀f:Nat,f<32→∀d:Int,(d=1∨d=2)→Aj served f d=(Aj P f d&&Aj cl f d)
 ur:Ef ref
 us:Ef served
def UX:∀(l:List aA) {k:List aA}{c:Int×Int},Ga (l++k) c=Ga k (Ga l c)
 |[],_,_=>rfl
 |r::l,k,c=>UX l
def Acf:∀{l:List aA}{c:Int×Int},(∀r∈l,r.R0≠2)→Ga l c=c
 |[],_,_=>rfl
 |r::l,c,h=>by show Ga l (bif r.R0==2 then _ else c)=c;rw[An (h r (t_ ..)),c_];exact Acf λx hx=>h x (B_ _ hx)
def Ai8:∀(l:List aA) {c:Int×Int},Ef c→Ef (Ga l c)
 |[],_,h=>h
 |r::l,c,h=>by
  refine Ai8 l ?_;cases r.R0==2 with
  |true=>exact MB _ _
  |false=>exact h
def Ae3(b:J)(vs:List View){f:Nat}{d:Int}(hd:d=1∨d=2):∀{l:List Entry}{c:Int×Int},(∀e∈l,Re e)→(B (Ga (CZ b vs l) c) f d=A↔B c f d=A∨(((f:Int),d)∈l.map BQ∧Ji b vs (f:Int) d=A))
 |[],c,_=>by simp[CZ,Ga]
 |e::t,c,h=>by
  have he:=h e (t_ ..);have ht:=λx hx=>h x (B_ _ hx);have e0:CZ b vs (e::t)=(bif Ji b vs e.D0 e.I0 then [Record.mk 2 e.D0 e.I0 0 0]else [])++CZ b vs t:=rfl;rw[e0,UX,Ae3 b vs hd ht,c2_,q_];cases hs:Ji b vs e.D0 e.I0 with
  |false=>
   show B c f d=A∨_↔_;constructor
   ·rintro(h1 | ⟨h1,h2⟩)
    ·exact .inl h1
    ·exact .inr ⟨.inr h1,h2⟩
   ·rintro(h1 | ⟨h1 | h1,h2⟩)
    ·exact .inl h1
    ·obtain⟨q1,q2⟩:=Prod.mk.inj (show((f:Int),d)=(e.D0,e.I0)from h1);rw[q1,q2,hs]at h2;cases h2
    ·exact .inr ⟨h1,h2⟩
  |true=>
   have hw:Ga [Record.mk 2 e.D0 e.I0 0 0] c=Cc c (Fi e.D0 e.I0):=rfl;rw[d_,hw,FD,KD he.1 he.2 f hd,S_,r_];constructor
   ·rintro((h1 | h1) | ⟨h1,h2⟩)
    ·exact .inl h1
    ·refine .inr ⟨.inl h1,?_⟩;obtain⟨q1,q2⟩:=Prod.mk.inj h1;rw[q1,q2];exact hs
    ·exact .inr ⟨.inr h1,h2⟩
   ·rintro(h1 | ⟨h1 | h1,h2⟩)
    ·exact .inl (.inl h1)
    ·exact .inl (.inr h1)
    ·exact .inr ⟨h1,h2⟩
def Aeu(b:J):∀(l:List Entry) (X:Rnd),∃R,(Et b l X).recs=X.recs++R∧∀r∈R,r.R0=1
 |[],X=>⟨[],(a6_ _).symm,λr h=>by cases h⟩
 |e::t,X=>by
  obtain⟨R,h1,h2⟩:=Aeu b t (Cq b e X);have hR:Et b (e::t) X=Et b t (Cq b e X):=rfl;cases hr:KP b X.img with
  |false=>
   have e1:(Cq b e X).recs=X.recs:=by unfold Cq;rw[hr];rfl
   exact⟨R,by rw[hR,h1,e1],h2⟩
  |true=>
   have e1:(Cq b e X).recs=X.recs++[YY e]:=by unfold Cq;rw[hr];rfl
   refine⟨YY e::R,by rw[hR,h1,e1,M_];rfl,λr h=>?_⟩;rcases q_.1 h with rfl | h
   ·rfl
   ·exact h2 r h
def Alc(n:Nat):∀k,Om (List.replicate n noP) k=(0,0)
 |0=>rfl
 |k+1=>by show Cc (Om _ k) (Oz _ k)=_;rw[Alc n k,Bdh];rfl
def Ais{a:Int×Int}(h:isZ (AX a c)=A)(hf:f<32)(hd:d=1∨d=2)(ha:B a f d=A):B c f d=A:=by
 have:=(Ng (HD _ _)).1 h f hf d hd
 rw[Bt _ _ hf,ha]at this;simpa using this
section
variable{b:J}(hw:BW b){m:Mch}{x:Inp}{g:Bool}{m':Mch}{o:Outputs}{l1 l2:List aA}{u:Mch}{vs:List View}{X:Rnd}(h:TickF b m x g m' o l1 l2 u vs X)
include hw h
theorem TickF.ents:u.G0.A0=m.G0.A0:=by
 have k1:K3 l1:=λr hr=>by obtain⟨i,_,rfl⟩:=h.fl r hr;exact .inr (.inl rfl)
 have k2:K3 l2:=by
  rcases h.op with⟨_,rfl⟩ | ⟨_,i,cm,fr,_,hi,_,rfl⟩
  ·exact λr h=>by cases h
  ·intro r hr;obtain⟨j,k,v,_,rfl,h⟩:=Bd1 _ _ hi _ _ r hr;show k=4∨k=5∨k=6;omega
 rw[h.iu,QY _ k2,QY _ k1]
theorem TickF.lamps(hx1:g=A→Fa b x.press=A)(hx0:g=D→x.press=(0,0)):LampF (E m.G0.A0 (0,0)) (E m'.G0.A0 (0,0)) x.press (Om X.lan.lit b.B0.length) X.ref (Ga X.recs (0,0))∧(g=D→E m'.G0.A0 (0,0)=E m.G0.A0 (0,0)∧X.ref=(0,0)):=by
 have he:=h.ents hw;have him:=h.pu.jst.img;have hT:=Aqf hw.small hw.code him h.pu.exl h.pu.exv h.va.len u.H3 x.press g;have hcall:∀e∈u.G0.A0,Re e:=λe he=>Ot hw.small (CR.1 (him.en e he)).1;have hag:=UC hw.small him;have hl:=Zo b u.G0 u.E2 vs u.H3 x.press g;have hpl:=Xv hw.small hw.code him h.pu.exl h.pu.exv (vs:=vs) u.H3 x.press g h.va.len;have hrecs:X.recs=(BV b u.G0 u.E2 vs u.H3 x.press g).recs++(Xu b u.G0 u.E2 vs u.H3 x.press g).1:=by rw[h.hX];rfl
 have hplan:∀c,Ga (Xu b u.G0 u.E2 vs u.H3 x.press g).1 c=c:=λc=>by rw[hpl];exact Acf λr hr=>by have:=SP b vs _ _ r hr;omega
 rw[← h.hX]at hT hl;rw[h.img,← he,hrecs,UX,hplan,hT,hl];cases hg:g with
 |false=>
  rw[hx0 hg];have e1:(BV b u.G0 u.E2 vs u.H3 (0,0) D).recs=[]:=rfl;have e2:Mt (E u.G0.A0 (0,0)) (BV b u.G0 u.E2 vs u.H3 (0,0) D)=E u.G0.A0 (0,0):=rfl;have e3:X.ref=(0,0):=by rw[h.hX,hg];rfl
  rw[e1,e2,e3,c_];refine⟨?_,λ_=>⟨rfl,rfl⟩⟩;rw[show Om (As9 vs.length).lit b.B0.length=(0,0)from Alc _ _];refine⟨λf hf d hd=>?_,λf hf d hd hq=>?_,λf hf d hd=>?_,FJ,FJ⟩
  ·rw[Eb];simp
  ·rw[Eb]at hq;cases hq
  ·show B (0,0) f d=_;rw[Eb];simp
 |true=>
  have hwi:=hx1 hg;refine⟨?_,λq=>by cases q⟩;have hgood:=Ass hw.small hw.code him h.pu.exl h.pu.exv h.va.len u.H3 x.press;rw[hg]at hT;have hX:EH b u.G0 u.E2 vs u.H3 x.press A=X:=by rw[h.hX,hg]
  rw[hX,hT]at hgood;obtain⟨g1,g2,_,_,g5⟩:=hgood;have hcl:Om (CO b vs u.H3).lit b.B0.length=(CO b vs u.H3).cl:=by
   have hap:=Apart.fold (b:=b) (vs:=vs) (ps:=u.H3) vs.length 0 (s:=Lan.none) ⟨rfl,λk h=>absurd h (f8_ k)⟩;have hll:=(Am6 b vs u.H3 vs.length 0 Lan.none).1;have e:(CO b vs u.H3).lit.length=b.B0.length:=by show(AE (Il b vs u.H3) vs.length 0 Lan.none).lit.length=_;rw[hll,h.va.len];exact n_ _
   have:=hap.cl
   rw[← e];exact this
  rw[g1,d_,hcl];have hfr:∀f:Nat,f<32→∀d:Int,(d=1∨d=2)→B (Lk b u.G0 x.press) f d=(B x.press f d&&!B (E u.G0.A0 (0,0)) f d):=λf hf d hd=>by
   unfold Lk;rw[Bt _ _ hf,Mp];cases hp:B x.press f d with
   |false=>rfl
   |true=>rw[Ais hwi hf hd hp];rfl
  refine⟨λf hf d hd=>?_,λf hf d hd hq=>?_,λf hf d hd=>?_,g5,Ai8 _ FJ⟩
  ·rw[FD,Bt _ _ hf,Bt _ _ hf,hfr f hf d hd];cases B x.press f d<;>cases B (E u.G0.A0 (0,0)) f d<;>cases B X.ref f d<;>rfl
  ·have:=Ais g2 hf hd hq
   rw[hfr f hf d hd]at this;simpa using this
  ·obtain⟨R,r1,r2⟩:=Aeu b (Fd (Lk b u.G0 x.press)) (wrL (CZ b vs u.G0.A0) ⟨[],u.G0,u.E2,CO b vs u.H3,(0,0)⟩);have e4:(BV b u.G0 u.E2 vs u.H3 x.press A).recs=CZ b vs u.G0.A0++R:=r1;rw[e4,UX,Acf (l:=R) (λr hr=>by have:=r2 r hr;omega),Aio b vs u.H3 hf d,aE,Ae3 b vs hd hcall,Eb,e_,hag f hf d hd];simp
end
structure LampG(P N press lit ref served:Int×Int):Prop where
 come:isZ (AX (AX N P) press)=true
 gone:AX P N=served
 lit:AX P N=DJ P lit
 dark:isZ (AX (AX press P) (AX N P))=isZ ref
def LampF.good{P N press lit ref served:Int×Int}(h:LampF P N press lit ref served):LampG P N press lit ref served:=by
 have hs:∀f:Nat,f<32→∀d:Int,(d=1∨d=2)→B (AX P N) f d=(B P f d&&B lit f d):=λf hf d hd=>by rw[Bt _ _ hf,h.n f hf d hd];cases B P f d<;>cases B lit f d<;>cases B press f d<;>rfl
 refine⟨(Ng (HD _ _)).2 λf hf d hd=>?_,OH (HD _ _) h.us λf hf d hd=>?_,OH (HD _ _) (Wn _ _) λf hf d hd=>?_,?_⟩
 ·rw[Bt _ _ hf,Bt _ _ hf,h.n f hf d hd];cases B P f d<;>cases B press f d<;>simp
 ·rw[hs f hf d hd,h.s f hf d hd]
 ·rw[hs f hf d hd,Mp]
 ·rw[aE,Ng (HD _ _),Ng h.ur];refine forall_congr' λf=>forall_congr' λhf=>forall_congr' λd=>forall_congr' λhd=>?_;have hr:=h.r f hf d hd;rw[Bt _ _ hf,Bt _ _ hf,Bt _ _ hf,h.n f hf d hd];cases hq:B ref f d with
  |true=>obtain⟨e1,e2⟩:=hr hq;rw[e1,e2];simp
  |false=>cases B P f d<;>cases B press f d<;>simp
def Bdc:OV=some ((A,()),()):=by decide+kernel
section
variable{b:J}(hw:BW b)
include hw
theorem TickF.outOK{m:Mch}{x:Inp}{g:Bool}{m':Mch}{o:Outputs}{l1 l2:List aA}{u:Mch}{vs:List View}{X:Rnd}(h:TickF b m x g m' o l1 l2 u vs X)(hm:PM b m)(hx:(g=A→Fa b x.press=A)∧(g=D→x.press=(0,0))):OutOK b o:=by
 have hb:=hw.small;have hcode:=hw.code;have hl:(o.Q2,o.G2)=E m'.G0.A0 (0,0):=Prod.ext h.lu h.ld;obtain⟨hL,_⟩:=h.lamps hw hx.1 hx.2;refine⟨by rw[hl];exact Aqy hb hcode h.pm.jst.img,?_,h.st,h.oc,λi hi=>?_⟩
 ·rw[h.served,← hL.good.gone];exact Ad4 hb hcode _ (Aqy hb hcode hm.jst.img)
 ·obtain⟨c,d,hl,hf⟩:=h.cars i hi;have him:=h.pm.jst.img;refine⟨hf.inj,?_,CmdR.iff.1 hf.cmdr,?_⟩
  ·have e:YB (o.B0.getD i AQ)=((X.lan.lit.getD i noP).Up,(X.lan.lit.getD i noP).N3):=by
    unfold YB;rw[hf.lu,hf.ld,hl.1,hl.2.1]
   rw[e,h.hX];exact Bc1 hb hcode ..
  ·rw[hf.phase];exact him.ph _ (BR 0 (by rw[him.lp];exact hi))
theorem An7:∀{f:List ByteArray}{m:Mch},PM b m→(∀s∈f,Fr b s)→∃m' os,Runs b m f m' os∧PM b m'∧∀o∈os,OutOK b o
 |[],m,hm,_=>⟨m,[],.nil m,hm,λo h=>by cases h⟩
 |s::f,m,hm,hf=>by
  have hs:=hf s (t_ ..);obtain⟨m1,o,h1,h2,h3,x,t',hx,hrd,hr,he,h0,_⟩:=Biw hw hm hs;obtain⟨l1,l2,u,vs,X,hF⟩:=hr.fact hw (λhg=>hx.elim (λh=>h.2.len) λh=>absurd (eq_of_beq hg) h.1) he.symm;obtain⟨e1,e2⟩:=h0 rfl;rw[← e1,← e2]at hF;obtain⟨m2,os,h4,h5,h6⟩:=An7 (f:=f) h2 λx hx=>hf x (B_ _ hx);refine⟨m2,o::os,.cons h1 h4,h5,λv hv=>?_⟩;rcases q_.1 hv with rfl | hv
  ·exact hF.outOK hw hm (ReadX.press ⟨hx,rfl,hrd⟩)
  ·exact h6 v hv
theorem At5{os:List Outputs}(hl:os.length≤60)(h:∀o∈os,OutOK b o):Sat (DM (((),os,(0:Int),(0:Int),()),(b.tup,()))) λy=>y=.inl (((0:Int),()),()):=by have hcc:=Am hw.code;unfold DM;refine Sat.loop (λ(k:Nat) z=>∃i:Nat,z=(((),os,(0:Int),(i:Int),()),(b.tup,()))∧i+k=os.length) (λk z hz=>?_) os.length ⟨0,rfl,n_ _⟩ ω;obtain⟨i,rfl,hk⟩:=hz;show Sat (JR os 0 (i:Int) b.C0 b.E0 b.H0 b.M0 b.J0 b.L0 b.N0 b.B0) _;unfold JR;refine Sat.bic (λq=>?_) λq=>V rfl;have q:(i:Int)<(os.length:Int):=m_ q;have hwr:=CG (n:=i) ω;have ho:=h _ (BR Aem (ω:i<os.length));have ii:inB (i:Int) os.length=A:=Ac ω q;refine I ii (C (Aer hw.small hw.code ho) (C (Ag4 hw.small hw.code ho) (O rfl (O rfl (I ii (C (Ab7 (os.getD i Aem) (by rw[ho.len];omega)) (O rfl ?_)))))));exact V ⟨k-1,ω,i+1,by first | (rw[← hwr];rfl) | rw[← hwr],ω⟩
end
def ZZ(n_f0:Int)(n_f1:Int)(n_f2:Int)(l:List Int)(h_n_f0:0≤n_f0∧n_f0<256)(h_n_f1:0≤n_f1∧n_f1<256)(h_n_f2:0≤n_f2∧n_f2<256)(h_l:l.length≤maxLen∧∀e∈l,(0≤e∧e<256)):aF n_f0 n_f1 n_f2 l=some ((A,()),()):=by
 have hS:Sat (aF n_f0 n_f1 n_f2 l) λy=>y=((A,()),()):=by unfold aF;obtain⟨b,hbl,hw,⟨y0,hst⟩,hm⟩:=Btm h_n_f0 h_n_f1 h_n_f2;refine C hbl (Sat.bindR (C hst (Sat.bindR ?_)));refine aC (Bbc hw.small hw.code (l:=l) (λe he=>h_l.2 e he) h_l.1 (most:=60) ω) λy4 h4=>?_;obtain⟨⟨f,u1⟩,u2⟩:=y4;obtain⟨hf1,hf2⟩:=h4;have hf1:f.length≤60:=hf1;obtain⟨m',os,hr,_,ho⟩:=An7 hw (f:=f) hm hf2;have hl:=hr.len;refine C (Bq3 hw hm hr (ω:f.length≤5000)) (aC (At5 hw (ω:os.length≤60) ho) λy7 h7=>?_);subst h7;refine aC (Q:=λy=>y=((A,()),())) (I rfl (C Bdc (V rfl))) λy h=>?_;subst h;exact V rfl
 obtain⟨y,h1,h2⟩:=hS;rw[h1,h2]
end Go.Ovl
