/- What each function of the program comes to: part 2. -/
import Derived.Test.YtdapkmfmgpmnoaaGreatDoorDefs1
set_option linter.all false
open Option renaming some->L,none->P,bind->Q
open Bool renaming false->N,true->y
open Decidable renaming decide->O
open Go.IntKind renaming i64->R,u32->W,wrap->Z,u8->aA
open Array renaming mk->S
open ByteArray renaming mk->U
open Go.Ab renaming inB->V,stk->Y
open BitVec renaming ofInt->X
open Sum renaming inl->i,inr->t
open Min renaming min->p
open Int renaming fdiv->aB,toNat->aC
open Go.Ovl.Entry renaming mk->aD
open List renaming getD->aE
open Go.Ovl.newcar_control renaming mk->aF
namespace Go.Ovl
open Go Go.Ab
set_option maxRecDepth 100000
set_option synthInstance.maxSize 9999
set_option synthInstance.maxHeartbeats 999999
noncomputable section
variable(x z B:Int)(po pz qa qx:Bool)(A pa pi qe qq qr qs qt qj qy qz q5 q6 q7 q8 q9 ra rb rc rd rf rg ri rj rl rm rn ro rp rq rr ru rv rw ry rz sk:Int)(qk sl sm sn:Bool)(r0:Int)(td ub uc ud:Bool)(r5 su sv te tf tg ue uf ug uh ui uj uk ul um un uo up uq ur us ut uu uv uw ux uy uz u0 u1 u2 u3 u4 u5 u6 u7:Int)(sw:List CarInput)(th r6 sx so sy sz:Int)(H I J:Nat)(D:List Car)(pd:List Int)(pg ph:List Bool)(pb:List Entry)(pf pn:ByteArray)(C:Int)(qh:List Debounced)(ql:List Belief)(qu:List NewCar)(qv:List Loaded)(qg:List Int)(r1:List Calls)(E F pc pm pr q1 r7:Int)(q2:List CarInput)(pj:Bool)(pv pq:Int)(qi:List Bool)(r2:List Calls)(qm:List Bool)(pt pu pp pw:Int)(r8 sd:Bool)(px:Int)(r3:List CarOutput)(qb:Bool)(py:Int)(qf:Bool)(qc:Int)(qd:Bool)(q3 u8 u9:Int)(r4:List Entry)(sj s6 ta t9 ua tb:Int)(qp:List Record)(sa sb s4 s5 tu tv:Int)(sc tw tx:Nat)(ty:List Car)(si tz:ByteArray)(q4:Int)(t0 t4:ByteArray)(t7:Int)(t8:List Int)(qw:List Duty)(sr:Int)(s3:Bool)(se sf ss:Int)(qn:List View)(qo:Int)(sg:List Entry)(q0 r9 tq tr ts tt:Int)(s0:List Duty)(ti sq s1 s2:Int)(tj:List Int)(tk tm:List Bool)(tp:List Entry)(st:newcar_control)
def HX:=
 letI a:=(0:Int)
 letI b:=((r0,td,ub,uc,ud,r5,su,sv,te,tf,tg,ue,uf,ug,uh,ui,uj,uk,ul,um,un,uo,up,uq,ur,us,ut,uu,uv,uw,ux,uy,uz,u0,u1,u2,u3,u4,u5,u6,u7,()),())
 letI c:=(x,(),(),(),R.wrap (z+1),())
 letI d:=((sk,qk,sl,sm,sn,()),b)
 letI e:=z.toNat
 letI f:=V z 36
 cond (O (z<36)) ((KU sk qk sl sm sn z).bind λy1=>(KU B po pz qa qx z).bind λy2=>cond (y1.1.1==y2.1.1) (cond f (let z0:Nat:=e
 L (i (c,((B,po,pz,qa,qx,cond (z0.beq 0) a A,cond (z0.beq 1) a pa,cond (z0.beq 2) a pi,cond (z0.beq 3) a qe,cond (z0.beq 4) a qq,cond (z0.beq 5) a qr,cond (z0.beq 6) a qs,cond (z0.beq 7) a qt,cond (z0.beq 8) a qj,cond (z0.beq 9) a qy,cond (z0.beq 10) a qz,cond (z0.beq 11) a q5,cond (z0.beq 12) a q6,cond (z0.beq 13) a q7,cond (z0.beq 14) a q8,cond (z0.beq 15) a q9,cond (z0.beq 16) a ra,cond (z0.beq 17) a rb,cond (z0.beq 18) a rc,cond (z0.beq 19) a rd,cond (z0.beq 20) a rf,cond (z0.beq 21) a rg,cond (z0.beq 22) a ri,cond (z0.beq 23) a rj,cond (z0.beq 24) a rl,cond (z0.beq 25) a rm,cond (z0.beq 26) a rn,cond (z0.beq 27) a ro,cond (z0.beq 28) a rp,cond (z0.beq 29) a rq,cond (z0.beq 30) a rr,cond (z0.beq 31) a ru,cond (z0.beq 32) a rv,cond (z0.beq 33) a rw,cond (z0.beq 34) a ry,cond (z0.beq 35) a rz,()),d)))) P) (cond f (let z1:Int:=R.wrap (aE [A,pa,pi,qe,qq,qr,qs,qt,qj,qy,qz,q5,q6,q7,q8,q9,ra,rb,rc,rd,rf,rg,ri,rj,rl,rm,rn,ro,rp,rq,rr,ru,rv,rw,ry,rz] e a+1)
 cond f (let z2:Nat:=e
 let z3:Int:=cond (z2.beq 0) z1 A
 let z4:Int:=cond (z2.beq 1) z1 pa
 let z5:Int:=cond (z2.beq 2) z1 pi
 let z6:Int:=cond (z2.beq 3) z1 qe
 let z7:Int:=cond (z2.beq 4) z1 qq
 let z8:Int:=cond (z2.beq 5) z1 qr
 let z9:Int:=cond (z2.beq 6) z1 qs
 let z10:Int:=cond (z2.beq 7) z1 qt
 let z11:Int:=cond (z2.beq 8) z1 qj
 let z12:Int:=cond (z2.beq 9) z1 qy
 let z13:Int:=cond (z2.beq 10) z1 qz
 let z14:Int:=cond (z2.beq 11) z1 q5
 let z15:Int:=cond (z2.beq 12) z1 q6
 let z16:Int:=cond (z2.beq 13) z1 q7
 let z17:Int:=cond (z2.beq 14) z1 q8
 let z18:Int:=cond (z2.beq 15) z1 q9
 let z19:Int:=cond (z2.beq 16) z1 ra
 let z20:Int:=cond (z2.beq 17) z1 rb
 let z21:Int:=cond (z2.beq 18) z1 rc
 let z22:Int:=cond (z2.beq 19) z1 rd
 let z23:Int:=cond (z2.beq 20) z1 rf
 let z24:Int:=cond (z2.beq 21) z1 rg
 let z25:Int:=cond (z2.beq 22) z1 ri
 let z26:Int:=cond (z2.beq 23) z1 rj
 let z27:Int:=cond (z2.beq 24) z1 rl
 let z28:Int:=cond (z2.beq 25) z1 rm
 let z29:Int:=cond (z2.beq 26) z1 rn
 let z30:Int:=cond (z2.beq 27) z1 ro
 let z31:Int:=cond (z2.beq 28) z1 rp
 let z32:Int:=cond (z2.beq 29) z1 rq
 let z33:Int:=cond (z2.beq 30) z1 rr
 let z34:Int:=cond (z2.beq 31) z1 ru
 let z35:Int:=cond (z2.beq 32) z1 rv
 let z36:Int:=cond (z2.beq 33) z1 rw
 let z37:Int:=cond (z2.beq 34) z1 ry
 let z38:Int:=cond (z2.beq 35) z1 rz
 cond f (cond (aE [z3,z4,z5,z6,z7,z8,z9,z10,z11,z12,z13,z14,z15,z16,z17,z18,z19,z20,z21,z22,z23,z24,z25,z26,z27,z28,z29,z30,z31,z32,z33,z34,z35,z36,z37,z38] e a==x) (cond f (let z39:Nat:=e
 (Nv B po pz qa qx z y1.1.1).bind λy3=>letI g:=y3.2.1.2
 L (i (c,((y3.2.1.1,g.1,g.2.1,g.2.2.1,g.2.2.2.1,cond (z39.beq 0) a z3,cond (z39.beq 1) a z4,cond (z39.beq 2) a z5,cond (z39.beq 3) a z6,cond (z39.beq 4) a z7,cond (z39.beq 5) a z8,cond (z39.beq 6) a z9,cond (z39.beq 7) a z10,cond (z39.beq 8) a z11,cond (z39.beq 9) a z12,cond (z39.beq 10) a z13,cond (z39.beq 11) a z14,cond (z39.beq 12) a z15,cond (z39.beq 13) a z16,cond (z39.beq 14) a z17,cond (z39.beq 15) a z18,cond (z39.beq 16) a z19,cond (z39.beq 17) a z20,cond (z39.beq 18) a z21,cond (z39.beq 19) a z22,cond (z39.beq 20) a z23,cond (z39.beq 21) a z24,cond (z39.beq 22) a z25,cond (z39.beq 23) a z26,cond (z39.beq 24) a z27,cond (z39.beq 25) a z28,cond (z39.beq 26) a z29,cond (z39.beq 27) a z30,cond (z39.beq 28) a z31,cond (z39.beq 29) a z32,cond (z39.beq 30) a z33,cond (z39.beq 31) a z34,cond (z39.beq 32) a z35,cond (z39.beq 33) a z36,cond (z39.beq 34) a z37,cond (z39.beq 35) a z38,()),d)))) P) (L (i (c,((B,po,pz,qa,qx,z3,z4,z5,z6,z7,z8,z9,z10,z11,z12,z13,z14,z15,z16,z17,z18,z19,z20,z21,z22,z23,z24,z25,z26,z27,z28,z29,z30,z31,z32,z33,z34,z35,z36,z37,z38,()),d))))) P) P) P)) (L (t (((),(),()),((B,po,pz,qa,qx,A,pa,pi,qe,qq,qr,qs,qt,qj,qy,qz,q5,q6,q7,q8,q9,ra,rb,rc,rd,rf,rg,ri,rj,rl,rm,rn,ro,rp,rq,rr,ru,rv,rw,ry,rz,()),b))))
def Gn:=lp HX
def Mv:=
 letI a:=(0:Int)
 (Gn ((x,(),(),(),a,()),((z,po,pz,qa,qx,A,pa,pi,qe,qq,qr,qs,qt,qj,qy,qz,q5,q6,q7,q8,q9,ra,rb,rc,rd,rf,rg,ri,rj,rl,rm,rn,ro,rp,rq,rr,ru,rv,rw,ry,rz,()),(sk,qk,sl,sm,sn,()),(a,N,N,N,N,a,a,a,a,a,a,a,a,a,a,a,a,a,a,a,a,a,a,a,a,a,a,a,a,a,a,a,a,a,a,a,a,a,a,a,a,()),()))).bind λy1=>L (((),()),(y1.2.1,()))
def JC:=
 letI a:=(0:Int)
 (Et x z po pz qa qx A pa pi qe qq qr qs qt qj qy qz q5 q6 q7 q8 q9 ra rb rc rd rf rg ri rj rl rm rn ro rp rq rr ru rv rw ry rz).bind λy1=>cond (! y1.1.1) (L (((),(1:Int),()),((a,N,N,N,N,a,a,a,a,a,a,a,a,a,a,a,a,a,a,a,a,a,a,a,a,a,a,a,a,a,a,a,a,a,a,a,a,a,a,a,a,()),()))) ((Mv x z po pz qa qx A pa pi qe qq qr qs qt qj qy qz q5 q6 q7 q8 q9 ra rb rc rd rf rg ri rj rl rm rn ro rp rq rr ru rv rw ry rz sk qk sl sm sn).bind λy2=>L (((),a,()),(y2.2.1,())))
def OL(p0 p1 p2 p3:Int)(p4 p5 p6:Nat)(p7:List Car)(x_1:Nat):Option ((Int×Unit)×Unit):=
 letI a:=(FloatKind.format FloatKind.f64).order
 letI b:=a x_1
 cond (! (b 0==L Ordering.gt||b 0==L Ordering.eq)) (L (((0:Int),()),())) (cond (b p4==L Ordering.lt) (L (((1:Int),()),())) (cond (b p5==L Ordering.lt) (L (((2:Int),()),())) (cond (b p6==L Ordering.lt) (L (((3:Int),()),())) (L (((4:Int),()),())))))
def QD:=
 letI b:=(FloatKind.format FloatKind.f64).order
 letI f:=(0:Int)
 letI c:=((x,z,B,A,H,I,J,D,()),(C,()),(f,()),())
 letI g:=arF BinOp.sub FloatKind.f64
 (AU x z B A H I J D).bind λy1=>cond (y1.1.1 !=f) (L (((),()),((f,()),()))) ((OL x z B A H I J D sc).bind λy2=>Q (cond (y2.1.1 !=f) (L ((sc,(),(),(),y2.1.1,decide (y2.1.1<C),()),c)) (L ((sc,(),(),(),y2.1.1,N,()),c))) λy3=>letI a:=(((),()),((y3.1.2.2.2.2.1,()),()))
 letI h:=y3.2.2.1.1
 letI d:=(((),()),((h,()),()))
 letI e:=b y3.1.1
 cond y3.1.2.2.2.2.2.1 (cond (h==3) ((g y3.2.1.2.2.2.2.2.1 4589168020290535424).bind λy4=>cond (e y4==L Ordering.gt||e y4==L Ordering.eq) (L d) (L a)) (cond (h==4) ((g y3.2.1.2.2.2.2.2.2.1 4589168020290535424).bind λy5=>cond (e y5==L Ordering.gt||e y5==L Ordering.eq) (L d) (L a)) (L a))) (L a))
def FB:=
 letI b:=(0:Int)
 letI e:=(qg,r1,E,F,pc,pm,pr,q1,r7,q2,pj,pv,pq,qi,r2,qm,pt,pu,pp,pw,r8,sd,px,r3,())
 letI j:=r6.toNat
 letI o:=V r6 qh.length
 letI q:=V r6 qv.length
 cond (O (r6<th)) (cond (V r6 sw.length) (let z0:=sw.getD j (CarInput.mk b N N N N b N b N b 0)
 cond o (let z1:=qh.getD j (Debounced.mk b N N N N b b b b b b b b b b b b b b b b b b b b b b b b b b b b b b b b b b b b)
 (JC so z1.V0 z1.T1 z1.F1 z1.G1 z1.C1 z1.E5 z1.F5 z1.G5 z1.H5 z1.I5 z1.K5 z1.L5 z1.M5 z1.N5 z1.O5 z1.B4 z1.C4 z1.D4 z1.E4 z1.F4 z1.G4 z1.H4 z1.I4 z1.J4 z1.K4 z1.L4 z1.M4 z1.N4 z1.O4 z1.P4 z1.Q4 z1.R4 z1.S4 z1.T4 z1.U4 z1.V4 z1.W4 z1.X4 z1.Y4 z1.Z4 z1.A5 z0.V0 z0.T1 z0.F1 z0.G1 z0.C1).bind λy1=>letI k:=y1.2.1.2.2.2
 letI r:=k.2
 letI w:=r.2
 letI d:=w.2.2.2
 letI aa:=d.2
 letI g:=aa.2.2.2
 letI l:=g.2.2
 letI s:=l.2
 letI ab:=s.2
 letI a:=ab.2.2.2
 letI h:=a.2.2.2
 letI n:=h.2.2
 letI ad:=n.2
 letI c:=ad.2.2.2
 letI u:=c.2
 letI ae:=u.2
 letI f:=ae.2.2.2
 letI m:=f.2.2
 letI v:=m.2
 letI af:=v.2
 cond o (cond q ((QD sx so sy sz H I J D (qv.getD j (Loaded.mk b)).T5 z0.C3).bind λy2=>cond q (L (i (((),sw,th,R.wrap (r6+1),()),((sx,so,sy,sz,H,I,J,D,pd,pg,ph,pb,pf,pn,C,qh.set j (Debounced.mk y1.2.1.1 y1.2.1.2.1 y1.2.1.2.2.1 k.1 r.1 w.1 w.2.1 w.2.2.1 d.1 aa.1 aa.2.1 aa.2.2.1 g.1 g.2.1 l.1 s.1 ab.1 ab.2.1 ab.2.2.1 a.1 a.2.1 a.2.2.1 h.1 h.2.1 n.1 ad.1 ad.2.1 ad.2.2.1 c.1 u.1 ae.1 ae.2.1 ae.2.2.1 f.1 f.2.1 m.1 v.1 af.1 af.2.1 af.2.2.1 af.2.2.2.1),ql,qu,qv.set j (Loaded.mk y2.2.1.1),e),())))) P) P) P) P) P) (L (t ((),((sx,so,sy,sz,H,I,J,D,pd,pg,ph,pb,pf,pn,C,qh,ql,qu,qv,e),()))))
def DG:=lp FB
def Ef:=
 letI a:=(pc,pm,pr,q1,r7,q2,pj,pv,pq,qi,r2,qm,pt,pu,pp,pw,r8,sd,px,r3,())
 (HJ E).bind λy1=>cond (! pj) ((HJ F).bind λy2=>L (i ((),((x,z,B,A,H,I,J,D,pd,pg,ph,pb,pf,pn,C,qh,ql,qu,qv,qg,r1,y1.1.1,y2.1.1,a),())))) ((DG (((),q2,(q2.length:Int),(0:Int),()),((x,z,B,A,H,I,J,D,pd,pg,ph,pb,pf,pn,C,qh,ql,qu,qv,qg,r1,y1.1.1,F,a),()))).bind λy3=>L (t ((),(y3.2.1,()))))
def Ft:=
 Q (cond (x==0) (L ((y,()),())) (L ((x==1,()),()))) λy1=>L ((y1.1.1,()),())
def Ea:=
 letI a:=(0:Int)
 letI c:=((a,a,()),())
 letI e:=((),())
 Q (cond (O (a≤x)) (L ((x,z,(),decide (x<32),()),c)) (L ((x,z,(),N,()),c))) λy1=>letI b:=W.wrap (1*((2:Int)^p y1.1.1.toNat (IntKind.bits W)))
 letI d:=decide (a≤y1.1.1)
 cond y1.1.2.2.2.1 (cond (y1.1.2.1==1) (cond d (L (e,((b,a,()),()))) P) (cond (y1.1.2.1==2) (cond d (L (e,((a,b,()),()))) P) (L (e,c)))) (L (e,c))
def DT:=
 letI a:=IntKind.bits W
 L (((),()),((Z W (Y x B (X a x&&&X a B).toNat),W.wrap (Y z A (X a z&&&X a A).toNat),()),()))
def Dq:=
 (Ea B A).bind λy1=>(DT x z y1.2.1.1 y1.2.1.2.1).bind λy2=>L ((! ((y2.2.1.1==0)&&((y2.2.1.2.1==0)&&y)),()),())
def Pj:=
 letI a:=(s0,ti,R.wrap (sq+1),())
 cond (O (sq<ti)) (cond (V sq s0.length) (let z0:=s0.getD sq.toNat (Duty.mk 0 0 0)
 let z1:Int:=R.wrap (z0.C5+1)
 cond (O (x<z1)) (L (t (t ((([]:List Duty),y,()),())))) ((Dq s1 s2 z0.D0 z0.I0).bind λy1=>cond (! y1.1.1) (let z2:List (Duty):=[Duty.mk z0.D0 z0.I0 z1]
 cond ((qw.length+z2.length).ble 2147483648) (L (i ((x,(),qw++z2,a),((s1,s2,()),())))) P) (L (i ((x,(),qw,a),((s1,s2,()),())))))) P) (L (t (i ((qw,()),()))))
def LI:=lp Pj
def KT:=
 (LI ((sr,(),([]:List Duty),qw,(qw.length:Int),(0:Int),()),((se,sf,()),()))).bind λy1=>match y1 with
 | .inl y2=>
 L ((y2.1.1,N,()),())
 | .inr y2=>
 L ((y2.1.1,y2.1.2.1,()),())
def Mt:=
 letI a:=(0:Int)
 (Co x z B A H I J D C E F pc qw sr s3).bind λy1=>cond (! y1.1.1) (L (((),(1:Int),()),((a,a,a,([]:List Duty),a,N,()),()))) (cond (V C D.length) ((KT qw (D.getD C.toNat (Car.mk a a a a a a a a a)).I1 a a).bind λy2=>L (((),a,()),((E,F,pc,y2.1.1,a,y2.1.2.1,()),()))) P)
def CH:=
 letI a:=IntKind.bits W
 letI b:=(0:Int)
 cond (x==b) (L (((32:Int),()),())) (let z0:Int:=W.wrap (b-x)
 let z1:Int:=aB (Z W (Z W (Y x z0 (X a x&&&X a z0).toNat)*125613361)) ((2:Int)^p (aC (27:Int)) a)
 cond (V z1 32) (L ((Z R (aE [b,(1:Int),(28:Int),(2:Int),(29:Int),(14:Int),(24:Int),(3:Int),(30:Int),(22:Int),(20:Int),(15:Int),(25:Int),(17:Int),(4:Int),(8:Int),(31:Int),(27:Int),(13:Int),(23:Int),(21:Int),(19:Int),(16:Int),(7:Int),(26:Int),(12:Int),(18:Int),(6:Int),(11:Int),(5:Int),(10:Int),(9:Int)] z1.toNat b),()),())) P)
def Fs:=
 Q (cond (O (2≤x)) (L ((O (x≤32),()),())) (L ((N,()),()))) λy1=>L ((y1.1.1,()),())
def CX:=
 letI a:=4
 letI b:=3
 letI c:=5
 letI d:=2
 letI e:=6
 letI f:=1
 letI g:=7
 letI h:=IntKind.bits W
 letI j:=0
 letI k:=8
 letI m:=(255:Int)
 letI l:=X h m
 let z0:Int:=aB x ((2:Int)^p (aC (24:Int)) h)
 cond (V z0 (U (S [j,f,f,d,f,d,d,b,f,d,d,b,d,b,b,a,f,d,d,b,d,b,b,a,d,b,b,a,b,a,a,c,f,d,d,b,d,b,b,a,d,b,b,a,b,a,a,c,d,b,b,a,b,a,a,c,b,a,a,c,a,c,c,e,f,d,d,b,d,b,b,a,d,b,b,a,b,a,a,c,d,b,b,a,b,a,a,c,b,a,a,c,a,c,c,e,d,b,b,a,b,a,a,c,b,a,a,c,a,c,c,e,b,a,a,c,a,c,c,e,a,c,c,e,c,e,e,g,f,d,d,b,d,b,b,a,d,b,b,a,b,a,a,c,d,b,b,a,b,a,a,c,b,a,a,c,a,c,c,e,d,b,b,a,b,a,a,c,b,a,a,c,a,c,c,e,b,a,a,c,a,c,c,e,a,c,c,e,c,e,e,g,d,b,b,a,b,a,a,c,b,a,a,c,a,c,c,e,b,a,a,c,a,c,c,e,a,c,c,e,c,e,e,g,b,a,a,c,a,c,c,e,a,c,c,e,c,e,e,g,a,c,c,e,c,e,e,g,c,e,e,g,e,g,g,k])).size) (let z1:Int:=aB x ((2:Int)^p (aC (16:Int)) h)
 let z2:Int:=W.wrap (Y z1 m (X h z1&&&l).toNat)
 cond (V z2 (U (S [j,f,f,d,f,d,d,b,f,d,d,b,d,b,b,a,f,d,d,b,d,b,b,a,d,b,b,a,b,a,a,c,f,d,d,b,d,b,b,a,d,b,b,a,b,a,a,c,d,b,b,a,b,a,a,c,b,a,a,c,a,c,c,e,f,d,d,b,d,b,b,a,d,b,b,a,b,a,a,c,d,b,b,a,b,a,a,c,b,a,a,c,a,c,c,e,d,b,b,a,b,a,a,c,b,a,a,c,a,c,c,e,b,a,a,c,a,c,c,e,a,c,c,e,c,e,e,g,f,d,d,b,d,b,b,a,d,b,b,a,b,a,a,c,d,b,b,a,b,a,a,c,b,a,a,c,a,c,c,e,d,b,b,a,b,a,a,c,b,a,a,c,a,c,c,e,b,a,a,c,a,c,c,e,a,c,c,e,c,e,e,g,d,b,b,a,b,a,a,c,b,a,a,c,a,c,c,e,b,a,a,c,a,c,c,e,a,c,c,e,c,e,e,g,b,a,a,c,a,c,c,e,a,c,c,e,c,e,e,g,a,c,c,e,c,e,e,g,c,e,e,g,e,g,g,k])).size) (let z3:Int:=aB x ((2:Int)^p (aC (8:Int)) h)
 let z4:Int:=W.wrap (Y z3 m (X h z3&&&l).toNat)
 cond (V z4 (U (S [j,f,f,d,f,d,d,b,f,d,d,b,d,b,b,a,f,d,d,b,d,b,b,a,d,b,b,a,b,a,a,c,f,d,d,b,d,b,b,a,d,b,b,a,b,a,a,c,d,b,b,a,b,a,a,c,b,a,a,c,a,c,c,e,f,d,d,b,d,b,b,a,d,b,b,a,b,a,a,c,d,b,b,a,b,a,a,c,b,a,a,c,a,c,c,e,d,b,b,a,b,a,a,c,b,a,a,c,a,c,c,e,b,a,a,c,a,c,c,e,a,c,c,e,c,e,e,g,f,d,d,b,d,b,b,a,d,b,b,a,b,a,a,c,d,b,b,a,b,a,a,c,b,a,a,c,a,c,c,e,d,b,b,a,b,a,a,c,b,a,a,c,a,c,c,e,b,a,a,c,a,c,c,e,a,c,c,e,c,e,e,g,d,b,b,a,b,a,a,c,b,a,a,c,a,c,c,e,b,a,a,c,a,c,c,e,a,c,c,e,c,e,e,g,b,a,a,c,a,c,c,e,a,c,c,e,c,e,e,g,a,c,c,e,c,e,e,g,c,e,e,g,e,g,g,k])).size) (let z5:Int:=W.wrap (Y x m (X h x&&&l).toNat)
 cond (V z5 (U (S [j,f,f,d,f,d,d,b,f,d,d,b,d,b,b,a,f,d,d,b,d,b,b,a,d,b,b,a,b,a,a,c,f,d,d,b,d,b,b,a,d,b,b,a,b,a,a,c,d,b,b,a,b,a,a,c,b,a,a,c,a,c,c,e,f,d,d,b,d,b,b,a,d,b,b,a,b,a,a,c,d,b,b,a,b,a,a,c,b,a,a,c,a,c,c,e,d,b,b,a,b,a,a,c,b,a,a,c,a,c,c,e,b,a,a,c,a,c,c,e,a,c,c,e,c,e,e,g,f,d,d,b,d,b,b,a,d,b,b,a,b,a,a,c,d,b,b,a,b,a,a,c,b,a,a,c,a,c,c,e,d,b,b,a,b,a,a,c,b,a,a,c,a,c,c,e,b,a,a,c,a,c,c,e,a,c,c,e,c,e,e,g,d,b,b,a,b,a,a,c,b,a,a,c,a,c,c,e,b,a,a,c,a,c,c,e,a,c,c,e,c,e,e,g,b,a,a,c,a,c,c,e,a,c,c,e,c,e,e,g,a,c,c,e,c,e,e,g,c,e,e,g,e,g,g,k])).size) (L ((Z R (Z aA (Z aA (Z aA (AF (U (S [j,f,f,d,f,d,d,b,f,d,d,b,d,b,b,a,f,d,d,b,d,b,b,a,d,b,b,a,b,a,a,c,f,d,d,b,d,b,b,a,d,b,b,a,b,a,a,c,d,b,b,a,b,a,a,c,b,a,a,c,a,c,c,e,f,d,d,b,d,b,b,a,d,b,b,a,b,a,a,c,d,b,b,a,b,a,a,c,b,a,a,c,a,c,c,e,d,b,b,a,b,a,a,c,b,a,a,c,a,c,c,e,b,a,a,c,a,c,c,e,a,c,c,e,c,e,e,g,f,d,d,b,d,b,b,a,d,b,b,a,b,a,a,c,d,b,b,a,b,a,a,c,b,a,a,c,a,c,c,e,d,b,b,a,b,a,a,c,b,a,a,c,a,c,c,e,b,a,a,c,a,c,c,e,a,c,c,e,c,e,e,g,d,b,b,a,b,a,a,c,b,a,a,c,a,c,c,e,b,a,a,c,a,c,c,e,a,c,c,e,c,e,e,g,b,a,a,c,a,c,c,e,a,c,c,e,c,e,e,g,a,c,c,e,c,e,e,g,c,e,e,g,e,g,g,k])) z0.toNat+AF (U (S [j,f,f,d,f,d,d,b,f,d,d,b,d,b,b,a,f,d,d,b,d,b,b,a,d,b,b,a,b,a,a,c,f,d,d,b,d,b,b,a,d,b,b,a,b,a,a,c,d,b,b,a,b,a,a,c,b,a,a,c,a,c,c,e,f,d,d,b,d,b,b,a,d,b,b,a,b,a,a,c,d,b,b,a,b,a,a,c,b,a,a,c,a,c,c,e,d,b,b,a,b,a,a,c,b,a,a,c,a,c,c,e,b,a,a,c,a,c,c,e,a,c,c,e,c,e,e,g,f,d,d,b,d,b,b,a,d,b,b,a,b,a,a,c,d,b,b,a,b,a,a,c,b,a,a,c,a,c,c,e,d,b,b,a,b,a,a,c,b,a,a,c,a,c,c,e,b,a,a,c,a,c,c,e,a,c,c,e,c,e,e,g,d,b,b,a,b,a,a,c,b,a,a,c,a,c,c,e,b,a,a,c,a,c,c,e,a,c,c,e,c,e,e,g,b,a,a,c,a,c,c,e,a,c,c,e,c,e,e,g,a,c,c,e,c,e,e,g,c,e,e,g,e,g,g,k])) z2.toNat)+AF (U (S [j,f,f,d,f,d,d,b,f,d,d,b,d,b,b,a,f,d,d,b,d,b,b,a,d,b,b,a,b,a,a,c,f,d,d,b,d,b,b,a,d,b,b,a,b,a,a,c,d,b,b,a,b,a,a,c,b,a,a,c,a,c,c,e,f,d,d,b,d,b,b,a,d,b,b,a,b,a,a,c,d,b,b,a,b,a,a,c,b,a,a,c,a,c,c,e,d,b,b,a,b,a,a,c,b,a,a,c,a,c,c,e,b,a,a,c,a,c,c,e,a,c,c,e,c,e,e,g,f,d,d,b,d,b,b,a,d,b,b,a,b,a,a,c,d,b,b,a,b,a,a,c,b,a,a,c,a,c,c,e,d,b,b,a,b,a,a,c,b,a,a,c,a,c,c,e,b,a,a,c,a,c,c,e,a,c,c,e,c,e,e,g,d,b,b,a,b,a,a,c,b,a,a,c,a,c,c,e,b,a,a,c,a,c,c,e,a,c,c,e,c,e,e,g,b,a,a,c,a,c,c,e,a,c,c,e,c,e,e,g,a,c,c,e,c,e,e,g,c,e,e,g,e,g,g,k])) z4.toNat)+AF (U (S [j,f,f,d,f,d,d,b,f,d,d,b,d,b,b,a,f,d,d,b,d,b,b,a,d,b,b,a,b,a,a,c,f,d,d,b,d,b,b,a,d,b,b,a,b,a,a,c,d,b,b,a,b,a,a,c,b,a,a,c,a,c,c,e,f,d,d,b,d,b,b,a,d,b,b,a,b,a,a,c,d,b,b,a,b,a,a,c,b,a,a,c,a,c,c,e,d,b,b,a,b,a,a,c,b,a,a,c,a,c,c,e,b,a,a,c,a,c,c,e,a,c,c,e,c,e,e,g,f,d,d,b,d,b,b,a,d,b,b,a,b,a,a,c,d,b,b,a,b,a,a,c,b,a,a,c,a,c,c,e,d,b,b,a,b,a,a,c,b,a,a,c,a,c,c,e,b,a,a,c,a,c,c,e,a,c,c,e,c,e,e,g,d,b,b,a,b,a,a,c,b,a,a,c,a,c,c,e,b,a,a,c,a,c,c,e,a,c,c,e,c,e,e,g,b,a,a,c,a,c,c,e,a,c,c,e,c,e,e,g,a,c,c,e,c,e,e,g,c,e,e,g,e,g,g,k])) z5.toNat)),()),())) P) P) P) P
def Nf:=
 (CH z).bind λy1=>letI a:=((y1.1.1,N,()),())
 Q ((Fs x).bind λy2=>cond y2.1.1 ((CX z).bind λy3=>cond (y3.1.1==1) (L ((y1.1.1,decide (y1.1.1<x),()),())) (L a)) (L a)) λy4=>cond y4.1.2.1 (L ((y4.1.1,()),())) (L (((- 1:Int),()),()))
def HP:=
 letI e:=(0:Int)
 letI f:=((A,pa,pi,qe,()),())
 Q (cond po (L ((pz,(),R.wrap (e+1),()),f)) (L ((pz,(),e,()),f))) λy1=>letI c:=y1.2.1
 letI d:=c.2
 letI g:=y1.1.2.2.1
 letI h:=d.2
 cond y1.1.1 (let z0:Int:=R.wrap (g+2)
 cond (V z0 4) (L ((aE [c.1,d.1,h.1,h.2.1] z0.toNat e,()),())) P) (cond (V g 4) (L ((aE [c.1,d.1,h.1,h.2.1] g.toNat e,()),())) P)
def IN:=
 (Nf x z).bind λy1=>(HP po pz 0 1 2 3).bind λy2=>(HP qa qx 0 1 2 3).bind λy3=>L (((),()),((y1.1.1,y2.1.1,y3.1.1,()),()))
def FK:=
 letI a:=((N,()),())
 Q ((Fs x).bind λy1=>cond y1.1.1 (cond (O ((- 1:Int)≤z)) (cond (O (z<x)) (cond (O (0≤B)) (cond (O (B≤3)) (cond (O (0≤A)) (L ((O (A≤3),()),())) (L a)) (L a)) (L a)) (L a)) (L a)) (L a)) λy2=>L ((y2.1.1,()),())
def FL:=
 letI b:=(0:Int)
 letI a:=((b,b,()),())
 letI c:=(((),()),a)
 letI d:=(1:Int)
 letI f:=IntKind.bits W
 letI g:=((z,B,A,()),a)
 (FK x z B A).bind λy1=>cond (! y1.1.1) (L c) (cond (A !=d) (L c) (cond (O (z<b)) (L c) (Q (cond (B==d) (L (((),(),decide (z<R.wrap (x-d)),()),g)) (L (((),(),N,()),g))) λy2=>letI e:=y2.2.1
 letI h:=(e,y2.2.2.1,())
 cond y2.1.2.2.1 (cond (O (b≤e.1)) (L (((),()),((Z W (d*((2:Int)^p e.1.toNat f)),b,()),()))) P) (Q (cond (e.2.1==2) (L (((),(),decide (b<e.1),()),h)) (L (((),(),N,()),h))) λy3=>cond y3.1.2.2.1 (cond (O (b≤y3.2.1.1)) (L (((),()),((b,W.wrap (d*((2:Int)^p y3.2.1.1.toNat f)),()),()))) P) (L c)))))
def Km:=
 letI a:=(0:Int)
 letI b:=(a,N,())
 letI d:=List Duty
 letI g:=(se,sf,ss,())
 (Co x z B A H I J D C E F pc qw sr s3).bind λy1=>cond (! y1.1.1) (L (((),(1:Int),()),((a,a,a,([]:d),b),()))) ((FK x se sf ss).bind λy2=>cond (! y2.1.1) (L (((),(1:Int),()),((a,a,a,([]:d),b),()))) (cond (V C D.length) ((FL x se sf ss).bind λy3=>(KT qw (D.getD C.toNat (Car.mk a a a a a a a a a)).I1 y3.2.1.1 y3.2.1.2.1).bind λy4=>letI c:=(E,F,pc,y4.1.1,sr,y4.1.2.1,())
 Q (Q (cond (O (a≤se)) (cond (ss==2) (L (((),(),(),a,sf==a,()),(c,g,(a,a,a,([]:d),b),()))) (L (((),(),(),b),(c,g,(a,a,a,([]:d),b),())))) (L (((),(),(),b),(c,g,(a,a,a,([]:d),b),())))) λy5=>letI h:=(y5.2.1,y5.2.2.1,y5.2.2.2.1,())
 cond y5.1.2.2.2.2.1 (let z0:Int:=R.wrap (y5.2.1.2.2.2.2.1+1)
 L (((),(),(),cond (O (1000000<z0)) (1000000:Int) z0,()),h)) (L (((),(),(),y5.1.2.2.2.1,()),h))) λy6=>letI e:=y6.2
 letI f:=e.1.2
 letI j:=e.2
 letI k:=((),(),(),y6.1.2.2.2.1,())
 letI l:=(j.1,j.2.1,())
 letI m:=f.2
 Q (cond (O (a≤j.1.1)) (L (k,((j.1.1,f.1,m.1,m.2.1,m.2.2.1,m.2.2.2.1,()),l))) (L (k,(e.1,l)))) λy7=>L (((),a,()),((y7.2.1.1,y7.2.2.1.2.1,y7.2.2.1.2.2.1,y7.2.1.2.2.2.1,y7.1.2.2.2.1,y7.2.1.2.2.2.2.2.1,()),()))) P))
def Dm:=
 letI a:=(0:Int)
 letI b:=x.toNat
 letI c:=V x ql.length
 letI d:=(qm,pt,pu,pp,pw,r8,sd,px,r3,())
 letI h:=Belief.mk a a a
 cond (V x qi.length) (let z0:=qi.set b y
 cond (! pj) (cond c (let z1:=ql.getD b (h [] a N)
 (Mt z B A pa H I J D x z1.D0 z1.I0 z1.E3 z1.U0 z1.V2 z1.N3).bind λy1=>letI e:=y1.2.1.2
 letI j:=e.2
 cond c (L (i ((),((z,B,A,pa,H,I,J,D,pd,pg,ph,pb,pf,pn,C,qh,ql.set b (Belief.mk y1.2.1.1 e.1 j.1 j.2.1 j.2.2.1 j.2.2.2.1),qu,qv,qg,r1,E,F,pc,pm,pr,q1,r7,q2,pj,pv,pq,z0,r2,d),())))) P) P) (cond (V x qh.length) (let z2:=qh.getD b (Debounced.mk a N N N N a a a a a a a a a a a a a a a a a a a a a a a a a a a a a a a a a a a a)
 (IN z z2.V0 z2.T1 z2.F1 z2.G1 z2.C1).bind λy2=>letI g:=y2.2.1
 letI k:=g.2
 (FL z g.1 k.1 k.2.1).bind λy3=>cond (V x r2.length) (cond c (let z3:=ql.getD b (h [] a N)
 (Km z B A pa H I J D x z3.D0 z3.I0 z3.E3 z3.U0 z3.V2 z3.N3 g.1 k.1 k.2.1).bind λy4=>letI f:=y4.2.1.2
 letI l:=f.2
 cond c (L (t ((),((z,B,A,pa,H,I,J,D,pd,pg,ph,pb,pf,pn,C,qh,ql.set b (Belief.mk y4.2.1.1 f.1 l.1 l.2.1 l.2.2.1 l.2.2.2.1),qu,qv,qg,r1,E,F,pc,pm,pr,q1,r7,q2,pj,pv,pq,z0,r2.set b (Calls.mk y3.2.1.1 y3.2.1.2.1),d),())))) P) P) P) P)) P
def EQ:=
 Q (cond (x==3) (L ((y,()),())) (L ((x==4,()),()))) λy1=>L ((y1.1.1,()),())
def JI:=
 Q ((DU x z B A H I J D E F pc pm pr pj pv pq pt pu pp pw px qb).bind λy1=>cond y1.1.1 (cond (O (0≤C)) (L ((O (C<(D.length:Int)),()),())) (L ((N,()),()))) (L ((N,()),()))) λy2=>L ((y2.1.1,()),())
def Lk:=
 let z0:Int:=R.wrap (x+1)
 L ((cond (O (1000000<z0)) (1000000:Int) z0,()),())
def JE:=
 cond (B !=0) ((Lk B).bind λy1=>L (((),()),((x,z,y1.1.1,po,A,()),()))) (L (((),()),((x,z,B,po,A,()),())))
def Nl:=
 letI a:=(((),()),((x,z,B,po,A,()),()))
 (Gi x z B po A).bind λy1=>cond (! y1.1.1) (L a) (cond (x==0) (L a) ((JE x z B po A).bind λy2=>letI b:=y2.2.1.2
 (Lk b.1).bind λy3=>L (((),()),((y2.2.1.1,y3.1.1,b.2.1,b.2.2.1,b.2.2.2.1,()),()))))
def KV:=
 letI b:=(0:Int)
 letI a:=((x,z,B,()),(b,b,b,()),())
 letI c:=(((),(),decide (z<1000000),()),a)
 letI d:=(((),(),N,()),a)
 Q (cond (x !=b) (cond (O (b≤z)) (L c) (L d)) (cond (z !=b) (cond (O (b≤z)) (L c) (L d)) (L d))) λy1=>cond y1.1.2.2.1 (L (((),()),((y1.2.1.1,R.wrap (y1.2.1.2.1+1),y1.2.1.2.2.1,()),()))) (L (((),()),(y1.2.1,())))
def QB(p0 p1 p2 p3 p4 p5 p6 p7 p8 p9 p10 p11:Int)(p12:Bool)(p13:Int):Option ((Bool×Unit)×Unit):=
 letI a:=((O (p5<p10),()),())
 Q (cond (p9==1) (L a) (cond (p9==3) (L a) (L ((N,()),())))) λy1=>L ((y1.1.1,()),())
def RK(p0 p1 p2 p3 p4 p5 p6 p7 p8 p9 p10 p11:Int):Option ((Bool×Unit)×Unit):=
 L ((O (p4<p10),()),())
def HT:=
 letI a:=(0:Int)
 letI b:=(((),a,()),((a,a,a,a,a,N,a,a,a,a,a,a,a,y,()),()))
 (QB x z B A pa pi qe qq qr qj qy qz qk r0).bind λy1=>cond y1.1.1 (L b) ((RK x z B A pa pi qe qq qr r5 su sv).bind λy2=>cond y2.1.1 (L b) (L (((),pv,()),((qs,qt,qj,qy,qz,qk,r0,r5,su,sv,te,tf,tg,pj,()),()))))
def MF:=
 letI a:=(0:Int)
 (JI x z B A H I J D C E F pc pm pr pj pv pq pt pu pp pw px qb).bind λy1=>cond (! y1.1.1) (L (((),a,(1:Int),()),((a,a,a,a,a,N,a,a,a,a,a,a,a,N,()),()))) (cond qb (L (((),a,a,()),((E,F,pc,pm,pr,pj,pv,pq,pt,pu,pp,pw,px,qb,()),()))) ((Nl pc pm pr pj pv).bind λy2=>letI b:=y2.2.1.2
 (KV pq pt pu).bind λy3=>cond (V C D.length) (let z0:Car:=D.getD C.toNat (Car.mk a a a a a a a a a)
 (HT z0.I1 z0.G3 z0.J3 z0.I2 z0.O3 z0.L2 z0.K2 z0.Q3 z0.A4 E F y2.2.1.1 b.1 b.2.1 b.2.2.1 b.2.2.2.1 y3.2.1.1 y3.2.1.2.1 y3.2.1.2.2.1 pp pw px qb a).bind λy4=>L (((),y4.1.2.1,a,()),(y4.2.1,()))) P))
def KY(p3:List Entry)(car:Int):=
 Q (cond (O (0≤car)) (let z0:Int:=(pd.length:Int)
 let z1:Int:=(pg.length:Int)
 let z2:Int:=(ph.length:Int)
 L ((O (car<cond (O (z2<cond (O (z1<z0)) z1 z0)) z2 (cond (O (z1<z0)) z1 z0)),()),())) (L ((N,()),()))) λy1=>L ((y1.1.1,()),())
def KX:=
 letI a:=C.toNat
 letI b:=((N,()),())
 letI c:=((! ph.getD a N,()),())
 letI d:=V C
 letI e:=pd.getD a 0
 letI f:=! pg.getD a N
 letI g:=d pd.length
 letI h:=d pg.length
 letI j:=d ph.length
 Q ((KY pd pg ph pb C).bind λy1=>cond y1.1.1 (cond g (cond (e==0) (cond h (cond f (cond j (L c) P) (L b)) P) (cond g (cond (e==4) (cond h (cond f (cond j (L c) P) (L b)) P) (L b)) P)) P) (L b)) λy2=>L ((y2.1.1,()),())
def Lu:=
 letI a:=(0:Int)
 cond (O (q0<qo)) ((KX tj tk tm tp q0).bind λy1=>cond (V q0 qn.length) (let z0:=q0.toNat
 let z1:=qn.getD z0 (View.mk N N N N a a a a a a a a)
 L (i (((),qn.set z0 (View.mk y1.1.1 z1.Y2 z1.D3 z1.X3 z1.D0 z1.I0 z1.C3 z1.F3 z1.Q2 z1.M2 z1.Z1 z1.Q1),qo,R.wrap (q0+1),()),((tj,tk,tm,tp,()),())))) P) (L (t ((qn,()),())))
def Ij:=lp Lu
def Jp:=
 letI a:=(0:Int)
 let z0:Int:=(pd.length:Int)
 cond ((O (a≤z0)&&decide (z0≤z0))&&decide (z0≤2147483648)) (let z1:List (View):=List.replicate z0.toNat (View.mk N N N N a a a a a a a a)
 (Ij (((),z1,(z1.length:Int),a,()),((pd,pg,ph,pb,()),()))).bind λy1=>L ((y1.1.1,()),())) P
def CO:=
 letI a:=IntKind.bits W
 L (((),()),((Z W (Y x B (X a x|||BitVec.ofInt a B).toNat),W.wrap (Y z A (X a z|||BitVec.ofInt a A).toNat),()),()))
def Gp:=
 letI c:=(0:Int)
 cond (O (r9<q0)) (cond (V r9 sg.length) (let z0:=sg.getD r9.toNat (aD c c c c N)
 letI a:=((tq,tr,()),(ts,tt,()),(z0.D0,z0.I0,z0.S0,z0.B1,z0.B2,()),())
 Q (cond (z0.S0==qo) (L ((qn,qo,(),(),(),sg,q0,r9,y,()),a)) (cond (z0.S0==(- 2:Int)) (cond (V qo qn.length) (L ((qn,qo,(),(),(),sg,q0,r9,(qn.getD qo.toNat (View.mk N N N N c c c c c c c c)).H3,()),a)) P) (L ((qn,qo,(),(),(),sg,q0,r9,N,()),a)))) λy1=>letI d:=y1.1.2.2.2.2.2
 letI b:=(y1.1.1,y1.1.2.1,(),(),d.1,d.2.1,R.wrap (d.2.2.1+1),())
 letI e:=y1.2.2
 cond d.2.2.2.1 ((Ea e.2.1.1 e.2.1.2.1).bind λy2=>(CO e.1.1 e.1.2.1 y2.2.1.1 y2.2.1.2.1).bind λy3=>L (i (b,(y1.2.1,y3.2.1,())))) (L (i (b,(y1.2.1,e.1,()))))) P) (L (t (((),(),()),((tq,tr,()),(ts,tt,()),()))))
def Ks:=lp Gp
def Ms:=
 letI d:=(0:Int)
 letI a:=(d,d,())
 letI b:=(((),()),(a,()))
 letI c:=(D.length:Int)
 (Cn x z B A H I J D pd pg ph pb).bind λy1=>cond (! y1.1.1) (L b) (cond ((qn.length:Int) !=c) (L b) (cond (O (qo<d)) (L b) (cond (O (c≤qo)) (L b) ((Ks ((qn,qo,(),(),pb,(pb.length:Int),d,()),(a,a,()))).bind λy2=>L (((),()),(y2.2.2.1,()))))))
def HI:=
 (Jp pd pg ph pb).bind λy1=>(Ms x z B A H I J D pd pg ph pb y1.1.1 C).bind λy2=>L (((),()),(y2.2.1,()))
def Ls(p1:Int)(p2:Int)(p3:Int)(p4:Nat)(p5:Nat)(p6:Nat)(p7:List Car)(p8:Int)(p9:Bool)(p10:Int)(p11:Bool):=
 letI a:=((N,()),())
 Q (cond (O (0≤p8)) (cond (O (p8<x)) (cond (O (0≤p10)) (L ((O (p10≤2),()),())) (L a)) (L a)) (L a)) λy1=>L ((y1.1.1,()),())
def DN:=
 letI c:=IntKind.bits W
 letI e:=((z,B,A,pa,H,I,J,D,C,E,F,pc,pm,pr,pj,pv,pq,pt,pu,pp,pw,px,qb,py,qf,qc,qd,q3,()),())
 cond (O (0≤z)) (let z0:Int:=W.wrap (Z W (1*((2:Int)^p z.toNat c))-1)
 let z1:Int:=W.wrap (Y x z0 (X c x&&&X c z0).toNat)
 Q (cond (pc !=0) (cond (O (0≤py)) (let z2:Int:=W.wrap (1*((2:Int)^p py.toNat c))
 L (((),W.wrap (Y z1 z2 (X c z1&&&(~~~ X c z2)).toNat),()),e)) P) (L (((),z1,()),e))) λy1=>letI j:=y1.2.1.2
 letI m:=j.2
 letI d:=m.2.2.2
 letI f:=d.2.2.2
 letI k:=f.2
 letI n:=k.2
 letI a:=n.2.2.2
 letI h:=a.2.2
 letI o:=h.2
 letI b:=o.2.2.2
 letI g:=b.2.2.2
 letI l:=g.2
 letI q:=l.2
 L ((),((y1.2.1.1,j.1,m.1,m.2.1,m.2.2.1,d.1,d.2.1,d.2.2.1,f.1,k.1,n.1,n.2.1,n.2.2.1,a.1,a.2.1,h.1,o.1,o.2.1,o.2.2.1,W.wrap (Y b.1 y1.1.2.1 (X c b.1|||BitVec.ofInt c y1.1.2.1).toNat),b.2.1,b.2.2.1,g.1,l.1,q.1,q.2.1,q.2.2.1,q.2.2.2.1,()),()))) P
def NA:=
 letI d:=(0:Int)
 letI a:=((d,d,d,()),())
 letI g:=(N,())
 letI b:=(((),d,g),a)
 letI e:=((z,B,A,()),(pa,qk,r0,td,()),a)
 (Gj x z B A).bind λy1=>cond (! y1.1.1) (L b) (cond (O (pa<d)) (L b) (cond (O (x≤pa)) (L b) ((Fu x A z).bind λy2=>letI c:=((x,r5,(),(),(),y2.1.2.1,g),e)
 Q (cond y2.1.2.1 (cond qk (L ((x,r5,(),(),(),y2.1.2.1,pa==y2.1.1,()),e)) (L c)) (L c)) λy3=>letI f:=(y3.2.1,y3.2.2.1,y3.2.2.2.1,())
 cond y3.1.2.2.2.2.2.2.1 (L (((),d,y,()),a)) (Q (cond y3.1.2.2.2.2.2.1 (L ((y3.1.1,y3.1.2.1,(),(),(),y,()),f)) (L ((y3.1.1,y3.1.2.1,(),(),(),! y3.2.2.1.2.1,()),f))) λy4=>cond y4.1.2.2.2.2.2.1 (let z0:Int:=R.wrap (y4.2.1.2.1+1)
 L (((),y4.2.1.1,g),((y4.2.1.1,cond (O (1000000<z0)) (1000000:Int) z0,y4.2.1.2.2.1,()),()))) ((Fu y4.1.1 y4.2.2.1.1 y4.1.2.1).bind λy5=>cond y5.1.2.1 (L (((),y4.1.2.1,g),((y4.1.2.1,d,y4.2.2.1.1,()),()))) (L b))))))
def BN(p28:Int):=
 (NA z pq pt pu py qf qc qd x).bind λy1=>L ((y1.1.2.2.1,()),((z,B,A,pa,H,I,J,D,C,E,F,pc,pm,pr,pj,pv,y1.2.1.1,y1.2.1.2.1,y1.2.1.2.2.1,pp,pw,px,qb,py,qf,qc,qd,y1.1.2.1,()),()))
def DD:=
 letI f:=((x,z,B,A,H,I,J,D,C,E,F,pc,pm,pr,pj,pv,pq,pt,pu,pp,pw,px,qb,py,qf,qc,qd,q3,()),())
 letI l:=(0:Int)
 letI s:=(N,())
 letI u:=(y,())
 Q (cond ((pq==l)&&((pt==l)&&((pu==l)&&y))) (L (((),qf,()),f)) (L (((),s),f))) λy1=>letI q:=y1.2.1
 letI w:=q.2
 letI an:=w.2
 letI e:=an.2.2.2
 letI j:=e.2.2.2
 letI aa:=j.2
 letI ag:=aa.2
 letI a:=ag.2.2.2
 letI m:=a.2.2
 letI v:=m.2
 letI c:=v.2.2.2
 letI k:=c.2.2.2
 letI ab:=k.2
 letI ah:=ab.2
 cond y1.1.2.1 (L (u,(q,()))) (let z0:Bool:=v.1 !=l
 Q ((BN l q.1 w.1 an.1 an.2.1 an.2.2.1 e.1 e.2.1 e.2.2.1 j.1 aa.1 ag.1 ag.2.1 ag.2.2.1 a.1 a.2.1 m.1 v.1 v.2.1 v.2.2.1 c.1 c.2.1 c.2.2.1 k.1 ab.1 ah.1 ah.2.1 ah.2.2.1 ah.2.2.2.1).bind λy2=>letI al:=(y2.2.1,())
 cond y2.1.1 (L (((),z0,u),al)) (cond (! z0) (L (((),z0,y2.2.1.2.2.2.2.2.2.2.2.2.2.2.2.2.2.2.2.2.2.2.2.2.2.2.2.1,()),al)) (L (((),z0,s),al)))) λy3=>letI am:=(y3.2.1,())
 cond y3.1.2.2.1 (L (u,am)) (Q (cond (! y3.1.2.1) (L (((),u),am)) (L (((),y3.2.1.2.2.2.2.2.2.2.2.2.1 !=l,()),am))) λy4=>letI r:=y4.2.1
 letI ad:=r.2
 letI ai:=ad.2
 letI g:=ai.2.2.2
 letI n:=g.2.2
 letI ae:=n.2
 letI aj:=ae.2
 letI b:=aj.2.2.2
 letI o:=b.2.2
 letI ao:=o.2
 letI d:=ao.2.2.2
 letI h:=d.2.2.2.2
 letI af:=h.2
 letI ak:=af.2
 cond y4.1.2.1 (L (s,((r.1,ad.1,ai.1,ai.2.1,ai.2.2.1,g.1,g.2.1,n.1,ae.1,aj.1,aj.2.1,aj.2.2.1,b.1,b.2.1,o.1,ao.1,ao.2.1,ao.2.2.1,d.1,d.2.1,d.2.2.1,l,h.1,af.1,ak.1,ak.2.1,ak.2.2.1,ak.2.2.2.1,()),()))) (L (s,(r,())))))
def BV:=
 letI a:=(0:Int)
 cond (V st.car st.b_Cars.length) (let z0:Car:=st.b_Cars.getD st.car.toNat (Car.mk a a a a a a a a a)
 L (((),()),((z0.I1,z0.G3,z0.J3,z0.I2,z0.O3,z0.L2,z0.K2,z0.Q3,z0.A4,()),()))) P
def LW(p0 p1 p2:Int)(p3:Bool)(p4 p5:Int):Option ((Unit×Unit)×(Afc×Unit)):=
 L (((),()),((p5,(0:Int),p2,p3,p4,()),()))
def QC:=
 (Lk z).bind λy1=>L (((),pa,()),((x,y1.1.1,B,po,A,()),()))
def XC:=
 (LW x z B po A 3).bind λy1=>L (((),(5:Int),()),((y1.2.1.1,y1.2.1.2.1,y1.2.1.2.2.1,y,y1.2.1.2.2.2.2.1,()),()))
def Nm:=
 letI b:=(0:Int)
 letI ag:=(b,())
 letI d:=(b,b,N,ag)
 letI g:=(1:Int)
 letI m:=(3:Int)
 letI q:=(x,z,B,A,pa,pi,qe,qq,qr,())
 letI w:=((b,d),())
 letI ab:=(r5,pj,r8,(),(),(),())
 letI ad:=(N,())
 Q ((Gi qs qt qj qk r0).bind λy1=>cond (! y1.1.1) (L (ab,(q,(b,d),w))) (L (ab,(q,(qs,qt,qj,qk,r0,()),w)))) λy2=>letI l:=y2.2.2.1
 letI ak:=l.2
 cond (l.1==b) (cond y2.1.2.2.1 (L (((),m,()),((g,d),()))) (L (((),ag),(l,())))) ((JE l.1 ak.1 ak.2.1 ak.2.2.1 ak.2.2.2.1).bind λy3=>letI u:=(y2.2.1,y3.2.1,y2.2.2.2.1,())
 let z0:Bool:=decide (y2.2.1.2.2.2.2.2.2.2.1<y3.2.1.2.2.1)
 Q (cond (y3.2.1.1==g) (L ((y2.1.1,y2.1.2.1,(),(),(),z0,y2.1.1==g,()),u)) (L ((y2.1.1,y2.1.2.1,(),(),(),z0,ad),u))) λy4=>letI h:=y4.2.2.1
 letI v:=(y4.2.1,h,y4.2.2.2.1,())
 letI aa:=y4.1.2.2.2.2.2
 letI ae:=h.2
 letI ah:=ae.2
 cond aa.2.1 ((LW h.1 ae.1 (cond (O (ah.1<g)) g ah.1) ah.2.1 ah.2.2.1 2).bind λy5=>L (((),ag),(y5.2.1,()))) (Q (cond (h.1==m) (L ((y4.1.2.1,(),(),(),aa.1,y4.1.1==2,()),v)) (L ((y4.1.2.1,(),(),(),aa.1,ad),v))) λy6=>letI r:=(y6.2.1,y6.2.2.1,y6.2.2.2.1,())
 letI o:=y6.1.2.2.2.2
 letI e:=((y6.1.1,(),(),(),o.1,ad),r)
 cond o.2.1 (L (((),ag),w)) (Q (cond (y6.2.2.1.1==m) (cond o.1 (L ((y6.1.1,(),(),(),o.1,y6.2.2.1.2.2.2.1,()),r)) (L e)) (L e)) λy7=>letI a:=y7.2.2.1
 letI f:=a.2
 letI k:=f.2
 letI al:=f.1
 letI s:=k.2
 letI af:=a.1
 letI c:=QC af al k.1 s.1 s.2.1
 letI aj:=(a,y7.2.2.2.1,())
 cond y7.1.2.2.2.2.2.1 ((c (5:Int)).bind λy8=>L (((),y8.1.2.1,()),(y8.2.1,()))) (cond y7.1.2.2.2.2.1 ((XC af al k.1 s.1 s.2.1).bind λy9=>L (((),y9.1.2.1,()),(y9.2.1,()))) (cond (af==g) ((c m).bind λy10=>L (((),y10.1.2.1,()),(y10.2.1,()))) (cond (af==2) (Q (cond (O (y7.2.1.2.2.2.2.2.2.1≤R.wrap (al+g))) (L (((),(),! y7.1.1,()),aj)) (L (((),(),ad),aj))) λy11=>letI j:=y11.2.1.2
 letI n:=j.2
 letI ai:=n.2
 cond y11.1.2.2.1 ((LW y11.2.1.1 j.1 n.1 ai.1 ai.2.1 m).bind λy12=>L (((),(4:Int),()),(y12.2.1,()))) ((QC y11.2.1.1 j.1 n.1 ai.1 ai.2.1 b).bind λy13=>L (((),y13.1.2.1,()),(y13.2.1,())))) (cond y7.1.1 ((Lk s.2.1).bind λy14=>(LW af al k.1 s.1 y14.1.1 g).bind λy15=>L (((),m,()),(y15.2.1,()))) ((c (4:Int)).bind λy16=>L (((),y16.1.2.1,()),(y16.2.1,()))))))))))
def DM:=
 letI l:=IntKind.bits W
 letI s:=(0:Int)
 (BV (aF x z B A H I J D C E F pc pm pr pj pv pq pt pu pp pw px qb py qf qc qd q3)).bind λy1=>letI h:=y1.2.1.2.2.2
 letI q:=h.2
 letI w:=q.2
 (Nm y1.2.1.1 y1.2.1.2.1 y1.2.1.2.2.1 h.1 q.1 w.1 w.2.1 w.2.2.1 w.2.2.2.1 pc pm pr pj pv qc qd N).bind λy2=>letI d:=y2.2.1
 letI e:=(px,qb,py,qf,qc,qd,y2.1.2.1,())
 letI f:=d.2
 letI j:=f.2
 letI n:=j.2
 letI r:=d.1
 Q (cond (r==2) (cond (O (s≤py)) (let z0:Int:=W.wrap (1*((2:Int)^p py.toNat l))
 L (((),()),((x,z,B,A,H,I,J,D,C,E,F,r,f.1,j.1,n.1,n.2.1,pq,pt,pu,W.wrap (Y pp z0 (X l pp&&&(~~~ X l z0)).toNat),pw,e),()))) P) (cond (r==s) (L (((),()),((x,z,B,A,H,I,J,D,C,E,F,r,f.1,j.1,n.1,n.2.1,pq,pt,pu,pp,s,e),()))) (L (((),()),((x,z,B,A,H,I,J,D,C,E,F,r,f.1,j.1,n.1,n.2.1,pq,pt,pu,pp,pw,e),()))))) λy3=>letI o:=y3.2.1.2
 letI aa:=o.2
 letI c:=aa.2.2.2
 letI k:=c.2.2
 letI u:=k.2
 letI ab:=u.2
 letI a:=ab.2.2.2
 letI m:=a.2.2
 letI ad:=m.2
 letI b:=ad.2.2.2
 letI g:=b.2.2.2.2
 letI v:=g.2
 letI ae:=v.2
 L ((),((y3.2.1.1,o.1,aa.1,aa.2.1,aa.2.2.1,c.1,c.2.1,k.1,u.1,ab.1,ab.2.1,ab.2.2.1,a.1,a.2.1,m.1,ad.1,ad.2.1,ad.2.2.1,b.1,b.2.1,b.2.2.1,s,g.1,v.1,ae.1,ae.2.1,ae.2.2.1,ae.2.2.2.1,()),()))
def Ge:=
 letI a:=((N,()),())
 Q (cond (O (2≤x)) (cond (O (x≤32)) (cond (O (0≤A)) (cond (O (A<x)) ((Fm z B).bind λy1=>L ((y1.1.1,()),())) (L a)) (L a)) (L a)) (L a)) λy2=>L ((y2.1.1,()),())
def JB:=
 letI a:=8
 letI b:=7
 letI c:=6
 letI d:=5
 letI e:=4
 letI f:=3
 letI g:=2
 letI h:=IntKind.bits W
 Q (cond (O (65536≤x)) (L ((aB x ((2:Int)^p (aC (16:Int)) h),(16:Int),()),())) (L ((x,(0:Int),()),()))) λy1=>Q (cond (O (256≤y1.1.1)) (L ((aB y1.1.1 ((2:Int)^p (aC (8:Int)) h),R.wrap (y1.1.2.1+8),()),())) (L ((y1.1.1,y1.1.2.1,()),()))) λy2=>let z0:Int:=aA.wrap y2.1.1
 cond (V z0 (U (S [0,1,g,g,f,f,f,f,e,e,e,e,e,e,e,e,d,d,d,d,d,d,d,d,d,d,d,d,d,d,d,d,c,c,c,c,c,c,c,c,c,c,c,c,c,c,c,c,c,c,c,c,c,c,c,c,c,c,c,c,c,c,c,c,b,b,b,b,b,b,b,b,b,b,b,b,b,b,b,b,b,b,b,b,b,b,b,b,b,b,b,b,b,b,b,b,b,b,b,b,b,b,b,b,b,b,b,b,b,b,b,b,b,b,b,b,b,b,b,b,b,b,b,b,b,b,b,b,a,a,a,a,a,a,a,a,a,a,a,a,a,a,a,a,a,a,a,a,a,a,a,a,a,a,a,a,a,a,a,a,a,a,a,a,a,a,a,a,a,a,a,a,a,a,a,a,a,a,a,a,a,a,a,a,a,a,a,a,a,a,a,a,a,a,a,a,a,a,a,a,a,a,a,a,a,a,a,a,a,a,a,a,a,a,a,a,a,a,a,a,a,a,a,a,a,a,a,a,a,a,a,a,a,a,a,a,a,a,a,a,a,a,a,a,a,a,a,a,a,a,a,a,a,a,a,a])).size) (L ((Z R (y2.1.2.1+R.wrap (AF (U (S [0,1,g,g,f,f,f,f,e,e,e,e,e,e,e,e,d,d,d,d,d,d,d,d,d,d,d,d,d,d,d,d,c,c,c,c,c,c,c,c,c,c,c,c,c,c,c,c,c,c,c,c,c,c,c,c,c,c,c,c,c,c,c,c,b,b,b,b,b,b,b,b,b,b,b,b,b,b,b,b,b,b,b,b,b,b,b,b,b,b,b,b,b,b,b,b,b,b,b,b,b,b,b,b,b,b,b,b,b,b,b,b,b,b,b,b,b,b,b,b,b,b,b,b,b,b,b,b,a,a,a,a,a,a,a,a,a,a,a,a,a,a,a,a,a,a,a,a,a,a,a,a,a,a,a,a,a,a,a,a,a,a,a,a,a,a,a,a,a,a,a,a,a,a,a,a,a,a,a,a,a,a,a,a,a,a,a,a,a,a,a,a,a,a,a,a,a,a,a,a,a,a,a,a,a,a,a,a,a,a,a,a,a,a,a,a,a,a,a,a,a,a,a,a,a,a,a,a,a,a,a,a,a,a,a,a,a,a,a,a,a,a,a,a,a,a,a,a,a,a,a,a,a,a,a,a])) z0.toNat)),()),())) P
def Jo(p1:Int)(p2:Int)(p3:Int)(p4:Int)(p5:Int)(p6:Int):=
 letI a:=IntKind.bits W
 letI b:=(0:Int)
 letI c:=(1:Int)
 letI d:=(2:Int)
 letI e:=d^p c.toNat a
 letI g:=d^p p3.toNat a
 letI j:=(N,N,N,b,b,b,())
 letI m:=X a c
 letI o:=((),())
 cond (O (b≤x)) (let z0:Int:=W.wrap (Z W (c*(d^p x.toNat a))-c)
 letI n:=X a z0
 (DT p5 p6 (aB z0 e) (Z W (Y z0 c (n&&&(~~~ m)).toNat))).bind λy1=>letI f:=y1.2.1
 letI k:=f.2.1
 letI l:=Dq f.1 k p3
 let z1:Int:=W.wrap (Y p4 z0 (X a p4&&&n).toNat)
 let z2:Int:=W.wrap (Y z1 f.1 (X a z1|||BitVec.ofInt a f.1).toNat)
 let z3:Int:=W.wrap (Y z2 k (X a z2|||BitVec.ofInt a k).toNat)
 cond (O (b≤p3)) (let z4:Int:=aB p4 g
 let z5:Bool:=W.wrap (Y z4 c (X a z4&&&m).toNat)==c
 (l c).bind λy2=>(l d).bind λy3=>Q (cond (O (b≤p3)) (let z6:Int:=aB (aB z3 g) e
 cond (z6 !=b) ((CH z6).bind λy4=>L ((p3,(),z3,o),(j,(z5,y2.1.1,y3.1.1,R.wrap (c+y4.1.1),b,p2,()),()))) (L ((p3,(),z3,o),(j,(z5,y2.1.1,y3.1.1,b,b,p2,()),())))) P) λy5=>letI h:=y5.2.2.1
 letI q:=h.2
 cond (O (b≤y5.1.1)) (let z7:Int:=W.wrap (Z W (c*(d^p y5.1.1.toNat a))-c)
 let z8:Int:=W.wrap (Y y5.1.2.2.1 z7 (X a y5.1.2.2.1&&&X a z7).toNat)
 cond (z8 !=b) ((JB z8).bind λy6=>L (o,((h.1,q.1,q.2.1,q.2.2.1,R.wrap (Z R (y5.1.1-y6.1.1)+c),q.2.2.2.2.1,()),()))) (L (o,(h,())))) P) P) P
def Fd:=
 letI s:=(0:Int)
 letI a:=(s,s,s,())
 letI c:=IntKind.bits R
 letI d:=((),(),())
 letI e:=aB pi ((2:Int)^p (aC (2:Int)) c)
 letI ab:=(N,a)
 letI f:=(N,N,ab)
 letI g:=(1:Int)
 letI h:=(po,pz,qa,A,pa,pi,())
 letI l:=((),d)
 letI m:=X c g
 letI r:=aB pi ((2:Int)^p g.toNat c)
 Q (cond po (let z0:Bool:=pi !=s
 cond pz (let z1:Int:=r
 let z2:Bool:=R.wrap (Y z1 g (X c z1&&&m).toNat)==g
 cond qa (let z3:Int:=e
 L (l,(h,f,(z0,z2,R.wrap (Y z3 g (X c z3&&&m).toNat)==g,a),()))) (L (l,(h,f,(z0,z2,ab),())))) (cond qa (let z4:Int:=e
 L (l,(h,f,(z0,N,R.wrap (Y z4 g (X c z4&&&m).toNat)==g,a),()))) (L (l,(h,f,(z0,N,ab),()))))) (cond pz (let z5:Int:=r
 let z6:Bool:=R.wrap (Y z5 g (X c z5&&&m).toNat)==g
 cond qa (let z7:Int:=e
 L (l,(h,f,(N,z6,R.wrap (Y z7 g (X c z7&&&m).toNat)==g,a),()))) (L (l,(h,f,(N,z6,ab),())))) (cond qa (let z8:Int:=e
 L (l,(h,f,(N,N,R.wrap (Y z8 g (X c z8&&&m).toNat)==g,a),()))) (L (l,(h,f,f,())))))) λy1=>letI n:=y1.2.1
 letI u:=n.2
 letI v:=u.2
 letI b:=(v.2.1,v.2.2.1,v.2.2.2.1,())
 letI j:=y1.2.2.2.1
 letI o:=(! j.2.2.1,b)
 letI q:=(j,())
 letI aa:=(N,b)
 letI ae:=v.1
 Q (cond n.1 (let z9:Bool:=! j.1
 cond u.1 (let z10:Bool:=! j.2.1
 cond ae (L (l,(n,(z9,z10,o),q))) (L (l,(n,(z9,z10,aa),q)))) (cond ae (L (l,(n,(z9,N,o),q))) (L (l,(n,(z9,N,aa),q))))) (cond u.1 (let z11:Bool:=! j.2.1
 cond ae (L (l,(n,(N,z11,o),q))) (L (l,(n,(N,z11,aa),q)))) (cond ae (L (l,(n,(N,N,o),q))) (L (l,(n,(N,N,aa),q)))))) λy2=>letI w:=y2.2.2.1
 letI k:=(d,(w,y2.2.2.2.1,()))
 letI ad:=y2.2.1.2
 letI af:=w.2
 cond w.1 (L k) (cond af.1 (L k) (cond af.2.1 (L k) (cond (O (s<af.2.2.1)) (L k) (cond (O (s<af.2.2.2.1)) (L k) (L (d,((y2.2.1.1,ad.1,ad.2.1,ad.2.2.1,ad.2.2.2.1,s,()),f,())))))))
def Fp:=
 letI a:=((po,pz,qa,A,pa,pi,()),())
 letI b:=(0:Int)
 Q (cond (O (b<A)) (cond (pa==b) (L (((),y,()),a)) (L (((),decide (A≤pa),()),a))) (L (((),N,()),a))) λy1=>cond y1.1.2.1 (L (((1:Int),()),())) (cond (O (b<y1.2.1.2.2.2.2.1)) (L (((2:Int),()),())) (L ((b,()),())))
def Ds:=
 L (((),()),(((3:Int),x,x,()),()))
def Fc:=
 letI a:=(0:Int)
 letI b:=((),())
 (Fp po pz qa A pa pi).bind λy1=>letI c:=y1.1.1
 cond pz ((Ds 1).bind λy2=>L (b,(y2.2.1,()))) (cond qa ((Ds 2).bind λy3=>L (b,(y3.2.1,()))) (cond po ((Ds c).bind λy4=>L (b,(y4.2.1,()))) (cond (c==1) (L (b,(((1:Int),c,a,()),()))) (cond (c==2) (L (b,(((2:Int),c,a,()),()))) (L (b,((a,a,a,()),())))))))
def GK:=
 cond po (L ((x,()),())) (cond (O (0<A)) (L ((x,()),())) (cond qk (L ((pa,()),())) (cond (O (0<r0)) (L ((pa,()),())) (L (((0:Int),()),())))))
def DA:=
 letI a:=(0:Int)
 letI g:=(a,())
 letI j:=((a,a,g),())
 letI b:=((po,pz,qa,A,pa,pi,()),j)
 letI e:=(1:Int)
 letI f:=((),())
 Q (cond po (L (((),(),y,()),b)) (L (((),(),qa,()),b))) λy1=>letI c:=y1.2.1.2
 letI d:=c.2
 letI h:=d.2
 cond y1.1.2.2.1 ((GK 2 d.1 h.2.1 e c.1 h.1).bind λy2=>(Ds y2.1.1).bind λy3=>L (f,(y3.2.1,()))) (cond (O (a<h.2.1)) (L (f,(((2:Int),(2:Int),g),()))) (cond c.1 ((Ds e).bind λy4=>L (f,(y4.2.1,()))) (cond (O (a<h.1)) (L (f,((e,e,g),()))) (L (f,j)))))
def Fq:=
 letI d:=(0:Int)
 letI b:=((po,pz,qa,A,pa,pi,()),(d,d,d,()),())
 Q (cond po (L (((),(),y,()),b)) (L (((),(),pz,()),b))) λy1=>letI a:=y1.2.1.2
 letI c:=a.2
 letI e:=c.2
 cond y1.1.2.2.1 ((GK 1 a.1 e.1 2 c.1 e.2.1).bind λy2=>(Ds y2.1.1).bind λy3=>L (((),()),(y3.2.1,()))) (cond (O (d<e.1)) (L (((),()),(((1:Int),(1:Int),d,()),()))) ((DA y1.2.1.1 a.1 c.1 e.1 e.2.1 e.2.2.1).bind λy4=>L (((),()),(y4.2.1,()))))
def Gd:=
 (Jo x z B A pa pi qe).bind λy1=>letI e:=y1.2.1.2
 letI g:=e.2
 (Fd y1.2.1.1 e.1 g.1 g.2.1 g.2.2.1 g.2.2.2.1).bind λy2=>letI d:=y2.2.1
 letI h:=d.2
 letI a:=h.2
 letI b:=a.2
 letI j:=b.2
 letI c:=j.2.1
 letI f:=((),c,())
 Q (cond (V z 3) (let z0:=z.toNat
 cond (z0.beq 0) ((Fc d.1 h.1 a.1 b.1 j.1 c).bind λy3=>L (f,(y3.2.1,()))) (cond (z0.beq 1) ((Fq d.1 h.1 a.1 b.1 j.1 c).bind λy4=>L (f,(y4.2.1,()))) (cond (z0.beq 2) ((DA d.1 h.1 a.1 b.1 j.1 c).bind λy5=>L (f,(y5.2.1,()))) P))) P) λy6=>L (((),y6.1.2.1,()),(y6.2.1,()))
def Ie:=
 (Ge x z B A).bind λy1=>cond (! y1.1.1) (L (((),()),(((0:Int),(0:Int),(0:Int),()),()))) ((Gd x z B A pa pi qe).bind λy2=>L (((),()),(y2.2.1,())))
def Jn:=
 letI a:=IntKind.bits R
 letI b:=(0:Int)
 (Ge x z B A).bind λy1=>cond (! y1.1.1) (L (((),()),((b,b,()),()))) ((Gd x z B A pa pi qe).bind λy2=>letI c:=y2.2.1.2
 cond (y2.2.1.1 !=3) (L (((),()),((c.1,b,()),()))) (cond (O (b≤c.2.1)) (let z0:Int:=R.wrap (1*((2:Int)^p c.2.1.toNat a))
 L (((),()),((c.1,R.wrap (Y y2.1.2.1 z0 (X a y2.1.2.1|||BitVec.ofInt a z0).toNat),()),()))) P))
def QE:=
 letI a:=(0:Int)
 letI b:=((a,()),())
 (AU x z B A H I J D).bind λy1=>cond (y1.1.1 !=a) (L b) (cond (O (C<a)) (L b) (cond (O ((D.length:Int)≤C)) (L b) (cond (O (F<a)) (L b) (cond (O (x≤F)) (L b) (cond (O (E<A)) (L b) (cond (V C D.length) (let z0:Car:=D.getD C.toNat (Car.mk a a a a a a a a a)
 cond (O (F<z0.A4)) (L (((1:Int),()),())) (cond (O (z0.A4<F)) (L (((2:Int),()),())) (L b))) P))))))
def DC:=
 letI e:=(0:Int)
 (Ie B E F py pp x z).bind λy1=>letI f:=y1.2.1
 letI k:=f.1
 (Jn B E F py pp x z).bind λy2=>letI c:=y2.2.1
 letI d:=c.2.1
 letI g:=c.1
 letI a:=BN k B A pa pi H I J D C g d pc pm pr pj pv pq pt pu pp pw e qb py qf qc qd q3
 cond (k==3) ((BV (aF B A pa pi H I J D C g d pc pm pr pj pv pq pt pu pp f.2.2.1 e qb py qf qc qd q3)).bind λy3=>letI b:=y3.2.1.2.2.2
 letI h:=b.2
 letI l:=h.2
 (Nm y3.2.1.1 y3.2.1.2.1 y3.2.1.2.2.1 b.1 h.1 l.1 l.2.1 l.2.2.1 l.2.2.2.1 pc pm pr pj pv qc qd y).bind λy4=>letI j:=y4.2.1.2
 L (t ((),((B,A,pa,pi,H,I,J,D,C,g,d,y4.2.1.1,j.1,j.2.1,j.2.2.1,j.2.2.2.1,pq,pt,pu,pp,f.2.2.1,e,qb,py,qf,qc,qd,y4.1.2.1,()),())))) (cond (k==1) (a.bind λy5=>L (t ((),(y5.2.1,())))) (cond (k==2) (a.bind λy6=>L (t ((),(y6.2.1,())))) ((QE B A pa pi H I J D C px py).bind λy7=>cond (y7.1.1 !=e) ((BN y7.1.1 B A pa pi H I J D C g d pc pm pr pj pv pq pt pu pp pw px qb py qf qc qd q3).bind λy8=>L (i ((),(y8.2.1,())))) (let z0:Int:=R.wrap (px+1)
 L (t ((),((B,A,pa,pi,H,I,J,D,C,g,d,pc,pm,pr,pj,pv,pq,pt,pu,pp,pw,cond (O (1000000<z0)) (1000000:Int) z0,qb,py,qf,qc,qd,e,()),())))))))
def ED:=
 letI s:=(0:Int)
 letI be:=IntKind.bits R
 (DN x A pa pi qe H I J D C E F pc pm pr pj pv pq pt pu pp pw px qb py qf qc qd q3).bind λy1=>letI aq:=y1.2.1
 letI aw:=aq.2
 letI j:=aw.2.2.2
 letI w:=j.2.2
 letI ar:=w.2
 letI ax:=ar.2
 letI b:=ax.2.2.2
 letI aa:=b.2.2
 letI al:=aa.2
 letI ay:=al.2
 letI f:=ay.2.2.2
 letI n:=f.2.2.2
 letI ah:=n.2.2
 letI az:=ah.2
 Q (cond (b.1==s) ((DD aq.1 aw.1 aw.2.1 aw.2.2.1 j.1 j.2.1 w.1 ar.1 ax.1 ax.2.1 ax.2.2.1 b.1 b.2.1 aa.1 al.1 ay.1 ay.2.1 ay.2.2.1 f.1 f.2.1 f.2.2.1 n.1 n.2.1 ah.1 az.1 az.2.1 az.2.2.1 az.2.2.2.1).bind λy2=>L (((),(),! y2.1.1,()),((z,B,()),y2.2.1,()))) (L (((),(),N,()),((z,B,()),aq,())))) λy3=>letI ak:=y3.2.2.1.2.2.2.2.2.2.2.2.2.2.2
 letI au:=(y3.2.2.1,())
 cond y3.1.2.2.1 (L (i ((),au))) (Q (Q (cond (ak.1==s) (L (((),(),ak.2.2.2.2.2.2.2.2.2.2.2.2.2.2.1 !=2,()),(y3.2.1,au))) (L (((),(),N,()),(y3.2.1,au)))) λy4=>letI ag:=y4.2.2.1
 letI ba:=ag.2
 letI h:=ba.2.2.2
 letI r:=h.2.2.2
 letI av:=r.2
 letI bb:=av.2
 letI c:=bb.2.2.2.2.2.2.2
 letI bf:=c.2
 letI k:=bf.2.2.2.2
 letI ai:=k.2.2
 letI bc:=ai.2
 cond y4.1.2.2.1 (L (((),(),()),(y4.2.1,(ag.1,ba.1,ba.2.1,ba.2.2.1,h.1,h.2.1,h.2.2.1,r.1,av.1,bb.1,R.wrap (Y bb.2.1 1 (X be bb.2.1|||BitVec.ofInt be 1).toNat),(1:Int),s,s,N,s,c.1,bf.1,bf.2.1,bf.2.2.1,s,k.1,k.2.1,ai.1,bc.1,bc.2.1,bc.2.2.1,bc.2.2.2.1,()),()))) (L (((),(),()),(y4.2.1,ag,())))) λy5=>letI o:=y5.2.2.1
 letI ab:=o.2
 letI am:=ab.2
 letI e:=am.2.2
 letI l:=e.2.2
 letI u:=l.2
 letI ad:=u.2
 letI an:=ad.2
 letI a:=an.2.2
 letI m:=a.2.2
 letI v:=m.2
 letI ae:=v.2
 letI ao:=ae.2
 letI d:=ao.2.2
 letI af:=d.2
 letI ap:=af.2
 letI g:=ap.2.2
 letI q:=g.2.2
 letI aj:=q.2
 letI bd:=aj.2
 cond (a.1 !=s) ((DM o.1 ab.1 am.1 am.2.1 e.1 e.2.1 l.1 u.1 ad.1 an.1 an.2.1 a.1 a.2.1 m.1 v.1 ae.1 ao.1 ao.2.1 d.1 af.1 ap.1 ap.2.1 g.1 g.2.1 q.1 aj.1 bd.1 bd.2.1).bind λy6=>L (i ((),(y6.2.1,())))) (Q ((DC y5.2.1.1 y5.2.1.2.1 o.1 ab.1 am.1 am.2.1 e.1 e.2.1 l.1 u.1 ad.1 an.1 an.2.1 a.1 a.2.1 m.1 v.1 ae.1 ao.1 ao.2.1 d.1 af.1 ap.1 ap.2.1 g.1 g.2.1 q.1 aj.1 bd.1 bd.2.1).bind λy7=>match y7 with
 | .inl y8=>
 L ((),(y8.2.1,()))
 | .inr y8=>
 L ((),(y8.2.1,()))) λy9=>L (t ((),(y9.2.1,())))))
def NB:=
 letI b:=(0:Int)
 letI d:=(b,b,b,b,b,N,b,b,b,b,b,b,b,N,())
 letI f:=(E,F,pc,pm,pr,pj,pv,pq,pt,pu,pp,pw,px,qb,())
 letI q:=(((),b,(1:Int),()),(d,()))
 (JI x z B A H I J D C E F pc pm pr pj pv pq pt pu pp pw px qb).bind λy1=>cond (! y1.1.1) (L q) ((Ls x z B A H I J D py qf qc qd).bind λy2=>cond (! y2.1.1) (L q) (cond qb (L (((),b,b,()),(f,()))) (Q ((ED q3 u8 u9 x z B A H I J D C E F pc pm pr pj pv pq pt pu pp pw px qb py qf qc qd b).bind λy3=>match y3 with
 | .inl y4=>
 L (((),(),(),()),(f,d,y4.2.1,()))
 | .inr y4=>
 L (((),(),(),()),(f,d,y4.2.1,()))) λy5=>letI r:=y5.2.2.2.1
 letI e:=r.2.2.2
 letI l:=e.2.2.2
 letI s:=l.2
 letI aa:=s.2
 letI a:=aa.2.2
 letI h:=a.2.2
 letI m:=h.2
 letI n:=m.2
 letI u:=n.2
 letI c:=u.2.2
 letI v:=c.2
 letI g:=v.2.2
 letI j:=g.2.2
 letI o:=j.2.2
 letI ab:=o.2
 (BV (aF r.1 r.2.1 r.2.2.1 e.1 e.2.1 e.2.2.1 l.1 s.1 aa.1 aa.2.1 a.1 a.2.1 h.1 m.1 n.1 u.1 u.2.1 c.1 v.1 v.2.1 g.1 g.2.1 j.1 j.2.1 o.1 ab.1 ab.2.1 ab.2.2.1)).bind λy6=>letI k:=y6.2.1.2.2.2
 letI w:=k.2
 letI ad:=w.2
 (HT y6.2.1.1 y6.2.1.2.1 y6.2.1.2.2.1 k.1 w.1 ad.1 ad.2.1 ad.2.2.1 ad.2.2.2.1 aa.2.1 a.1 a.2.1 h.1 m.1 n.1 u.1 u.2.1 c.1 v.1 v.2.1 g.1 g.2.1 j.1 ab.2.2.1).bind λy7=>L (((),y7.1.2.1,b,()),(y7.2.1,())))))
def DK:=
 letI c:=(0:Int)
 letI e:=((B,A,pa,pi,H,I,J,D,pd,pg,ph,pb,pf,pn,C,qh,ql,qu,qv,qg,r1,E,F,pc,pm,pr,q1,r7,q2,pj,pv,pq,qi,r2,qm,pt,pu,pp,pw,r8,sd,px,r3,()),())
 letI l:=NewCar.mk c c c c c N c c c c c c c N
 letI u:=CarOutput.mk c c N c c N c c N
 letI al:=V x qu.length
 letI am:=x.toNat
 cond (! pj) (cond al (let z0:=qu.getD am l
 (MF B A pa pi H I J D x z0.V1 z0.E1 z0.Y0 z0.N1 z0.H1 z0.K1 z0.D1 z0.T0 z0.X0 z0.Q0 z0.Y1 z0.X2 z0.I3 z0.Z2).bind λy1=>letI ah:=y1.2.1.2
 letI au:=ah.2
 letI g:=au.2.2.2
 letI q:=g.2.2.2
 letI an:=q.2
 letI av:=an.2
 cond al (cond (V x r3.length) (let z1:Nat:=am
 let z2:=r3.getD z1 u
 L (i ((),((B,A,pa,pi,H,I,J,D,pd,pg,ph,pb,pf,pn,C,qh,ql,qu.set am (NewCar.mk y1.2.1.1 ah.1 au.1 au.2.1 au.2.2.1 g.1 g.2.1 g.2.2.1 q.1 an.1 av.1 av.2.1 av.2.2.1 av.2.2.2.1),qv,qg,r1,E,F,pc,pm,pr,q1,r7,q2,pj,pv,pq,qi,r2,qm,pt,pu,pp,pw,r8,sd,px,r3.set z1 (CarOutput.mk z2.D2 z2.X1 z2.N2 z2.J2 z2.E2 z2.Q5 y1.1.2.1 z2.B5 z2.S5),()),())))) P) P) P) (Q (cond (z==4) ((HI B A pa pi H I J D pd pg ph pb x).bind λy2=>L (((),x,(),()),(y2.2.1,e))) (L (((),x,(),()),((c,c,()),e)))) λy3=>letI o:=y3.2.2.1
 letI ab:=o.2
 letI ai:=ab.2
 letI d:=ai.2.2
 letI v:=d.2
 letI ag:=v.2
 letI aw:=ag.2
 letI j:=aw.2.2
 letI r:=j.2.2.2
 letI ao:=r.2
 letI ax:=ao.2
 letI a:=ax.2.2.2
 letI bd:=a.2
 letI k:=bd.2.2.2
 letI w:=k.2.2
 letI aq:=w.2
 letI ba:=aq.2
 letI b:=ba.2.2.2
 letI aa:=b.2.2
 letI ak:=aa.2
 letI bb:=ak.2
 letI f:=bb.2.2.2
 letI m:=f.2.2.2
 letI ad:=y3.1.2.1
 letI n:=ad.toNat
 letI bc:=V ad
 letI ae:=bc a.1.length
 letI af:=m.2.2
 letI ar:=af.2.2.1
 cond (bc b.1.length) (let z3:CarInput:=b.1.getD n (CarInput.mk c N N N N c N c N c 0)
 cond ae (let z4:NewCar:=a.1.getD n l
 (NB o.1 ab.1 ai.1 ai.2.1 d.1 v.1 ag.1 aw.1 ad z4.V1 z4.E1 z4.Y0 z4.N1 z4.H1 z4.K1 z4.D1 z4.T0 z4.X0 z4.Q0 z4.Y1 z4.X2 z4.I3 z4.Z2 z3.J1 z3.L1 z3.R1 z3.M1 z3.Y1 y3.2.1.1 y3.2.1.2.1).bind λy4=>letI aj:=y4.2.1.2
 letI ay:=aj.2
 letI h:=ay.2.2.2
 letI s:=h.2.2.2
 letI ap:=s.2
 letI az:=ap.2
 cond ae (cond (bc ar.length) (let z5:Nat:=n
 let z6:=ar.getD z5 u
 L (t ((),((o.1,ab.1,ai.1,ai.2.1,d.1,v.1,ag.1,aw.1,aw.2.1,j.1,j.2.1,j.2.2.1,r.1,ao.1,ax.1,ax.2.1,ax.2.2.1,a.1.set n (NewCar.mk y4.2.1.1 aj.1 ay.1 ay.2.1 ay.2.2.1 h.1 h.2.1 h.2.2.1 s.1 ap.1 az.1 az.2.1 az.2.2.1 az.2.2.2.1),bd.1,bd.2.1,bd.2.2.1,k.1,k.2.1,w.1,aq.1,ba.1,ba.2.1,ba.2.2.1,b.1,b.2.1,aa.1,ak.1,bb.1,bb.2.1,bb.2.2.1,f.1,f.2.1,f.2.2.1,m.1,m.2.1,af.1,af.2.1,ar.set z5 (CarOutput.mk z6.D2 z6.X1 z6.N2 z6.J2 z6.E2 z6.Q5 y4.1.2.1 z6.B5 z6.S5),()),())))) P) P) P) P)
def Fv:=
 Q (cond (O (z≤x)) (L ((O (x≤B),()),())) (L ((N,()),()))) λy1=>L ((y1.1.1,()),())
def JL:=
 letI a:=((N,()),())
 letI c:=((x,z,B,A,H,I,J,D,()),(C,E,F,pc,pm,()),())
 letI d:=(0:Int)
 letI j:=(1:Int)
 (AU x z B A H I J D).bind λy1=>cond (y1.1.1 !=d) (L a) ((FJ x z B A H I J D E F).bind λy2=>letI k:=(((),(),y2.1.1,N,()),c)
 Q (cond (E==d) (cond (F==d) ((Fv pc d (Z R ((D.length:Int)-j))).bind λy3=>L (((),(),y2.1.1,y3.1.1,()),c)) (L k)) (L k)) λy4=>letI b:=y4.2.2.1.2.2.2
 letI e:=y4.2.2.1.1
 letI f:=((b.2.1==d,()),())
 letI g:=Fv b.2.1 d
 letI h:=y4.1.2.2
 letI l:=h.1
 letI m:=b.1
 cond (e==j) (Q (cond l (cond (m==d) (L f) (L a)) (L a)) λy5=>L ((y5.1.1,()),())) (cond (e==2) (Q (cond l (cond (m==d) (L f) (L a)) (L a)) λy6=>L ((y6.1.1,()),())) (cond (e==3) (Q (cond l ((Fv m (- 2:Int) (Z R ((y4.2.1.2.2.2.2.2.2.2.1.length:Int)-j))).bind λy7=>cond y7.1.1 (L f) (L a)) (L a)) λy8=>L ((y8.1.1,()),())) (cond (e==7) (Q (cond l ((Fv m d j).bind λy9=>cond y9.1.1 ((g (255:Int)).bind λy10=>L ((y10.1.1,()),())) (L a)) (L a)) λy11=>L ((y11.1.1,()),())) (cond (e==4) (Q (cond h.2.1 ((g (4:Int)).bind λy12=>L ((y12.1.1,()),())) (L a)) λy13=>L ((y13.1.1,()),())) (cond (e==5) (Q (cond h.2.1 ((g j).bind λy14=>L ((y14.1.1,()),())) (L a)) λy15=>L ((y15.1.1,()),())) (cond (e==6) (Q (cond h.2.1 ((g j).bind λy16=>L ((y16.1.1,()),())) (L a)) λy17=>L ((y17.1.1,()),())) (L a))))))))
def Np:=
 (BI pd).bind λy1=>(Bf pg).bind λy2=>(Bf ph).bind λy3=>(Bp pb).bind λy4=>L (((),()),((y1.1.1,y2.1.1,y3.1.1,y4.1.1,()),()))
def AI:=
 letI a:=((pc,pm,pr,q1,pj,()),())
 letI b:=(0:Int)
 cond (O (E<F)) (let z0:Int:=R.wrap (aB (Z IntKind.u64 (Z R (E+F))) ((2:Int)^p (aC (1:Int)) (IntKind.bits IntKind.u64)))
 cond (V z0 pb.length) (let z1:=pb.getD z0.toNat (aD b b b b N)
 (It z1.D0 z1.I0 z1.S0 z1.B1 z1.B2 pc pm pr q1 pj).bind λy1=>cond (O (y1.1.1<b)) (L (i ((pb,(),(),C,R.wrap (z0+1),F,()),a))) (L (i ((pb,(),(),C,E,z0,()),a)))) P) (L (t ((pb,(),(),C,E,()),a)))
def AH:=lp AI
def Bc:=
 letI b:=(0:Int)
 let z0:Int:=(pb.length:Int)
 (AH ((pb,(),(),z0,b,z0,()),((C,E,F,pc,pj,()),()))).bind λy1=>letI a:=y1.1.2.2.2.2.1
 letI c:=y1.2.1.2
 Q (cond (O (a<y1.1.2.2.2.1)) (cond (V a y1.1.1.length) (let z1:Entry:=y1.1.1.getD a.toNat (aD b b b b N)
 (It z1.D0 z1.I0 z1.S0 z1.B1 z1.B2 y1.2.1.1 c.1 c.2.1 c.2.2.1 c.2.2.2.1).bind λy2=>L ((a,y2.1.1==b,()),())) P) (L ((a,N,()),()))) λy3=>L ((y3.1.1,y3.1.2.1,()),())
def OO(p0:List Int)(p1 p2:List Bool)(p3:List Entry)(p4 dir:Int):Option ((Int×Bool×Unit)×Unit):=
 (Bc p3 p4 dir 0 0 N).bind λy1=>L ((y1.1.1,y1.1.2.1,()),())
def Dx:=
 Abd pb C r4
def Dw:=
 Als pb C E
def ON:=
 letI e:=(0:Int)
 letI a:=aD e e e e N
 letI k:=(ph,pb,())
 letI b:=((),((pd,pg,k),()))
 letI d:=(1:Int)
 letI h:=A.toNat
 (OO pd pg ph pb z B).bind λy1=>letI c:=y1.1.1
 letI f:=c.toNat
 letI g:=V c pb.length
 letI j:=y1.1.2.1
 cond (x==4) (cond (V A pd.length) (L ((),((pd.set h pa,pg,k),()))) P) (cond (x==5) (cond (V A pg.length) (L ((),((pd,pg.set h (pa==d),k),()))) P) (cond (x==6) (cond (V A ph.length) (L ((),((pd,pg,ph.set h (pa==d),pb,()),()))) P) (cond (x==d) (cond (! j) ((Dx pb c [aD z B (- 1:Int) e N]).bind λy2=>L ((),((pd,pg,ph,y2.1.1,()),()))) (L b)) (cond (x==2) (cond j ((Dw pb c (Z R (c+d))).bind λy3=>L ((),((pd,pg,ph,y3.1.1,()),()))) (L b)) (cond (x==3) (cond j (cond g (let z0:Nat:=f
 let z1:=pb.getD z0 a
 L ((),((pd,pg,ph,pb.set z0 (aD z1.D0 z1.I0 A z1.B1 z1.B2),()),()))) P) (L b)) (cond (x==7) (cond j (cond g (let z2:Nat:=f
 let z3:=pb.getD z2 a
 let z4:=pb.set z2 (aD z3.D0 z3.I0 z3.S0 pa z3.B2)
 cond (V c z4.length) (let z5:Nat:=f
 let z6:=z4.getD z5 a
 L ((),((pd,pg,ph,z4.set z5 (aD z6.D0 z6.I0 z6.S0 z6.B1 (A==d)),()),()))) P) P) (L b)) (L b)))))))
def Nn:=
 letI a:=List Bool
 (Cn x z B A H I J D pd pg ph pb).bind λy1=>cond (! y1.1.1) (L (((),(1:Int),()),((([]:List Int),([]:a),([]:a),([]:List Entry),()),()))) ((JL x z B A H I J D C E F pc pm).bind λy2=>cond (! y2.1.1) (L (((),(1:Int),()),((([]:List Int),([]:a),([]:a),([]:List Entry),()),()))) ((Np pd pg ph pb).bind λy3=>(ON C E F pc pm y3.2.1.1 y3.2.1.2.1 y3.2.1.2.2.1 y3.2.1.2.2.2.1).bind λy4=>L (((),(0:Int),()),(y4.2.1,()))))
def MC:=
 Q ((Cn x z B A H I J D pd pg ph pb).bind λy1=>cond y1.1.1 (L ((O (Z R (Z R (18*R.wrap (Z R ((D.length:Int)+(pb.length:Int))+1))+6)≤B),()),())) (L ((N,()),()))) λy2=>L ((y2.1.1,()),())
def Pl:=
 letI a:=IntKind.bits aA
 cond (O (pc<8)) (let z0:Int:=aA.wrap (C*((2:Int)^p (aC (1:Int)) a))
 let z1:Int:=aA.wrap (aB C ((2:Int)^p (aC (7:Int)) a)*7)
 L (i ((pf,aA.wrap (Y z0 z1 (X a z0^^^X a z1).toNat),E,F,R.wrap (pc+1),()),()))) (L (t ((pf,C,E,F,()),())))
def Pb:=lp Pl
def JR:=
 letI a:=IntKind.bits aA
 cond (O (F<E)) (cond (V F pf.size) (let z0:Int:=AF pf F.toNat
 (Pb ((pf,aA.wrap (Y C z0 (X a C^^^X a z0).toNat),E,F,(0:Int),()),())).bind λy1=>L (i ((y1.1.1,y1.1.2.1,y1.1.2.2.1,R.wrap (y1.1.2.2.2.1+1),()),()))) P) (L (t ((C,()),())))
def Pa:=lp JR
def Se:=
 (Pa ((pf,(0:Int),(pf.size:Int),(0:Int),()),())).bind λy1=>L ((y1.1.1,()),())
def IQ:=
 (JL x z B A H I J D C E F pc pm).bind λy1=>cond (! y1.1.1) (L ((U (S []),(1:Int),()),())) (let z0:ByteArray:=Hg [aA.wrap C,aA.wrap E,aA.wrap F,aA.wrap (Z R (pc+2)),aA.wrap pm]
 (Se z0).bind λy2=>let z1:ByteArray:=Hg [y2.1.1]
 cond ((z0.size+z1.size).ble 4611686018427387904) (L ((z0++z1,(0:Int),()),())) P)
def LG:=
 cond (C==1) (L ((pn,()),())) (L ((pf,()),()))
def Iv:=
 letI a:=(((2:Int),()),())
 (Fw x pf pn C).bind λy1=>cond (! y1.1.1) (L (((1:Int),()),())) (Q (cond (E !=0) (L ((F,E !=1,()),())) (L ((F,N,()),()))) λy2=>cond y2.1.2.1 (L a) (cond (O (y2.1.1<0)) (L a) (L (((0:Int),()),()))))
def Iu:=
 letI a:=(0:Int)
 letI e:=si.size
 letI b:=((e:Nat):Int)
 letI c:=E.toNat
 letI d:=V E 2
 (Iv x pf pn C E q4).bind λy1=>cond (y1.1.1 !=a) (L (((),a,y1.1.1,()),((U (S []),U (S []),a,()),()))) (cond d (cond (O (Z R (x-(((aE [pf,pn] c (U (S []))).size:Nat):Int))<b)) (L (((),a,(7:Int),()),((U (S []),U (S []),a,()),()))) (cond (O (q4<b)) (cond d (let z0:ByteArray:=aE [pf,pn] c (U (S []))
 cond (O (a≤q4)&&decide (q4≤((e:Nat):Int))) (let z1:ByteArray:=ByteArray.extract si 0 q4.toNat
 cond ((z0.size+z1.size).ble 4611686018427387904) (let z2:ByteArray:=z0++z1
 cond d (let z3:Nat:=c
 L (((),a,(8:Int),()),((cond (z3.beq 0) z2 pf,cond (z3.beq 1) z2 pn,C,()),()))) P) P) P) P) (cond d (let z4:ByteArray:=aE [pf,pn] c (U (S []))
 cond ((z4.size+e).ble 4611686018427387904) (let z5:ByteArray:=z4++si
 cond d (let z6:Nat:=c
 L (((),R.wrap (q4-b),a,()),((cond (z6.beq 0) z5 pf,cond (z6.beq 1) z5 pn,C,()),()))) P) P) P))) P)
def HR:=
 let z0:List (Record):=[Record.mk x 0 0 sa z]
 cond ((qp.length+z0.length).ble 2147483648) (L ((),((qp++z0,()),(sa,()),()))) P
def JG:=
 cond po (L (((1:Int),()),())) (L (((0:Int),()),()))
def HS:=
 let z0:List (Record):=[Record.mk x sa sb z B]
 cond ((qp.length+z0.length).ble 2147483648) (L ((),((qp++z0,()),(sa,sb,s4,s5,s3,()),()))) P
def Gu:=
 letI a:=(0:Int)
 cond (O (E<C)) (cond (V E pb.length) (let z0:=pb.getD E.toNat (aD a a a a N)
 (HS 1 a a qp z0.D0 z0.I0 z0.S0 z0.B1 z0.B2).bind λy1=>letI c:=y1.2.2.1.2
 letI e:=c.2
 (HS 3 e.1 a y1.2.1.1 y1.2.2.1.1 c.1 e.1 e.2.1 e.2.2.1).bind λy2=>letI b:=y2.2.2.1.2
 letI d:=b.2
 letI f:=d.2
 (JG f.2.1).bind λy3=>(HS 7 y3.1.1 f.1 y2.2.1.1 y2.2.2.1.1 b.1 d.1 f.1 f.2.1).bind λy4=>L (i (((),pb,C,R.wrap (E+1),()),((y4.2.1.1,()),())))) P) (L (t (((),()),((qp,()),()))))
def Kx:=lp Gu
def Gt:=
 cond (O (z<x)) (cond (V z pd.length) ((HR 4 (pd.getD z.toNat 0) qp z).bind λy1=>letI a:=y1.2.2.1.1
 cond (V a pg.length) ((JG (pg.getD a.toNat N)).bind λy2=>(HR 5 y2.1.1 y1.2.1.1 a).bind λy3=>letI b:=y3.2.2.1.1
 cond (V b ph.length) ((JG (ph.getD b.toNat N)).bind λy4=>(HR 6 y4.1.1 y3.2.1.1 b).bind λy5=>L (i (((),(),x,R.wrap (z+1),()),((pd,pg,ph,pb,()),(y5.2.1.1,()),())))) P) P) P) (L (t (((),(),()),((pd,pg,ph,pb,()),(qp,()),()))))
def Kw:=lp Gt
def MD:=
 (Cn x z B A H I J D pd pg ph pb).bind λy1=>cond (! y1.1.1) (L ((([]:List Record),()),())) ((Kw (((),(),(pd.length:Int),(0:Int),()),((pd,pg,ph,pb,()),(([]:List Record),()),()))).bind λy2=>(Kx (((),y2.2.1.2.2.2.1,(y2.2.1.2.2.2.1.length:Int),(0:Int),()),((y2.2.2.1.1,()),()))).bind λy3=>L ((y3.2.1.1,()),()))
def DO:=
 wsF (λb=>(b.toNat:Int)) pf qg
def OY:=
 cond (V E 2) (let z0:Nat:=E.toNat
 L ((),((cond (z0.beq 0) (U (S [])) pf,cond (z0.beq 1) (U (S [])) pn,C,()),(E,()),()))) P
def Hn:=
 letI a:=(0:Int)
 (Iv x pf pn C E F).bind λy1=>cond (y1.1.1 !=a) (L (((),a,y1.1.1,()),((U (S []),U (S []),a,()),(pc,()),()))) (cond (F==a) (L (((),a,(8:Int),()),((pf,pn,C,()),(pc,()),()))) ((OY pf pn C pc).bind λy2=>L (((),R.wrap (F-1),a,()),(y2.2.1,(y2.2.2.1.1,()),()))))
def NG:=
 (Hn x pf pn C E F E).bind λy1=>L (((),y1.1.2.1,y1.1.2.2.1,()),(y1.2.1,()))
def Fx:=
 cond (Auw pd&&pd.all (λn=>decide (0≤n)&&decide (n<256))) (L ((Hg pd,()),(((),pd,()),()))) P
def Oc(p2:Int)(b1:Int):=
 L ((),((pf,pn,b1,()),(b1,()),()))
def GN:=
 letI a:=(0:Int)
 (Iv x pf pn C E F).bind λy1=>cond (y1.1.1 !=a) (L (((),a,y1.1.1,()),((U (S []),U (S []),a,()),(pc,()),()))) (cond (F==a) (L (((),a,(8:Int),()),((pf,pn,C,()),(pc,()),()))) ((Oc pf pn C pc).bind λy2=>L (((),R.wrap (F-1),a,()),(y2.2.1,(y2.2.2.1.1,()),()))))
def MK:=
 (GN x pf pn C E F E).bind λy1=>L (((),y1.1.2.1,y1.1.2.2.1,()),(y1.2.1,()))
def GW:=
 letI a:=(0:Int)
 letI b:=(s4,s5,tu,tv,sc,tw,tx,ty,())
 cond (O (sb<sa)) (cond (V sb qp.length) (let z0:=qp.getD sb.toNat (Record.mk a a a a a)
 (IQ s4 s5 tu tv sc tw tx ty z0.R0 z0.D0 z0.I0 z0.S0 z0.G2).bind λy1=>(DO y1.1.1 t8).bind λy2=>L (i ((x,(),(),(),(),qp,sa,R.wrap (sb+1),()),(b,(si,tz,q4,()),(t0,t4,t7,()),((),y2.2.1.2.1,()),())))) P) (L (t ((x,(),(),(),(),()),(b,(si,tz,q4,()),(t0,t4,t7,()),((),t8,()),()))))
def LJ:=lp GW
def Nx:=
 letI a:=(0:Int)
 letI b:=((),a,(1:Int),())
 letI e:=(a,())
 (Fw B pf pn C).bind λy1=>cond (! y1.1.1) (L (b,((U (S []),U (S []),e),()))) (cond (O (sj<a)) (L (b,((U (S []),U (S []),e),()))) ((Cn x z B A H I J D qg qi qm r4).bind λy2=>cond (! y2.1.1) (L (b,((U (S []),U (S []),e),()))) ((MD x z B A H I J D qg qi qm r4).bind λy3=>(LJ ((sj,(),(),(),(),y3.1.1,(y3.1.1.length:Int),e),((x,z,B,A,H,I,J,D,()),(pf,pn,C,()),(U (S []),U (S []),e),((),([]:List Int),()),()))).bind λy4=>letI c:=y4.2
 letI d:=c.2
 letI h:=d.1
 letI j:=c.1
 let z0:Int:=R.wrap (1-h.2.2.1)
 (NG j.2.2.1 h.1 h.2.1 h.2.2.1 z0 y4.1.1).bind λy5=>Q (cond (y5.1.2.2.1==a) ((Fx d.2.2.1.2.1).bind λy6=>(Iu j.2.2.1 y5.2.1.1 y5.2.1.2.1 y5.2.1.2.2.1 z0 y6.1.1 y5.1.2.1).bind λy7=>L ((y7.1.2.1,(),(),(),z0,y7.1.2.2.1,()),(j,y7.2.1,d.2.1,()))) (L ((y5.1.2.1,(),(),(),z0,y5.1.2.2.1,()),(j,y5.2.1,d.2.1,())))) λy8=>letI f:=y8.1.2.2.2.2
 letI g:=y8.2.2.1
 cond (f.2.1==a) ((MK y8.2.1.2.2.1 g.1 g.2.1 g.2.2.1 f.1 y8.1.1).bind λy9=>L (((),y9.1.2.1,y9.1.2.2.1,()),(y9.2.1,()))) (L (((),y8.1.1,f.2.1,()),(g,()))))))
def OM:=
 letI a:=List Bool
 letI e:=(0:Int)
 letI h:=List Entry
 letI j:=List Int
 letI m:=(x,z,B,A,H,I,J,D,())
 letI o:=(e,())
 letI q:=((),(),e,(1:Int),())
 letI r:=(sj,s6,ta,t9,ua,())
 letI u:=(qg,qi,qm,r4,())
 letI w:=(tb,(),(),(),(),(),(),(),N,())
 letI ab:=(pf,pn,C,())
 (Nn x z B A H I J D qg qi qm r4 sj s6 ta t9 ua).bind λy1=>letI al:=(y1.2.1,())
 cond (y1.1.2.1 !=e) (L (q,((U (S []),U (S []),o),(([]:j),([]:a),([]:a),([]:h),()),()))) ((Fw B pf pn C).bind λy2=>cond (! y2.1.1) (L (q,((U (S []),U (S []),o),(([]:j),([]:a),([]:a),([]:h),()),()))) (cond (O (tb<e)) (L (q,((U (S []),U (S []),o),(([]:j),([]:a),([]:a),([]:h),()),()))) ((OO qg qi qm r4 s6 ta).bind λy3=>Q (cond (sj==1) (cond (! y3.1.2.1) ((MC x z B A H I J D qg qi qm r4).bind λy4=>L ((tb,(),(),(),(),(),(),(),! y4.1.1,()),(m,ab,u,r,(U (S []),U (S []),o),(([]:j),([]:a),([]:a),([]:h),()),al))) (L (w,(m,ab,u,r,(U (S []),U (S []),o),(([]:j),([]:a),([]:a),([]:h),()),al)))) (L (w,(m,ab,u,r,(U (S []),U (S []),o),(([]:j),([]:a),([]:a),([]:h),()),al)))) λy5=>letI b:=y5.2
 letI c:=b.2
 letI ad:=b.1
 letI d:=ad.2.2
 letI f:=c.2.2
 letI k:=f.2.2.2.1
 letI l:=d.2.2
 letI n:=c.1
 letI s:=(c.2.1,f.2.1,f.2.2.1,k,())
 letI v:=n.2
 letI aa:=l.2
 letI ae:=f.1
 letI af:=v.2.1
 letI aj:=aa.2
 letI ak:=ae.2
 letI an:=d.1
 cond y5.1.2.2.2.2.2.2.2.2.1 (L (((),(),e,(7:Int),()),((U (S []),U (S []),o),(([]:j),([]:a),([]:a),([]:h),()),()))) ((IQ ad.1 ad.2.1 an d.2.1 l.1 aa.1 aj.1 aj.2.1 ae.1 ak.1 ak.2.1 ak.2.2.1 ak.2.2.2.1).bind λy6=>Q ((LG n.1 v.1 af).bind λy7=>cond (O ((y6.1.1.size:Int)≤R.wrap (an-(y7.1.1.size:Int)))) ((Iu an n.1 v.1 af af y6.1.1 y5.1.1).bind λy8=>L ((y8.1.2.1,(),(),(),(),(),y8.1.2.2.1,()),(y8.2.1,s))) ((Nx ad.1 ad.2.1 an d.2.1 l.1 aa.1 aj.1 aj.2.1 n.1 v.1 af k.1 k.2.1 k.2.2.1 k.2.2.2.1 y5.1.1).bind λy9=>L ((y9.1.2.1,(),(),(),(),(),y9.1.2.2.1,()),(y9.2.1,s)))) λy10=>letI g:=y10.1.2.2.2.2.2.2.1
 letI ag:=y10.2
 letI ah:=ag.2
 letI ai:=ah.1
 letI am:=(g,())
 letI ao:=((),(),e,am)
 cond (g==e) (L (((),(),y10.1.1,am),(ag.1,ah.2.2.2.1,()))) (cond (g==8) ((Np ai.1 ai.2.1 ai.2.2.1 ai.2.2.2.1).bind λy11=>L (ao,(ag.1,y11.2.1,()))) (L (ao,((U (S []),U (S []),o),(([]:j),([]:a),([]:a),([]:h),()),()))))))))
end
end Go.Ovl
