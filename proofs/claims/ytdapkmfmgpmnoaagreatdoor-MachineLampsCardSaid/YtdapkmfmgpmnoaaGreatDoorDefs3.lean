/- What each function of the program comes to: part 3. -/
import Derived.Test.YtdapkmfmgpmnoaaGreatDoorDefs2
set_option linter.all false
open Option renaming some->L,none->O,bind->R
open Bool renaming false->N,true->W
open Decidable renaming decide->P
open Go.Ab renaming inB->Q
open Sum renaming inl->S,inr->V
open Go.IntKind renaming i64->U,u32->Y,wrap->t
open Go.Ovl renaming Record->X,Entry->i,Calls->p
open Go.Ovl.Record renaming mk->Z
open Go.Ovl.View renaming mk->y
open BitVec renaming ofInt->aA
open Go.Ovl.CarOutput renaming mk->aB
open Go.Ovl.Entry renaming mk->aC
open Go.Ovl.Belief renaming mk->aD
open List renaming replicate->aE
namespace Go.Ovl
open Go Go.Ab
set_option maxRecDepth 100000
set_option synthInstance.maxSize 9999
set_option synthInstance.maxHeartbeats 999999
noncomputable section
variable(qc:List X)(A B:Int)(sk:List X)(I:List Int)(qz q0:List Bool)(pi:List i)(sl:List Int)(q6:List p)(ri:List Bool)(z x pw px qo qx rj rl:Int)(E F H:Nat)(D:List Car)(J:List Int)(pa pb:List Bool)(pc:List i)(qg qh:ByteArray)(pd:Int)(qi:List Debounced)(qj:List Belief)(py:List NewCar)(qk:List Loaded)(pr:List Int)(qd:List p)(pg pj pm ph pt pz qa:Int)(qq:List CarInput)(pn:Bool)(pp pu:Int)(pv:List Bool)(qs:List p)(qt:List Bool)(qe qb ql qm:Int)(qn qv:Bool)(qw:Int)(qu:List CarOutput)(te tf tg:Nat)(th:List Car)(ti:List Int)(tj tk:List Bool)(tm:List i)(tp tq:ByteArray)(tr:Int)(ts:List Debounced)(sv:List Belief)(sw:List NewCar)(tt:List Loaded)(tu:List Int)(tv:List p)(tw tx ty tz t0 t4 t7:Int)(t8:List CarInput)(rc:Bool)(sg ro:Int)(t9:List Bool)(ua:List p)(sx:List Bool)(ub uc ud ue:Int)(uf uz:Bool)(sy:Int)(u0:List CarOutput)(q7:List X)(q5:List Int)(r4 r5:List Bool)(r6:List i)(sm:List Int)(sn:List p)(so:List Bool)(q8 qy rm sq r7 r8 r9 sa:Int)(sb sc sd:Nat)(se:List Car)(pf:List View)(s4:List X)(sf:List Int)(sr:List i)(qf po qp q2 rv rw:Int)(ry rz r0:Nat)(r1:List Car)(un uo up uq:Int)(ur us ut:Nat)(uu:List Car)(rb:List View)(sj:List p)(tb:List Bool)(rg q3:Int)(sz:List p)(rf:List Bool)(r2 r3 uh ui:Int)(uj uk ul:Nat)(um:List Car)(s1 s2:Int)(s3:Bool)(pq:List Duty)(qr q1 ra rp rq rr:Int)(u6 u7 u8:Nat)(s5:List Car)(uw ux:Int)(q4:Bool)(ss st:Int)(uy:Bool)(u1:List Int)(u2 u3:List Bool)(td:List i)(s0 ug:Int)(uv:List Duty)(u4:Int)(u5:Bool)(C:machine_ticker)(rd:List Bool)(su:List Int)(ta rn:Int)(ru:List View)(si q9:Int)
def Fh:=
 letI b:=(pv,qs,qt,qe,qb,ql,qm,qn,qv,qw,qu,())
 letI a:=((),((z,x,pw,px,E,F,H,D,J,pa,pb,pc,qg,qh,pd,qi,qj,py,qk,pr,qd,pg,pj,pm,ph,pt,pz,qa,qq,pn,pp,pu,b),()))
 letI c:=(0:Int)
 cond (P (B<A)) (cond (Q B qc.length) (let z0:=qc.getD B.toNat (Z c c c c c)
 cond (pu !=c) (L (V (V a))) ((OM z x pw px E F H D qg qh pd J pa pb pc z0.R0 z0.D0 z0.I0 z0.S0 z0.G2 pp).bind λy1=>letI d:=y1.2.2.1
 L (S (((),qc,A,U.wrap (B+1),()),((z,x,pw,px,E,F,H,D,d.1,d.2.1,d.2.2.1,d.2.2.2.1,y1.2.1.1,y1.2.1.2.1,y1.2.1.2.2.1,qi,qj,py,qk,pr,qd,pg,pj,pm,ph,pt,pz,qa,qq,pn,y1.1.2.2.1,y1.1.2.2.2.1,b),()))))) O) (L (V (S a)))
def Do:=lp Fh
def AY:=
 (Do (((),qc,(qc.length:Int),(0:Int),()),((A,B,z,x,E,F,H,D,J,pa,pb,pc,qg,qh,pd,qi,qj,py,qk,pr,qd,pg,pj,pm,ph,pt,pz,qa,qq,pn,pp,pu,pv,qs,qt,qe,qb,ql,qm,qn,qv,qw,qu,()),()))).bind λy1=>match y1 with
 | .inl y2=>
 L (V ((),(y2.2.1,())))
 | .inr y2=>
 L (S ((),(y2.2.1,())))
def FA:=
 letI a:=((pw,px,qo,qx,E,F,H,D,J,pa,pb,pc,qg,qh,pd,qi,qj,py,qk,pr,qd,pg,pj,pm,ph,pt,pz,qa,qq,pn,pp,pu,pv,qs,qt,qe,qb,ql,qm,qn,qv,qw,qu,()),())
 letI b:=(0:Int)
 letI d:=((),qc,x,I,z,x,())
 cond (P (x<z)) (cond (Q x I.length) (let z0:Int:=I.getD x.toNat b
 R ((Ft z0).bind λy1=>cond y1.1.1 (R ((Dm x pw px qo qx E F H D J pa pb pc qg qh pd qi qj py qk pr qd pg pj pm ph pt pz qa qq pn pp pu pv qs qt qe qb ql qm qn qv qw qu).bind λy2=>match y2 with
 | .inl y3=>
 L (d,(y3.2.1,()))
 | .inr y3=>
 L (d,(y3.2.1,()))) λy4=>letI j:=y4.2.1.2.2.2.2.2.2.2.2.2.2.2.2.2.2.2.2.1
 letI k:=y4.1.2.2
 cond (Q k.1 j.length) (L (((),y4.1.2.1,k.1,(j.getD k.1.toNat (aD b b b [] b N)).N3,k.2.1,k.2.2.1,k.2.2.2.1,()),(y4.2.1,()))) O) ((EQ z0).bind λy5=>cond y5.1.1 (R ((DK x z0 pw px qo qx E F H D J pa pb pc qg qh pd qi qj py qk pr qd pg pj pm ph pt pz qa qq pn pp pu pv qs qt qe qb ql qm qn qv qw qu).bind λy6=>match y6 with
 | .inl y7=>
 L (d,(y7.2.1,()))
 | .inr y7=>
 L (d,(y7.2.1,()))) λy8=>letI g:=y8.2.1.2.2.2.2.2.2.2.2.2.2.2.2.2.2.2.2.2.1
 letI l:=y8.1.2.2
 cond (Q l.1 g.length) (L (((),y8.1.2.1,l.1,(g.getD l.1.toNat (NewCar.mk b b b b b N b b b b b b b N)).Z2,l.2.1,l.2.2.1,l.2.2.2.1,()),(y8.2.1,()))) O) (L (((),qc,x,N,I,z,x,()),a)))) λy9=>letI e:=y9.1.2.2
 letI h:=e.2.2
 letI n:=y9.2.1.2.2.2.2.2.2.2.2.2.1
 letI q:=e.1
 letI r:=h.2
 R (cond e.2.1 (cond (Q q n.length) (L (((),y9.1.2.1,q,h.1,r.1,r.2.1,! n.getD q.toNat N,()),(y9.2.1,()))) O) (L (((),y9.1.2.1,q,h.1,r.1,r.2.1,N,()),(y9.2.1,())))) λy10=>letI f:=y10.1.2
 letI m:=f.2
 letI o:=m.2
 letI c:=(o.1,o.2.1,U.wrap (o.2.2.1+1),())
 cond o.2.2.2.1 (let z1:List (X):=[Z 5 b b m.1 1]
 cond ((f.1.length+z1.length).ble 2147483648) (L (S (((),f.1++z1,c),(y10.2.1,())))) O) (L (S (((),f.1,c),(y10.2.1,()))))) O) (L (V (((),qc,()),a)))
def CF:=lp FA
def Ee:=
 (CF (((),([]:List X),J,(J.length:Int),(0:Int),()),((A,B,z,x,E,F,H,D,J,pa,pb,pc,qg,qh,pd,qi,qj,py,qk,pr,qd,pg,pj,pm,ph,pt,pz,qa,qq,pn,pp,pu,pv,qs,qt,qe,qb,ql,qm,qn,qv,qw,qu,()),()))).bind λy1=>letI g:=y1.2.1.2.2.2
 letI k:=g.2.2
 letI q:=k.2
 letI c:=q.2.2.2
 letI r:=c.2
 letI e:=r.2.2.2
 letI h:=e.2.2
 letI m:=h.2
 letI s:=m.2
 letI a:=s.2.2.2
 letI u:=a.2
 letI f:=u.2.2.2
 letI l:=f.2.2
 letI v:=l.2
 letI b:=v.2.2.2
 letI n:=b.2
 letI w:=n.2
 letI d:=w.2.2.2
 letI j:=d.2.2
 letI o:=j.2
 letI aa:=o.2
 R ((AY y1.1.2.1 y1.2.1.1 y1.2.1.2.1 y1.2.1.2.2.1 g.1 g.2.1 k.1 q.1 q.2.1 q.2.2.1 c.1 r.1 r.2.1 r.2.2.1 e.1 e.2.1 h.1 m.1 s.1 s.2.1 s.2.2.1 a.1 u.1 u.2.1 u.2.2.1 f.1 f.2.1 l.1 v.1 v.2.1 v.2.2.1 b.1 n.1 w.1 w.2.1 w.2.2.1 d.1 d.2.1 j.1 o.1 aa.1 aa.2.1 aa.2.2.1 aa.2.2.2.1).bind λy2=>match y2 with
 | .inl y3=>
 L ((),(y3.2.1,()))
 | .inr y3=>
 L ((),(y3.2.1,()))) λy4=>L ((),(y4.2.1,()))
def Mu:=
 letI a:=(0:Int)
 letI b:=((N,()),())
 R ((Co A B z x E F H D pd pg pj pm pq qr q4).bind λy1=>cond y1.1.1 (cond ((pq.length:Int)==a) (cond (pm==2) (cond (Q pd D.length) (L ((P ((D.getD pd.toNat (Car.mk a a a a a a a a a)).J3≤qr),()),())) O) (L b)) (L b)) (L b)) λy2=>L ((y2.1.1,()),())
def JH(p22:Int)(p23:Bool)(p24:Int)(p25:Bool):=
 letI a:=((N,()),())
 letI b:=(0:Int)
 R ((DU A B z x E F H D pd pg pj pm ph pn pp pu qe qb ql qm qw rc).bind λy1=>cond y1.1.1 (cond (! rc) (cond ((pj==b)&&((pm==b)&&((ph==b)&&((pn==N)&&((pp==b)&&W))))) (cond ((pu==b)&&((qe==b)&&((qb==b)&&W))) (cond (ql==b) (cond p23 (L ((p24==2,()),())) (L a)) (L a)) (L a)) (L a)) (L a)) (L a)) λy2=>L ((y2.1.1,()),())
def Fz:=
 letI a:=(0:Int)
 letI b:=rn.toNat
 letI h:=Q rn
 letI c:=h rd.length
 letI d:=C.m_Cars.getD b (NewCar.mk a a a a a N a a a a a a a N)
 letI e:=JH C.b_Floors C.b_Debounce C.b_Room C.b_Park C.b_Empty C.b_Full C.b_Over C.b_Cars
 letI f:=C.x_Cars.getD b (CarInput.mk a N N N N a N a N a 0)
 letI g:=(su,ta,rn,())
 letI j:=((C,rd.set b N,g),())
 letI k:=h C.m_Cars.length
 letI m:=h C.x_Cars.length
 cond (P (rn<ta)) (cond (h su.length) (let z0:=su.getD b a
 R ((Ft z0).bind λy1=>cond y1.1.1 (cond (h C.m_Beliefs.length) (let z1:Belief:=C.m_Beliefs.getD b (aD a a a [] a N)
 (Mu C.b_Floors C.b_Debounce C.b_Room C.b_Park C.b_Empty C.b_Full C.b_Over C.b_Cars rn z1.D0 z1.I0 z1.E3 z1.U0 z1.V2 z1.N3).bind λy2=>cond y2.1.1 (cond c (L ((C,rd.set b W,g),())) O) ((EQ z0).bind λy3=>cond y3.1.1 (cond k (let z2:NewCar:=d
 cond m (let z3:CarInput:=f
 (e z2.V1 z2.E1 z2.Y0 z2.N1 z2.H1 z2.K1 z2.D1 z2.T0 z2.X0 z2.Q0 z2.Y1 z2.X2 z2.I3 z2.Z2 z3.J1 z3.L1 z3.R1 z3.M1).bind λy4=>cond c (L ((C,rd.set b y4.1.1,g),())) O) O) O) (cond c (L j) O))) O) ((EQ z0).bind λy5=>cond y5.1.1 (cond k (let z4:NewCar:=d
 cond m (let z5:CarInput:=f
 (e z4.V1 z4.E1 z4.Y0 z4.N1 z4.H1 z4.K1 z4.D1 z4.T0 z4.X0 z4.Q0 z4.Y1 z4.X2 z4.I3 z4.Z2 z5.J1 z5.L1 z5.R1 z5.M1).bind λy6=>cond c (L ((C,rd.set b y6.1.1,g),())) O) O) O) (cond c (L j) O))) λy7=>L (S ((y7.1.1,y7.1.2.1,y7.1.2.2.1,y7.1.2.2.2.1,U.wrap (y7.1.2.2.2.2.1+1),()),()))) O) (L (V ((rd,()),())))
def DF:=lp Fz
def CP:=
 let z0:Int:=(C.b_Cars.length:Int)
 cond ((P (0≤z0)&&decide (z0≤z0))&&decide (z0≤2147483648)) ((DF ((C,aE z0.toNat N,C.m_Image_Phases,(C.m_Image_Phases.length:Int),(0:Int),()),())).bind λy1=>L ((y1.1.1,()),())) O
def Bs(p1:List Bool)(p2:List Bool)(p3:List i)(p4:Int)(p5:Bool)(p6:Int):=
 cond (Q p4 I.length) (L ((I.getD p4.toNat 0==p6,()),())) O
def Qc:=
 letI a:=((N,()),())
 cond (P (x<z)) (cond (Q x I.length) (let z0:Int:=I.getD x.toNat 0
 cond (z0==1) (L (V (V a))) (cond (z0==2) (L (V (V a))) (cond (z0==3) (L (V (V a))) (cond (Q x pb.length) (cond (pb.getD x.toNat N) (L (V (V a))) (L (S (((),I,z,U.wrap (x+1),()),((J,pa,pb,pc,()),()))))) O)))) O) (L (V (S ((),()))))
def MM:=lp Qc
def GM:=
 (MM (((),I,(I.length:Int),(0:Int),()),((I,qz,q0,pi,()),()))).bind λy1=>match y1 with
 | .inl y2=>
 L ((W,()),())
 | .inr y2=>
 L ((y2.1.1,()),())
def DV(p0:List Int)(p1 p2:List Bool)(p3:List i)(p4:Int)(p5:Bool)(p6:Int):Option ((List X×Unit)×Unit):=
 L (([Z 4 0 0 p4 p6],()),())
def Dv:=
 cond (! pn) (L ((([]:List X),pp,()),())) (L ((q7,(0:Int),()),()))
def Ih:=
 letI a:=(0:Int)
 letI f:=(N,())
 letI w:=((I,qz,q0,pi,z,pn,()),(I,qz,q0,pi,()),())
 letI al:=(2:Int)
 letI ar:=(a,())
 letI au:=(1:Int)
 letI av:=(3:Int)
 letI ax:=(4:Int)
 letI ay:=Z 6 a a
 cond (Q z q0.length) (let z0:=q0.getD z.toNat N
 R (cond (pp==au) ((Bs I qz q0 pi z pn a).bind λy1=>L ((pp,(),(),z0,y1.1.1,()),w)) (L ((pp,(),(),z0,f),w))) λy2=>letI j:=y2.2.1
 letI n:=j.2.2
 letI ah:=y2.2.2.1
 letI ao:=n.2
 letI bd:=ao.2
 letI bq:=y2.1.2.2.2
 cond bq.2.1 ((GM ah.1 ah.2.1 ah.2.2.1 ah.2.2.2.1).bind λy3=>(DV j.1 j.2.1 n.1 ao.1 bd.1 bd.2.1 au).bind λy4=>(Dv y3.1.1 261 y4.1.1).bind λy5=>L ((y5.1.1,y5.1.2.1,()),())) (R (cond (y2.1.1==al) ((Bs j.1 j.2.1 n.1 ao.1 bd.1 bd.2.1 au).bind λy6=>L ((y2.1.1,(),(),bq.1,y6.1.1,()),(j,ah,()))) (L ((y2.1.1,(),(),bq.1,f),(j,ah,())))) λy7=>letI k:=y7.2.1
 letI o:=k.2.2
 letI ap:=o.2
 letI be:=ap.2
 letI br:=y7.1.2.2.2
 letI bs:=(k,y7.2.2.1,())
 cond br.2.1 ((DV k.1 k.2.1 o.1 ap.1 be.1 be.2.1 a).bind λy8=>L ((y8.1.1,ar),())) (R (cond (y7.1.1==av) ((Bs k.1 k.2.1 o.1 ap.1 be.1 be.2.1 al).bind λy9=>L ((y7.1.1,(),(),br.1,y9.1.1,()),bs)) (L ((y7.1.1,(),(),br.1,f),bs))) λy10=>letI c:=y10.2.1
 letI l:=c.2
 letI bf:=(c,y10.2.2.1,())
 letI aq:=y10.1.2.2.2
 letI q:=((y10.1.1,(),(),aq.1,f),bf)
 letI r:=l.2
 letI ai:=r.2
 letI aw:=ai.2
 cond aq.2.1 ((DV c.1 l.1 r.1 ai.1 aw.1 aw.2.1 a).bind λy11=>L ((y11.1.1,ar),())) (R (cond (y10.1.1==al) ((Bs c.1 l.1 r.1 ai.1 aw.1 aw.2.1 ax).bind λy12=>cond y12.1.1 (L ((y10.1.1,(),(),aq.1,aq.1,()),bf)) (L q)) (L q)) λy13=>letI v:=y13.2.1
 letI af:=v.2.2
 letI az:=af.2
 letI bg:=y13.1
 letI bh:=bg.2.2.2
 letI bi:=(v,y13.2.2.1,())
 cond bh.2.1 (L (([ay az.2.1 a],ar),())) (R (cond (bg.1==ax) ((Bs v.1 v.2.1 af.1 az.1 az.2.1 az.2.2.1 al).bind λy14=>L ((bg.1,(),(),bh.1,y14.1.1,()),bi)) (L ((bg.1,(),(),bh.1,f),bi))) λy15=>letI g:=y15.2.1
 letI m:=g.2
 letI s:=m.2
 letI aj:=s.2
 letI ba:=aj.2
 letI bj:=y15.1
 letI bk:=bj.2.2.2
 letI bl:=(g,y15.2.2.1,())
 cond bk.2.1 ((DV g.1 m.1 s.1 aj.1 ba.1 ba.2.1 av).bind λy16=>L ((y16.1.1,ar),())) (R (cond (bj.1==5) ((Bs g.1 m.1 s.1 aj.1 ba.1 ba.2.1 av).bind λy17=>L ((bj.1,(),(),bk.1,y17.1.1,()),bl)) (L ((bj.1,(),(),bk.1,f),bl))) λy18=>letI d:=y18.2.1
 letI h:=d.2.2
 letI aa:=h.2
 letI am:=aa.2
 letI bm:=y18.1
 letI bn:=bm.2.2.2
 letI bo:=am.2.1
 letI bp:=(d,y18.2.2.1,())
 cond bn.2.1 ((DV d.1 d.2.1 h.1 aa.1 am.1 bo al).bind λy19=>(Dv bo 262 y19.1.1).bind λy20=>L ((y20.1.1,y20.1.2.1,()),())) (R (cond (bm.1==6) ((Bs d.1 d.2.1 h.1 aa.1 am.1 bo av).bind λy21=>L ((bm.1,(),(),bn.1,y21.1.1,()),bp)) (L ((bm.1,(),(),bn.1,f),bp))) λy22=>letI b:=y22.2.1
 letI e:=b.2.2
 letI u:=e.2
 letI bc:=y22.2.2.1
 letI bt:=(b,bc,())
 letI ab:=((y22.1.1,(),(),f),bt)
 letI ak:=u.2
 letI bb:=ak.1
 cond y22.1.2.2.2.2.1 (cond (Q bb bc.2.1.length) ((DV b.1 b.2.1 e.1 u.1 bb ak.2.1 ax).bind λy23=>(Dv (! bc.2.1.getD bb.toNat N) 262 y23.1.1).bind λy24=>L ((y24.1.1,y24.1.2.1,()),())) O) (R (cond (y22.1.1==7) ((Bs b.1 b.2.1 e.1 u.1 bb ak.2.1 ax).bind λy25=>cond y25.1.1 (L ((y22.1.1,(),(),! y22.1.2.2.2.1,()),bt)) (L ab)) (L ab)) λy26=>letI ad:=y26.2
 letI ae:=ad.2.1
 letI ag:=ad.1.2.2.2.2.1
 letI an:=ae.2
 cond y26.1.2.2.2.1 ((GM ae.1 an.1 an.2.1 an.2.2.1).bind λy27=>(Dv y27.1.1 261 [ay ag au]).bind λy28=>L ((y28.1.1,y28.1.2.1,()),())) (R (cond (y26.1.1==8) (cond (Q ag an.1.length) (L (((),an.1.getD ag.toNat N,()),(ad.1,()))) O) (L (((),f),(ad.1,())))) λy29=>cond y29.1.2.1 (L (([Z 5 a a y29.2.1.2.2.2.2.1 a],ar),())) (L ((([]:List X),(260:Int),()),()))))))))))) O
def KW:=
 letI a:=List X
 letI b:=(D.length:Int)
 letI c:=(0:Int)
 (Cn A B z x E F H D J pa pb pc).bind λy1=>cond (! y1.1.1) (L ((([]:a),(1:Int),()),())) (cond ((pv.length:Int) !=b) (L ((([]:a),(1:Int),()),())) (cond (P (pd<c)) (L ((([]:a),(6:Int),()),())) (cond (P (8<pd)) (L ((([]:a),(6:Int),()),())) (cond (P (pg<c)) (L ((([]:a),(2:Int),()),())) (cond (P (b≤pg)) (L ((([]:a),(2:Int),()),())) (cond (pd==c) (L ((([]:a),c,()),())) (cond (Q pg pv.length) ((Ih J pa pb pc pg (pv.getD pg.toNat N) pd).bind λy2=>L ((y2.1.1,y2.1.2.1,()),())) O)))))))
def Mb:=
 letI a:=(0:Int)
 cond (P (x<z)) (cond (Q x pi.length) (cond ((pi.getD x.toNat (aC a a a a N)).S0==A) (L (V (V ((W,()),())))) (L (S ((A,pi,z,U.wrap (x+1),()),())))) O) (L (V (S ((),()))))
def IX:=lp Mb
def ER(p0:List Int)(p1 p2:List Bool)(p3:List i)(car:Int):Option ((Bool×Unit)×Unit):=
 (IX ((car,p3,(p3.length:Int),(0:Int),()),())).bind λy1=>match y1 with
 | .inl y2=>
 L ((N,()),())
 | .inr y2=>
 L ((y2.1.1,()),())
def Qb:=
 letI g:=(0:Int)
 letI ab:=((sf,tb,rf,td,()),())
 cond (P (qy<q8)) (cond (Q qy q5.length) (let z0:=q5.getD qy.toNat g
 R (cond (z0==4) (cond (Q qy rf.length) (L ((qz,(),q7,qy,z0,rf.getD qy.toNat N,q5,q8,qy,()),ab)) O) (L ((qz,(),q7,qy,z0,N,q5,q8,qy,()),ab))) λy1=>letI s:=y1.1
 letI v:=s.2.2
 letI a:=v.2
 letI b:=a.2.2
 letI q:=y1.2.1
 letI af:=(q,())
 letI n:=a.1
 letI u:=s.1
 letI ae:=b.1
 letI k:=b.2
 letI o:=k.2
 letI d:=((u,(),v.1,n,ae,k.1,o.1,o.2.1,W,()),af)
 letI h:=ER q.1 q.2.1 q.2.2.1 q.2.2.2.1 n
 R (cond (Q n u.length) (cond (! u.getD n.toNat N) (L d) (cond (a.2.1 !=1) (cond (! ae) (L d) (h.bind λy2=>L ((u,(),v.1,n,ae,k.1,o.1,o.2.1,y2.1.1,()),af))) (h.bind λy3=>L ((u,(),v.1,n,ae,k.1,o.1,o.2.1,y3.1.1,()),af)))) O) λy4=>letI aa:=y4.1.2.2
 letI c:=aa.2
 letI f:=c.2.2
 letI w:=f.2
 letI m:=(c.1,f.1,w.1,w.2.1,())
 letI ad:=(y4.2.1,())
 cond w.2.2.1 (L (S ((y4.1.1,(),aa.1,f.1,w.1,U.wrap (w.2.1+1),()),ad))) (let z1:List (X):=[Z 4 g g c.1 2]
 cond ((aa.1.length+z1.length).ble 2147483648) (let z2:List (X):=aa.1++z1
 R (cond c.2.1 (let z3:List (X):=[Z 6 g g c.1 g]
 cond ((z2.length+z3.length).ble 2147483648) (L ((y4.1.1,(),z2++z3,m),ad)) O) (L ((y4.1.1,(),z2,m),ad))) λy5=>letI j:=y5.1.2.2
 letI r:=j.2
 letI e:=(r.2.1,r.2.2.1,U.wrap (r.2.2.2.1+1),())
 cond (Q r.1 y5.2.1.2.1.length) (cond (y5.2.1.2.1.getD r.1.toNat N) (let z4:List (X):=[Z 5 g g r.1 g]
 cond ((j.1.length+z4.length).ble 2147483648) (L (S ((y5.1.1,(),j.1++z4,e),(y5.2.1,())))) O) (L (S ((y5.1.1,(),j.1,e),(y5.2.1,()))))) O) O)) O) (L (V ((q7,()),())))
def JO:=lp Qb
def LY:=
 letI a:=List X
 (Cn A B z x E F H D J pa pb pc).bind λy1=>cond (! y1.1.1) (L ((([]:a),()),())) (cond ((pv.length:Int) !=(D.length:Int)) (L ((([]:a),()),())) ((JO ((pv,(),([]:a),J,(J.length:Int),(0:Int),()),((J,pa,pb,pc,()),()))).bind λy2=>L ((y2.1.1,()),())))
def LE:=
 letI a:=((B==4,()),())
 letI b:=A==3
 letI c:=((W,()),())
 letI d:=((N,()),())
 R (cond (A==B) (L c) (cond (A==1) (cond (B==0) (L c) (cond (A==0) (cond (B==1) (L c) (cond b (L a) (L d))) (cond b (L a) (L d)))) (cond (A==0) (cond (B==1) (L c) (cond b (L a) (L d))) (cond b (L a) (L d))))) λy1=>L ((y1.1.1,()),())
def OE :Option ((Unit×Unit)×(GQ×Unit)):=
 L (((),()),(((-1:Int),(0:Int),(0:Int),([]:List Duty),(0:Int),N,()),()))
def IK:=
 letI a:=(0:Int)
 (Co A B z x E F H D pd pg pj pm pq qr q4).bind λy1=>cond (! y1.1.1) (L (((),(1:Int),()),((a,a,a,([]:List Duty),a,N,()),()))) (L (((),a,()),((pg,pj,pm,([]:List Duty),a,N,()),())))
def EG:=
 letI aa:=(ub,uc,ud,ue,uf,uz,sy,u0,())
 letI b:=((pj,pm,ph,pt,te,tf,tg,th,ti,tj,tk,tm,tp,tq,tr,ts,sv,sw,tt,tu,tv,tw,tx,ty,tz,t0,t4,t7,t8,rc,sg,ro,t9,ua,sx,aa),())
 letI f:=(0:Int)
 letI ad:=((J,pa,pb,pc,()),(pd,pg,()),b)
 letI n:=(((),(),(),A,x,I,z,x,N,()),ad)
 letI o:=NewCar.mk f f f f f N f f f f f f f N
 letI r:=x.toNat
 letI aj:=Q x
 cond (P (x<z)) (cond (aj I.length) (cond (aj J.length) ((LE (J.getD r f) (I.getD r f)).bind λy1=>cond (! y1.1.1) ((OE).bind λy2=>letI ah:=y2.2.1.2
 letI ap:=ah.2
 cond (aj sv.length) (cond (aj sw.length) (cond (aj sx.length) (L (S (((),(),(),A,I,z,U.wrap (x+1),()),((J,pa,pb,pc,()),(pd,pg,()),(pj,pm,ph,pt,te,tf,tg,th,ti,tj,tk,tm,tp,tq,tr,ts,sv.set r (aD y2.2.1.1 ah.1 ap.1 ap.2.1 ap.2.2.1 ap.2.2.2.1),sw.set r o,tt,tu,tv,tw,tx,ty,tz,t0,t4,t7,t8,rc,sg,ro,t9,ua,sx.set r W,aa),())))) O) O) O) (R (cond (A==f) (cond (pd==8) (L (((),(),(),A,x,I,z,x,pg==x,()),ad)) (L n)) (L n)) λy3=>letI m:=y3.2.2.2.1
 letI w:=m.2
 letI ak:=w.2
 letI d:=ak.2.2
 letI al:=d.2
 letI j:=al.2.2
 letI q:=j.2.2.2
 letI ae:=q.2.2
 letI aq:=ae.2
 letI a:=aq.2.2.2
 letI ag:=a.2
 letI au:=ag.2
 letI k:=au.2.2.2
 letI v:=k.2.2
 letI an:=v.2
 letI av:=an.2
 letI c:=av.2.2.2
 letI g:=y3.1.2.2.2.2
 letI af:=c.2.2
 letI aw:=af.2
 letI h:=aw.2.2.2
 letI ay:=g.2
 letI l:=((),(),(),y3.1.2.2.2.1,ay.1,ay.2.1,U.wrap (ay.2.2.1+1),())
 letI am:=g.1
 letI s:=am.toNat
 letI u:=h.2.2.2
 letI az:=Q am
 letI ab:=az a.1.length
 letI ao:=u.2
 letI ax:=ao.2
 cond ay.2.2.2.1 (cond ab (let z0:Belief:=a.1.getD s (aD f f f [] f N)
 (IK m.1 w.1 ak.1 ak.2.1 d.1 al.1 al.2.1 j.1 am z0.D0 z0.I0 z0.E3 z0.U0 z0.V2 z0.N3).bind λy4=>letI ai:=y4.2.1.2
 letI ar:=ai.2
 cond ab (cond (az ag.1.length) (cond (az h.1.length) (L (S (l,(y3.2.1,y3.2.2.1,(m.1,w.1,ak.1,ak.2.1,d.1,al.1,al.2.1,j.1,j.2.1,j.2.2.1,q.1,q.2.1,ae.1,aq.1,aq.2.1,aq.2.2.1,a.1.set s (aD y4.2.1.1 ai.1 ar.1 ar.2.1 ar.2.2.1 ar.2.2.2.1),ag.1.set s o,au.1,au.2.1,au.2.2.1,k.1,k.2.1,v.1,an.1,av.1,av.2.1,av.2.2.1,c.1,c.2.1,af.1,aw.1,aw.2.1,aw.2.2.1,h.1.set s W,h.2.1,h.2.2.1,u.1,ao.1,ax.1,ax.2.1,ax.2.2.1,ax.2.2.2.1,()),())))) O) O) O) O) (L (S (l,(y3.2.1,y3.2.2.1,m,())))))) O) O) (L (V ((),b)))
def BB:=lp EG
def Dn:=
 letI ab:=(0:Int)
 letI ar:=(J,pa,pb,pc,())
 (CP (machine_ticker.mk A B z x E F H D J pa pb pc qg qh pd qi qj py qk pr qd pg pj pm ph pt pz qa qq pn pp pu pv qs qt qe qb ql qm qn qv qw qu)).bind λy1=>(KW A B z x E F H D J pa pb pc pz qa y1.1.1).bind λy2=>letI w:=((),(),(),y1.1.1,y2.1.2.1,())
 R ((AY y2.1.1 A B z x E F H D J pa pb pc qg qh pd qi qj py qk pr qd pg pj pm ph pt pz qa qq pn pp pu pv qs qt qe qb ql qm qn qv y2.1.2.1 qu).bind λy3=>match y3 with
 | .inl y4=>
 L (w,(ar,(pz,qa,()),y4.2.1,()))
 | .inr y4=>
 L (w,(ar,(pz,qa,()),y4.2.1,()))) λy5=>letI q:=y5.1.2.2.2
 letI u:=y5.2.2
 letI am:=u.1
 letI aa:=(y5.2.1,am,u.2.1,())
 R (cond (am.1 !=ab) (cond (Q am.2.1 q.1.length) (L (((),(),(),q.1.set am.2.1.toNat N,q.2.1,()),aa)) O) (L (((),(),(),q.1,q.2.1,()),aa))) λy6=>letI ap:=y6.2
 letI aq:=ap.2
 letI e:=aq.2.1
 letI m:=e.2
 letI r:=m.2
 letI ad:=r.2
 letI b:=ad.2.2
 letI s:=b.2
 letI ae:=s.2
 letI d:=ae.2.2
 letI h:=d.2.2
 letI l:=h.2.2.2
 letI af:=l.2
 letI ai:=af.2
 letI a:=ai.2.2.2
 letI an:=a.2
 letI g:=an.2.2.2
 letI n:=g.2.2
 letI ag:=n.2
 letI aj:=ag.2
 letI c:=aj.2.2.2
 letI v:=c.2
 letI ao:=v.2
 letI f:=ao.2.2.2
 letI j:=((),(),(),y6.1.2.2.2.2.1,())
 letI o:=f.2.2
 letI ah:=o.2
 letI ak:=ah.2
 R (cond (v.1==ab) (R ((LY e.1 m.1 r.1 ad.1 ad.2.1 b.1 s.1 ae.1 ae.2.1 d.1 d.2.1 h.1 y6.1.2.2.2.1).bind λy7=>(AY y7.1.1 e.1 m.1 r.1 ad.1 ad.2.1 b.1 s.1 ae.1 ae.2.1 d.1 d.2.1 h.1 h.2.1 h.2.2.1 l.1 af.1 ai.1 ai.2.1 ai.2.2.1 a.1 an.1 an.2.1 an.2.2.1 g.1 g.2.1 n.1 ag.1 aj.1 aj.2.1 aj.2.2.1 c.1 v.1 ao.1 ao.2.1 ao.2.2.1 f.1 f.2.1 o.1 ah.1 ak.1 ak.2.1 ak.2.2.1 ak.2.2.2.1).bind λy8=>match y8 with
 | .inl y9=>
 L (j,(ap.1,aq.1,y9.2.1,()))
 | .inr y9=>
 L (j,(ap.1,aq.1,y9.2.1,()))) λy10=>L (((),(),(),y10.1.2.2.2.1,()),(y10.2.1,y10.2.2.1,y10.2.2.2.1,()))) (L (j,(ap.1,aq.1,e,())))) λy11=>letI al:=y11.2.2.2.1
 letI k:=al.2.2.2.2.2.2.2.2
 cond (k.2.2.2.2.2.2.2.2.2.2.2.2.2.2.2.2.2.2.2.2.2.2.2.1 !=ab) (L (S ((),(al,())))) ((BB (((),(),(),y11.1.2.2.2.1,k.1,(k.1.length:Int),ab,()),(y11.2.1,y11.2.2.1,al,()))).bind λy12=>L (V ((),(y12.2.1,()))))
def Cy:=
 cond pn (R ((Dn A B z x E F H D J pa pb pc qg qh pd qi qj py qk pr qd pg pj pm ph pt pz qa qq pn pp pu pv qs qt qe qb ql qm qn qv qw qu).bind λy1=>match y1 with
 | .inl y2=>
 L ((),(y2.2.1,()))
 | .inr y2=>
 L ((),(y2.2.1,()))) λy3=>L ((),(y3.2.1,()))) (L ((),((A,B,z,x,E,F,H,D,J,pa,pb,pc,qg,qh,pd,qi,qj,py,qk,pr,qd,pg,pj,pm,ph,pt,pz,qa,qq,pn,pp,pu,pv,qs,qt,qe,qb,ql,qm,qn,qv,qw,qu,()),())))
def IP:=
 (KY I qz q0 pi z).bind λy1=>cond (! y1.1.1) (L ((N,()),())) (cond (Q z I.length) (let z0:Int:=I.getD z.toNat 0
 R (cond (z0==0) (L ((W,()),())) (cond (z0==1) (L ((W,()),())) (L ((z0==4,()),())))) λy2=>L ((y2.1.1,()),())) O)
def Ma:=
 cond (P (q1<qr)) (cond (Q q1 pq.length) (let z0:=pq.getD q1.toNat (Duty.mk 0 0 0)
 (Ea z0.D0 z0.I0).bind λy1=>(CO rq rr y1.2.1.1 y1.2.1.2.1).bind λy2=>L (S (((),(),pq,qr,U.wrap (q1+1),()),((ra,rp,()),y2.2.1,())))) O) (L (V (((),(),()),((ra,rp,()),(rq,rr,()),()))))
def IV:=lp Ma
def Kr:=
 letI a:=(0:Int)
 (IV (((),(),pq,(pq.length:Int),a,()),((a,a,()),(a,a,()),()))).bind λy1=>L (((),()),(y1.2.2.1,()))
def MG(p25:Bool):=
 letI a:=(((),()),(((0:Int),(0:Int),()),()))
 (DU A B z x E F H D pd pg pj pm ph pn pp pu qe qb ql qm qw rc).bind λy1=>cond (! y1.1.1) (L a) (cond (pj !=2) (L a) (cond (! uf) (L a) (cond (sy !=1) (L a) ((FL A sg qm 1).bind λy2=>L (((),()),(y2.2.1,()))))))
def ME:=
 letI b:=(0:Int)
 letI f:=(b,b,b,b,b,b,b,b,())
 letI m:=(J,pa,pb,pc,qg,qh,pd,qi,qj,py,qk,pr,qd,pg,pj,pm,())
 letI ae:=((),())
 letI ah:=ph.toNat
 letI al:=(A,B,z,x,E,F,H,D,())
 letI an:=(N,N,N,N,f)
 letI ba:=(pt,pn,pp,qn,())
 cond (Q ph J.length) (let z0:Int:=J.getD ah b
 letI ak:=(ph,(),(),(),(),z0,(),ae)
 cond (Q ph py.length) (let z1:=py.getD ah (NewCar.mk b b b b b N b b b b b b b N)
 letI d:=(z1.V1,z1.E1,z1.Y0,z1.N1,z1.H1,z1.K1,z1.D1,z1.T0,z1.X0,z1.Q0,z1.Y1,z1.X2,z1.I3,z1.Z2,())
 (KX J pa pb pc ph).bind λy1=>(IP J pa pb pc ph).bind λy2=>(Ft z0).bind λy3=>R (cond (Q ph pa.length) (cond (pa.getD ah N) (L (ak,(al,m,ba,an,d,(y1.1.1,y2.1.1,y3.1.1,W,f),()))) (L (ak,(al,m,ba,an,d,(y1.1.1,y2.1.1,y3.1.1,! y2.1.1,f),())))) O) λy4=>letI j:=y4.2
 letI k:=j.2
 letI u:=k.2
 letI a:=u.2.2
 letI h:=a.2.1
 letI o:=h.2
 letI w:=o.2
 letI bc:=w.2
 letI c:=bc.2.2.2
 letI r:=a.1
 letI ao:=r.2
 letI av:=ao.2
 letI e:=av.2.2.2
 letI l:=k.1.2.2.2.2.2.2.2.2
 letI n:=c.2.2
 letI q:=j.1
 letI s:=e.2.2.2
 letI aa:=q.2.2
 letI bd:=n.2
 letI ad:=(bd.1,bd.2.1,bd.2.2.1,())
 letI af:=u.1
 letI ai:=aa.2
 letI am:=y4.1.1
 letI ap:=s.2
 letI aq:=(am,(),(),(),(),ae)
 letI au:=ai.2
 letI aw:=ap.2
 letI bb:=w.1
 letI bf:=am.toNat
 cond bb (cond (Q am l.1.length) (let z2:Belief:=l.1.getD bf (aD b b b [] b N)
 (Kr z2.U0).bind λy5=>L (ae,((h.1,o.1,bb,bc.1,z2.D0,z2.I0,c.1,c.2.1,n.1,bd.1,y5.2.1.1,y5.2.1.2.1,()),()))) O) (cond (Q am l.2.2.1.length) (let z3:Loaded:=l.2.2.1.getD bf (Loaded.mk b)
 R (cond (y4.1.2.2.2.2.2.1==4) ((MG q.1 q.2.1 aa.1 ai.1 au.1 au.2.1 au.2.2.1 au.2.2.2.1 r.1 ao.1 av.1 av.2.1 av.2.2.1 e.1 e.2.1 e.2.2.1 s.1 ap.1 aw.1 aw.2.1 aw.2.2.1 aw.2.2.2.1 af.1 af.2.1 af.2.2.1 af.2.2.2.1).bind λy6=>L (aq,(q,k.1,u.2.1,r,(h.1,o.1,bb,bc.1,af.1,r.1,z3.T5,y6.2.1.1,y6.2.1.2.1,ad),()))) (L (aq,(q,k.1,u.2.1,r,(h.1,o.1,bb,bc.1,af.1,r.1,z3.T5,c.2.1,n.1,ad),())))) λy7=>letI ag:=y7.2.2
 letI be:=ag.2.2
 letI g:=be.2.1.2
 letI v:=y7.2.1.2.2
 letI ab:=g.2.2
 letI aj:=ab.2
 letI ar:=v.2
 letI ax:=ar.2
 letI ay:=ag.1
 letI az:=aj.2
 (HI y7.2.1.1 y7.2.1.2.1 v.1 ar.1 ax.1 ax.2.1 ax.2.2.1 ax.2.2.2.1 ay.1 ay.2.1 ay.2.2.1 ay.2.2.2.1 y7.1.1).bind λy8=>L (ae,((be.2.1.1,g.1,g.2.1,ab.1,aj.1,az.1,az.2.1,az.2.2.1,az.2.2.2.1,be.1.2.2.2.2.2.2.2.2.2.2.1,y8.2.1.1,y8.2.1.2.1,()),()))) O)) O) O
def Fg:=
 letI a:=(0:Int)
 letI b:=q9.toNat
 letI h:=Q q9
 letI d:=h ru.length
 letI e:=C.m_Image_Flags
 letI f:=(si,U.wrap (q9+1),())
 cond (P (q9<si)) (cond (! C.good) ((IP C.m_Image_Phases e C.m_Image_Leaving C.m_Image_Entries q9).bind λy1=>letI k:=y N y1.1.1 N
 R (cond (h e.length) (cond (e.getD b N) (cond d (L ((C,ru.set b (k W (- 1:Int) a a a a a a a),si,q9,()),())) O) (cond d (L ((C,ru.set b (k (! y1.1.1) (- 1:Int) a a a a a a a),si,q9,()),())) O)) O) λy2=>L (S ((y2.1.1,y2.1.2.1,y2.1.2.2.1,U.wrap (y2.1.2.2.2.1+1),()),()))) (cond (h C.x_Cars.length) (let z0:CarInput:=C.x_Cars.getD b (CarInput.mk a N N N N a N a N a 0)
 (ME C.b_Floors C.b_Debounce C.b_Room C.b_Park C.b_Empty C.b_Full C.b_Over C.b_Cars C.m_Image_Phases e C.m_Image_Leaving C.m_Image_Entries C.m_Store_Halves_0 C.m_Store_Halves_1 C.m_Store_Select C.m_Contacts C.m_Beliefs C.m_Cars C.m_Loads C.m_Expect C.m_Lit C.m_Tick C.m_Faults C.m_Refused q9 z0.J1 z0.L1 z0.R1 z0.M1).bind λy3=>letI m:=y3.2.1.2
 letI c:=m.2.2.2
 letI g:=c.2.2
 letI j:=g.2
 letI n:=j.2
 cond d (let z1:=ru.set b (y y3.2.1.1 m.1 m.2.1 m.2.2.1 c.1 c.2.1 g.1 j.1 n.1 n.2.1 n.2.2.1 n.2.2.2.1)
 cond (h C.legacy.length) (cond (C.legacy.getD b N) (cond (h C.shows.length) (let z2:p:=C.shows.getD b (Calls.mk a a)
 cond (h z1.length) (let z3:Nat:=b
 let z4:=z1.getD z3 (y N N N N a a a a a a a a)
 L (S ((C,z1.set z3 (y z4.H3 z4.Y2 z4.D3 z4.X3 z4.D0 z4.I0 z4.C3 z2.Up z2.R3 z4.M2 z4.Z1 z4.Q1),f),()))) O) O) (L (S ((C,z1,f),())))) O) O) O)) (L (V ((ru,()),())))
def Cw:=lp Fg
def DL:=
 letI a:=(0:Int)
 let z0:Int:=(C.b_Cars.length:Int)
 cond ((P (a≤z0)&&decide (z0≤z0))&&decide (z0≤2147483648)) (let z1:List (View):=aE z0.toNat (y N N N N a a a a a a a a)
 (Cw ((C,z1,(z1.length:Int),a,()),())).bind λy1=>L ((y1.1.1,()),())) O
def HQ(p8:Bool)(p9:Bool)(p10:Bool)(p11:Bool)(p12:Int)(p13:Int)(p14:Int)(p15:Int)(p16:Int)(p17:Int)(p18:Int)(p19:Int):=
 cond (! p9) (L (((),()),(((0:Int),(0:Int),()),()))) ((Fl A B z x E F H D).bind λy1=>(DT p15 p16 y1.2.1.1 y1.2.1.2.1).bind λy2=>L (((),()),(y2.2.1,())))
def Ir:=
 letI a:=IntKind.bits Y
 L (((),()),((t Y (stk A z (aA a A&&&(~~~ aA a z)).toNat),Y.wrap (stk B x (aA a B&&&(~~~ aA a x)).toNat),()),()))
def FN:=
 letI a:=(0:Int)
 letI c:=(sj,tb,rg,q3,())
 cond (P (po<qf)) (cond (Q po pf.length) (let z0:=pf.getD po.toNat (y N N N N a a a a a a a a)
 (HQ qp q2 rv rw ry rz r0 r1 z0.H3 z0.Y2 z0.D3 z0.X3 z0.D0 z0.I0 z0.C3 z0.F3 z0.Q2 z0.M2 z0.Z1 z0.Q1).bind λy1=>(Ir y1.2.1.1 y1.2.1.2.1 r2 r3).bind λy2=>letI b:=y2.2.1
 let z1:List (p):=[Calls.mk b.1 b.2.1]
 cond ((sz.length+z1.length).ble 2147483648) (cond (Q po q6.length) (let z2:=q6.getD po.toNat (Calls.mk a a)
 (Ir b.1 b.2.1 z2.Up z2.R3).bind λy3=>let z3:List (Bool):=[! ((y3.2.1.1==a)&&((y3.2.1.2.1==a)&&W))]
 cond ((rf.length+z3.length).ble 2147483648) ((CO r2 r3 b.1 b.2.1).bind λy4=>L (S ((q6,(),(),(),pf,qf,U.wrap (po+1),()),((qp,q2,rv,rw,ry,rz,r0,r1,()),c,(sz++z1,rf++z3,y4.2.1.1,y4.2.1.2.1,()),())))) O) O) O) O) (L (V (((),(),()),(c,(sz,rf,r2,r3,()),()))))
def Jr:=lp FN
def LC:=
 letI a:=(0:Int)
 letI b:=(a,a,())
 letI c:=List p
 letI d:=List Bool
 letI e:=((),(1:Int),())
 letI f:=(pf.length:Int)
 letI g:=(D.length:Int)
 (AU A B z x E F H D).bind λy1=>cond (y1.1.1 !=a) (L (e,((([]:c),([]:d),b),()))) (cond (f !=g) (L (e,((([]:c),([]:d),b),()))) (cond ((sj.length:Int) !=g) (L (e,((([]:c),([]:d),b),()))) ((Jr ((sj,(),(),(),pf,f,a,()),((A,B,z,x,E,F,H,D,()),(([]:c),([]:d),b),(([]:c),([]:d),b),()))).bind λy2=>L (((),a,()),(y2.2.2.1,())))))
def GT:=
 R (cond (P (A<0)) (L ((W,()),())) (L ((P (1000000<A),()),()))) λy1=>L ((y1.1.1,()),())
def AJ:=
 cond (P (x<z)) (cond (Q x I.length) ((GT (I.getD x.toNat 0)).bind λy1=>cond y1.1.1 (L (V (V ((x,()),())))) (L (S ((I,(),z,U.wrap (x+1),()),())))) O) (L (V (S ((),()))))
def Bq:=lp AJ
def Cl:=
 (Bq ((I,(),(I.length:Int),(0:Int),()),())).bind λy1=>match y1 with
 | .inl y2=>
 L (((- 1:Int),()),())
 | .inr y2=>
 L ((y2.1.1,()),())
def Bm:=
 (Cl I).bind λy1=>L ((P (0≤y1.1.1),()),())
def Ig(p0:List Int)(p1 p2:List Bool)(p3:List i)(p4:List Int):Option ((Bool×Unit)×Unit):=
 R (cond ((p4.length:Int)==(p3.length:Int)) ((Bm p4).bind λy1=>L ((! y1.1.1,()),())) (L ((N,()),()))) λy2=>L ((y2.1.1,()),())
def Nd:=
 (BI I).bind λy1=>(Bf qz).bind λy2=>(Bf q0).bind λy3=>(Bp pi).bind λy4=>L (((),()),((y1.1.1,y2.1.1,y3.1.1,y4.1.1,()),()))
def OG:=
 letI b:=(0:Int)
 letI a:=(P (b≤A)&&decide (A≤A))&&decide (A≤2147483648)
 cond a (cond a (L (((),()),((aE A.toNat (Calls.mk b b),aE A.toNat N,b,b,()),()))) O) O
def FP:=
 letI a:=(pi,z,U.wrap (x+1),())
 letI b:=(0:Int)
 cond (P (x<z)) (cond (Q x pi.length) (let z0:=pi.getD x.toNat (aC b b b b N)
 (Dq pw px z0.D0 z0.I0).bind λy1=>cond y1.1.1 (let z1:List (X):=[Z 2 z0.D0 z0.I0 b b]
 cond ((qc.length+z1.length).ble 2147483648) (L (S (((),qc++z1,a),((pw,px,()),())))) O) (L (S (((),qc,a),((pw,px,()),()))))) O) (L (V ((qc,()),())))
def Jt:=lp FP
def FO:=
 letI a:=(0:Int)
 letI b:=(u1,u2,u3,td,())
 cond (P (po<qf)) (cond (Q po pf.length) (let z0:=pf.getD po.toNat (y N N N N a a a a a a a a)
 (HQ qp q2 rv rw ry rz r0 r1 z0.H3 z0.Y2 z0.D3 z0.X3 z0.D0 z0.I0 z0.C3 z0.F3 z0.Q2 z0.M2 z0.Z1 z0.Q1).bind λy1=>(CO s0 ug y1.2.1.1 y1.2.1.2.1).bind λy2=>L (S (((),(),(),pf,qf,U.wrap (po+1),()),((qp,q2,rv,rw,ry,rz,r0,r1,()),b,y2.2.1,())))) O) (L (V (((),(),()),(b,(s0,ug,()),()))))
def Js:=lp FO
def LD:=
 letI a:=(pf.length:Int)
 letI b:=((0:Int),())
 letI c:=List X
 (Cn A B z x E F H D J pa pb pc).bind λy1=>cond (! y1.1.1) (L ((([]:c),()),())) (cond (a !=(D.length:Int)) (L ((([]:c),()),())) ((Js (((),(),(),pf,a,b),((A,B,z,x,E,F,H,D,()),(J,pa,pb,pc,()),((0:Int),b),()))).bind λy2=>(Jt (((),([]:c),y2.2.1.2.2.2.1,(y2.2.1.2.2.2.1.length:Int),b),(y2.2.2.1,()))).bind λy3=>L ((y3.1.1,()),())))
def IM(p2:Int)(p3:Int)(p4:Bool)(b0:Int)(b1:Int):=
 letI a:=((b0,()),(b1,()),())
 R (cond (P (b0<A)) (L ((W,()),a)) (cond (A==b0) (L ((P (b1≤B),()),a)) (L ((N,()),a)))) λy1=>L ((y1.1.1,()),((y1.2.1.1,()),(y1.2.2.1.1,()),()))
def As:=
 letI b:=(0:Int)
 cond (P (x<z)) (cond (Q x pi.length) (let z0:=pi.getD x.toNat (aC b b b b N)
 (IM z0.D0 z0.I0 z0.S0 z0.B1 z0.B2 pw px).bind λy1=>letI a:=((y1.2.1.1,()),(y1.2.2.1.1,()),())
 cond y1.1.1 (L (V (V ((x,()),a)))) (L (S ((pi,(),z,U.wrap (x+1),()),a)))) O) (L (V (S ((),((pw,()),(px,()),())))))
def AV:=lp As
def BA:=
 (AV ((pi,(),(pi.length:Int),(0:Int),()),((z,()),(x,()),()))).bind λy1=>match y1 with
 | .inl y2=>
 L (((- 1:Int),()),((y2.2.1.1,()),(y2.2.2.1.1,()),()))
 | .inr y2=>
 L ((y2.1.1,()),((y2.2.1.1,()),(y2.2.2.1.1,()),()))
def Kp(p0:List Int)(p1 p2:List Bool)(p3:List i)(p4 dir:Int):Option ((Int×Bool×Unit)×Unit):=
 letI b:=(0:Int)
 (BA p3 p4 dir).bind λy1=>letI d:=y1.1.1
 letI a:=p3.getD d.toNat (aC b b b b N)
 letI c:=Q d p3.length
 cond (P (d<b)) (L (((p3.length:Int),N,()),())) (R (cond c (cond (a.D0==y1.2.1.1) (cond c (L ((d,a.I0==y1.2.2.1.1,()),())) O) (L ((d,N,()),()))) O) λy2=>L ((y2.1.1,y2.1.2.1,()),()))
def EJ:=
 Als I z x
def EK:=
 Abd I z J
def BS:=
 letI d:=((sk,I,qz,q0,pi,sl,q6,ri,z,x,pw,px,qo,qx,rj,rl,E,F,H,D,()),())
 letI u:=(0:Int)
 cond (P (B<A)) (cond (Q B qc.length) (let z0:=qc.getD B.toNat (Z u u u u u)
 letI r:=((z0.R0,z0.D0,z0.I0,z0.S0,z0.G2,()),d)
 (Kp I qz q0 pi z0.D0 z0.I0).bind λy1=>R (R (cond (z0.R0==2) (L (((),(),y1.1.1,y1.1.2.1,qc,A,B,y1.1.2.1,()),r)) (L (((),(),y1.1.1,y1.1.2.1,qc,A,B,N,()),r))) λy2=>letI l:=y2.2.2.1
 letI o:=l.2.2.2
 letI al:=o.2
 letI ap:=al.2
 letI b:=ap.2.2.2
 letI af:=y2.1.2.2
 letI f:=af.2.2
 letI ba:=b.2
 letI h:=ba.2.2.2
 letI aa:=h.2.2
 letI ae:=f.2
 letI aj:=aa.2
 letI ao:=ae.2
 letI aq:=af.1
 letI ar:=aj.2
 cond ao.2.1 ((EJ ap.1 aq (t U (aq+1))).bind λy3=>L (((),(),f.1,ae.1,ao.1,()),(y2.2.1,(l.1,l.2.1,l.2.2.1,o.1,al.1,y3.1.1,ap.2.1,ap.2.2.1,b.1,ba.1,ba.2.1,ba.2.2.1,h.1,h.2.1,aa.1,aj.1,ar.1,ar.2.1,ar.2.2.1,ar.2.2.2.1,()),()))) (R (cond (y2.2.1.1==1) (L (((),(),aq,f.1,ae.1,ao.1,! af.2.1,()),(y2.2.1,l,()))) (L (((),(),aq,f.1,ae.1,ao.1,N,()),(y2.2.1,l,())))) λy4=>letI av:=y4.2.2.1
 letI m:=av.2.2
 letI ag:=m.2.2
 letI au:=ag.2
 letI c:=au.2.2.2
 letI bb:=c.2
 letI j:=bb.2.2.2
 letI n:=y4.1.2.2.2
 letI ab:=j.2.2
 letI ad:=((),(),n.1,n.2.1,n.2.2.1,())
 letI ak:=ab.2
 letI aw:=ak.2
 cond n.2.2.2.1 ((EK au.1 y4.1.2.2.1 [u]).bind λy5=>L (ad,(y4.2.1,(av.1,av.2.1,m.1,m.2.1,ag.1,y5.1.1,au.2.1,au.2.2.1,c.1,bb.1,bb.2.1,bb.2.2.1,j.1,j.2.1,ab.1,ak.1,aw.1,aw.2.1,aw.2.2.1,aw.2.2.2.1,()),()))) (L (ad,(y4.2.1,av,()))))) λy6=>letI w:=y6.2.2.1
 letI bc:=w.2
 letI e:=bc.2.2.2
 letI q:=e.2.2.2
 letI an:=q.2
 letI az:=an.2
 letI a:=az.2.2.2
 letI am:=a.2
 letI g:=am.2.2
 letI k:=((),y6.1.2.2.1,y6.1.2.2.2.1,U.wrap (y6.1.2.2.2.2.1+1),())
 letI s:=y6.2.1.2
 letI v:=g.2
 letI ah:=v.2
 letI ai:=s.2
 letI ax:=ah.2
 letI ay:=ai.2
 (Nn a.1 am.1 am.2.1 g.1 v.1 ah.1 ax.1 ax.2.1 bc.1 bc.2.1 bc.2.2.1 e.1 y6.2.1.1 s.1 ai.1 ay.1 ay.2.1).bind λy7=>cond (y7.1.2.1==u) (let z1:List (X):=[Z y6.2.1.1 s.1 ai.1 ay.1 ay.2.1]
 cond ((w.1.length+z1.length).ble 2147483648) (L (S (k,((w.1++z1,y7.2.1.1,y7.2.1.2.1,y7.2.1.2.2.1,y7.2.1.2.2.2.1,e.2.1,e.2.2.1,q.1,an.1,az.1,az.2.1,az.2.2.1,a.1,am.1,am.2.1,g.1,v.1,ah.1,ax.1,ax.2.1,()),())))) O) (L (S (k,(w,()))))) O) (L (V ((),d)))
def Cu:=lp BS
def Bz:=
 (Cu (((),qc,(qc.length:Int),(0:Int),()),((sk,I,qz,q0,pi,sl,q6,ri,z,x,pw,px,qo,qx,rj,rl,E,F,H,D,()),()))).bind λy1=>L ((),(y1.2.1,()))
def JP:=
 letI a:=(0:Int)
 cond (P (x<z)) (cond (Q x pi.length) (let z0:=pi.getD x.toNat (aC a a a a N)
 (Ea z0.D0 z0.I0).bind λy1=>(CO qo qx y1.2.1.1 y1.2.1.2.1).bind λy2=>L (S (((),(),pi,z,U.wrap (x+1),()),((pw,px,()),y2.2.1,())))) O) (L (V (((),(),()),((pw,px,()),(qo,qx,()),()))))
def OZ:=lp JP
def Sb:=
 letI a:=(0:Int)
 (OZ (((),(),pi,(pi.length:Int),a,()),((a,a,()),(a,a,()),()))).bind λy1=>L (((),()),(y1.2.2.1,()))
def GU(p0:List Int)(p1 p2:List Bool)(p3:List i):Option ((Unit×Unit)×Hw):=
 (Sb p3).bind λy1=>L (((),()),(y1.2.1,()))
def LU:=
 Amy (λf d=>Dq A B f d) (λf d=>aC f d (-1) 0 N)
def Bv:=
 letI a:=((),pi,z,U.wrap (x+1),())
 letI b:=(0:Int)
 letI c:=(r7,r8,r9,sa,sb,sc,sd,se,())
 cond (P (x<z)) (cond (Q x pi.length) (let z0:=pi.getD x.toNat (aC b b b b N)
 (MC r7 r8 r9 sa sb sc sd se q5 r4 r5 r6).bind λy1=>cond y1.1.1 ((Bz [Z 1 z0.D0 z0.I0 b b] q7 q5 r4 r5 r6 sm sn so q8 qy rm sq r7 r8 r9 sa sb sc sd se).bind λy2=>L (S (a,(y2.2.1,())))) ((Ea z0.D0 z0.I0).bind λy3=>(CO rm sq y3.2.1.1 y3.2.1.2.1).bind λy4=>L (S (a,((q7,q5,r4,r5,r6,sm,sn,so,q8,qy,y4.2.1.1,y4.2.1.2.1,c),()))))) O) (L (V ((),((q7,q5,r4,r5,r6,sm,sn,so,q8,qy,rm,sq,c),()))))
def CM:=lp Bv
def Db:=
 (Fl r7 r8 r9 sa sb sc sd se).bind λy1=>(DT A B y1.2.1.1 y1.2.1.2.1).bind λy2=>(Ir y2.2.1.1 y2.2.1.2.1 z x).bind λy3=>(LU y3.2.1.1 y3.2.1.2.1).bind λy4=>(CM (((),y4.1.1,(y4.1.1.length:Int),(0:Int),()),((q7,q5,r4,r5,r6,sm,sn,so,q8,qy,rm,sq,r7,r8,r9,sa,sb,sc,sd,se,()),()))).bind λy5=>L ((),(y5.2.1,()))
def Lx:=
 R (cond (P (A<0)) (L ((W,()),())) (L ((P (1000000<A),()),()))) λy1=>L ((y1.1.1,()),())
def AT:=
 cond (P (x<z)) (cond (Q x I.length) ((Lx (I.getD x.toNat 0)).bind λy1=>cond y1.1.1 (L (V (V ((x,()),())))) (L (S ((I,(),z,U.wrap (x+1),()),())))) O) (L (V (S ((),()))))
def BJ:=lp AT
def CL:=
 (BJ ((I,(),(I.length:Int),(0:Int),()),())).bind λy1=>match y1 with
 | .inl y2=>
 L (((- 1:Int),()),())
 | .inr y2=>
 L ((y2.1.1,()),())
def BC:=
 (CL I).bind λy1=>L ((P (0≤y1.1.1),()),())
def IL:=
 R (cond (P (2≤A)) (L ((P (A≤32),()),())) (L ((N,()),()))) λy1=>L ((y1.1.1,()),())
def Nw:=
 letI a:=((N,()),())
 letI b:=((P (B<A),()),())
 letI c:=decide (0<B)
 letI d:=z==2
 R (cond (z==1) (cond (P (0≤B)) (cond (P (B<U.wrap (A-1))) (L ((W,()),())) (cond d (cond c (L b) (L a)) (L a))) (cond d (cond c (L b) (L a)) (L a))) (cond d (cond c (L b) (L a)) (L a))) λy1=>L ((y1.1.1,()),())
def JD:=
 letI a:=IntKind.bits Y
 letI b:=(1:Int)
 cond (P (0≤A)) (let z0:Int:=Y.wrap (t Y (b*((2:Int)^Min.min A.toNat a))-b)
 letI c:=aA a z0
 (DT z x (Int.fdiv z0 ((2:Int)^Min.min b.toNat a)) (t Y (stk z0 b (c&&&(~~~ aA a b)).toNat))).bind λy1=>L (((),()),((t Y (stk B z0 (aA a B&&&c).toNat),y1.2.1.1,y1.2.1.2.1,()),()))) O
def Jg:=
 letI a:=((pw,()),(px,()),())
 cond (P (x<z)) (cond (Q x I.length) (let z0:Int:=I.getD x.toNat 0
 let z1:Int:=U.wrap (z0-B)
 let z2:Int:=U.wrap (B-z0)
 L (S ((t U (A+cond (P (z1<z2)) z2 z1),z0,I,z,U.wrap (x+1),()),a))) O) (L (V ((A,()),a)))
def GE:=lp Jg
def Ch:=
 let z0:List (Int):=[x]
 cond ((I.length+z0.length).ble 2147483648) (let z1:List (Int):=I++z0
 (GE (((0:Int),z,z1,(z1.length:Int),(0:Int),()),((z,()),(x,()),()))).bind λy1=>L ((y1.1.1,()),((y1.2.1.1,()),(y1.2.2.1.1,()),()))) O
def Qz:=
 letI a:=IntKind.bits Y
 letI b:=(((- 1:Int),()),())
 letI c:=((B,()),(qo,()),())
 letI h:=(1:Int)
 letI n:=(0:Int)
 letI o:=(2:Int)
 letI u:=((),N,())
 (IL A).bind λy1=>cond (! y1.1.1) (L b) (cond (P (B<n)) (L b) (cond (P (A≤B)) (L b) (cond (P (z<n)) (L b) (cond (P (o<z)) (L b) ((Nw A qo qx).bind λy2=>cond (! y2.1.1) (L b) ((JD A x pw px).bind λy3=>letI r:=y3.2.1
 letI aa:=r.2
 let z0:Int:=Y.wrap (stk r.1 aa.1 (aA a r.1|||BitVec.ofInt a aa.1).toNat)
 let z1:Int:=Y.wrap (stk z0 aa.2.1 (aA a z0|||BitVec.ofInt a aa.2.1).toNat)
 cond (P (n≤B)) (let z2:Int:=Y.wrap (h*(o^Min.min B.toNat a))
 let z3:Int:=Y.wrap (stk z1 z2 (aA a z1|||BitVec.ofInt a z2).toNat)
 cond (P (n≤qo)) (let z4:Int:=Y.wrap (h*(o^Min.min qo.toNat a))
 let z5:Int:=Y.wrap (stk z3 z4 (aA a z3|||BitVec.ofInt a z4).toNat)
 (CH z5).bind λy4=>(JB z5).bind λy5=>let z6:Int:=U.wrap (y5.1.1-h)
 letI f:=((z,qx,y4.1.1,z6,(),decide (qo≤B),()),c)
 letI l:=((z,qx,y4.1.1,z6,u),c)
 R (cond (z==h) (cond (P (B≤qo)) (L ((z,qx,y4.1.1,z6,(),W,()),c)) (cond (z==o) (L f) (L l))) (cond (z==o) (L f) (L l))) λy6=>letI d:=((y6.2.1.1,()),(y6.2.2.1.1,()),())
 letI e:=y6.1.2
 letI j:=e.2
 letI w:=y6.1.1
 letI ab:=e.1
 letI ad:=j.2
 R (cond (w==n) (L ((w,ab,j.1,ad.1,(),W,()),d)) (cond (w==ab) (L ((w,ab,j.1,ad.1,(),ad.2.2.1,()),d)) (L ((w,ab,j.1,ad.1,u),d)))) λy7=>letI k:=y7.1.2
 letI m:=((y7.2.1.1,()),(y7.2.2.1.1,()),())
 letI s:=k.2
 cond s.2.2.2.1 ((Ch [] y7.2.1.1 y7.2.2.1.1).bind λy8=>L ((y8.1.1,()),())) (R (cond (y7.1.1 !=k.1) (L ((y7.1.1,k.1,s.1,s.2.1,(),y7.1.1==h,()),m)) (L ((y7.1.1,k.1,s.1,s.2.1,u),m))) λy9=>letI g:=y9.1.2.2
 letI q:=y9.2.2.1.1
 letI v:=y9.2.1.1
 letI ae:=g.2
 cond ae.2.2.1 ((Ch [ae.1] v q).bind λy10=>L ((y10.1.1,()),())) (cond (y9.1.1 !=y9.1.2.1) ((Ch [g.1] v q).bind λy11=>L ((y11.1.1,()),())) (cond (y9.1.1==h) ((Ch [ae.1,g.1] v q).bind λy12=>L ((y12.1.1,()),())) ((Ch [g.1,ae.1] v q).bind λy13=>L ((y13.1.1,()),())))))) O) O))))))
def RJ:=
 (CX A).bind λy1=>(CX B).bind λy2=>L ((t U (y1.1.1+y2.1.1),()),())
def OF:=
 (IL A).bind λy1=>cond (! y1.1.1) (L (((0:Int),()),())) ((JD A B z x).bind λy2=>(CX y2.2.1.1).bind λy3=>(RJ y2.2.1.2.1 y2.2.1.2.2.1).bind λy4=>L ((t U (y3.1.1+y4.1.1),()),()))
def Ez:=
 letI b:=(0:Int)
 letI c:=((A,B,z,x,E,F,H,D,()),(pn,qn,qv,rc,sg,ro,ub,uc,ud,ue,sy,q8,()),())
 letI e:=(1000000:Int)
 letI d:=((e,()),())
 (AU A B z x E F H D).bind λy1=>cond (y1.1.1 !=b) (L d) (cond (P (pd<b)) (L d) (cond (P ((D.length:Int)≤pd)) (L d) (R (cond (ro==3) (L ((pd,qy,rm,(),(),b,()),c)) (L ((pd,qy,rm,(),(),ro,()),c))) λy2=>letI a:=y2.2.2.1.2.2.2.2.2.2.2.2.2
 letI f:=y2.2.1.2.2.2.2.2.2.2.1
 letI g:=a.2
 (Qz y2.2.1.1 y2.2.2.1.2.2.2.2.1 y2.1.2.2.2.2.2.1 a.1 g.1 g.2.1 y2.1.2.1 y2.1.2.2.1).bind λy3=>cond (P (y3.1.1<b)) (L d) (cond (Q y2.1.1 f.length) (let z0:=f.getD y2.1.1.toNat (Car.mk b b b b b b b b b)
 (OF y2.2.1.1 a.1 g.1 g.2.1).bind λy4=>let z1:Int:=U.wrap (t U (y3.1.1*z0.O3)+U.wrap (y4.1.1*U.wrap (t U (2*z0.L2)+z0.K2)))
 L ((cond (P (e<z1)) e z1,()),())) O))))
def Hj(p0 p1 p2 p3:Bool)(p4 p5 p6 p7 p8 p9 p10 p11:Int):Option ((Bool×Unit)×Unit):=
 R (cond (p6==3) (L ((W,()),())) (L ((p6==4,()),()))) λy1=>L ((y1.1.1,()),())
def KR:=
 letI b:=(0:Int)
 letI a:=pf.getD qf.toNat (y N N N N b b b b b b b b)
 letI c:=Q qf pf.length
 cond c (let z0:View:=a
 (Ez A B z x E F H D qf z0.H3 z0.Y2 z0.D3 z0.X3 z0.D0 z0.I0 z0.C3 z0.F3 z0.Q2 z0.M2 z0.Z1 z0.Q1 po qp).bind λy1=>cond c (let z1:View:=a
 (Hj z1.H3 z1.Y2 z1.D3 z1.X3 z1.D0 z1.I0 z1.C3 z1.F3 z1.Q2 z1.M2 z1.Z1 z1.Q1).bind λy2=>cond y2.1.1 (L (((),()),(((1:Int),y1.1.1,()),()))) (L (((),()),((b,y1.1.1,()),())))) O) O
def IJ:=
 cond ((A==z)&&((B==x)&&W)) (L ((N,()),())) (R (cond (P (A<z)) (L ((W,()),())) (cond (A==z) (L ((P (B<x),()),())) (L ((N,()),())))) λy1=>L ((y1.1.1,()),()))
def FM:=
 letI d:=(r2,r3,uh,ui,uj,uk,ul,um,())
 letI b:=((pf,qf,po,qp,(),q2,(),rb,rg,U.wrap (q3+1),()),(d,(s1,s2,()),()))
 letI e:=(0:Int)
 cond (P (q3<rg)) (cond (Q q3 rb.length) (cond (! (rb.getD q3.toNat (y N N N N e e e e e e e e)).H3) (L (S b)) (cond (q3==qp) (L (S b)) ((KR r2 r3 uh ui uj uk ul um pf q3 qf po).bind λy1=>letI g:=(d,(s1,s2,()),y1.2.1,())
 R (cond (q2==(- 1:Int)) (L ((pf,qf,po,qp,(),q2,(),q3,(),rb,rg,q3,W,()),g)) ((IJ y1.2.1.1 y1.2.1.2.1 s1 s2).bind λy2=>L ((pf,qf,po,qp,(),q2,(),q3,(),rb,rg,q3,y2.1.1,()),g))) λy3=>letI f:=y3.1.2.2
 letI h:=f.2
 letI a:=h.2.2.2.2.2.2
 letI c:=((),a.1,a.2.1,U.wrap (a.2.2.1+1),())
 cond a.2.2.2.1 (L (S ((y3.1.1,y3.1.2.1,f.1,h.1,(),h.2.2.2.2.1,c),(y3.2.1,y3.2.2.2.1,())))) (L (S ((y3.1.1,y3.1.2.1,f.1,h.1,(),h.2.2.1,c),(y3.2.1,y3.2.2.1,()))))))) O) (L (V ((q2,()),())))
def Jq:=lp FM
def GS:=
 letI a:=(pf.length:Int)
 letI b:=(0:Int)
 letI c:=(((- 1:Int),()),())
 (AU A B z x E F H D).bind λy1=>cond (y1.1.1 !=b) (L c) (cond (a !=(D.length:Int)) (L c) ((Jq ((pf,qf,po,qp,(),(- 1:Int),(),pf,a,b,()),((A,B,z,x,E,F,H,D,()),(b,b,()),()))).bind λy2=>L ((y2.1.1,()),())))
def GD(p12:Int)(p13:Bool)(p14:Int):=
 letI b:=(0:Int)
 letI d:=y N N N N b b b b b b b b
 letI h:=KR A B z x E F H D pf
 (GS A B z x E F H D pf qf po qp).bind λy1=>letI l:=y1.1.1
 cond (l==(- 1:Int)) (L ((l,()),())) (cond (Q qp pf.length) (let z0:=pf.getD qp.toNat d
 letI a:=((A,B,z,x,E,F,H,D,pf,()),(z0.H3,z0.Y2,z0.D3,z0.X3,z0.D0,z0.I0,z0.C3,z0.F3,z0.Q2,z0.M2,z0.Z1,z0.Q1,()),())
 letI j:=(((),l,(),N,()),a)
 R (cond z0.D3 (cond (p14==b) ((h l qf po).bind λy2=>(h qp qf po).bind λy3=>(IJ y2.2.1.1 y2.2.1.2.1 y3.2.1.1 y3.2.1.2.1).bind λy4=>L (((),l,(),y4.1.1,()),a)) (L j)) (L j)) λy5=>letI c:=y5.2.2.1.2.2
 letI e:=c.2.2.2
 letI f:=y5.1.2.1
 letI g:=e.2.2
 letI k:=y5.2.1.2.2.2.2.2.2.2.2.1
 letI m:=((f,N,()),())
 letI n:=g.2
 R (cond y5.1.2.2.2.1 (L ((f,W,()),())) (cond (! c.1) ((Hj y5.2.2.1.1 y5.2.2.1.2.1 c.1 c.2.1 c.2.2.1 e.1 e.2.1 g.1 n.1 n.2.1 n.2.2.1 n.2.2.2.1).bind λy6=>cond y6.1.1 (cond (Q f k.length) (let z1:=k.getD f.toNat d
 (Hj z1.H3 z1.Y2 z1.D3 z1.X3 z1.D0 z1.I0 z1.C3 z1.F3 z1.Q2 z1.M2 z1.Z1 z1.Q1).bind λy7=>L ((f,! y7.1.1,()),())) O) (L m)) (L m))) λy8=>cond y8.1.2.1 (L ((y8.1.1,()),())) (L (((- 1:Int),()),()))) O)
def FX:=
 letI a:=(0:Int)
 letI s:=(qf,po,qp,q2,s3,())
 letI c:=((A,B,z,x,E,F,H,D,pf,()),s,(a,a,a,a,N,()),())
 letI g:=y N N N N a a a a a a a a
 letI k:=((),())
 letI u:=(- 1:Int)
 let z0:Int:=(D.length:Int)
 cond (qp==(- 2:Int)) (L (k,(s,()))) (cond (qp==u) ((GS A B z x E F H D pf qf po u).bind λy1=>L (k,((qf,po,y1.1.1,q2,s3,()),()))) (R (cond (Q qp pf.length) (cond (pf.getD qp.toNat g).X3 (L ((qr,(),(),(),z0,decide (z0<q2),()),c)) (L ((qr,(),(),(),z0,N,()),c))) O) λy2=>letI b:=y2.2.2.1
 letI n:=y2.2.1
 letI w:=n.2
 letI d:=w.2.2.2
 letI e:=b.2
 letI j:=e.2
 letI l:=d.2.2
 letI m:=j.2
 letI q:=(n,b,y2.2.2.2.1,())
 letI v:=l.2.2.1
 cond y2.1.2.2.2.2.2.1 (L (k,((b.1,e.1,(- 2:Int),m.1,m.2.1,()),()))) (cond (Q j.1 v.length) (cond (v.getD j.1.toNat g).X3 ((GS n.1 w.1 w.2.1 w.2.2.1 d.1 d.2.1 l.1 l.2.1 v b.1 e.1 j.1).bind λy3=>L (k,((b.1,e.1,y3.1.1,U.wrap (m.1+1),m.2.1,()),()))) (R (cond (! m.2.1) (L ((y2.1.1,(),(),(),decide (m.1≤y2.1.2.2.2.2.1),()),q)) (L ((y2.1.1,(),(),(),N,()),q))) λy4=>letI f:=y4.2.2.1
 letI h:=y4.2.1.2.2.2
 letI o:=f.2
 letI r:=h.2
 letI aa:=r.2
 letI ab:=o.2
 cond y4.1.2.2.2.2.1 ((GD y4.2.1.1 y4.2.1.2.1 y4.2.1.2.2.1 h.1 r.1 aa.1 aa.2.1 aa.2.2.1 aa.2.2.2.1 f.1 o.1 ab.1 ab.2.1 ab.2.2.1 y4.1.1).bind λy5=>cond (y5.1.1 !=u) (L (k,((f.1,o.1,y5.1.1,U.wrap (ab.2.1+1),W,()),()))) (L (k,(f,())))) (L (k,(f,()))))) O)))
def Kl:=
 letI b:=((A,B,z,x,pn,()),(pp,pu,qe,qb,qn,()),())
 R (R (cond (x !=qb) (L (((),(),([]:List X),W,()),b)) (L (((),(),([]:List X),! (pn==qn),()),b))) λy1=>letI a:=y1.2.2.1
 letI c:=y1.1.2.2.1
 letI d:=Z 7 a.1 a.2.1
 letI e:=(y1.2.1,a,())
 letI g:=a.2.2.2
 letI h:=c.length
 cond y1.1.2.2.2.1 (cond g.2.1 (let z0:List (X):=[d (1:Int) g.1]
 cond ((h+z0.length).ble 2147483648) (L (((),(),c++z0,()),e)) O) (let z1:List (X):=[d (0:Int) g.1]
 cond ((h+z1.length).ble 2147483648) (L (((),(),c++z1,()),e)) O)) (L (((),(),c,()),e))) λy2=>letI f:=y2.2.2.1
 letI j:=y2.1.2.2.1
 cond (y2.2.1.2.2.1 !=f.2.2.1) (let z2:List (X):=[Z 3 f.1 f.2.1 f.2.2.1 0]
 cond ((j.length+z2.length).ble 2147483648) (L ((j++z2,()),())) O) (L ((j,()),()))
def GV:=
 letI a:=(0:Int)
 letI h:=po.toNat
 letI q:=Q po I.length
 letI s:=I.getD h a
 cond (P (po<qf)) (cond (Q po sr.length) (let z0:=sr.getD h (aC a a a a N)
 cond q ((FX un uo up uq ur us ut uu rb z0.D0 z0.I0 z0.S0 z0.B1 z0.B2 s).bind λy1=>letI c:=((qp,q2,rv,rw,ry,rz,r0,r1,()),(un,uo,up,uq,ur,us,ut,uu,rb,()),(z0.D0,z0.I0,z0.S0,z0.B1,z0.B2,()),y1.2.1,())
 letI j:=y1.2.1.2.2
 (Kl z0.D0 z0.I0 z0.S0 z0.B1 z0.B2 y1.2.1.1 y1.2.1.2.1 j.1 j.2.1 j.2.2.1).bind λy2=>cond ((s4.length+y2.1.1.length).ble 2147483648) (let z1:List (X):=s4++y2.1.1
 cond q (let z2:Int:=U.wrap (s-1)
 cond (Q po sf.length) (let z3:=sf.set h (cond (P (z2<a)) a z2)
 R (cond (j.1 !=z0.S0) (L ((I,pf,(),(),z1,z3,po,(),(),sr,qf,po,decide (a≤j.1),()),c)) (L ((I,pf,(),(),z1,z3,po,(),(),sr,qf,po,N,()),c))) λy3=>letI b:=y3.1.2.2.2.2
 letI g:=b.2
 letI k:=g.2.2.2.2
 letI d:=(k.1,k.2.1,U.wrap (k.2.2.1+1),())
 letI n:=y3.2
 letI r:=n.2
 letI e:=r.2.2.1.2.2.1
 letI o:=n.1
 letI f:=o.2.2.2
 letI m:=f.2.2
 letI u:=y3.1.2.1
 letI v:=m.2.2.1
 letI w:=(o,r.1,())
 cond k.2.2.2.1 (cond (Q e u.length) (let z4:=u.getD e.toNat (y N N N N a a a a a a a a)
 (Ez o.1 o.2.1 o.2.2.1 f.1 f.2.1 m.1 m.2.1 v e z4.H3 z4.Y2 z4.D3 z4.X3 z4.D0 z4.I0 z4.C3 z4.F3 z4.Q2 z4.M2 z4.Z1 z4.Q1 r.2.1.1 r.2.1.2.1).bind λy4=>cond (Q e v.length) (let z5:Int:=U.wrap (y4.1.1+(v.getD e.toNat (Car.mk a a a a a a a a a)).I2)
 cond (Q g.2.1 g.1.length) (L (S ((y3.1.1,u,(),(),b.1,g.1.set g.2.1.toNat (cond (P (1000000<z5)) (1000000:Int) z5),d),w))) O) O) O) (L (S ((y3.1.1,u,(),(),b.1,g.1,d),w)))) O) O) O) O) O) (L (V ((s4,sf,()),())))
def LH:=lp GV
def Iq:=
 letI a:=List X
 letI b:=((1:Int),())
 letI c:=(pr.length:Int)
 letI d:=(pc.length:Int)
 letI e:=List Int
 letI f:=(0:Int)
 (Cn A B z x E F H D J pa pb pc).bind λy1=>cond (! y1.1.1) (L ((([]:a),([]:e),b),())) (cond (c !=d) (L ((([]:a),([]:e),b),())) (cond ((pf.length:Int) !=(D.length:Int)) (L ((([]:a),([]:e),b),())) ((BC pr).bind λy2=>cond y2.1.1 (L ((([]:a),([]:e),b),())) (let z0:Int:=c
 cond ((P (f≤z0)&&decide (z0≤z0))&&decide (z0≤2147483648)) ((LH ((pr,pf,(),(),([]:a),aE z0.toNat f,pc,d,f,()),((A,B,z,x,E,F,H,D,()),(A,B,z,x,E,F,H,D,pf,()),()))).bind λy3=>L ((y3.1.1,y3.1.2.1,f,()),())) O))))
def LA:=
 letI c:=(0:Int)
 letI e:=List Bool
 letI h:=List Int
 letI j:=(c,c,c,c,())
 letI n:=(A,B,z,x,E,F,H,D,())
 letI o:=List X
 letI s:=List i
 letI u:=List p
 letI ad:=((),(1:Int),())
 (LC A B z x E F H D pf sj).bind λy1=>cond (y1.1.2.1 !=c) (L (ad,((([]:o),([]:h),([]:e),([]:e),([]:s),([]:h),([]:u),([]:e),j),()))) ((Cn A B z x E F H D J pa pb pc).bind λy2=>cond (! y2.1.1) (L (ad,((([]:o),([]:h),([]:e),([]:e),([]:s),([]:h),([]:u),([]:e),j),()))) ((Ig J pa pb pc pr).bind λy3=>cond (! y3.1.1) (L (ad,((([]:o),([]:h),([]:e),([]:e),([]:s),([]:h),([]:u),([]:e),j),()))) ((Nd J pa pb pc).bind λy4=>letI aa:=y4.2.1
 letI ab:=aa.2
 letI ap:=ab.2
 (BI pr).bind λy5=>(OG (pf.length:Int)).bind λy6=>R (cond s3 ((LD A B z x E F H D J pa pb pc pf).bind λy7=>(Bz y7.1.1 [] aa.1 ab.1 ap.1 ap.2.1 y5.1.1 y1.2.1.1 y1.2.1.2.1 y1.2.1.2.2.1 y1.2.1.2.2.2.1 c c A B z x E F H D).bind λy8=>letI m:=y8.2.1.2.2.2
 letI aj:=m.2
 letI aq:=aj.2
 letI b:=aq.2.2.2
 letI av:=b.2
 letI g:=av.2.2.2
 letI v:=g.2.2
 letI ak:=v.2
 letI ar:=ak.2
 (GU J pa pb pc).bind λy9=>(Db rg q3 y9.2.1.1 y9.2.1.2.1 y8.2.1.1 y8.2.1.2.1 y8.2.1.2.2.1 m.1 aj.1 aq.1 aq.2.1 aq.2.2.1 b.1 av.1 av.2.1 av.2.2.1 g.1 g.2.1 v.1 ak.1 ar.1 ar.2.1 ar.2.2.1 ar.2.2.2.1).bind λy10=>L ((pf,(),(),(),()),(n,(([]:o),([]:h),([]:e),([]:e),([]:s),([]:h),([]:u),([]:e),j),y10.2.1,()))) (L ((pf,(),(),(),()),(n,(([]:o),([]:h),([]:e),([]:e),([]:s),([]:h),([]:u),([]:e),j),(([]:o),aa.1,ab.1,ap.1,ap.2.1,y5.1.1,y6.2.1.1,y6.2.1.2.1,y6.2.1.2.2.1,y6.2.1.2.2.2.1,c,c,n),())))) λy11=>letI k:=y11.2.2.2.1.2
 letI ag:=k.2
 letI a:=ag.2.2
 letI r:=a.2
 letI ah:=r.2
 letI am:=ah.2
 letI d:=am.2.2.2
 letI l:=d.2.2.2
 letI q:=y11.2.1.2.2
 letI w:=l.2.2
 letI af:=q.2
 letI al:=af.2
 letI au:=w.2
 (Iq y11.2.1.1 y11.2.1.2.1 q.1 af.1 al.1 al.2.1 al.2.2.1 al.2.2.2.1 k.1 ag.1 ag.2.1 a.1 r.1 y11.1.1).bind λy12=>(Bz y12.1.1 y11.2.2.2.1.1 k.1 ag.1 ag.2.1 a.1 r.1 ah.1 am.1 am.2.1 am.2.2.1 d.1 d.2.1 d.2.2.1 l.1 l.2.1 w.1 au.1 au.2.1 au.2.2.1 au.2.2.2.1).bind λy13=>letI ae:=y13.2.1.2
 letI an:=ae.2
 letI f:=an.2.2.2.2
 letI ai:=f.2
 letI ao:=ai.2
 L (((),c,()),((y13.2.1.1,ae.1,an.1,an.2.1,an.2.2.1,y12.1.2.1,f.1,ai.1,ao.1,ao.2.1,ao.2.2.1,ao.2.2.2.1,()),())))))
def Ev:=
 letI a:=(0:Int)
 letI b:=aB a a N a a N a a N
 letI c:=B.toNat
 cond (P (B<A)) (cond (Q B q6.length) (let z0:=q6.getD c (Calls.mk a a)
 cond (Q B ri.length) (cond (Q B qu.length) (let z1:Nat:=c
 let z2:=qu.getD z1 b
 let z3:=qu.set z1 (aB z2.D2 z2.X1 z2.N2 z0.Up z0.R3 z2.Q5 z2.V3 z2.B5 z2.S5)
 cond (Q B z3.length) (let z4:Nat:=c
 let z5:=z3.getD z4 b
 L (S (((),(),A,U.wrap (B+1),()),((sk,I,qz,q0,pi,sl,q6,ri,z,x,pw,px,()),(qo,qx,rj,rl,E,F,H,D,J,pa,pb,pc,qg,qh,pd,qi,qj,py,qk,pr,qd,pg,pj,pm,ph,pt,pz,qa,qq,pn,pp,pu,pv,qs,qt,qe,qb,ql,qm,qn,qv,qw,z3.set z4 (aB z5.D2 z5.X1 z5.N2 z5.J2 z5.E2 (ri.getD c N) z5.V3 z5.B5 z5.S5),()),())))) O) O) O) O) (L (V ((),((qo,qx,rj,rl,E,F,H,D,J,pa,pb,pc,qg,qh,pd,qi,qj,py,qk,pr,qd,pg,pj,pm,ph,pt,pz,qa,qq,pn,pp,pu,pv,qs,qt,qe,qb,ql,qm,qn,qv,qw,qu,()),()))))
def Cd:=lp Ev
def Eu:=
 letI e:=(qn,qv,qw,qu,())
 letI c:=(sk,I,qz,q0,pi,sl,q6,ri,z,x,pw,px,())
 letI a:=(c,(qo,qx,rj,rl,E,F,H,D,J,pa,pb,pc,qg,qh,pd,qi,qj,py,qk,pr,qd,pg,pj,pm,ph,pt,pz,qa,qq,pn,pp,pu,pv,qs,qt,qe,qb,ql,qm,e),())
 letI b:=((),(),qc,A,U.wrap (B+1),())
 letI d:=(0:Int)
 cond (P (B<A)) (cond (Q B qc.length) (let z0:=qc.getD B.toNat (Z d d d d d)
 cond (z0.R0==2) ((Ea z0.D0 z0.I0).bind λy1=>(CO ql qm y1.2.1.1 y1.2.1.2.1).bind λy2=>L (S (b,(c,(qo,qx,rj,rl,E,F,H,D,J,pa,pb,pc,qg,qh,pd,qi,qj,py,qk,pr,qd,pg,pj,pm,ph,pt,pz,qa,qq,pn,pp,pu,pv,qs,qt,qe,qb,y2.2.1.1,y2.2.1.2.1,e),())))) (L (S (b,a)))) O) (L (V (((),(),()),a)))
def Cc:=lp Eu
def Dc:=
 letI ae:=((),(),())
 letI av:=(0:Int)
 (DL (machine_ticker.mk A B z x E F H D J pa pb pc qg qh pd qi qj py qk pr qd pg pj pm ph pt pz qa qq pn pp pu pv qs qt qe qb ql qm qn qv qw qu)).bind λy1=>(LA A B z x E F H D J pa pb pc pr y1.1.1 qd ph pt pn).bind λy2=>R (L (ae,(y2.2.1,(A,B,z,x,E,F,H,D,J,pa,pb,pc,qg,qh,pd,qi,qj,py,qk,pr,qd,pg,pj,pm,ph,pt,pz,qa,qq,pn,pp,pu,pv,qs,qt,qe,qb,ql,qm,qn,qv,qw,qu,()),()))) λy3=>letI r:=y3.2.2.1.2.2
 letI ai:=r.2.2
 letI aw:=ai.2
 letI f:=aw.2.2.2
 letI bd:=f.2
 letI l:=bd.2.2.2
 letI aa:=l.2.2
 letI ak:=aa.2
 letI ax:=ak.2
 letI b:=ax.2.2.2
 letI be:=b.2
 letI q:=be.2.2.2
 letI aj:=q.2.2
 letI ay:=aj.2
 letI e:=ay.2.2.2
 letI ar:=e.2
 letI az:=ar.2
 letI k:=az.2.2.2
 letI v:=k.2.2.2
 letI au:=v.2
 letI ba:=au.2
 R ((AY y3.2.1.1 y3.2.2.1.1 y3.2.2.1.2.1 r.1 r.2.1 ai.1 aw.1 aw.2.1 aw.2.2.1 f.1 bd.1 bd.2.1 bd.2.2.1 l.1 l.2.1 aa.1 ak.1 ax.1 ax.2.1 ax.2.2.1 b.1 be.1 be.2.1 be.2.2.1 q.1 q.2.1 aj.1 ay.1 ay.2.1 ay.2.2.1 e.1 ar.1 az.1 az.2.1 az.2.2.1 k.1 k.2.1 k.2.2.1 v.1 au.1 ba.1 ba.2.1 ba.2.2.1 ba.2.2.2.1).bind λy4=>match y4 with
 | .inl y5=>
 L (ae,(y3.2.1,y5.2.1,()))
 | .inr y5=>
 L (ae,(y3.2.1,y5.2.1,()))) λy6=>letI al:=y6.2.2.1
 letI j:=al.2.2
 letI u:=j.2.2
 letI af:=u.2
 letI am:=af.2
 letI d:=am.2.2
 letI ag:=d.2
 letI an:=ag.2
 letI h:=an.2.2
 letI n:=h.2.2
 letI w:=n.2
 letI ah:=w.2
 letI ao:=ah.2
 letI a:=ao.2.2.2.2
 letI s:=a.2.2
 letI ab:=s.2.2
 letI ap:=ab.2
 letI bb:=ap.2
 letI g:=bb.2.2.2
 letI bg:=g.2
 letI m:=bg.2.2.2
 letI o:=y6.2.1.2.2.2.2.2
 letI ad:=m.2.2
 letI aq:=ad.2
 letI bc:=aq.2
 letI bf:=o.2
 let z0:Bool:=! ((bf.2.2.2.2.1==av)&&((bf.2.2.2.2.2.1==av)&&W))
 letI c:=(s.2.1,ab.1,ap.1,bb.1,bb.2.1,bb.2.2.1,g.1,bg.1,bg.2.1,bg.2.2.1,m.1,m.2.1,ad.1,aq.1,bc.1,bc.2.1,z0,bc.2.2.2.1,bc.2.2.2.2.1,())
 R (cond z0 ((HJ s.1).bind λy7=>L (ae,(y6.2.1,(al.1,al.2.1,j.1,j.2.1,u.1,af.1,am.1,am.2.1,d.1,ag.1,an.1,an.2.1,h.1,h.2.1,n.1,w.1,ah.1,ao.1,ao.2.1,o.1,bf.1,a.1,a.2.1,y7.1.1,c),()))) (L (ae,(y6.2.1,(al.1,al.2.1,j.1,j.2.1,u.1,af.1,am.1,am.2.1,d.1,ag.1,an.1,an.2.1,h.1,h.2.1,n.1,w.1,ah.1,ao.1,ao.2.1,o.1,bf.1,a.1,a.2.1,s.1,c),())))) λy8=>(Cc (((),(),y8.2.1.1,(y8.2.1.1.length:Int),av,()),(y8.2.1,y8.2.2.1,()))).bind λy9=>(Cd (((),(),(y9.2.2.1.2.2.2.2.2.2.2.2.2.2.2.2.2.2.2.2.2.2.2.2.2.2.2.2.2.2.2.2.2.2.2.2.2.2.2.2.2.2.2.2.2.2.1.length:Int),av,()),(y9.2.1,y9.2.2.1,()))).bind λy10=>L ((),(y10.2.1,()))
def Ba:=
 letI a:=((rp,rq,rr,()),())
 letI b:=(0:Int)
 cond (P (q1<ra)) (let z0:Int:=U.wrap (Int.fdiv (t IntKind.u64 (t U (q1+ra))) ((2:Int)^Min.min (Int.toNat (1:Int)) (IntKind.bits IntKind.u64)))
 cond (Q z0 pq.length) (let z1:=pq.getD z0.toNat (Duty.mk b b b)
 (Da z1.D0 z1.I0 z1.C5 rp rq rr).bind λy1=>cond (P (y1.1.1<b)) (L (S ((pq,(),(),qr,U.wrap (z0+1),ra,()),a))) (L (S ((pq,(),(),qr,q1,z0,()),a)))) O) (L (V ((pq,(),(),qr,q1,()),a)))
def Ar:=lp Ba
def AN:=
 letI b:=(0:Int)
 let z0:Int:=(pq.length:Int)
 (Ar ((pq,(),(),z0,b,z0,()),((qr,q1,ra,()),()))).bind λy1=>letI a:=y1.1.2.2.2.2.1
 R (cond (P (a<y1.1.2.2.2.1)) (cond (Q a y1.1.1.length) (let z1:Duty:=y1.1.1.getD a.toNat (Duty.mk b b b)
 (Da z1.D0 z1.I0 z1.C5 y1.2.1.1 y1.2.1.2.1 y1.2.1.2.2.1).bind λy2=>L ((a,y2.1.1==b,()),())) O) (L ((a,N,()),()))) λy3=>L ((y3.1.1,y3.1.2.1,()),())
def CE:=
 Abd pq qr uv
def Ng:=
 letI a:=((ss,st,s0,uv,u4,u5,()),())
 letI b:=((),(),pi,z,U.wrap (x+1),())
 letI c:=(0:Int)
 letI d:=((pw,px,qo,pq,qr,q4,()),a)
 cond (P (x<z)) (cond (Q x pi.length) (let z0:=pi.getD x.toNat (aC c c c c N)
 (AN pq z0.D0 z0.I0 c).bind λy1=>cond (! y1.1.2.1) ((CE pq y1.1.1 [Duty.mk z0.D0 z0.I0 c]).bind λy2=>L (S (b,((pw,px,qo,y2.1.1,qr,q4,()),a)))) (L (S (b,d)))) O) (L (V (((),(),()),d)))
def Hu:=lp Ng
def Ly:=
 letI a:=(0:Int)
 (Co A B z x E F H D pd pg pj pm pq qr q4).bind λy1=>cond (! y1.1.1) (L (((),(1:Int),()),((a,a,a,([]:List Duty),a,N,()),()))) (let z0:Int:=(pq.length:Int)
 cond ((P (a≤z0)&&decide (z0≤z0))&&decide (z0≤2147483648)) ((Fl A B z x E F H D).bind λy2=>(DT ss st y2.2.1.1 y2.2.1.2.1).bind λy3=>(LU y3.2.1.1 y3.2.1.2.1).bind λy4=>(Hu (((),(),y4.1.1,(y4.1.1.length:Int),a,()),((pg,pj,pm,KG (aE z0.toNat (Duty.mk a a a)) pq,qr,q4,()),(a,a,a,([]:List Duty),a,N,()),()))).bind λy5=>letI b:=y5.2.1.2
 letI c:=b.2
 letI d:=c.2
 R (cond d.2.2.1 (L (((),(),()),((y5.2.1.1,b.1,c.1,d.1,d.2.1,(d.1.length:Int)==a,()),y5.2.2.1,()))) (L (((),(),()),((y5.2.1.1,b.1,c.1,d.1,d.2.1,N,()),y5.2.2.1,())))) λy6=>L (((),a,()),(y6.2.1,()))) O)
def Mx:=
 R (cond (A==0) (L ((W,()),())) (L ((A==1,()),()))) λy1=>L ((y1.1.1,()),())
def Oe:=
 letI a:=(0:Int)
 letI b:=(A,(),(),(),pq,qr,U.wrap (q1+1),())
 letI c:=((uw,ux,q4,()),(ss,st,uy,()),())
 letI d:=(ra,rp,rq,rr,u6,u7,u8,s5,())
 cond (P (q1<qr)) (cond (Q q1 pq.length) (let z0:=pq.getD q1.toNat (Duty.mk a a a)
 cond (Q A s5.length) (cond (P (z0.C5<(s5.getD A.toNat (Car.mk a a a a a a a a a)).G3)) ((Ea z0.D0 z0.I0).bind λy1=>(CO ss st y1.2.1.1 y1.2.1.2.1).bind λy2=>L (S (b,(d,(uw,ux,q4,()),(y2.2.1.1,y2.2.1.2.1,uy,()),())))) (L (S (b,(d,c))))) O) O) (L (V (((),(),()),c)))
def Kt:=lp Oe
def Mw:=
 letI a:=(0:Int)
 letI b:=(((),()),((a,a,W,()),()))
 (Mx pg).bind λy1=>cond (! y1.1.1) (L b) ((Co A B z x E F H D pd pj pm ph pq qr q4).bind λy2=>cond (! y2.1.1) (L b) ((Kt ((pd,(),(),(),pq,(pq.length:Int),a,()),((A,B,z,x,E,F,H,D,()),(a,a,N,()),(a,a,N,()),()))).bind λy3=>L (((),()),(y3.2.2.1,()))))
def Kq:=
 R (cond (B==0) (L ((W,()),())) (cond (A==3) (L ((W,()),())) (L ((A==4,()),())))) λy1=>L ((y1.1.1,()),())
def ES:=
 letI q:=(0:Int)
 letI e:=aB q q N q q N q q N
 letI g:=((pw,px,qo,qx,E,F,H,D,J,pa,pb,pc,qg,qh,pd,qi,qj,py,qk,pr,qd,pg,pj,pm,ph,pt,pz,qa,qq,pn,pp,pu,pv,qs,qt,qe,qb,ql,qm,qn,qv,qw,qu,()),())
 letI cy:=aD q q q
 cond (P (x<z)) (cond (Q x I.length) (let z0:Int:=I.getD x.toNat q
 R (R ((Ft z0).bind λy1=>cond y1.1.1 (cond (Q x pa.length) (L (((),x,z0,I,z,x,! pa.getD x.toNat N,()),g)) O) (L (((),x,z0,I,z,x,N,()),g))) λy2=>letI cx:=y2.2.1
 letI ad:=cx.2
 letI al:=ad.2
 letI bb:=al.2
 letI cd:=bb.2
 letI h:=cd.2
 letI cz:=h.2
 letI s:=cz.2
 letI af:=s.2.2
 letI aq:=af.2
 letI bc:=aq.2
 letI bq:=bc.2
 letI ce:=bq.2
 letI b:=ce.2.2.2
 letI bw:=b.2
 letI cg:=bw.2
 letI aa:=cg.2.2.2
 letI az:=aa.2.2
 letI bs:=az.2
 letI ch:=bs.2
 letI f:=ch.2.2.2
 letI bo:=f.2.2
 letI ci:=bo.2
 letI r:=ci.2.2.2
 letI ae:=y2.1.2
 letI bp:=ae.2
 letI cc:=bp.2
 letI ba:=ae.1
 letI ai:=((),ba,bp.1,cc.1,cc.2.1,cc.2.2.1,())
 letI ax:=r.2.2.2
 letI bn:=Q ba b.1.length
 letI bt:=ax.2
 letI cj:=bt.2
 letI dg:=ba.toNat
 cond cc.2.2.2.1 (cond bn (let z1:Belief:=b.1.getD dg (cy [] q N)
 (HI cx.1 ad.1 al.1 bb.1 cd.1 h.1 cz.1 s.1 s.2.1 af.1 aq.1 bc.1 ba).bind λy3=>(Ly cx.1 ad.1 al.1 bb.1 cd.1 h.1 cz.1 s.1 ba z1.D0 z1.I0 z1.E3 z1.U0 z1.V2 z1.N3 y3.2.1.1 y3.2.1.2.1).bind λy4=>letI br:=y4.2.1.2
 letI cf:=br.2
 cond bn (L (ai,((cx.1,ad.1,al.1,bb.1,cd.1,h.1,cz.1,s.1,s.2.1,af.1,aq.1,bc.1,bq.1,ce.1,ce.2.1,ce.2.2.1,b.1.set dg (aD y4.2.1.1 br.1 cf.1 cf.2.1 cf.2.2.1 cf.2.2.2.1),bw.1,cg.1,cg.2.1,cg.2.2.1,aa.1,aa.2.1,az.1,bs.1,ch.1,ch.2.1,ch.2.2.1,f.1,f.2.1,bo.1,ci.1,ci.2.1,ci.2.2.1,r.1,r.2.1,r.2.2.1,ax.1,bt.1,cj.1,cj.2.1,cj.2.2.1,cj.2.2.2.1,()),()))) O) O) (L (ai,(cx,())))) λy5=>letI ao:=y5.2.1
 letI au:=ao.2
 letI bu:=au.2
 letI l:=bu.2
 letI bz:=l.2
 letI u:=bz.2
 letI ak:=u.2
 letI ay:=ak.2
 letI cq:=ay.2
 letI d:=cq.2
 letI ag:=d.2
 letI am:=ag.2
 letI bd:=am.2
 letI cr:=bd.2
 letI k:=cr.2
 letI dd:=k.2
 letI w:=dd.2
 letI av:=w.2
 letI be:=av.2
 letI cs:=be.2
 letI a:=cs.2
 letI aw:=a.2
 letI bf:=aw.2
 letI ct:=bf.2
 letI m:=ct.2
 letI de:=m.2
 letI v:=de.2
 letI ah:=v.2
 letI an:=ah.2
 letI bg:=an.2
 letI cu:=bg.2
 letI c:=cu.2
 letI bi:=c.2
 letI cv:=bi.2
 letI j:=cv.2
 letI bj:=j.2
 letI cw:=bj.2
 letI n:=cw.2
 letI aj:=y5.1.2
 letI bm:=aj.2
 letI o:=((),bm.2.1,bm.2.2.1,U.wrap (bm.2.2.2.1+1),())
 letI df:=n.2
 letI ab:=df.2
 letI bk:=aj.1
 letI ap:=bk.toNat
 letI ar:=ab.2
 letI bl:=ar.2
 letI bv:=Q bk
 letI bx:=w.1
 letI ca:=d.1
 letI cb:=j.1
 letI ck:=ao.1
 letI cl:=au.1
 letI cm:=bu.1
 letI cn:=bz.1
 letI co:=ak.1
 letI cp:=ay.1
 letI da:=bl.2.1
 letI db:=l.1
 letI dc:=u.1
 cond (bv da.length) (let z2:Nat:=ap
 cond (bv bx.length) (let z3:=bx.getD ap (cy [] q N)
 (Mw ck cl cm db cn dc co cp bk bm.1 z3.D0 z3.I0 z3.E3 z3.U0 z3.V2 z3.N3).bind λy6=>cond (bv ca.length) (let z4:=da.getD z2 e
 let z5:=da.set z2 (aB y6.2.1.1 y6.2.1.2.1 y6.2.1.2.2.1 z4.J2 z4.E2 z4.Q5 z4.V3 z4.B5 z4.S5)
 let z6:=z5.getD z2 e
 let z7:=z5.set z2 (aB z6.D2 z6.X1 z6.N2 z6.J2 z6.E2 z6.Q5 z6.V3 bm.1 z6.S5)
 let z8:=z7.getD z2 e
 let z9:=z7.set z2 (aB z8.D2 z8.X1 z8.N2 z8.J2 z8.E2 z8.Q5 z8.V3 z8.B5 (ca.getD ap N))
 letI bh:=z9.getD z2 e
 cond (bv cb.length) (cond (cb.getD ap N) (let z10:CarOutput:=bh
 L (S (o,((ck,cl,cm,db,cn,dc,co,cp,cq.1,ca,ag.1,am.1,bd.1,cr.1,k.1,dd.1,bx,av.1,be.1,cs.1,a.1,aw.1,bf.1,ct.1,m.1,de.1,v.1,ah.1,an.1,bg.1,cu.1,c.1,bi.1,cv.1,cb,bj.1,cw.1,n.1,df.1,ab.1,ar.1,bl.1,z9.set z2 (aB z10.D2 z10.X1 z10.N2 z10.J2 z10.E2 z10.Q5 q z10.B5 z10.S5),()),())))) ((Kq bm.1 bh.V3).bind λy7=>cond (! y7.1.1) (let z11:CarOutput:=bh
 L (S (o,((ck,cl,cm,db,cn,dc,co,cp,cq.1,ca,ag.1,am.1,bd.1,cr.1,k.1,dd.1,bx,av.1,be.1,cs.1,a.1,aw.1,bf.1,ct.1,m.1,de.1,v.1,ah.1,an.1,bg.1,cu.1,c.1,bi.1,cv.1,cb,bj.1,cw.1,n.1,df.1,ab.1,ar.1,bl.1,z9.set z2 (aB z11.D2 z11.X1 z11.N2 z11.J2 z11.E2 z11.Q5 q z11.B5 z11.S5),()),())))) (L (S (o,((ck,cl,cm,db,cn,dc,co,cp,cq.1,ca,ag.1,am.1,bd.1,cr.1,k.1,dd.1,bx,av.1,be.1,cs.1,a.1,aw.1,bf.1,ct.1,m.1,de.1,v.1,ah.1,an.1,bg.1,cu.1,c.1,bi.1,cv.1,cb,bj.1,cw.1,n.1,df.1,ab.1,ar.1,bl.1,z9,()),())))))) O) O) O) O) O) (L (V ((),g)))
def Cp:=lp ES
def DB(p35:Int)(p36:Int)(p37:Int)(p38:Int)(p39:Bool)(p40:Bool)(p41:Int)(p42:List CarOutput):=
 (GU J pa pb pc).bind λy1=>(Cp (((),J,(J.length:Int),(0:Int),()),((A,B,z,x,E,F,H,D,J,pa,pb,pc,qg,qh,pd,qi,qj,py,qk,pr,qd,pg,pj,pm,ph,pt,pz,qa,qq,pn,pp,pu,pv,qs,qt,y1.2.1.1,y1.2.1.2.1,p37,p38,! pn,p40,p41,p42,()),()))).bind λy2=>L ((),(y2.2.1,()))
end
end Go.Ovl
