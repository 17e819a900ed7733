/- What each function of the program comes to: part 4. -/
import Derived.Test.YtfkphlpmkolemaaGreatDoorDefs3
set_option linter.all false
open Option renaming some->L,none->P,bind->aA
open Bool renaming false->N,true->U
open Sum renaming inr->O,inl->Q
open Go.Ab renaming inB->R
open Decidable renaming decide->S
open Array renaming mk->V
open ByteArray renaming mk->W
open Go.IntKind renaming i64->X
open Go.Ovl renaming Debounced->aB,Outputs->aC,CarOutput->aD
namespace Go.Ovl
open Go Go.Ab
set_option maxRecDepth 100000
set_option synthInstance.maxSize 9999
set_option synthInstance.maxHeartbeats 999999
noncomputable section
variable(qe:List aC)(qr:List ByteArray)(x H pc pp q6 rm:Int)(pz qa qb:Nat)(pt:List Car)(z:List Int)(B C:List Bool)(D:List Entry)(pj pm:ByteArray)(ph:Int)(I:List aB)(J:List Belief)(pa:List NewCar)(pb:List Loaded)(A:List Int)(E:List Calls)(F pn po:Int)(qg:List Int)(pd pf:List Bool)(pg:List Entry)(pu qh:ByteArray)(pr:Int)(pv:List aB)(pw:List Belief)(px:List NewCar)(py:List Loaded)(qi:List Int)(pq:List Calls)(pi qc qd:Int)(q8:List CarInput)(qo:Bool)(q9 ra:Int)(rb:List Bool)(rc:List Calls)(rd:List Bool)(rf rg ri rj:Int)(qp rl:Bool)(qq:Int)(qf:List aD)(q7:List ByteArray)(qz q0 q1 q2:Int)(q3 q4:Bool)(q5:Int)(qm:List aD)(qj:List Duty)(qs:Int)(qt:Bool)(qu qv qw:Int)(ql:List Duty)(qx:Int)(qy:Bool)(qn:List aC)(qk:Int)
def Ek:=
 letI aj:=((),(),(),(),())
 letI bc:=(0:Int)
 aA ((DU x H pc pp pz qa qb pt z B C D pj pm ph I J pa pb A E F pn po pr pi qc qd q8 qo q9 ra rb rc rd rf rg ri rj qp rl qq qf).bind λy1=>match y1 with
 | .inl y2=>
 L (aj,(((),aj),y2.2.1,()))
 | .inr y2=>
 L (aj,(((),aj),y2.2.1,()))) λy3=>letI bq:=y3.2.2.1
 letI af:=bq.2.2
 letI au:=af.2.2
 letI br:=au.2
 letI j:=br.2.2.2
 letI bp:=j.2
 letI bs:=bp.2
 letI n:=bs.2.2.2
 letI ak:=n.2.2
 letI bh:=ak.2
 letI bt:=bh.2
 letI a:=bt.2.2.2
 letI cq:=a.2
 letI aa:=cq.2.2.2
 letI av:=aa.2.2
 letI bu:=av.2
 letI e:=bu.2.2.2
 letI bd:=e.2
 letI bv:=bd.2
 letI o:=bv.2.2.2
 letI al:=o.2.2
 letI bi:=al.2
 letI bw:=bi.2
 cond (bd.1 !=bc) (L (Q ((),(bq,())))) ((DT bq.1 bq.2.1 af.1 af.2.1 au.1 br.1 br.2.1 br.2.2.1 j.1 bp.1 bs.1 bs.2.1 bs.2.2.1 n.1 n.2.1 ak.1 bh.1 bt.1 bt.2.1 bt.2.2.1 a.1 cq.1 cq.2.1 cq.2.2.1 aa.1 aa.2.1 av.1 bu.1 bu.2.1 bu.2.2.1 e.1 bd.1 bv.1 bv.2.1 bv.2.2.1 o.1 o.2.1 al.1 bi.1 bw.1 bw.2.1 bw.2.2.1 bw.2.2.2.1).bind λy4=>letI cn:=y4.2.1
 letI ag:=cn.2.2.2
 letI aw:=ag.2.2
 letI bx:=aw.2
 letI k:=bx.2.2.2
 letI cr:=k.2
 letI u:=cr.2.2.2
 letI am:=u.2.2
 letI bj:=am.2
 letI bz:=bj.2
 letI b:=bz.2.2.2
 letI cs:=b.2
 letI ab:=cs.2.2.2
 letI ax:=ab.2.2
 letI ca:=ax.2
 letI f:=ca.2.2.2
 letI be:=f.2
 letI cb:=be.2
 letI q:=cb.2.2.2
 letI an:=q.2.2
 letI bk:=an.2
 letI cc:=bk.2
 cond (be.1 !=bc) (L (Q ((),(cn,())))) ((Cq cn.1 cn.2.1 cn.2.2.1 ag.1 ag.2.1 aw.1 bx.1 bx.2.1 bx.2.2.1 k.1 cr.1 cr.2.1 cr.2.2.1 u.1 u.2.1 am.1 bj.1 bz.1 bz.2.1 bz.2.2.1 b.1 cs.1 cs.2.1 cs.2.2.1 ab.1 ab.2.1 ax.1 ca.1 ca.2.1 ca.2.2.1 f.1 be.1 cb.1 cb.2.1 cb.2.2.1 q.1 q.2.1 an.1 bk.1 cc.1 cc.2.1 cc.2.2.1 cc.2.2.2.1).bind λy5=>letI co:=y5.2.1
 letI ah:=co.2.2.2
 letI ay:=ah.2.2
 letI cd:=ay.2
 letI l:=cd.2.2.2
 letI ct:=l.2
 letI v:=ct.2.2.2
 letI ao:=v.2.2
 letI bl:=ao.2
 letI ce:=bl.2
 letI c:=ce.2.2.2
 letI cu:=c.2
 letI ad:=cu.2.2.2
 letI az:=ad.2.2
 letI cf:=az.2
 letI g:=cf.2.2.2
 letI bf:=g.2
 letI cg:=bf.2
 letI r:=cg.2.2.2
 letI ap:=r.2.2
 letI bm:=ap.2
 letI ch:=bm.2
 cond (bf.1 !=bc) (L (Q ((),(co,())))) ((CS co.1 co.2.1 co.2.2.1 ah.1 ah.2.1 ay.1 cd.1 cd.2.1 cd.2.2.1 l.1 ct.1 ct.2.1 ct.2.2.1 v.1 v.2.1 ao.1 bl.1 ce.1 ce.2.1 ce.2.2.1 c.1 cu.1 cu.2.1 cu.2.2.1 ad.1 ad.2.1 az.1 cf.1 cf.2.1 cf.2.2.1 g.1 bf.1 cg.1 cg.2.1 cg.2.2.1 r.1 r.2.1 ap.1 bm.1 ch.1 ch.2.1 ch.2.2.1 ch.2.2.2.1).bind λy6=>letI cp:=y6.2.1
 letI ai:=cp.2.2.2
 letI ba:=ai.2.2
 letI ci:=ba.2
 letI m:=ci.2.2.2
 letI cv:=m.2
 letI w:=cv.2.2.2
 letI aq:=w.2.2
 letI bn:=aq.2
 letI cj:=bn.2
 letI d:=cj.2.2.2
 letI cw:=d.2
 letI ae:=cw.2.2.2
 letI bb:=ae.2.2
 letI ck:=bb.2
 letI h:=ck.2.2.2
 letI bg:=h.2
 letI cl:=bg.2
 letI s:=cl.2.2.2
 letI ar:=s.2.2
 letI bo:=ar.2
 letI cm:=bo.2
 cond (bg.1 !=bc) (L (Q ((),(cp,())))) ((Do cp.1 cp.2.1 cp.2.2.1 ai.1 ai.2.1 ba.1 ci.1 ci.2.1 ci.2.2.1 m.1 cv.1 cv.2.1 cv.2.2.1 w.1 w.2.1 aq.1 bn.1 cj.1 cj.2.1 cj.2.2.1 d.1 cw.1 cw.2.1 cw.2.2.1 ae.1 ae.2.1 bb.1 ck.1 ck.2.1 ck.2.2.1 h.1 bg.1 cl.1 cl.2.1 cl.2.2.1 s.1 s.2.1 ar.1 bo.1 cm.1 cm.2.1 cm.2.2.1 cm.2.2.2.1).bind λy7=>cond (y7.2.1.2.2.2.2.2.2.2.2.2.2.2.2.2.2.2.2.2.2.2.2.2.2.2.2.2.2.2.2.2.2.2.1 !=bc) (L (Q ((),(y7.2.1,())))) (L (O ((),(y7.2.1,()))))))))
def FT:=
 letI c:=(0:Int)
 letI h:=List Bool
 letI j:=List Int
 letI o:=(c,c,c,())
 letI w:=List Entry
 letI aa:=List aB
 letI ab:=List Belief
 letI ad:=List NewCar
 letI ae:=List Loaded
 letI af:=List Calls
 letI ag:=List aD
 (EK x H pc pp pz qa qb pt pu).bind λy1=>letI v:=y1.2.1.2
 let z0:Int:=(pt.length:Int)
 letI d:=(S (c≤z0)&&decide (z0≤z0))&&decide (z0≤2147483648)
 letI m:=z0.toNat
 letI q:=List.replicate m N
 cond d (cond d (cond d (cond d ((Cu I).bind λy2=>(CV J).bind λy3=>(CX pa).bind λy4=>(CW pb).bind λy5=>aA ((Ek x H pc pp pz qa qb pt z B C D pj pm ph y2.1.1 y3.1.1 y4.1.1 y5.1.1 A E F pn po y1.2.1.1 v.1 v.2.1 v.2.2.1 v.2.2.2.1 (y1.1.2.1==c) pr c q (List.replicate m (Calls.mk c c)) q c c c c N N c (List.replicate m (CarOutput.mk c c N c c N c c N))).bind λy6=>match y6 with
 | .inl y7=>
 L (((),(),(),()),((([]:j),([]:h),([]:h),([]:w),W (V []),W (V []),c,([]:aa),([]:ab),([]:ad),([]:ae),([]:j),([]:af),o),(c,c,c,c,N,N,c,([]:ag),()),y7.2.1,()))
 | .inr y7=>
 L (((),(),(),()),((([]:j),([]:h),([]:h),([]:w),W (V []),W (V []),c,([]:aa),([]:ab),([]:ad),([]:ae),([]:j),([]:af),o),(c,c,c,c,N,N,c,([]:ag),()),y7.2.1,()))) λy8=>letI e:=y8.2.2.2.1.2.2.2.2.2.2.2.2
 letI ah:=e.2
 letI a:=ah.2.2.2
 letI n:=a.2
 letI r:=n.2
 letI f:=r.2.2.2
 letI k:=f.2.2
 letI s:=k.2
 letI ai:=s.2
 letI b:=ai.2.2.2.2.2.2.2.2.2.2
 letI g:=b.2.2.2.2
 letI l:=g.2.2
 letI u:=l.2
 letI aj:=u.2
 cond (b.1 !=c) (L (((),(),b.1,()),((([]:j),([]:h),([]:h),([]:w),a.1,n.1,r.1,([]:aa),([]:ab),([]:ad),([]:ae),([]:j),([]:af),o),(c,c,c,c,N,N,c,([]:ag),()),()))) (L (((),(),c,()),((e.1,ah.1,ah.2.1,ah.2.2.1,a.1,n.1,r.1,r.2.1,r.2.2.1,f.1,f.2.1,k.1,s.1,ai.1,ai.2.1,ai.2.2.1,()),(g.1,g.2.1,l.1,u.1,aj.1,aj.2.1,aj.2.2.1,aj.2.2.2.1,()),())))) P) P) P) P
def GN:=
 letI b:=((z,B,C,D,pj,pm,ph,I,J,pa,pb,A,E,F,pn,po,()),(qg,pd,pf,pg,pu,qh,pr,pv,pw,px,py,qi,pq,pi,qc,qd,()),())
 letI m:=(0:Int)
 cond (S (H<x)) (cond (R H qr.length) (aA (L (((),(),(),qe,qr.getD H.toNat (W (V [])),qr,x,H,()),((pc,pp,q6,rm,pz,qa,qb,pt,()),b))) λy1=>letI e:=y1.2
 letI g:=e.2.1.2
 letI q:=g.2
 letI u:=q.2
 letI a:=u.2.2.2
 letI d:=a.2.2.2
 letI r:=e.1
 letI f:=r.2.2
 letI h:=y1.1.2.2.2
 letI k:=d.2.2
 letI o:=f.2
 letI s:=o.2
 letI v:=k.2
 letI w:=h.2
 (FT r.1 r.2.1 f.1 o.1 s.1 s.2.1 s.2.2.1 s.2.2.2.1 e.2.1.1 g.1 q.1 u.1 u.2.1 u.2.2.1 a.1 a.2.1 a.2.2.1 d.1 d.2.1 k.1 v.1 v.2.1 v.2.2.1 v.2.2.2.1 w.1 1048576).bind λy2=>cond (y2.1.2.2.1 !=m) (L (O (O (((),([]:List aC),y2.1.2.2.1,()),((([]:List Int),([]:List Bool),([]:List Bool),([]:List Entry),W (V []),W (V []),m,([]:List aB),([]:List Belief),([]:List NewCar),([]:List Loaded),([]:List Int),([]:List Calls),m,m,m,()),()))))) (aA (L (((),(),(),h.1,(),w.2.1,w.2.2.1,w.2.2.2.1,()),(r,y2.2.1,e.2.2.1,y2.2.2.1,()))) λy3=>letI c:=y3.2.2.2.2.1.2
 letI j:=y3.1.2.2.2
 letI n:=c.2.2
 letI aa:=n.2
 let z0:List (aC):=[Outputs.mk y3.2.2.2.2.1.1 c.1 c.2.1 n.1 aa.1 aa.2.1 aa.2.2.1 aa.2.2.2.1]
 cond ((j.1.length+z0.length).ble 2147483648) (L (Q (((),(),(),j.1++z0,j.2.2.1,j.2.2.2.1,X.wrap (j.2.2.2.2.1+1),()),(y3.2.1,y3.2.2.1,y3.2.2.2.1,())))) P)) P) (L (O (Q (((),(),qe,()),b))))
def Lv:=lp GN
def Et:=
 letI a:=(0:Int)
 letI b:=List Bool
 letI c:=List Int
 letI d:=(a,a,a,())
 letI e:=(q7.length:Int)
 letI f:=List aC
 letI g:=List Entry
 letI h:=List aB
 letI j:=List Belief
 letI k:=List NewCar
 letI l:=List Loaded
 letI m:=List Calls
 (En x H pc pp pz qa qb pt z B C D pj pm ph I J pa pb A E F pn po).bind λy1=>cond (! y1.1.1) (L (((),([]:f),(1:Int),()),((([]:c),([]:b),([]:b),([]:g),W (V []),W (V []),a,([]:h),([]:j),([]:k),([]:l),([]:c),([]:m),d),()))) (cond (S (5000<e)) (L (((),([]:f),(3:Int),()),((([]:c),([]:b),([]:b),([]:g),W (V []),W (V []),a,([]:h),([]:j),([]:k),([]:l),([]:c),([]:m),d),()))) ((KC z B C D pj pm ph I J pa pb A E F pn po).bind λy2=>(Lv (((),(),(),([]:f),q7,e,a,()),((x,H,pc,pp,pz,qa,qb,pt,()),y2.2.1,(([]:c),([]:b),([]:b),([]:g),W (V []),W (V []),a,([]:h),([]:j),([]:k),([]:l),([]:c),([]:m),d),()))).bind λy3=>match y3 with
 | .inl y4=>
 L (((),y4.1.2.2.1,a,()),(y4.2.1,()))
 | .inr y4=>
 L (((),y4.1.2.1,y4.1.2.2.1,()),(y4.2.1,()))))
def JG:=
 letI a:=(0:Int)
 letI b:=Entry.mk a a a a N
 cond (S (x<(D.length:Int))) (cond (R x D.length) (let z0:Entry:=D.getD x.toNat b
 cond (R x pg.length) (let z1:=pg.getD x.toNat b
 cond (! ((z0.E0==z1.E0)&&((z0.J0==z1.J0)&&((z0.S0==z1.S0)&&((z0.B1==z1.B1)&&((z0.S1==z1.S1)&&U)))))) (L (O (O ((N,()),())))) (L (Q (((),(),X.wrap (x+1),()),((z,B,C,D,()),(A,pd,pf,pg,()),()))))) P) P) (L (O (Q ((),()))))
def ON:=lp JG
def JF:=
 letI a:=((z,B,C,D,()),(A,pd,pf,pg,()),())
 cond (S (x<(C.length:Int))) (cond (R x C.length) (cond (R x pf.length) (cond (! (C.getD x.toNat N==pf.getD x.toNat N)) (L (O (O ((N,()),())))) (L (Q (((),(),X.wrap (x+1),()),a)))) P) P) (L (O (Q (((),(),()),a))))
def OM:=lp JF
def JE:=
 letI a:=((z,B,C,D,()),(A,pd,pf,pg,()),())
 cond (S (x<(B.length:Int))) (cond (R x B.length) (cond (R x pd.length) (cond (! (B.getD x.toNat N==pd.getD x.toNat N)) (L (O (O ((N,()),())))) (L (Q (((),(),X.wrap (x+1),()),a)))) P) P) (L (O (Q (((),(),()),a))))
def OL:=lp JE
def JD:=
 letI a:=((z,B,C,D,()),(A,pd,pf,pg,()),())
 cond (S (x<(z.length:Int))) (cond (R x z.length) (cond (R x A.length) (cond (z.getD x.toNat 0 !=A.getD x.toNat 0) (L (O (O ((N,()),())))) (L (Q (((),(),X.wrap (x+1),()),a)))) P) P) (L (O (Q (((),(),()),a))))
def OK:=lp JD
def RM:=
 letI a:=((),(),(0:Int),())
 letI b:=((N,()),())
 cond ((z.length:Int) !=(A.length:Int)) (L b) (cond ((B.length:Int) !=(pd.length:Int)) (L b) (cond ((C.length:Int) !=(pf.length:Int)) (L b) (cond ((D.length:Int) !=(pg.length:Int)) (L b) ((OK (a,((z,B,C,D,()),(A,pd,pf,pg,()),()))).bind λy1=>match y1 with
 | .inl y2=>
 ((OL (a,(y2.2.1,y2.2.2.1,()))).bind λy3=>match y3 with
 | .inl y4=>
 ((OM (a,(y4.2.1,y4.2.2.1,()))).bind λy5=>match y5 with
 | .inl y6=>
 ((ON (a,(y6.2.1,y6.2.2.1,()))).bind λy7=>match y7 with
 | .inl y8=>
 L ((U,()),())
 | .inr y8=>
 L ((y8.1.1,()),()))
 | .inr y6=>
 L ((y6.1.1,()),()))
 | .inr y4=>
 L ((y4.1.1,()),()))
 | .inr y2=>
 L ((y2.1.1,()),())))))
def MK:=
 letI c:=Calls.mk 0 0
 cond (S (pi<(E.length:Int))) (cond (R pi E.length) (let z0:Calls:=E.getD pi.toNat c
 cond (R pi pq.length) (let z1:=pq.getD pi.toNat c
 cond (! ((z0.Up==z1.Up)&&((z0.T3==z1.T3)&&U))) (L (O (O ((N,()),())))) (L (Q ((E,pq,X.wrap (pi+1),()),())))) P) P) (L (O (Q ((),()))))
def Jb:=lp MK
def Ln:=
 cond ((E.length:Int) !=(pq.length:Int)) (L ((N,()),())) ((Jb ((E,pq,(0:Int),()),())).bind λy1=>match y1 with
 | .inl y2=>
 L ((U,()),())
 | .inr y2=>
 L ((y2.1.1,()),()))
def NJ:=
 cond (S (F<(z.length:Int))) (cond (R F z.length) (cond (R F A.length) (cond (z.getD F.toNat 0 !=A.getD F.toNat 0) (L (O (O ((N,()),())))) (L (Q ((z,A,X.wrap (F+1),()),())))) P) P) (L (O (Q ((),()))))
def Kj:=lp NJ
def Mp:=
 cond ((z.length:Int) !=(A.length:Int)) (L ((N,()),())) ((Kj ((z,A,(0:Int),()),())).bind λy1=>match y1 with
 | .inl y2=>
 L ((U,()),())
 | .inr y2=>
 L ((y2.1.1,()),()))
def SK:=
 letI a:=(0:Int)
 letI b:=Duty.mk a a a
 cond (S (x<(qj.length:Int))) (cond (R x qj.length) (let z0:=qj.getD x.toNat b
 cond (R x ql.length) (let z1:=ql.getD x.toNat b
 cond (! ((z0.E0==z1.E0)&&((z0.J0==z1.J0)&&((z0.N5==z1.N5)&&U)))) (L (O (O ((N,()),())))) (L (Q (((),(),X.wrap (x+1),()),((H,pc,pp,qj,qs,qt,()),(qu,qv,qw,ql,qx,qy,()),()))))) P) P) (L (O (Q ((),()))))
def OP:=lp SK
def RN:=
 letI a:=((N,()),())
 cond (x !=qu) (L a) (cond (H !=qv) (L a) (cond (pc !=qw) (L a) (cond (qs !=qx) (L a) (cond (! (qt==qy)) (L a) (cond ((qj.length:Int) !=(ql.length:Int)) (L a) ((OP (((),(),(0:Int),()),((x,H,pc,qj,qs,qt,()),(qu,qv,qw,ql,qx,qy,()),()))).bind λy1=>match y1 with
 | .inl y2=>
 L ((U,()),())
 | .inr y2=>
 L ((y2.1.1,()),())))))))
def SP:=
 letI a:=Loaded.mk 0
 cond (S (x<(pb.length:Int))) (cond (R x pb.length) (cond (R x py.length) (cond (! (((pb.getD x.toNat a).T5==(py.getD x.toNat a).T5)&&U)) (L (O (O ((N,()),())))) (L (Q (((),(),X.wrap (x+1),()),((z,B,C,D,pj,pm,ph,I,J,pa,pb,A,E,F,pn,po,()),(qg,pd,pf,pg,pu,qh,pr,pv,pw,px,py,qi,pq,pi,qc,qd,()),()))))) P) P) (L (O (Q ((),()))))
def OT:=lp SP
def SO:=
 letI a:=(0:Int)
 letI b:=((z,B,C,D,pj,pm,ph,I,J,pa,pb,A,E,F,pn,po,()),(qg,pd,pf,pg,pu,qh,pr,pv,pw,px,py,qi,pq,pi,qc,qd,()),())
 letI c:=NewCar.mk a a a a a N a a a a a a a N
 cond (S (x<(pa.length:Int))) (cond (R x pa.length) (let z0:=pa.getD x.toNat c
 cond (R x px.length) (let z1:=px.getD x.toNat c
 cond (! ((z0.R1==z1.R1)&&((z0.C1==z1.C1)&&((z0.Z0==z1.Z0)&&((z0.I1==z1.I1)&&((z0.F1==z1.F1)&&((z0.H1==z1.H1)&&((z0.D1==z1.D1)&&((z0.R0==z1.R0)&&((z0.X0==z1.X0)&&((z0.Q0==z1.Q0)&&((z0.V1==z1.V1)&&((z0.Y2==z1.Y2)&&((z0.H3==z1.H3)&&((z0.Z2==z1.Z2)&&U))))))))))))))) (L (O (O ((N,()),())))) (L (Q (((),(),X.wrap (x+1),()),b)))) P) P) (L (O (Q (((),(),()),b))))
def OS:=lp SO
def SN:=
 letI a:=((z,B,C,D,pj,pm,ph,I,J,pa,pb,A,E,F,pn,po,()),(qg,pd,pf,pg,pu,qh,pr,pv,pw,px,py,qi,pq,pi,qc,qd,()),())
 letI b:=(0:Int)
 letI c:=Belief.mk b b b
 cond (S (x<(J.length:Int))) (cond (R x J.length) (let z0:Belief:=J.getD x.toNat (c [] b N)
 cond (R x pw.length) (let z1:=pw.getD x.toNat (c [] b N)
 (RN z0.E0 z0.J0 z0.A3 z0.T0 z0.L2 z0.G3 z1.E0 z1.J0 z1.A3 z1.T0 z1.L2 z1.G3).bind λy1=>cond (! y1.1.1) (L (O (O ((N,()),())))) (L (Q (((),(),X.wrap (x+1),()),a)))) P) P) (L (O (Q (((),(),()),a))))
def OR:=lp SN
def SM:=
 letI a:=(0:Int)
 letI b:=Debounced.mk a N N N N a a a a a a a a a a a a a a a a a a a a a a a a a a a a a a a a a a a a
 letI c:=((z,B,C,D,pj,pm,ph,I,J,pa,pb,A,E,F,pn,po,()),(qg,pd,pf,pg,pu,qh,pr,pv,pw,px,py,qi,pq,pi,qc,qd,()),())
 cond (S (x<(I.length:Int))) (cond (R x I.length) (let z0:aB:=I.getD x.toNat b
 cond (R x pv.length) (let z1:=pv.getD x.toNat b
 cond (! ((z0.V0==z1.V0)&&((z0.X1==z1.X1)&&((z0.L1==z1.L1)&&((z0.M1==z1.M1)&&((z0.E1==z1.E1)&&((z0.Z4==z1.Z4)&&((z0.A5==z1.A5)&&((z0.B5==z1.B5)&&((z0.C5==z1.C5)&&((z0.E5==z1.E5)&&((z0.F5==z1.F5)&&((z0.G5==z1.G5)&&((z0.H5==z1.H5)&&((z0.I5==z1.I5)&&((z0.K5==z1.K5)&&((z0.X3==z1.X3)&&((z0.Y3==z1.Y3)&&((z0.Z3==z1.Z3)&&((z0.A4==z1.A4)&&((z0.B4==z1.B4)&&((z0.C4==z1.C4)&&((z0.D4==z1.D4)&&((z0.E4==z1.E4)&&((z0.F4==z1.F4)&&((z0.G4==z1.G4)&&((z0.H4==z1.H4)&&((z0.I4==z1.I4)&&((z0.J4==z1.J4)&&((z0.K4==z1.K4)&&((z0.L4==z1.L4)&&((z0.M4==z1.M4)&&((z0.N4==z1.N4)&&((z0.O4==z1.O4)&&((z0.P4==z1.P4)&&((z0.Q4==z1.Q4)&&((z0.R4==z1.R4)&&((z0.S4==z1.S4)&&((z0.T4==z1.T4)&&((z0.U4==z1.U4)&&((z0.V4==z1.V4)&&((z0.W4==z1.W4)&&U)))))))))))))))))))))))))))))))))))))))))) (L (O (O ((N,()),())))) (L (Q (((),(),X.wrap (x+1),()),c)))) P) P) (L (O (Q (((),(),()),c))))
def OQ:=lp SM
def Ox:=
 letI a:=((N,()),())
 letI b:=((),(),(0:Int),())
 (RM z B C D qg pd pf pg).bind λy1=>cond (! y1.1.1) (L a) (cond (! (eqB pj pu&&(eqB pm qh&&((ph==pr)&&U)))) (L a) (cond ((I.length:Int) !=(pv.length:Int)) (L a) (cond ((J.length:Int) !=(pw.length:Int)) (L a) (cond ((pa.length:Int) !=(px.length:Int)) (L a) (cond ((pb.length:Int) !=(py.length:Int)) (L a) ((Ln E pq).bind λy2=>cond (! y2.1.1) (L a) ((Mp A qi).bind λy3=>cond (! y3.1.1) (L a) (cond (F !=pi) (L a) (cond (pn !=qc) (L a) (cond (po !=qd) (L a) ((OQ (b,((z,B,C,D,pj,pm,ph,I,J,pa,pb,A,E,F,pn,po,()),(qg,pd,pf,pg,pu,qh,pr,pv,pw,px,py,qi,pq,pi,qc,qd,()),()))).bind λy4=>match y4 with
 | .inl y5=>
 ((OR (b,(y5.2.1,y5.2.2.1,()))).bind λy6=>match y6 with
 | .inl y7=>
 ((OS (b,(y7.2.1,y7.2.2.1,()))).bind λy8=>match y8 with
 | .inl y9=>
 ((OT (b,(y9.2.1,y9.2.2.1,()))).bind λy10=>match y10 with
 | .inl y11=>
 L ((U,()),())
 | .inr y11=>
 L ((y11.1.1,()),()))
 | .inr y9=>
 L ((y9.1.1,()),()))
 | .inr y7=>
 L ((y7.1.1,()),()))
 | .inr y5=>
 L ((y5.1.1,()),()))))))))))))
def TM:=
 letI a:=(0:Int)
 letI b:=CarOutput.mk a a N a a N a a N
 cond (S (x<(qf.length:Int))) (cond (R x qf.length) (let z0:=qf.getD x.toNat b
 cond (R x qm.length) (let z1:=qm.getD x.toNat b
 cond (! ((z0.U1==z1.U1)&&((z0.K1==z1.K1)&&((z0.J2==z1.J2)&&((z0.T2==z1.T2)&&((z0.H2==z1.H2)&&((z0.Q5==z1.Q5)&&((z0.O3==z1.O3)&&((z0.L5==z1.L5)&&((z0.R5==z1.R5)&&U)))))))))) (L (O (O ((N,()),())))) (L (Q (((),(),X.wrap (x+1),()),((H,pc,pp,q6,qo,qp,qq,qf,()),(qz,q0,q1,q2,q3,q4,q5,qm,()),()))))) P) P) (L (O (Q ((),()))))
def OH:=lp TM
def KH:=
 letI a:=((N,()),())
 cond (! ((x==qz)&&((H==q0)&&U))) (L a) (cond (! ((pc==q1)&&((pp==q2)&&U))) (L a) (cond (! (qo==q3)) (L a) (cond (! (qp==q4)) (L a) (cond (qq !=q5) (L a) (cond ((qf.length:Int) !=(qm.length:Int)) (L a) ((OH (((),(),(0:Int),()),((x,H,pc,pp,qo,qp,qq,qf,()),(qz,q0,q1,q2,q3,q4,q5,qm,()),()))).bind λy1=>match y1 with
 | .inl y2=>
 L ((U,()),())
 | .inr y2=>
 L ((y2.1.1,()),())))))))
def SQ:=
 letI c:=(0:Int)
 letI d:=Outputs.mk c c c c N N c
 cond (S (qk<(qe.length:Int))) (cond (R qk qe.length) (let z0:=qe.getD qk.toNat (d [])
 cond (R qk qn.length) (let z1:=qn.getD qk.toNat (d [])
 (KH z0.O5 z0.Y4 z0.E3 z0.X2 z0.V5 z0.M0 z0.U5 z0.B0 z1.O5 z1.Y4 z1.E3 z1.X2 z1.V5 z1.M0 z1.U5 z1.B0).bind λy1=>cond (! y1.1.1) (L (O (O ((N,()),())))) (L (Q ((qe,qn,X.wrap (qk+1),()),())))) P) P) (L (O (Q ((),()))))
def NH:=lp SQ
def FV:=
 cond ((qe.length:Int) !=(qn.length:Int)) (L ((N,()),())) ((NH ((qe,qn,(0:Int),()),())).bind λy1=>match y1 with
 | .inl y2=>
 L ((U,()),())
 | .inr y2=>
 L ((y2.1.1,()),()))
def Mk:=
 letI b:=(0:Int)
 letI f:=List Bool
 letI g:=List Int
 letI h:=((),(),(1:Int),())
 (En x H pc pp pz qa qb pt z B C D pj pm ph I J pa pb A E F pn po).bind λy1=>cond (! y1.1.1) (L (h,((([]:g),([]:f),([]:f),([]:List Entry),W (V []),W (V []),b,([]:List aB),([]:List Belief),([]:List NewCar),([]:List Loaded),([]:g),([]:List Calls),b,b,b,()),(b,b,b,b,N,N,b,([]:List aD),()),()))) (cond (S (pr<b)) (L (h,((([]:g),([]:f),([]:f),([]:List Entry),W (V []),W (V []),b,([]:List aB),([]:List Belief),([]:List NewCar),([]:List Loaded),([]:g),([]:List Calls),b,b,b,()),(b,b,b,b,N,N,b,([]:List aD),()),()))) ((KC z B C D pj pm ph I J pa pb A E F pn po).bind λy2=>letI d:=y2.2.1.2.2
 letI j:=d.2
 letI a:=j.2.2.2
 letI c:=a.2.2.2
 letI e:=c.2.2
 letI k:=e.2
 (FT x H pc pp pz qa qb pt y2.2.1.1 y2.2.1.2.1 d.1 j.1 j.2.1 j.2.2.1 a.1 a.2.1 a.2.2.1 c.1 c.2.1 e.1 k.1 k.2.1 k.2.2.1 k.2.2.2.1 pu pr).bind λy3=>L (((),(),y3.1.2.2.1,()),(y3.2.1,y3.2.2.1,()))))
def RH :Option ((Bool×Unit)×Unit):=
 (FS (2:Int) (40:Int) (90:Int)).bind λy1=>
 aA (L (((),()),(y1.2.1,()))) λy2=>
 (IM y2.2.1.1 y2.2.1.2.1 y2.2.1.2.2.1 y2.2.1.2.2.2.1 y2.2.1.2.2.2.2.1 y2.2.1.2.2.2.2.2.1 y2.2.1.2.2.2.2.2.2.1 y2.2.1.2.2.2.2.2.2.2.1).bind λy3=>
 (Jm y2.2.1.1 y2.2.1.2.1 y2.2.1.2.2.1 y2.2.1.2.2.2.1 y2.2.1.2.2.2.2.1 y2.2.1.2.2.2.2.2.1 y2.2.1.2.2.2.2.2.2.1 y2.2.1.2.2.2.2.2.2.2.1 (2:Int) (0:Int) (0:Int) (0:Int) []).bind λy4=>
 (PD y2.2.1.1 y2.2.1.2.1 y2.2.1.2.2.1 y2.2.1.2.2.2.1 y2.2.1.2.2.2.2.1 y2.2.1.2.2.2.2.2.1 y2.2.1.2.2.2.2.2.2.1 y2.2.1.2.2.2.2.2.2.2.1 y4.2.1.1 y4.2.1.2.1 y4.2.1.2.2.1 y4.2.1.2.2.2.1 y4.2.1.2.2.2.2.1).bind λy5=>
 aA (L (((),(),y5.1.1,()),(y2.2.1,y3.2.1,()))) λy6=>
 (Mk y6.2.1.1 y6.2.1.2.1 y6.2.1.2.2.1 y6.2.1.2.2.2.1 y6.2.1.2.2.2.2.1 y6.2.1.2.2.2.2.2.1 y6.2.1.2.2.2.2.2.2.1 y6.2.1.2.2.2.2.2.2.2.1 y6.2.2.1.1 y6.2.2.1.2.1 y6.2.2.1.2.2.1 y6.2.2.1.2.2.2.1 y6.2.2.1.2.2.2.2.1 y6.2.2.1.2.2.2.2.2.1 y6.2.2.1.2.2.2.2.2.2.1 y6.2.2.1.2.2.2.2.2.2.2.1 y6.2.2.1.2.2.2.2.2.2.2.2.1 y6.2.2.1.2.2.2.2.2.2.2.2.2.1 y6.2.2.1.2.2.2.2.2.2.2.2.2.2.1 y6.2.2.1.2.2.2.2.2.2.2.2.2.2.2.1 y6.2.2.1.2.2.2.2.2.2.2.2.2.2.2.2.1 y6.2.2.1.2.2.2.2.2.2.2.2.2.2.2.2.2.1 y6.2.2.1.2.2.2.2.2.2.2.2.2.2.2.2.2.2.1 y6.2.2.1.2.2.2.2.2.2.2.2.2.2.2.2.2.2.2.1 y6.1.2.2.1 (1048576:Int)).bind λy7=>
 (Mk y6.2.1.1 y6.2.1.2.1 y6.2.1.2.2.1 y6.2.1.2.2.2.1 y6.2.1.2.2.2.2.1 y6.2.1.2.2.2.2.2.1 y6.2.1.2.2.2.2.2.2.1 y6.2.1.2.2.2.2.2.2.2.1 y6.2.2.1.1 y6.2.2.1.2.1 y6.2.2.1.2.2.1 y6.2.2.1.2.2.2.1 y6.2.2.1.2.2.2.2.1 y6.2.2.1.2.2.2.2.2.1 y6.2.2.1.2.2.2.2.2.2.1 y6.2.2.1.2.2.2.2.2.2.2.1 y6.2.2.1.2.2.2.2.2.2.2.2.1 y6.2.2.1.2.2.2.2.2.2.2.2.2.1 y6.2.2.1.2.2.2.2.2.2.2.2.2.2.1 y6.2.2.1.2.2.2.2.2.2.2.2.2.2.2.1 y6.2.2.1.2.2.2.2.2.2.2.2.2.2.2.2.1 y6.2.2.1.2.2.2.2.2.2.2.2.2.2.2.2.2.1 y6.2.2.1.2.2.2.2.2.2.2.2.2.2.2.2.2.2.1 y6.2.2.1.2.2.2.2.2.2.2.2.2.2.2.2.2.2.2.1 y6.1.2.2.1 (3:Int)).bind λy8=>
 aA (bif(y7.1.2.2.1==(0:Int))then
 bif((y7.2.2.1.1==(2:Int))&&((y7.2.2.1.2.1==(0:Int))&&U))then
 bif(((List.length y7.2.2.1.2.2.2.2.2.2.2.1:Nat):Int)==(1:Int))then
 bif(R (0:Int) (List.length y7.2.2.1.2.2.2.2.2.2.2.1))then
 let z0:aD:=(List.getD y7.2.2.1.2.2.2.2.2.2.2.1 (Int.toNat (0:Int)) (CarOutput.mk (0:Int) (0:Int) N (0:Int) (0:Int) N (0:Int) (0:Int) N))
 bif((z0.U1==(2:Int))&&((z0.K1==(0:Int))&&U))then
 bif(y7.2.1.2.2.2.2.2.2.2.2.2.2.2.2.2.1==(1:Int))then
 L (((y8.1.2.2.1==(8:Int)),()),())
 else
 L ((N,()),())
 else
 L ((N,()),())
 else
 P
 else
 L ((N,()),())
 else
 L ((N,()),())
 else
 L ((N,()),())) λy9=>
 L ((y9.1.1,()),())
def F_l27_MachineDivides:=
 letI q:=((N,()),())
 letI ad:=(0:Int)
 (FS x H pc).bind λy1=>aA (L ((z,ph,(),()),(y1.2.1,()))) λy2=>letI aq:=y2.2.1
 letI f:=aq.2.2
 letI o:=f.2.2
 letI am:=o.2
 letI ax:=am.2
 (IM aq.1 aq.2.1 f.1 f.2.1 o.1 am.1 ax.1 ax.2.1).bind λy3=>(LH aq.1 aq.2.1 f.1 f.2.1 o.1 am.1 ax.1 ax.2.1 y2.1.1 60).bind λy4=>let z0:Int:=X.wrap ((y4.1.1.length:Int)+1)
 cond (z0 !=ad) (aA (L (((),(),y4.1.1,Int.tmod (IntKind.wrap X y2.1.2.1) z0,()),(aq,y3.2.1,()))) λy5=>letI v:=y5.2
 letI aa:=v.2.1.2
 letI ap:=aa.2
 letI bg:=ap.2
 letI d:=bg.2.2.2
 letI n:=d.2.2.2
 letI al:=n.2.2
 letI bk:=v.1
 letI w:=bk.2.2
 letI av:=w.2
 letI bh:=al.2
 letI bf:=av.2
 letI a:=Et bk.1 bk.2.1 w.1 av.1 bf.1 bf.2.1 bf.2.2.1 bf.2.2.2.1 v.2.1.1 aa.1 ap.1 bg.1 bg.2.1 bg.2.2.1 d.1 d.2.1 d.2.2.1 n.1 n.2.1 al.1 bh.1 bh.2.1 bh.2.2.1 bh.2.2.2.1
 letI u:=y5.1.2.2
 letI ar:=u.2.1
 letI bj:=u.1
 (a bj).bind λy6=>cond (S (ad≤ar)&&decide (ar≤(bj.length:Int))) ((a ((bj.take ar.toNat).drop 0)).bind λy7=>aA (L (((),bj,ar,(),y6.1.2.1,y6.1.2.2.1,(),y7.1.2.1,y7.1.2.2.1,()),(bk,y6.2.1,y7.2.1,()))) λy8=>letI h:=y8.2
 letI j:=h.2
 letI ae:=j.2.1
 letI an:=ae.2
 letI az:=an.2
 letI b:=az.2.2.2
 letI af:=j.1.2
 letI ao:=af.2
 letI bb:=ao.2
 letI c:=bb.2.2.2
 letI bl:=b.2
 letI g:=bl.2.2.2
 letI k:=c.2.2.2
 letI r:=y8.1.2
 letI s:=h.1.2.2
 letI ab:=r.2
 letI ag:=ab.2.2
 letI ai:=g.2.2
 letI aj:=k.2.2
 letI au:=s.2
 letI aw:=ag.2.2.2
 letI ay:=au.2
 letI ba:=ai.2
 letI bc:=aj.2
 letI bi:=r.1.length
 cond (S (ad≤ab.1)&&decide (ab.1≤((bi:Nat):Int))) ((Et h.1.1 h.1.2.1 s.1 au.1 ay.1 ay.2.1 ay.2.2.1 ay.2.2.2.1 ae.1 an.1 az.1 az.2.1 az.2.2.1 b.1 bl.1 bl.2.1 bl.2.2.1 g.1 g.2.1 ai.1 ba.1 ba.2.1 ba.2.2.1 ba.2.2.2.1 ((r.1.take bi).drop ab.1.toNat)).bind λy9=>letI ah:=y9.2.1.2.2
 letI bd:=ah.2
 letI e:=bd.2.2.2
 letI m:=e.2.2.2
 letI ak:=m.2.2
 letI be:=ak.2
 aA (cond (ag.2.1==ad) (cond (aw.2.1==ad) (cond (y9.1.2.2.1==ad) ((Ox j.1.1 af.1 ao.1 bb.1 bb.2.1 bb.2.2.1 c.1 c.2.1 c.2.2.1 k.1 k.2.1 aj.1 bc.1 bc.2.1 bc.2.2.1 bc.2.2.2.1 y9.2.1.1 y9.2.1.2.1 ah.1 bd.1 bd.2.1 bd.2.2.1 e.1 e.2.1 e.2.2.1 m.1 m.2.1 ak.1 be.1 be.2.1 be.2.2.1 be.2.2.2.1).bind λy10=>cond y10.1.1 (cond ((([]:List aC).length+aw.1.length).ble 2147483648) (let z1:List (aC):=([]:List aC)++aw.1
 cond ((z1.length+y9.1.2.1.length).ble 2147483648) ((FV ag.1 (z1++y9.1.2.1)).bind λy11=>cond y11.1.1 ((RH).bind λy12=>L ((y12.1.1,()),())) (L q)) P) P) (L q)) (L q)) (L q)) (L q)) λy13=>L ((y13.1.1,()),())) P) P) P
end
end Go.Ovl
