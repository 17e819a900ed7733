/- What each function of the program comes to: part 4. -/
import Derived.Test.YtgmkjajpbaghgaaGreatDoorDefs3
set_option linter.all false
open Option renaming some->L,none->P,bind->aB
open Bool renaming false->N,true->Q
open Sum renaming inr->O,inl->aA
open Array renaming mk->aC
open ByteArray renaming mk->aD
open Go.Ovl.T2_int renaming mk->aE
open BitVec renaming ofInt->aF
open Go.Ovl renaming CarOutput->aG
open Go.IntKind renaming u32->aH
namespace Go.Ovl
open Go Go.Ab
set_option maxRecDepth 100000
set_option synthInstance.maxSize 9999
set_option synthInstance.maxHeartbeats 999999
noncomputable section
variable(pr:List ByteArray)(I:List Int)(z x A B qc qu:Int)(D E F:Nat)(C:List Car)(H:List Int)(J pa:List Bool)(pb:List Entry)(pc pd:ByteArray)(pf:Int)(pg:List Debounced)(ph:List Belief)(pi:List NewCar)(pj:List Loaded)(pm:List Int)(pn:List Calls)(po pp pq:Int)(qv:List Int)(qw qx:List Bool)(qy:List Entry)(px qz:ByteArray)(pt:Int)(q0:List Debounced)(q1:List Belief)(q2:List NewCar)(q3:List Loaded)(q4:List Int)(q5:List Calls)(py pz qa q6 q7 q8 q9:Int)(qb ra:Bool)(rb:Int)(pw:List aG)(qd qe:Int)(qf:List CarInput)(qg:Bool)(qh qi:Int)(qj:List Bool)(qk:List Calls)(ql:List Bool)(qm qn qo qp:Int)(qq qr:Bool)(qs:Int)(qt:List aG)(pu:List T2_int)(pv:Int)
def Eo:=
 letI aj:=((),(),(),(),())
 letI bc:=(0:Int)
 aB ((DW z x A B D E F C H J pa pb pc pd pf pg ph pi pj pm pn po pp pq pt py pz qa qf qg qh qi qj qk ql qm qn qo qp qq qr qs qt).bind λy1=>match y1 with
 | .inl y2=>
 L (aj,(((),aj),y2.2.1,()))
 | .inr y2=>
 L (aj,(((),aj),y2.2.1,()))) λy3=>letI bq:=y3.2.2.1
 letI af:=bq.2.2
 letI au:=af.2.2
 letI br:=au.2
 letI j:=br.2.2.2
 letI bp:=j.2
 letI bs:=bp.2
 letI n:=bs.2.2.2
 letI ak:=n.2.2
 letI bh:=ak.2
 letI bt:=bh.2
 letI a:=bt.2.2.2
 letI cq:=a.2
 letI aa:=cq.2.2.2
 letI av:=aa.2.2
 letI bu:=av.2
 letI e:=bu.2.2.2
 letI bd:=e.2
 letI bv:=bd.2
 letI o:=bv.2.2.2
 letI al:=o.2.2
 letI bi:=al.2
 letI bw:=bi.2
 cond (bd.1 !=bc) (L (aA ((),(bq,())))) ((DV bq.1 bq.2.1 af.1 af.2.1 au.1 br.1 br.2.1 br.2.2.1 j.1 bp.1 bs.1 bs.2.1 bs.2.2.1 n.1 n.2.1 ak.1 bh.1 bt.1 bt.2.1 bt.2.2.1 a.1 cq.1 cq.2.1 cq.2.2.1 aa.1 aa.2.1 av.1 bu.1 bu.2.1 bu.2.2.1 e.1 bd.1 bv.1 bv.2.1 bv.2.2.1 o.1 o.2.1 al.1 bi.1 bw.1 bw.2.1 bw.2.2.1 bw.2.2.2.1).bind λy4=>letI cn:=y4.2.1
 letI ag:=cn.2.2.2
 letI aw:=ag.2.2
 letI bx:=aw.2
 letI k:=bx.2.2.2
 letI cr:=k.2
 letI u:=cr.2.2.2
 letI am:=u.2.2
 letI bj:=am.2
 letI bz:=bj.2
 letI b:=bz.2.2.2
 letI cs:=b.2
 letI ab:=cs.2.2.2
 letI ax:=ab.2.2
 letI ca:=ax.2
 letI f:=ca.2.2.2
 letI be:=f.2
 letI cb:=be.2
 letI q:=cb.2.2.2
 letI an:=q.2.2
 letI bk:=an.2
 letI cc:=bk.2
 cond (be.1 !=bc) (L (aA ((),(cn,())))) ((Cp cn.1 cn.2.1 cn.2.2.1 ag.1 ag.2.1 aw.1 bx.1 bx.2.1 bx.2.2.1 k.1 cr.1 cr.2.1 cr.2.2.1 u.1 u.2.1 am.1 bj.1 bz.1 bz.2.1 bz.2.2.1 b.1 cs.1 cs.2.1 cs.2.2.1 ab.1 ab.2.1 ax.1 ca.1 ca.2.1 ca.2.2.1 f.1 be.1 cb.1 cb.2.1 cb.2.2.1 q.1 q.2.1 an.1 bk.1 cc.1 cc.2.1 cc.2.2.1 cc.2.2.2.1).bind λy5=>letI co:=y5.2.1
 letI ah:=co.2.2.2
 letI ay:=ah.2.2
 letI cd:=ay.2
 letI l:=cd.2.2.2
 letI ct:=l.2
 letI v:=ct.2.2.2
 letI ao:=v.2.2
 letI bl:=ao.2
 letI ce:=bl.2
 letI c:=ce.2.2.2
 letI cu:=c.2
 letI ad:=cu.2.2.2
 letI az:=ad.2.2
 letI cf:=az.2
 letI g:=cf.2.2.2
 letI bf:=g.2
 letI cg:=bf.2
 letI r:=cg.2.2.2
 letI ap:=r.2.2
 letI bm:=ap.2
 letI ch:=bm.2
 cond (bf.1 !=bc) (L (aA ((),(co,())))) ((CS co.1 co.2.1 co.2.2.1 ah.1 ah.2.1 ay.1 cd.1 cd.2.1 cd.2.2.1 l.1 ct.1 ct.2.1 ct.2.2.1 v.1 v.2.1 ao.1 bl.1 ce.1 ce.2.1 ce.2.2.1 c.1 cu.1 cu.2.1 cu.2.2.1 ad.1 ad.2.1 az.1 cf.1 cf.2.1 cf.2.2.1 g.1 bf.1 cg.1 cg.2.1 cg.2.2.1 r.1 r.2.1 ap.1 bm.1 ch.1 ch.2.1 ch.2.2.1 ch.2.2.2.1).bind λy6=>letI cp:=y6.2.1
 letI ai:=cp.2.2.2
 letI ba:=ai.2.2
 letI ci:=ba.2
 letI m:=ci.2.2.2
 letI cv:=m.2
 letI w:=cv.2.2.2
 letI aq:=w.2.2
 letI bn:=aq.2
 letI cj:=bn.2
 letI d:=cj.2.2.2
 letI cw:=d.2
 letI ae:=cw.2.2.2
 letI bb:=ae.2.2
 letI ck:=bb.2
 letI h:=ck.2.2.2
 letI bg:=h.2
 letI cl:=bg.2
 letI s:=cl.2.2.2
 letI ar:=s.2.2
 letI bo:=ar.2
 letI cm:=bo.2
 cond (bg.1 !=bc) (L (aA ((),(cp,())))) ((Dq cp.1 cp.2.1 cp.2.2.1 ai.1 ai.2.1 ba.1 ci.1 ci.2.1 ci.2.2.1 m.1 cv.1 cv.2.1 cv.2.2.1 w.1 w.2.1 aq.1 bn.1 cj.1 cj.2.1 cj.2.2.1 d.1 cw.1 cw.2.1 cw.2.2.1 ae.1 ae.2.1 bb.1 ck.1 ck.2.1 ck.2.2.1 h.1 bg.1 cl.1 cl.2.1 cl.2.2.1 s.1 s.2.1 ar.1 bo.1 cm.1 cm.2.1 cm.2.2.1 cm.2.2.2.1).bind λy7=>cond (y7.2.1.2.2.2.2.2.2.2.2.2.2.2.2.2.2.2.2.2.2.2.2.2.2.2.2.2.2.2.2.2.2.2.1 !=bc) (L (aA ((),(y7.2.1,())))) (L (O ((),(y7.2.1,()))))))))
def Hn:=
 letI c:=(0:Int)
 letI h:=List Bool
 letI j:=List Int
 letI o:=(c,c,c,())
 letI w:=List Entry
 letI aa:=List Debounced
 letI ab:=List Belief
 letI ad:=List NewCar
 letI ae:=List Loaded
 letI af:=List Calls
 letI ag:=List aG
 (DT z x A B D E F C px).bind λy1=>letI v:=y1.2.1.2
 let z0:Int:=(C.length:Int)
 letI d:=(decide (c≤z0)&&decide (z0≤z0))&&decide (z0≤2147483648)
 letI m:=z0.toNat
 letI q:=List.replicate m N
 cond d (cond d (cond d (cond d ((Ct pg).bind λy2=>(CW ph).bind λy3=>(CY pi).bind λy4=>(CX pj).bind λy5=>aB ((Eo z x A B D E F C H J pa pb pc pd pf y2.1.1 y3.1.1 y4.1.1 y5.1.1 pm pn po pp pq y1.2.1.1 v.1 v.2.1 v.2.2.1 v.2.2.2.1 (y1.1.2.1==c) pt c q (List.replicate m (Calls.mk c c)) q c c c c N N c (List.replicate m (CarOutput.mk c c N c c N c c N))).bind λy6=>match y6 with
 | .inl y7=>
 L (((),(),(),()),((([]:j),([]:h),([]:h),([]:w),aD (aC []),aD (aC []),c,([]:aa),([]:ab),([]:ad),([]:ae),([]:j),([]:af),o),(c,c,c,c,N,N,c,([]:ag),()),y7.2.1,()))
 | .inr y7=>
 L (((),(),(),()),((([]:j),([]:h),([]:h),([]:w),aD (aC []),aD (aC []),c,([]:aa),([]:ab),([]:ad),([]:ae),([]:j),([]:af),o),(c,c,c,c,N,N,c,([]:ag),()),y7.2.1,()))) λy8=>letI e:=y8.2.2.2.1.2.2.2.2.2.2.2.2
 letI ah:=e.2
 letI a:=ah.2.2.2
 letI n:=a.2
 letI r:=n.2
 letI f:=r.2.2.2
 letI k:=f.2.2
 letI s:=k.2
 letI ai:=s.2
 letI b:=ai.2.2.2.2.2.2.2.2.2.2
 letI g:=b.2.2.2.2
 letI l:=g.2.2
 letI u:=l.2
 letI aj:=u.2
 cond (b.1 !=c) (L (((),(),b.1,()),((([]:j),([]:h),([]:h),([]:w),a.1,n.1,r.1,([]:aa),([]:ab),([]:ad),([]:ae),([]:j),([]:af),o),(c,c,c,c,N,N,c,([]:ag),()),()))) (L (((),(),c,()),((e.1,ah.1,ah.2.1,ah.2.2.1,a.1,n.1,r.1,r.2.1,r.2.2.1,f.1,f.2.1,k.1,s.1,ai.1,ai.2.1,ai.2.2.1,()),(g.1,g.2.1,l.1,u.1,aj.1,aj.2.1,aj.2.2.1,aj.2.2.2.1,()),())))) P) P) P) P
def EL:=
 letI b:=(0:Int)
 letI f:=List Bool
 letI g:=List Int
 letI h:=((),(),(1:Int),())
 (FO z x A B D E F C H J pa pb pc pd pf pg ph pi pj pm pn po pp pq).bind λy1=>cond (! y1.1.1) (L (h,((([]:g),([]:f),([]:f),([]:List Entry),aD (aC []),aD (aC []),b,([]:List Debounced),([]:List Belief),([]:List NewCar),([]:List Loaded),([]:g),([]:List Calls),b,b,b,()),(b,b,b,b,N,N,b,([]:List aG),()),()))) (cond (decide (pt<b)) (L (h,((([]:g),([]:f),([]:f),([]:List Entry),aD (aC []),aD (aC []),b,([]:List Debounced),([]:List Belief),([]:List NewCar),([]:List Loaded),([]:g),([]:List Calls),b,b,b,()),(b,b,b,b,N,N,b,([]:List aG),()),()))) ((MY H J pa pb pc pd pf pg ph pi pj pm pn po pp pq).bind λy2=>letI d:=y2.2.1.2.2
 letI j:=d.2
 letI a:=j.2.2.2
 letI c:=a.2.2.2
 letI e:=c.2.2
 letI k:=e.2
 (Hn z x A B D E F C y2.2.1.1 y2.2.1.2.1 d.1 j.1 j.2.1 j.2.2.1 a.1 a.2.1 a.2.2.1 c.1 c.2.1 e.1 k.1 k.2.1 k.2.2.1 k.2.2.2.1 px pt).bind λy3=>L (((),(),y3.1.2.2.1,()),(y3.2.1,y3.2.2.1,()))))
def Ot:=
 aB (cond ((x==0)&&((A==0)&&Q)) (L ((Q,()),())) (cond (! qb) (cond (z==0) (L ((Q,()),())) (L ((z==1,()),()))) (L ((N,()),())))) λy1=>L ((y1.1.1,()),())
def KA:=
 aB (cond (x==0) (L ((Q,()),())) (cond (z==3) (L ((Q,()),())) (L ((z==4,()),())))) λy1=>L ((y1.1.1,()),())
def Ai4:=
 cond (decide (pv<(pu.length:Int))) (cond (inB pv pu.length) (let z0:=pu.getD pv.toNat (aE 0 0)
 cond ((z0.f0==z)&&((z0.f1==x)&&Q)) (L (O (O ((Q,()),())))) (L (aA ((z,x,pu,IntKind.i64.wrap (pv+1),()),())))) P) (L (O (aA ((),()))))
def Sm:=lp Ai4
def Ry:=
 letI a:=(2:Int)
 letI b:=(0:Int)
 (Sm ((z,x,[aE b 1,aE 1 b,aE 1 a,aE a b,aE a 3,aE 3 a,aE 3 4,aE 4 a],b,()),())).bind λy1=>match y1 with
 | .inl y2=>
 L ((N,()),())
 | .inr y2=>
 L ((y2.1.1,()),())
def Mj:=
 letI a:=IntKind.bits aH
 L (((),()),((IntKind.wrap aH (stk z A (aF a z&&&aF a A).toNat),aH.wrap (stk x B (aF a x&&&aF a B).toNat),()),()))
def MO:=
 letI a:=IntKind.bits aH
 L (((),()),((IntKind.wrap aH (stk z A (aF a z|||BitVec.ofInt a A).toNat),aH.wrap (stk x B (aF a x|||BitVec.ofInt a B).toNat),()),()))
def Md :Option ((Bool×Unit)×Unit):=
 (EK (2:Int) (40:Int) (90:Int)).bind λy1=>
 aB (L (((),()),(y1.2.1,()))) λy2=>
 (Hg y2.2.1.1 y2.2.1.2.1 y2.2.1.2.2.1 y2.2.1.2.2.2.1 y2.2.1.2.2.2.2.1 y2.2.1.2.2.2.2.2.1 y2.2.1.2.2.2.2.2.2.1 y2.2.1.2.2.2.2.2.2.2.1).bind λy3=>
 (Ji y2.2.1.1 y2.2.1.2.1 y2.2.1.2.2.1 y2.2.1.2.2.2.1 y2.2.1.2.2.2.2.1 y2.2.1.2.2.2.2.2.1 y2.2.1.2.2.2.2.2.2.1 y2.2.1.2.2.2.2.2.2.2.1 (2:Int) (0:Int) (0:Int) (0:Int) []).bind λy4=>
 (Ps y2.2.1.1 y2.2.1.2.1 y2.2.1.2.2.1 y2.2.1.2.2.2.1 y2.2.1.2.2.2.2.1 y2.2.1.2.2.2.2.2.1 y2.2.1.2.2.2.2.2.2.1 y2.2.1.2.2.2.2.2.2.2.1 y4.2.1.1 y4.2.1.2.1 y4.2.1.2.2.1 y4.2.1.2.2.2.1 y4.2.1.2.2.2.2.1).bind λy5=>
 aB (L (((),(),y5.1.1,()),(y2.2.1,y3.2.1,()))) λy6=>
 (EL y6.2.1.1 y6.2.1.2.1 y6.2.1.2.2.1 y6.2.1.2.2.2.1 y6.2.1.2.2.2.2.1 y6.2.1.2.2.2.2.2.1 y6.2.1.2.2.2.2.2.2.1 y6.2.1.2.2.2.2.2.2.2.1 y6.2.2.1.1 y6.2.2.1.2.1 y6.2.2.1.2.2.1 y6.2.2.1.2.2.2.1 y6.2.2.1.2.2.2.2.1 y6.2.2.1.2.2.2.2.2.1 y6.2.2.1.2.2.2.2.2.2.1 y6.2.2.1.2.2.2.2.2.2.2.1 y6.2.2.1.2.2.2.2.2.2.2.2.1 y6.2.2.1.2.2.2.2.2.2.2.2.2.1 y6.2.2.1.2.2.2.2.2.2.2.2.2.2.1 y6.2.2.1.2.2.2.2.2.2.2.2.2.2.2.1 y6.2.2.1.2.2.2.2.2.2.2.2.2.2.2.2.1 y6.2.2.1.2.2.2.2.2.2.2.2.2.2.2.2.2.1 y6.2.2.1.2.2.2.2.2.2.2.2.2.2.2.2.2.2.1 y6.2.2.1.2.2.2.2.2.2.2.2.2.2.2.2.2.2.2.1 y6.1.2.2.1 (1048576:Int)).bind λy7=>
 (EL y6.2.1.1 y6.2.1.2.1 y6.2.1.2.2.1 y6.2.1.2.2.2.1 y6.2.1.2.2.2.2.1 y6.2.1.2.2.2.2.2.1 y6.2.1.2.2.2.2.2.2.1 y6.2.1.2.2.2.2.2.2.2.1 y6.2.2.1.1 y6.2.2.1.2.1 y6.2.2.1.2.2.1 y6.2.2.1.2.2.2.1 y6.2.2.1.2.2.2.2.1 y6.2.2.1.2.2.2.2.2.1 y6.2.2.1.2.2.2.2.2.2.1 y6.2.2.1.2.2.2.2.2.2.2.1 y6.2.2.1.2.2.2.2.2.2.2.2.1 y6.2.2.1.2.2.2.2.2.2.2.2.2.1 y6.2.2.1.2.2.2.2.2.2.2.2.2.2.1 y6.2.2.1.2.2.2.2.2.2.2.2.2.2.2.1 y6.2.2.1.2.2.2.2.2.2.2.2.2.2.2.2.1 y6.2.2.1.2.2.2.2.2.2.2.2.2.2.2.2.2.1 y6.2.2.1.2.2.2.2.2.2.2.2.2.2.2.2.2.2.1 y6.2.2.1.2.2.2.2.2.2.2.2.2.2.2.2.2.2.2.1 y6.1.2.2.1 (3:Int)).bind λy8=>
 aB (bif(y7.1.2.2.1==(0:Int))then
 bif((y7.2.2.1.1==(2:Int))&&((y7.2.2.1.2.1==(0:Int))&&Q))then
 bif(((List.length y7.2.2.1.2.2.2.2.2.2.2.1:Nat):Int)==(1:Int))then
 bif(inB (0:Int) (List.length y7.2.2.1.2.2.2.2.2.2.2.1))then
 let z0:aG:=(List.getD y7.2.2.1.2.2.2.2.2.2.2.1 (Int.toNat (0:Int)) (CarOutput.mk (0:Int) (0:Int) N (0:Int) (0:Int) N (0:Int) (0:Int) N))
 bif((z0.Q1==(2:Int))&&((z0.H1==(0:Int))&&Q))then
 bif(y7.2.1.2.2.2.2.2.2.2.2.2.2.2.2.2.1==(1:Int))then
 L (((y8.1.2.2.1==(8:Int)),()),())
 else
 L ((N,()),())
 else
 L ((N,()),())
 else
 P
 else
 L ((N,()),())
 else
 L ((N,()),())
 else
 L ((N,()),())) λy9=>
 L ((y9.1.1,()),())
def Ke:=
 letI b:=(0:Int)
 letI e:=(qv,qw,qx,qy,px,qz,pt,q0,q1,q2,q3,q4,q5,py,pz,qa,())
 letI g:=(H,J,pa,pb,pc,pd,pf,pg,ph,pi,pj,pm,pn,po,pp,pq,())
 letI l:=I.getD x.toNat b
 letI q:=(A,B,qc,qu,D,E,F,C,())
 letI r:=inB x I.length
 cond (decide (x<(pw.length:Int))) (cond (inB x pw.length) (let z0:=pw.getD x.toNat (CarOutput.mk b b N b b N b b N)
 letI v:=z0.Q1
 letI n:=z0.V3
 letI s:=z0.H1
 letI a:=(q,g,e,(q6,q7,q8,q9,qb,ra,rb,pw,()),(qd,qe,()),(v,s,z0.I2,z0.B2,z0.M1,z0.A5,z0.D3,n,z0.O5,()),())
 letI d:=(((),(),pr,I,z,(),(),(),x,(),Q,()),a)
 letI k:=Mj qd qe z0.B2 z0.M1
 aB ((Ot n v s z0.I2).bind λy1=>cond (! y1.1.1) (L d) ((KA n z0.D3).bind λy2=>cond (! y2.1.1) (L d) (cond r (cond (n !=l) (cond r ((Ry l n).bind λy3=>cond (! y3.1.1) (L d) (k.bind λy4=>L (((),(),pr,I,z,(),(),(),x,(),! ((y4.2.1.1==b)&&((y4.2.1.2.1==b)&&Q)),()),a))) P) (k.bind λy5=>L (((),(),pr,I,z,(),(),(),x,(),! ((y5.2.1.1==b)&&((y5.2.1.2.1==b)&&Q)),()),a))) P))) λy6=>letI o:=y6.1.2.2
 letI u:=o.2
 letI h:=u.2.2.2.2.2
 letI j:=y6.2.2.2.2
 letI m:=j.2.2.1.2.2.2
 cond h.2.2.1 (L (O (O ((N,()),())))) ((MO j.2.1.1 j.2.1.2.1 m.1 m.2.1).bind λy7=>cond (inB h.1 u.1.length) (L (aA (((),(),o.1,u.1.set h.1.toNat m.2.2.2.2.1,u.2.1,(),(),(),IntKind.i64.wrap (h.1+1),()),(y6.2.1,y6.2.2.1,y6.2.2.2.1,j.1,y7.2.1,())))) P)) P) (L (O (aA (((),(),pr,I,z,(),()),(q,g,e,())))))
def DZ:=lp Ke
def Kd:=
 letI k:=(0:Int)
 cond (decide (z<(pr.length:Int))) (aB (L (((),(),pr,I,z,()),((x,A,B,qc,D,E,F,C,()),(H,J,pa,pb,pc,pd,pf,pg,ph,pi,pj,pm,pn,po,pp,pq,()),()))) λy1=>letI d:=y1.2.2.1
 letI g:=d.2.2
 letI o:=g.2
 letI a:=o.2.2.2
 letI b:=a.2.2.2
 letI m:=y1.2.1
 letI c:=m.2.2.2
 letI e:=y1.1.2.2
 letI h:=b.2.2
 letI j:=c.2
 letI l:=e.2.2.1
 letI n:=j.2
 letI q:=h.2
 cond (inB l e.1.length) ((EL m.1 m.2.1 m.2.2.1 c.1 j.1 n.1 n.2.1 n.2.2.1 d.1 d.2.1 g.1 o.1 o.2.1 o.2.2.1 a.1 a.2.1 a.2.2.1 b.1 b.2.1 h.1 q.1 q.2.1 q.2.2.1 q.2.2.2.1 (e.1.getD l.toNat (aD (aC []))) 1048576).bind λy2=>cond (y2.1.2.2.1 !=k) (L (O (O ((N,()),())))) (cond ((y2.2.2.1.2.2.2.2.2.2.2.1.length:Int) !=(n.2.2.1.length:Int)) (L (O (O ((N,()),())))) ((DZ (((),(),e.1,e.2.1,l,(),(),(),k,()),(m,d,y2.2.1,y2.2.2.1,(k,k,()),()))).bind λy3=>match y3 with
 | .inl y4=>
 L (aA (((),(),y4.1.2.2.1,y4.1.2.2.2.1,IntKind.i64.wrap (y4.1.2.2.2.2.1+1),()),(y4.2.1,y4.2.2.2.1,())))
 | .inr y4=>
 L (O (O ((y4.1.1,()),())))))) P) (L (O (aA ((),()))))
def DY:=lp Kd
def F_l27_MachineLocks:=
 (EK z x A).bind λy1=>aB (L ((H,(),()),(y1.2.1,()))) λy2=>letI d:=y2.2.1
 letI a:=d.2.2
 letI b:=a.2.2
 letI c:=b.2
 letI e:=c.2
 (Hg d.1 d.2.1 a.1 a.2.1 b.1 c.1 e.1 e.2.1).bind λy3=>(Lz d.1 d.2.1 a.1 a.2.1 b.1 c.1 e.1 e.2.1 y2.1.1 100).bind λy4=>cond ((([]:List Int).length+y3.2.1.1.length).ble 2147483648) ((DY (((),(),y4.1.1,([]:List Int)++y3.2.1.1,(0:Int),()),(d,y3.2.1,()))).bind λy5=>match y5 with
 | .inl y6=>
 (Md).bind λy7=>L ((y7.1.1,()),())
 | .inr y6=>
 L ((y6.1.1,()),())) P
end
end Go.Ovl
