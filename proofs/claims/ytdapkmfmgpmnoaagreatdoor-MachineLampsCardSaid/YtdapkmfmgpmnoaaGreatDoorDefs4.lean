/- What each function of the program comes to: part 4. -/
import Derived.Test.YtdapkmfmgpmnoaaGreatDoorDefs3
set_option linter.all false
open Option renaming some->L,none->P,bind->aB
open Bool renaming false->N,true->Y
open Go.IntKind renaming i64->O,wrap->Q,u32->R,u64->aC
open Decidable renaming decide->S
open Sum renaming inr->U,inl->aA
open BitVec renaming ofInt->V
open Array renaming mk->W
open ByteArray renaming mk->X
open Go.Ovl renaming CarOutput->aD
namespace Go.Ovl
open Go Go.Ab
set_option maxRecDepth 100000
set_option synthInstance.maxSize 9999
set_option synthInstance.maxHeartbeats 999999
noncomputable section
variable(pu:List ByteArray)(z A B D qf q4 q5:Int)(I J pa:Nat)(E:List Car)(pd:List Int)(pg ph:List Bool)(pc:List Entry)(x pi:ByteArray)(C:Int)(pj:List Debounced)(pm:List Belief)(pn:List NewCar)(po:List Loaded)(pp:List Int)(pq:List Calls)(F pb H pf pt:Int)(q6:List Int)(q7 q8:List Bool)(q9:List Entry)(pw ra:ByteArray)(pr:Int)(rb:List Debounced)(rc:List Belief)(rd:List NewCar)(rf:List Loaded)(rg:List Int)(ri:List Calls)(py rj rl rm rn ro rp:Int)(rq rr:Bool)(ru:Int)(pv:List aD)(rv rw ry rz:Int)(pz:List CarInput)(qg qh:Int)(qi:Bool)(qj qk:Int)(ql:List Bool)(qm:List Calls)(qn:List Bool)(qo qp qq qr:Int)(qs qt:Bool)(qu:Int)(qv:List aD)(qw qx qy:Nat)(qa:List Car)(qz q0 q1 q2:Int)(q3:List CarInput)(qb qc qd qe:Int)(px:List CarInput)
def EC:=
 letI aj:=((),(),(),(),())
 letI bc:=(0:Int)
 aB ((Ef z A B D I J pa E pd pg ph pc x pi C pj pm pn po pp pq F pb H pf pt pr py pz qi qj qk ql qm qn qo qp qq qr qs qt qu qv).bind λy1=>match y1 with
 | .inl y2=>
 L (aj,(((),aj),y2.2.1,()))
 | .inr y2=>
 L (aj,(((),aj),y2.2.1,()))) λy3=>letI bq:=y3.2.2.1
 letI af:=bq.2.2
 letI au:=af.2.2
 letI br:=au.2
 letI j:=br.2.2.2
 letI bp:=j.2
 letI bs:=bp.2
 letI n:=bs.2.2.2
 letI ak:=n.2.2
 letI bh:=ak.2
 letI bt:=bh.2
 letI a:=bt.2.2.2
 letI cq:=a.2
 letI aa:=cq.2.2.2
 letI av:=aa.2.2
 letI bu:=av.2
 letI e:=bu.2.2.2
 letI bd:=e.2
 letI bv:=bd.2
 letI o:=bv.2.2.2
 letI al:=o.2.2
 letI bi:=al.2
 letI bw:=bi.2
 cond (bd.1 !=bc) (L (aA ((),(bq,())))) ((Ee bq.1 bq.2.1 af.1 af.2.1 au.1 br.1 br.2.1 br.2.2.1 j.1 bp.1 bs.1 bs.2.1 bs.2.2.1 n.1 n.2.1 ak.1 bh.1 bt.1 bt.2.1 bt.2.2.1 a.1 cq.1 cq.2.1 cq.2.2.1 aa.1 aa.2.1 av.1 bu.1 bu.2.1 bu.2.2.1 e.1 bd.1 bv.1 bv.2.1 bv.2.2.1 o.1 o.2.1 al.1 bi.1 bw.1 bw.2.1 bw.2.2.1 bw.2.2.2.1).bind λy4=>letI cn:=y4.2.1
 letI ag:=cn.2.2.2
 letI aw:=ag.2.2
 letI bx:=aw.2
 letI k:=bx.2.2.2
 letI cr:=k.2
 letI u:=cr.2.2.2
 letI am:=u.2.2
 letI bj:=am.2
 letI bz:=bj.2
 letI b:=bz.2.2.2
 letI cs:=b.2
 letI ab:=cs.2.2.2
 letI ax:=ab.2.2
 letI ca:=ax.2
 letI f:=ca.2.2.2
 letI be:=f.2
 letI cb:=be.2
 letI q:=cb.2.2.2
 letI an:=q.2.2
 letI bk:=an.2
 letI cc:=bk.2
 cond (be.1 !=bc) (L (aA ((),(cn,())))) ((Cy cn.1 cn.2.1 cn.2.2.1 ag.1 ag.2.1 aw.1 bx.1 bx.2.1 bx.2.2.1 k.1 cr.1 cr.2.1 cr.2.2.1 u.1 u.2.1 am.1 bj.1 bz.1 bz.2.1 bz.2.2.1 b.1 cs.1 cs.2.1 cs.2.2.1 ab.1 ab.2.1 ax.1 ca.1 ca.2.1 ca.2.2.1 f.1 be.1 cb.1 cb.2.1 cb.2.2.1 q.1 q.2.1 an.1 bk.1 cc.1 cc.2.1 cc.2.2.1 cc.2.2.2.1).bind λy5=>letI co:=y5.2.1
 letI ah:=co.2.2.2
 letI ay:=ah.2.2
 letI cd:=ay.2
 letI l:=cd.2.2.2
 letI ct:=l.2
 letI v:=ct.2.2.2
 letI ao:=v.2.2
 letI bl:=ao.2
 letI ce:=bl.2
 letI c:=ce.2.2.2
 letI cu:=c.2
 letI ad:=cu.2.2.2
 letI az:=ad.2.2
 letI cf:=az.2
 letI g:=cf.2.2.2
 letI bf:=g.2
 letI cg:=bf.2
 letI r:=cg.2.2.2
 letI ap:=r.2.2
 letI bm:=ap.2
 letI ch:=bm.2
 cond (bf.1 !=bc) (L (aA ((),(co,())))) ((Dc co.1 co.2.1 co.2.2.1 ah.1 ah.2.1 ay.1 cd.1 cd.2.1 cd.2.2.1 l.1 ct.1 ct.2.1 ct.2.2.1 v.1 v.2.1 ao.1 bl.1 ce.1 ce.2.1 ce.2.2.1 c.1 cu.1 cu.2.1 cu.2.2.1 ad.1 ad.2.1 az.1 cf.1 cf.2.1 cf.2.2.1 g.1 bf.1 cg.1 cg.2.1 cg.2.2.1 r.1 r.2.1 ap.1 bm.1 ch.1 ch.2.1 ch.2.2.1 ch.2.2.2.1).bind λy6=>letI cp:=y6.2.1
 letI ai:=cp.2.2.2
 letI ba:=ai.2.2
 letI ci:=ba.2
 letI m:=ci.2.2.2
 letI cv:=m.2
 letI w:=cv.2.2.2
 letI aq:=w.2.2
 letI bn:=aq.2
 letI cj:=bn.2
 letI d:=cj.2.2.2
 letI cw:=d.2
 letI ae:=cw.2.2.2
 letI bb:=ae.2.2
 letI ck:=bb.2
 letI h:=ck.2.2.2
 letI bg:=h.2
 letI cl:=bg.2
 letI s:=cl.2.2.2
 letI ar:=s.2.2
 letI bo:=ar.2
 letI cm:=bo.2
 cond (bg.1 !=bc) (L (aA ((),(cp,())))) ((DB cp.1 cp.2.1 cp.2.2.1 ai.1 ai.2.1 ba.1 ci.1 ci.2.1 ci.2.2.1 m.1 cv.1 cv.2.1 cv.2.2.1 w.1 w.2.1 aq.1 bn.1 cj.1 cj.2.1 cj.2.2.1 d.1 cw.1 cw.2.1 cw.2.2.1 ae.1 ae.2.1 bb.1 ck.1 ck.2.1 ck.2.2.1 h.1 bg.1 cl.1 cl.2.1 cl.2.2.1 s.1 s.2.1 ar.1 bo.1 cm.1 cm.2.1 cm.2.2.1 cm.2.2.2.1).bind λy7=>cond (y7.2.1.2.2.2.2.2.2.2.2.2.2.2.2.2.2.2.2.2.2.2.2.2.2.2.2.2.2.2.2.2.2.2.1 !=bc) (L (aA ((),(y7.2.1,())))) (L (U ((),(y7.2.1,()))))))))
def HK:=
 letI c:=(0:Int)
 letI h:=List Bool
 letI j:=List Int
 letI o:=(c,c,c,())
 letI w:=List Entry
 letI aa:=List Debounced
 letI ab:=List Belief
 letI ad:=List NewCar
 letI ae:=List Loaded
 letI af:=List Calls
 letI ag:=List aD
 (Ec z A B D I J pa E pw).bind λy1=>letI v:=y1.2.1.2
 let z0:Int:=(E.length:Int)
 letI d:=(S (c≤z0)&&decide (z0≤z0))&&decide (z0≤2147483648)
 letI m:=z0.toNat
 letI q:=List.replicate m N
 cond d (cond d (cond d (cond d ((CD pj).bind λy2=>(Dg pm).bind λy3=>(Di pn).bind λy4=>(Dh po).bind λy5=>aB ((EC z A B D I J pa E pd pg ph pc x pi C y2.1.1 y3.1.1 y4.1.1 y5.1.1 pp pq F pb H y1.2.1.1 v.1 v.2.1 v.2.2.1 v.2.2.2.1 (y1.1.2.1==c) pr c q (List.replicate m (Calls.mk c c)) q c c c c N N c (List.replicate m (CarOutput.mk c c N c c N c c N))).bind λy6=>match y6 with
 | .inl y7=>
 L (((),(),(),()),((([]:j),([]:h),([]:h),([]:w),X (W []),X (W []),c,([]:aa),([]:ab),([]:ad),([]:ae),([]:j),([]:af),o),(c,c,c,c,N,N,c,([]:ag),()),y7.2.1,()))
 | .inr y7=>
 L (((),(),(),()),((([]:j),([]:h),([]:h),([]:w),X (W []),X (W []),c,([]:aa),([]:ab),([]:ad),([]:ae),([]:j),([]:af),o),(c,c,c,c,N,N,c,([]:ag),()),y7.2.1,()))) λy8=>letI e:=y8.2.2.2.1.2.2.2.2.2.2.2.2
 letI ah:=e.2
 letI a:=ah.2.2.2
 letI n:=a.2
 letI r:=n.2
 letI f:=r.2.2.2
 letI k:=f.2.2
 letI s:=k.2
 letI ai:=s.2
 letI b:=ai.2.2.2.2.2.2.2.2.2.2
 letI g:=b.2.2.2.2
 letI l:=g.2.2
 letI u:=l.2
 letI aj:=u.2
 cond (b.1 !=c) (L (((),(),b.1,()),((([]:j),([]:h),([]:h),([]:w),a.1,n.1,r.1,([]:aa),([]:ab),([]:ad),([]:ae),([]:j),([]:af),o),(c,c,c,c,N,N,c,([]:ag),()),()))) (L (((),(),c,()),((e.1,ah.1,ah.2.1,ah.2.2.1,a.1,n.1,r.1,r.2.1,r.2.2.1,f.1,f.2.1,k.1,s.1,ai.1,ai.2.1,ai.2.2.1,()),(g.1,g.2.1,l.1,u.1,aj.1,aj.2.1,aj.2.2.1,aj.2.2.2.1,()),())))) P) P) P) P
def EV:=
 letI b:=(0:Int)
 letI f:=List Bool
 letI g:=List Int
 letI h:=((),(),(1:Int),())
 (Gf z A B D I J pa E pd pg ph pc x pi C pj pm pn po pp pq F pb H).bind λy1=>cond (! y1.1.1) (L (h,((([]:g),([]:f),([]:f),([]:List Entry),X (W []),X (W []),b,([]:List Debounced),([]:List Belief),([]:List NewCar),([]:List Loaded),([]:g),([]:List Calls),b,b,b,()),(b,b,b,b,N,N,b,([]:List aD),()),()))) (cond (S (pr<b)) (L (h,((([]:g),([]:f),([]:f),([]:List Entry),X (W []),X (W []),b,([]:List Debounced),([]:List Belief),([]:List NewCar),([]:List Loaded),([]:g),([]:List Calls),b,b,b,()),(b,b,b,b,N,N,b,([]:List aD),()),()))) ((Nz pd pg ph pc x pi C pj pm pn po pp pq F pb H).bind λy2=>letI d:=y2.2.1.2.2
 letI j:=d.2
 letI a:=j.2.2.2
 letI c:=a.2.2.2
 letI e:=c.2.2
 letI k:=e.2
 (HK z A B D I J pa E y2.2.1.1 y2.2.1.2.1 d.1 j.1 j.2.1 j.2.2.1 a.1 a.2.1 a.2.2.1 c.1 c.2.1 e.1 k.1 k.2.1 k.2.2.1 k.2.2.2.1 pw pr).bind λy3=>L (((),(),y3.1.2.2.1,()),(y3.2.1,y3.2.2.1,()))))
def Uf:=
 letI a:=(0:Int)
 letI b:=(((),()),((a,a,()),()))
 letI c:=IntKind.bits R
 letI d:=aC.wrap z
 cond (S (z<a)) (L b) (cond (S (31<z)) (L b) (cond (A==1) (let z0:Int:=d
 cond (S (a≤z0)) (L (((),()),((Q R (1*((2:Int)^Min.min z0.toNat c)),a,()),()))) P) (cond (A==2) (let z1:Int:=d
 cond (S (a≤z1)) (L (((),()),((a,R.wrap (1*((2:Int)^Min.min z1.toNat c)),()),()))) P) (L b))))
def Lm:=
 letI a:=IntKind.bits R
 L (((),()),((Q R (stk z B (V a z|||BitVec.ofInt a B).toNat),R.wrap (stk A D (V a A|||BitVec.ofInt a D).toNat),()),()))
def MQ:=
 letI c:=(0:Int)
 letI a:=pc.getD C.toNat (Entry.mk c c c c N)
 letI b:=pc.length
 cond (S (C<((b:Nat):Int))) (cond (inB C b) (cond (inB C b) ((Uf a.D0 a.I0).bind λy1=>(Lm H pf y1.2.1.1 y1.2.1.2.1).bind λy2=>L (aA ((pc,(),(),O.wrap (C+1),()),((F,pb,()),y2.2.1,())))) P) P) (L (U (((),(),()),((F,pb,()),(H,pf,()),()))))
def Sn:=lp MQ
def Th:=
 letI a:=(0:Int)
 (Sn ((pc,(),(),a,()),((a,a,()),(a,a,()),()))).bind λy1=>L (((),()),(y1.2.2.1,()))
def Si:=
 letI a:=O.wrap (19*(E.length:Int))
 (Eb z A B D I J pa E).bind λy1=>cond (y1.1.1 !=0) (L (((0:Int),(0:Int),()),())) (L ((Q O (14+a),O.wrap (23+a),()),()))
def Sg:=
 letI a:=(x.size:Int)
 cond (S (a<2)) (L ((X (W []),(4:Int),()),())) (let z0:Int:=O.wrap (a-2)
 cond (S (0≤z0)&&decide (z0≤(x.size:Int))) (let z1:ByteArray:=ByteArray.extract x 0 z0.toNat
 (OP z1).bind λy1=>cond (eqB y1.1.1 x) (L ((z1,(0:Int),()),())) (L ((X (W []),(5:Int),()),()))) P)
def Sl:=
 letI a:=x.size
 letI b:=(((30:Int),()),())
 (Eb z A B D I J pa E).bind λy1=>cond (y1.1.1 !=0) (L (((1:Int),()),())) (cond (((a:Nat):Int) !=C) (L (((4:Int),()),())) (cond (inB 0 a) (cond (Q O (AF x (Int.toNat (0:Int))) !=F) (L b) (cond (inB 1 a) (cond (Q O (AF x (Int.toNat (1:Int))) !=(E.length:Int)) (L b) ((Sg x).bind λy2=>L ((y2.1.2.1,()),()))) P)) P))
def IB:=
 letI a:=IntKind.bits aC
 cond (S (H<F)) (let z0:Int:=O.wrap (C+H)
 cond (inB z0 x.size) (let z1:Int:=aC.wrap (Q O (8*H))
 cond (S (0≤z1)) (let z2:Int:=aC.wrap (Q aC (AF x z0.toNat)*((2:Int)^Min.min z1.toNat a))
 L (aA ((x,C,F,aC.wrap (stk pb z2 (V a pb|||BitVec.ofInt a z2).toNat),O.wrap (H+1),()),()))) P) P) (L (U ((pb,()),())))
def NN:=lp IB
def HC:=
 (NN ((x,C,F,(0:Int),(0:Int),()),())).bind λy1=>L ((y1.1.1,()),())
def Sm:=
 (HC x C 4).bind λy1=>(HC x (Q O (C+4)) 4).bind λy2=>L (((),()),((Q R y1.1.1,R.wrap y2.1.1,()),()))
def Ue:=
 letI a:=IntKind.bits IntKind.u8
 cond (inB C x.size) (let z0:Int:=aC.wrap F
 cond (S (0≤z0)) (let z1:Int:=Int.fdiv (AF x C.toNat) ((2:Int)^Min.min z0.toNat a)
 L ((Q IntKind.u8 (stk z1 1 (V a z1&&&V a 1).toNat)==1,()),())) P) P
def HM:=
 letI b:=(F,pb,H,pf,qw,qx,qy,qa,())
 letI c:=(4:Int)
 letI d:=(qz,q0,q1,q2,q3,())
 cond (S (C<(qa.length:Int))) (let z0:Int:=O.wrap (12+O.wrap (19*C))
 letI a:=Ue x (Q O (z0+c))
 (HC x z0 c).bind λy1=>(a (0:Int)).bind λy2=>(a (1:Int)).bind λy3=>(a (2:Int)).bind λy4=>(a (3:Int)).bind λy5=>let z1:Int:=O.wrap (z0+5)
 cond (inB z1 x.size) ((a c).bind λy6=>let z2:Int:=O.wrap (z0+6)
 cond (inB z2 x.size) ((a (5:Int)).bind λy7=>(HC x (Q O (z0+7)) c).bind λy8=>(HC x (Q O (z0+11)) 8).bind λy9=>let z3:List (CarInput):=[CarInput.mk (Q R y1.1.1) y2.1.1 y3.1.1 y4.1.1 y5.1.1 (Q O (AF x z1.toNat)) y6.1.1 (Q O (AF x z2.toNat)) y7.1.1 (Q R y8.1.1) y9.1.1.toNat]
 cond ((px.length+z3.length).ble 2147483648) (L (aA ((x,(),(),(),O.wrap (C+1),()),(b,d,(qb,qc,qd,qe,px++z3,()),())))) P) P) P) (L (U ((x,(),(),(),()),(b,d,(qb,qc,qd,qe,px,()),()))))
def MN:=lp HM
def JJ:=
 letI a:=(0:Int)
 letI d:=List CarInput
 letI h:=((),(31:Int),())
 (Si z A B D I J pa E).bind λy1=>(Sl z A B D I J pa E x y1.1.1 165).bind λy2=>cond (y2.1.1 !=a) (L (((),y2.1.1,()),((a,a,a,a,([]:d),()),()))) ((Sm x 2).bind λy3=>cond (inB 10 x.size) (cond (inB 11 x.size) ((MN ((x,(),(),(),a,()),((z,A,B,D,I,J,pa,E,()),(a,a,a,a,([]:d),()),(y3.2.1.1,y3.2.1.2.1,O.wrap (AF x (Int.toNat (10:Int))),O.wrap (AF x (Int.toNat (11:Int))),([]:d),()),()))).bind λy4=>letI b:=y4.2.1.2.2
 letI c:=y4.2.2.2.1
 letI e:=b.2
 letI f:=e.2
 letI g:=c.2
 (NY y4.2.1.1 y4.2.1.2.1 b.1 e.1 f.1 f.2.1 f.2.2.1 f.2.2.2.1 c.1 g.1 g.2.1 g.2.2.1 g.2.2.2.1).bind λy5=>cond (y5.1.2.1 !=a) (L (h,((a,a,a,a,([]:d),()),()))) (cond (! eqB y5.1.1 y4.1.1) (L (h,((a,a,a,a,([]:d),()),()))) (L (((),a,()),(c,()))))) P) P)
def Ci:=
 letI a:=IntKind.bits R
 L (((),()),((Q R (stk z B (V a z&&&(~~~ V a B)).toNat),R.wrap (stk A D (V a A&&&(~~~ V a D)).toNat),()),()))
def MH:=
 letI a:=IntKind.bits R
 L (((),()),((Q R (stk z B (V a z&&&V a B).toNat),R.wrap (stk A D (V a A&&&V a D).toNat),()),()))
def MB :Option ((Bool×Unit)×Unit):=
 (EU (2:Int) (40:Int) (90:Int)).bind λy1=>
 aB (L (((),()),(y1.2.1,()))) λy2=>
 (HD y2.2.1.1 y2.2.1.2.1 y2.2.1.2.2.1 y2.2.1.2.2.2.1 y2.2.1.2.2.2.2.1 y2.2.1.2.2.2.2.2.1 y2.2.1.2.2.2.2.2.2.1 y2.2.1.2.2.2.2.2.2.2.1).bind λy3=>
 (JF y2.2.1.1 y2.2.1.2.1 y2.2.1.2.2.1 y2.2.1.2.2.2.1 y2.2.1.2.2.2.2.1 y2.2.1.2.2.2.2.2.1 y2.2.1.2.2.2.2.2.2.1 y2.2.1.2.2.2.2.2.2.2.1 (2:Int) (0:Int) (0:Int) (0:Int) []).bind λy4=>
 (NY y2.2.1.1 y2.2.1.2.1 y2.2.1.2.2.1 y2.2.1.2.2.2.1 y2.2.1.2.2.2.2.1 y2.2.1.2.2.2.2.2.1 y2.2.1.2.2.2.2.2.2.1 y2.2.1.2.2.2.2.2.2.2.1 y4.2.1.1 y4.2.1.2.1 y4.2.1.2.2.1 y4.2.1.2.2.2.1 y4.2.1.2.2.2.2.1).bind λy5=>
 aB (L (((),(),y5.1.1,()),(y2.2.1,y3.2.1,()))) λy6=>
 (EV y6.2.1.1 y6.2.1.2.1 y6.2.1.2.2.1 y6.2.1.2.2.2.1 y6.2.1.2.2.2.2.1 y6.2.1.2.2.2.2.2.1 y6.2.1.2.2.2.2.2.2.1 y6.2.1.2.2.2.2.2.2.2.1 y6.2.2.1.1 y6.2.2.1.2.1 y6.2.2.1.2.2.1 y6.2.2.1.2.2.2.1 y6.2.2.1.2.2.2.2.1 y6.2.2.1.2.2.2.2.2.1 y6.2.2.1.2.2.2.2.2.2.1 y6.2.2.1.2.2.2.2.2.2.2.1 y6.2.2.1.2.2.2.2.2.2.2.2.1 y6.2.2.1.2.2.2.2.2.2.2.2.2.1 y6.2.2.1.2.2.2.2.2.2.2.2.2.2.1 y6.2.2.1.2.2.2.2.2.2.2.2.2.2.2.1 y6.2.2.1.2.2.2.2.2.2.2.2.2.2.2.2.1 y6.2.2.1.2.2.2.2.2.2.2.2.2.2.2.2.2.1 y6.2.2.1.2.2.2.2.2.2.2.2.2.2.2.2.2.2.1 y6.2.2.1.2.2.2.2.2.2.2.2.2.2.2.2.2.2.2.1 y6.1.2.2.1 (1048576:Int)).bind λy7=>
 (EV y6.2.1.1 y6.2.1.2.1 y6.2.1.2.2.1 y6.2.1.2.2.2.1 y6.2.1.2.2.2.2.1 y6.2.1.2.2.2.2.2.1 y6.2.1.2.2.2.2.2.2.1 y6.2.1.2.2.2.2.2.2.2.1 y6.2.2.1.1 y6.2.2.1.2.1 y6.2.2.1.2.2.1 y6.2.2.1.2.2.2.1 y6.2.2.1.2.2.2.2.1 y6.2.2.1.2.2.2.2.2.1 y6.2.2.1.2.2.2.2.2.2.1 y6.2.2.1.2.2.2.2.2.2.2.1 y6.2.2.1.2.2.2.2.2.2.2.2.1 y6.2.2.1.2.2.2.2.2.2.2.2.2.1 y6.2.2.1.2.2.2.2.2.2.2.2.2.2.1 y6.2.2.1.2.2.2.2.2.2.2.2.2.2.2.1 y6.2.2.1.2.2.2.2.2.2.2.2.2.2.2.2.1 y6.2.2.1.2.2.2.2.2.2.2.2.2.2.2.2.2.1 y6.2.2.1.2.2.2.2.2.2.2.2.2.2.2.2.2.2.1 y6.2.2.1.2.2.2.2.2.2.2.2.2.2.2.2.2.2.2.1 y6.1.2.2.1 (3:Int)).bind λy8=>
 aB (bif(y7.1.2.2.1==(0:Int))then
 bif((y7.2.2.1.1==(2:Int))&&((y7.2.2.1.2.1==(0:Int))&&Y))then
 bif(((List.length y7.2.2.1.2.2.2.2.2.2.2.1:Nat):Int)==(1:Int))then
 bif(inB (0:Int) (List.length y7.2.2.1.2.2.2.2.2.2.2.1))then
 let z0:aD:=(List.getD y7.2.2.1.2.2.2.2.2.2.2.1 (Int.toNat (0:Int)) (CarOutput.mk (0:Int) (0:Int) N (0:Int) (0:Int) N (0:Int) (0:Int) N))
 bif((z0.D2==(2:Int))&&((z0.X1==(0:Int))&&Y))then
 bif(y7.2.1.2.2.2.2.2.2.2.2.2.2.2.2.2.1==(1:Int))then
 L (((y8.1.2.2.1==(8:Int)),()),())
 else
 L ((N,()),())
 else
 L ((N,()),())
 else
 P
 else
 L ((N,()),())
 else
 L ((N,()),())
 else
 L ((N,()),())) λy9=>
 L ((y9.1.1,()),())
def KB:=
 letI a:=(q6,q7,q8,q9,pw,ra,pr,rb,rc,rd,rf,rg,ri,py,rj,rl,())
 letI b:=(pd,pg,ph,pc,x,pi,C,pj,pm,pn,po,pp,pq,F,pb,H,())
 letI d:=(0:Int)
 letI e:=(rm,rn,ro,rp,rq,rr,ru,pv,())
 letI h:=(D,qf,q4,q5,I,J,pa,E,())
 letI j:=(rv,rw,ry,rz,pz,())
 cond (S (B<(pv.length:Int))) (cond (inB B pv.length) (let z0:=pv.getD B.toNat (CarOutput.mk d d N d d N d d N)
 (Lm qg qh z0.J2 z0.E2).bind λy1=>L (aA (((),(),pu,(),z,(),(),(),A,(),O.wrap (B+1),()),(h,b,(pf,pt,()),a,e,j,y1.2.1,())))) P) (L (U (((),(),pu,(),z,(),(),(),A,(),()),(h,b,(pf,pt,()),a,e,j,(qg,qh,()),()))))
def Ei:=lp KB
def KA:=
 letI k:=(0:Int)
 letI ae:=((N,()),())
 cond (S (z<(pu.length:Int))) (aB (L (((),(),pu,(),z,()),((A,B,D,qf,I,J,pa,E,()),(pd,pg,ph,pc,x,pi,C,pj,pm,pn,po,pp,pq,F,pb,H,()),(pf,pt,()),()))) λy1=>letI w:=y1.2.2.1
 letI ah:=w.2.2
 letI au:=ah.2
 letI d:=au.2.2.2
 letI an:=y1.2.1
 letI j:=an.2.2
 letI m:=y1.1.2.2
 letI o:=d.2.2.2
 letI s:=j.2.2
 letI ad:=m.2.2.1
 letI az:=m.1
 letI ag:=inB ad az.length
 letI ai:=o.2.2
 letI aj:=s.2
 letI ar:=aj.2
 letI av:=ai.2
 letI bc:=ad.toNat
 cond ag ((EV an.1 an.2.1 j.1 j.2.1 s.1 aj.1 ar.1 ar.2.1 w.1 w.2.1 ah.1 au.1 au.2.1 au.2.2.1 d.1 d.2.1 d.2.2.1 o.1 o.2.1 ai.1 av.1 av.2.1 av.2.2.1 av.2.2.2.1 (az.getD bc (X (W []))) 1048576).bind λy2=>cond (y2.1.2.2.1 !=k) (L (U (U ae))) ((Th y2.2.1.2.2.2.1).bind λy3=>cond (! ((y2.2.2.1.1==y3.2.1.1)&&((y2.2.2.1.2.1==y3.2.1.2.1)&&Y))) (L (U (U ae))) (cond ag ((JJ an.1 an.2.1 j.1 j.2.1 s.1 aj.1 ar.1 ar.2.1 (az.getD bc (X (W [])))).bind λy4=>(Ei (((),(),az,(),ad,(),(),(),y4.1.2.1,(),k,()),(an,w,y1.2.2.2.1,y2.2.1,y2.2.2.1,y4.2.1,(k,k,()),()))).bind λy5=>letI b:=y5.2.2.2
 letI c:=b.2.2
 letI q:=c.1
 letI r:=b.1
 letI ap:=r.2.1
 letI ba:=r.1
 letI aq:=c.2
 letI u:=MH ba ap aq.2.1.1 aq.2.1.2.1
 letI ab:=y5.1.2.2
 letI af:=q.2
 letI am:=ab.2.2
 letI aw:=af.2
 (Ci q.1 af.1 ba ap).bind λy6=>letI g:=(y5.2.1,y5.2.2.1,r,b.2.1,q,aq.1,y6.2.1,())
 letI a:=(((),(),ab.1,(),am.1,(),(),(),(),Y,()),g)
 letI v:=Ci y6.2.1.1 y6.2.1.2.1 aq.1.1 aq.1.2.1
 (Ci ba ap q.1 af.1).bind λy7=>letI ao:=y7.2.1
 letI bb:=ao.2.1
 letI l:=! ((ao.1==aw.1)&&((bb==aw.2.1)&&Y))
 aB (cond (! (aw.2.2.1==(am.2.2.2.2.1 !=k))) (L a) (cond aw.2.2.1 (cond (! ((q.1==ba)&&((af.1==ap)&&Y))) (L a) (v.bind λy8=>cond (! ((y8.2.1.1==k)&&((y8.2.1.2.1==k)&&Y))) (L a) (cond l (L a) (u.bind λy9=>L (((),(),ab.1,(),am.1,(),(),(),(),! ((ao.1==y9.2.1.1)&&((bb==y9.2.1.2.1)&&Y)),()),g))))) (v.bind λy10=>cond (! ((y10.2.1.1==k)&&((y10.2.1.2.1==k)&&Y))) (L a) (cond l (L a) (u.bind λy11=>L (((),(),ab.1,(),am.1,(),(),(),(),! ((ao.1==y11.2.1.1)&&((bb==y11.2.1.2.1)&&Y)),()),g)))))) λy12=>letI e:=y12.2.2.2
 letI n:=e.2.2
 letI h:=(y12.2.1,y12.2.2.1,e.1,e.2.1,n.1,())
 letI aa:=y12.1.2.2
 letI ak:=aa.2.2
 letI al:=n.1.2.2.2.2
 letI ax:=n.2
 cond ak.2.2.2.2.2.1 (L (U (U ae))) ((Ci ax.1.1 ax.1.2.1 e.1.1 e.1.2.1).bind λy13=>(Ci y13.2.1.1 y13.2.1.2.1 ax.2.1.1 ax.2.1.2.1).bind λy14=>aB (cond (! ((! ((y14.2.1.1==k)&&((y14.2.1.2.1==k)&&Y)))==al.2.1)) (L (((),(),aa.1,(),ak.1,(),(),Y,()),h)) (cond al.1 (L (((),(),aa.1,(),ak.1,(),(),al.2.1,()),h)) (L (((),(),aa.1,(),ak.1,(),(),N,()),h)))) λy15=>letI ay:=y15.2.2.2.2
 cond y15.1.2.2.2.2.2.2.2.1 (L (U (U ae))) (L (aA (((),(),y15.1.2.2.1,(),O.wrap (y15.1.2.2.2.2.1+1),()),(y15.2.1,ay.1,(ay.2.1.1,ay.2.1.2.1,()),())))))) P))) P) (L (U (aA ((),()))))
def Eh:=lp KA
def F_l27_MachineLamps:=
 (EU z A B).bind λy1=>aB (L ((pd,(),()),(y1.2.1,()))) λy2=>letI d:=y2.2.1
 letI a:=d.2.2
 letI b:=a.2.2
 letI c:=b.2
 letI e:=c.2
 (HD d.1 d.2.1 a.1 a.2.1 b.1 c.1 e.1 e.2.1).bind λy3=>(LX d.1 d.2.1 a.1 a.2.1 b.1 c.1 e.1 e.2.1 y2.1.1 100).bind λy4=>(Eh (((),(),y4.1.1,(),(0:Int),()),(d,y3.2.1,((0:Int),(0:Int),()),()))).bind λy5=>match y5 with
 | .inl y6=>
 (MB).bind λy7=>L ((y7.1.1,()),())
 | .inr y6=>
 L ((y6.1.1,()),())
end
end Go.Ovl
