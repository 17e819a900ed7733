/- What each function of the program comes to: part 4. -/
import Derived.Test.YtoppkmfgeaflcaaGreatDoorDefs3
set_option linter.all false
open Option renaming some->L,none->O,bind->aA
open Bool renaming false->N
open Go.IntKind renaming i64->P,wrap->S,u64->aC,u32->aD
open Sum renaming inr->Q,inl->U
open Go.Ab renaming inB->R
open Decidable renaming decide->V
open Array renaming mk->W
open ByteArray renaming mk->X
open Go.Ovl renaming CarOutput->aB
namespace Go.Ovl
open Go Go.Ab
set_option maxRecDepth 100000
set_option synthInstance.maxSize 9999
set_option synthInstance.maxHeartbeats 999999
noncomputable section
variable(pd:List ByteArray)(A z D E qd ql:Int)(F H I:Nat)(B:List Car)(pf:List Int)(pc pg:List Bool)(ph:List Entry)(x pi:ByteArray)(C:Int)(pj:List Debounced)(pm:List Belief)(pn:List NewCar)(po:List Loaded)(pp:List Int)(pq:List Calls)(J pb pa:Int)(pt:List Int)(pu qm:List Bool)(pv:List Entry)(pw qn:ByteArray)(pr:Int)(qo:List Debounced)(qp:List Belief)(qq:List NewCar)(qr:List Loaded)(qs:List Int)(qt:List Calls)(py pz qa qu qv qw qx:Int)(qy qz:Bool)(q0:Int)(px:List aB)(q1 q2 qe qf:Int)(qb:List CarInput)(q3:Bool)(q4 q5:Int)(q6:List Bool)(q7:List Calls)(q8:List Bool)(q9 ra rb rc:Int)(rd rf:Bool)(rg:Int)(ri:List aB)(rj rl rm:Nat)(qg:List Car)(rn ro rp rq:Int)(rr:List CarInput)(qh qi qj qk:Int)(qc:List CarInput)
def Ew:=
 letI aj:=((),(),(),(),())
 letI bc:=(0:Int)
 aA ((DZ A z D E F H I B pf pc pg ph x pi C pj pm pn po pp pq J pb pa pr py pz qa qb q3 q4 q5 q6 q7 q8 q9 ra rb rc rd rf rg ri).bind λy1=>match y1 with
 | .inl y2=>
 L (aj,(((),aj),y2.2.1,()))
 | .inr y2=>
 L (aj,(((),aj),y2.2.1,()))) λy3=>letI bq:=y3.2.2.1
 letI af:=bq.2.2
 letI au:=af.2.2
 letI br:=au.2
 letI j:=br.2.2.2
 letI bp:=j.2
 letI bs:=bp.2
 letI n:=bs.2.2.2
 letI ak:=n.2.2
 letI bh:=ak.2
 letI bt:=bh.2
 letI a:=bt.2.2.2
 letI cq:=a.2
 letI aa:=cq.2.2.2
 letI av:=aa.2.2
 letI bu:=av.2
 letI e:=bu.2.2.2
 letI bd:=e.2
 letI bv:=bd.2
 letI o:=bv.2.2.2
 letI al:=o.2.2
 letI bi:=al.2
 letI bw:=bi.2
 cond (bd.1 !=bc) (L (U ((),(bq,())))) ((DY bq.1 bq.2.1 af.1 af.2.1 au.1 br.1 br.2.1 br.2.2.1 j.1 bp.1 bs.1 bs.2.1 bs.2.2.1 n.1 n.2.1 ak.1 bh.1 bt.1 bt.2.1 bt.2.2.1 a.1 cq.1 cq.2.1 cq.2.2.1 aa.1 aa.2.1 av.1 bu.1 bu.2.1 bu.2.2.1 e.1 bd.1 bv.1 bv.2.1 bv.2.2.1 o.1 o.2.1 al.1 bi.1 bw.1 bw.2.1 bw.2.2.1 bw.2.2.2.1).bind λy4=>letI cn:=y4.2.1
 letI ag:=cn.2.2.2
 letI aw:=ag.2.2
 letI bx:=aw.2
 letI k:=bx.2.2.2
 letI cr:=k.2
 letI u:=cr.2.2.2
 letI am:=u.2.2
 letI bj:=am.2
 letI bz:=bj.2
 letI b:=bz.2.2.2
 letI cs:=b.2
 letI ab:=cs.2.2.2
 letI ax:=ab.2.2
 letI ca:=ax.2
 letI f:=ca.2.2.2
 letI be:=f.2
 letI cb:=be.2
 letI q:=cb.2.2.2
 letI an:=q.2.2
 letI bk:=an.2
 letI cc:=bk.2
 cond (be.1 !=bc) (L (U ((),(cn,())))) ((Cs cn.1 cn.2.1 cn.2.2.1 ag.1 ag.2.1 aw.1 bx.1 bx.2.1 bx.2.2.1 k.1 cr.1 cr.2.1 cr.2.2.1 u.1 u.2.1 am.1 bj.1 bz.1 bz.2.1 bz.2.2.1 b.1 cs.1 cs.2.1 cs.2.2.1 ab.1 ab.2.1 ax.1 ca.1 ca.2.1 ca.2.2.1 f.1 be.1 cb.1 cb.2.1 cb.2.2.1 q.1 q.2.1 an.1 bk.1 cc.1 cc.2.1 cc.2.2.1 cc.2.2.2.1).bind λy5=>letI co:=y5.2.1
 letI ah:=co.2.2.2
 letI ay:=ah.2.2
 letI cd:=ay.2
 letI l:=cd.2.2.2
 letI ct:=l.2
 letI v:=ct.2.2.2
 letI ao:=v.2.2
 letI bl:=ao.2
 letI ce:=bl.2
 letI c:=ce.2.2.2
 letI cu:=c.2
 letI ad:=cu.2.2.2
 letI az:=ad.2.2
 letI cf:=az.2
 letI g:=cf.2.2.2
 letI bf:=g.2
 letI cg:=bf.2
 letI r:=cg.2.2.2
 letI ap:=r.2.2
 letI bm:=ap.2
 letI ch:=bm.2
 cond (bf.1 !=bc) (L (U ((),(co,())))) ((CU co.1 co.2.1 co.2.2.1 ah.1 ah.2.1 ay.1 cd.1 cd.2.1 cd.2.2.1 l.1 ct.1 ct.2.1 ct.2.2.1 v.1 v.2.1 ao.1 bl.1 ce.1 ce.2.1 ce.2.2.1 c.1 cu.1 cu.2.1 cu.2.2.1 ad.1 ad.2.1 az.1 cf.1 cf.2.1 cf.2.2.1 g.1 bf.1 cg.1 cg.2.1 cg.2.2.1 r.1 r.2.1 ap.1 bm.1 ch.1 ch.2.1 ch.2.2.1 ch.2.2.2.1).bind λy6=>letI cp:=y6.2.1
 letI ai:=cp.2.2.2
 letI ba:=ai.2.2
 letI ci:=ba.2
 letI m:=ci.2.2.2
 letI cv:=m.2
 letI w:=cv.2.2.2
 letI aq:=w.2.2
 letI bn:=aq.2
 letI cj:=bn.2
 letI d:=cj.2.2.2
 letI cw:=d.2
 letI ae:=cw.2.2.2
 letI bb:=ae.2.2
 letI ck:=bb.2
 letI h:=ck.2.2.2
 letI bg:=h.2
 letI cl:=bg.2
 letI s:=cl.2.2.2
 letI ar:=s.2.2
 letI bo:=ar.2
 letI cm:=bo.2
 cond (bg.1 !=bc) (L (U ((),(cp,())))) ((Ds cp.1 cp.2.1 cp.2.2.1 ai.1 ai.2.1 ba.1 ci.1 ci.2.1 ci.2.2.1 m.1 cv.1 cv.2.1 cv.2.2.1 w.1 w.2.1 aq.1 bn.1 cj.1 cj.2.1 cj.2.2.1 d.1 cw.1 cw.2.1 cw.2.2.1 ae.1 ae.2.1 bb.1 ck.1 ck.2.1 ck.2.2.1 h.1 bg.1 cl.1 cl.2.1 cl.2.2.1 s.1 s.2.1 ar.1 bo.1 cm.1 cm.2.1 cm.2.2.1 cm.2.2.2.1).bind λy7=>cond (y7.2.1.2.2.2.2.2.2.2.2.2.2.2.2.2.2.2.2.2.2.2.2.2.2.2.2.2.2.2.2.2.2.2.1 !=bc) (L (U ((),(y7.2.1,())))) (L (Q ((),(y7.2.1,()))))))))
def Hx:=
 letI c:=(0:Int)
 letI h:=List Bool
 letI j:=List Int
 letI o:=(c,c,c,())
 letI w:=List Entry
 letI aa:=List Debounced
 letI ab:=List Belief
 letI ad:=List NewCar
 letI ae:=List Loaded
 letI af:=List Calls
 letI ag:=List aB
 (DW A z D E F H I B pw).bind λy1=>letI v:=y1.2.1.2
 let z0:Int:=(B.length:Int)
 letI d:=(V (c≤z0)&&decide (z0≤z0))&&decide (z0≤2147483648)
 letI m:=z0.toNat
 letI q:=List.replicate m N
 cond d (cond d (cond d (cond d ((Cy pj).bind λy2=>(CX pm).bind λy3=>(CZ pn).bind λy4=>(CY po).bind λy5=>aA ((Ew A z D E F H I B pf pc pg ph x pi C y2.1.1 y3.1.1 y4.1.1 y5.1.1 pp pq J pb pa y1.2.1.1 v.1 v.2.1 v.2.2.1 v.2.2.2.1 (y1.1.2.1==c) pr c q (List.replicate m (Calls.mk c c)) q c c c c N N c (List.replicate m (CarOutput.mk c c N c c N c c N))).bind λy6=>match y6 with
 | .inl y7=>
 L (((),(),(),()),((([]:j),([]:h),([]:h),([]:w),X (W []),X (W []),c,([]:aa),([]:ab),([]:ad),([]:ae),([]:j),([]:af),o),(c,c,c,c,N,N,c,([]:ag),()),y7.2.1,()))
 | .inr y7=>
 L (((),(),(),()),((([]:j),([]:h),([]:h),([]:w),X (W []),X (W []),c,([]:aa),([]:ab),([]:ad),([]:ae),([]:j),([]:af),o),(c,c,c,c,N,N,c,([]:ag),()),y7.2.1,()))) λy8=>letI e:=y8.2.2.2.1.2.2.2.2.2.2.2.2
 letI ah:=e.2
 letI a:=ah.2.2.2
 letI n:=a.2
 letI r:=n.2
 letI f:=r.2.2.2
 letI k:=f.2.2
 letI s:=k.2
 letI ai:=s.2
 letI b:=ai.2.2.2.2.2.2.2.2.2.2
 letI g:=b.2.2.2.2
 letI l:=g.2.2
 letI u:=l.2
 letI aj:=u.2
 cond (b.1 !=c) (L (((),(),b.1,()),((([]:j),([]:h),([]:h),([]:w),a.1,n.1,r.1,([]:aa),([]:ab),([]:ad),([]:ae),([]:j),([]:af),o),(c,c,c,c,N,N,c,([]:ag),()),()))) (L (((),(),c,()),((e.1,ah.1,ah.2.1,ah.2.2.1,a.1,n.1,r.1,r.2.1,r.2.2.1,f.1,f.2.1,k.1,s.1,ai.1,ai.2.1,ai.2.2.1,()),(g.1,g.2.1,l.1,u.1,aj.1,aj.2.1,aj.2.2.1,aj.2.2.2.1,()),())))) O) O) O) O
def ET:=
 letI b:=(0:Int)
 letI f:=List Bool
 letI g:=List Int
 letI h:=((),(),(1:Int),())
 (FV A z D E F H I B pf pc pg ph x pi C pj pm pn po pp pq J pb pa).bind λy1=>cond (! y1.1.1) (L (h,((([]:g),([]:f),([]:f),([]:List Entry),X (W []),X (W []),b,([]:List Debounced),([]:List Belief),([]:List NewCar),([]:List Loaded),([]:g),([]:List Calls),b,b,b,()),(b,b,b,b,N,N,b,([]:List aB),()),()))) (cond (V (pr<b)) (L (h,((([]:g),([]:f),([]:f),([]:List Entry),X (W []),X (W []),b,([]:List Debounced),([]:List Belief),([]:List NewCar),([]:List Loaded),([]:g),([]:List Calls),b,b,b,()),(b,b,b,b,N,N,b,([]:List aB),()),()))) ((Nj pf pc pg ph x pi C pj pm pn po pp pq J pb pa).bind λy2=>letI d:=y2.2.1.2.2
 letI j:=d.2
 letI a:=j.2.2.2
 letI c:=a.2.2.2
 letI e:=c.2.2
 letI k:=e.2
 (Hx A z D E F H I B y2.2.1.1 y2.2.1.2.1 d.1 j.1 j.2.1 j.2.2.1 a.1 a.2.1 a.2.2.1 c.1 c.2.1 e.1 k.1 k.2.1 k.2.2.1 k.2.2.2.1 pw pr).bind λy3=>L (((),(),y3.1.2.2.1,()),(y3.2.1,y3.2.2.1,()))))
def RS:=
 letI a:=P.wrap (19*(B.length:Int))
 (CO A z D E F H I B).bind λy1=>cond (y1.1.1 !=0) (L (((0:Int),(0:Int),()),())) (L ((S P (14+a),P.wrap (23+a),()),()))
def RQ:=
 letI a:=(x.size:Int)
 cond (V (a<2)) (L ((X (W []),(4:Int),()),())) (let z0:Int:=P.wrap (a-2)
 cond (V (0≤z0)&&decide (z0≤(x.size:Int))) (let z1:ByteArray:=ByteArray.extract x 0 z0.toNat
 (Oy z1).bind λy1=>cond (eqB y1.1.1 x) (L ((z1,(0:Int),()),())) (L ((X (W []),(5:Int),()),()))) O)
def RU:=
 letI a:=x.size
 letI b:=(((30:Int),()),())
 (CO A z D E F H I B).bind λy1=>cond (y1.1.1 !=0) (L (((1:Int),()),())) (cond (((a:Nat):Int) !=C) (L (((4:Int),()),())) (cond (R 0 a) (cond (S P (AD x (Int.toNat (0:Int))) !=J) (L b) (cond (R 1 a) (cond (S P (AD x (Int.toNat (1:Int))) !=(B.length:Int)) (L b) ((RQ x).bind λy2=>L ((y2.1.2.1,()),()))) O)) O))
def Iq:=
 letI a:=IntKind.bits aC
 cond (V (pa<J)) (let z0:Int:=P.wrap (C+pa)
 cond (R z0 x.size) (let z1:Int:=aC.wrap (S P (8*pa))
 cond (V (0≤z1)) (let z2:Int:=aC.wrap (S aC (AD x z0.toNat)*((2:Int)^Min.min z1.toNat a))
 L (U ((x,C,J,aC.wrap (stk pb z2 (BitVec.ofInt a pb|||BitVec.ofInt a z2).toNat),P.wrap (pa+1),()),()))) O) O) (L (Q ((pb,()),())))
def Ny:=lp Iq
def Hp:=
 (Ny ((x,C,J,(0:Int),(0:Int),()),())).bind λy1=>L ((y1.1.1,()),())
def RV:=
 (Hp x C 4).bind λy1=>(Hp x (S P (C+4)) 4).bind λy2=>L (((),()),((S aD y1.1.1,aD.wrap y2.1.1,()),()))
def TH:=
 letI a:=IntKind.bits IntKind.u8
 cond (R C x.size) (let z0:Int:=aC.wrap J
 cond (V (0≤z0)) (let z1:Int:=Int.fdiv (AD x C.toNat) ((2:Int)^Min.min z0.toNat a)
 L ((S IntKind.u8 (stk z1 1 (BitVec.ofInt a z1&&&BitVec.ofInt a 1).toNat)==1,()),())) O) O
def Hz:=
 letI b:=(J,pb,pa,pr,rj,rl,rm,qg,())
 letI c:=(4:Int)
 letI d:=(rn,ro,rp,rq,rr,())
 cond (V (C<(qg.length:Int))) (let z0:Int:=P.wrap (12+P.wrap (19*C))
 letI a:=TH x (S P (z0+c))
 (Hp x z0 c).bind λy1=>(a (0:Int)).bind λy2=>(a (1:Int)).bind λy3=>(a (2:Int)).bind λy4=>(a (3:Int)).bind λy5=>let z1:Int:=P.wrap (z0+5)
 cond (R z1 x.size) ((a c).bind λy6=>let z2:Int:=P.wrap (z0+6)
 cond (R z2 x.size) ((a (5:Int)).bind λy7=>(Hp x (S P (z0+7)) c).bind λy8=>(Hp x (S P (z0+11)) 8).bind λy9=>let z3:List (CarInput):=[CarInput.mk (S aD y1.1.1) y2.1.1 y3.1.1 y4.1.1 y5.1.1 (S P (AD x z1.toNat)) y6.1.1 (S P (AD x z2.toNat)) y7.1.1 (S aD y8.1.1) y9.1.1.toNat]
 cond ((qc.length+z3.length).ble 2147483648) (L (U ((x,(),(),(),P.wrap (C+1),()),(b,d,(qh,qi,qj,qk,qc++z3,()),())))) O) O) O) (L (Q ((x,(),(),(),()),(b,d,(qh,qi,qj,qk,qc,()),()))))
def Mw:=lp Hz
def Jv:=
 letI a:=(0:Int)
 letI d:=List CarInput
 letI h:=((),(31:Int),())
 (RS A z D E F H I B).bind λy1=>(RU A z D E F H I B x y1.1.1 165).bind λy2=>cond (y2.1.1 !=a) (L (((),y2.1.1,()),((a,a,a,a,([]:d),()),()))) ((RV x 2).bind λy3=>cond (R 10 x.size) (cond (R 11 x.size) ((Mw ((x,(),(),(),a,()),((A,z,D,E,F,H,I,B,()),(a,a,a,a,([]:d),()),(y3.2.1.1,y3.2.1.2.1,P.wrap (AD x (Int.toNat (10:Int))),P.wrap (AD x (Int.toNat (11:Int))),([]:d),()),()))).bind λy4=>letI b:=y4.2.1.2.2
 letI c:=y4.2.2.2.1
 letI e:=b.2
 letI f:=e.2
 letI g:=c.2
 (NK y4.2.1.1 y4.2.1.2.1 b.1 e.1 f.1 f.2.1 f.2.2.1 f.2.2.2.1 c.1 g.1 g.2.1 g.2.2.1 g.2.2.2.1).bind λy5=>cond (y5.1.2.1 !=a) (L (h,((a,a,a,a,([]:d),()),()))) (cond (! eqB y5.1.1 y4.1.1) (L (h,((a,a,a,a,([]:d),()),()))) (L (((),a,()),(c,()))))) O) O)
def Kg :Option ((Bool×Unit)×Unit):=
 (ES (2:Int) (40:Int) (90:Int)).bind λy1=>
 aA (L (((),()),(y1.2.1,()))) λy2=>
 (Hq y2.2.1.1 y2.2.1.2.1 y2.2.1.2.2.1 y2.2.1.2.2.2.1 y2.2.1.2.2.2.2.1 y2.2.1.2.2.2.2.2.1 y2.2.1.2.2.2.2.2.2.1 y2.2.1.2.2.2.2.2.2.2.1).bind λy3=>
 (Jr y2.2.1.1 y2.2.1.2.1 y2.2.1.2.2.1 y2.2.1.2.2.2.1 y2.2.1.2.2.2.2.1 y2.2.1.2.2.2.2.2.1 y2.2.1.2.2.2.2.2.2.1 y2.2.1.2.2.2.2.2.2.2.1 (2:Int) (0:Int) (0:Int) (0:Int) []).bind λy4=>
 (NK y2.2.1.1 y2.2.1.2.1 y2.2.1.2.2.1 y2.2.1.2.2.2.1 y2.2.1.2.2.2.2.1 y2.2.1.2.2.2.2.2.1 y2.2.1.2.2.2.2.2.2.1 y2.2.1.2.2.2.2.2.2.2.1 y4.2.1.1 y4.2.1.2.1 y4.2.1.2.2.1 y4.2.1.2.2.2.1 y4.2.1.2.2.2.2.1).bind λy5=>
 aA (L (((),(),y5.1.1,()),(y2.2.1,y3.2.1,()))) λy6=>
 (ET y6.2.1.1 y6.2.1.2.1 y6.2.1.2.2.1 y6.2.1.2.2.2.1 y6.2.1.2.2.2.2.1 y6.2.1.2.2.2.2.2.1 y6.2.1.2.2.2.2.2.2.1 y6.2.1.2.2.2.2.2.2.2.1 y6.2.2.1.1 y6.2.2.1.2.1 y6.2.2.1.2.2.1 y6.2.2.1.2.2.2.1 y6.2.2.1.2.2.2.2.1 y6.2.2.1.2.2.2.2.2.1 y6.2.2.1.2.2.2.2.2.2.1 y6.2.2.1.2.2.2.2.2.2.2.1 y6.2.2.1.2.2.2.2.2.2.2.2.1 y6.2.2.1.2.2.2.2.2.2.2.2.2.1 y6.2.2.1.2.2.2.2.2.2.2.2.2.2.1 y6.2.2.1.2.2.2.2.2.2.2.2.2.2.2.1 y6.2.2.1.2.2.2.2.2.2.2.2.2.2.2.2.1 y6.2.2.1.2.2.2.2.2.2.2.2.2.2.2.2.2.1 y6.2.2.1.2.2.2.2.2.2.2.2.2.2.2.2.2.2.1 y6.2.2.1.2.2.2.2.2.2.2.2.2.2.2.2.2.2.2.1 y6.1.2.2.1 (1048576:Int)).bind λy7=>
 (ET y6.2.1.1 y6.2.1.2.1 y6.2.1.2.2.1 y6.2.1.2.2.2.1 y6.2.1.2.2.2.2.1 y6.2.1.2.2.2.2.2.1 y6.2.1.2.2.2.2.2.2.1 y6.2.1.2.2.2.2.2.2.2.1 y6.2.2.1.1 y6.2.2.1.2.1 y6.2.2.1.2.2.1 y6.2.2.1.2.2.2.1 y6.2.2.1.2.2.2.2.1 y6.2.2.1.2.2.2.2.2.1 y6.2.2.1.2.2.2.2.2.2.1 y6.2.2.1.2.2.2.2.2.2.2.1 y6.2.2.1.2.2.2.2.2.2.2.2.1 y6.2.2.1.2.2.2.2.2.2.2.2.2.1 y6.2.2.1.2.2.2.2.2.2.2.2.2.2.1 y6.2.2.1.2.2.2.2.2.2.2.2.2.2.2.1 y6.2.2.1.2.2.2.2.2.2.2.2.2.2.2.2.1 y6.2.2.1.2.2.2.2.2.2.2.2.2.2.2.2.2.1 y6.2.2.1.2.2.2.2.2.2.2.2.2.2.2.2.2.2.1 y6.2.2.1.2.2.2.2.2.2.2.2.2.2.2.2.2.2.2.1 y6.1.2.2.1 (3:Int)).bind λy8=>
 aA (bif(y7.1.2.2.1==(0:Int))then
 bif((y7.2.2.1.1==(2:Int))&&((y7.2.2.1.2.1==(0:Int))&&true))then
 bif(((List.length y7.2.2.1.2.2.2.2.2.2.2.1:Nat):Int)==(1:Int))then
 bif(R (0:Int) (List.length y7.2.2.1.2.2.2.2.2.2.2.1))then
 let z0:aB:=(List.getD y7.2.2.1.2.2.2.2.2.2.2.1 (Int.toNat (0:Int)) (CarOutput.mk (0:Int) (0:Int) N (0:Int) (0:Int) N (0:Int) (0:Int) N))
 bif((z0.E2==(2:Int))&&((z0.X1==(0:Int))&&true))then
 bif(y7.2.1.2.2.2.2.2.2.2.2.2.2.2.2.2.1==(1:Int))then
 L (((y8.1.2.2.1==(8:Int)),()),())
 else
 L ((N,()),())
 else
 L ((N,()),())
 else
 O
 else
 L ((N,()),())
 else
 L ((N,()),())
 else
 L ((N,()),())) λy9=>
 L ((y9.1.1,()),())
def Ks:=
 letI j:=(D,E,qd,ql,F,H,I,B,())
 letI e:=(pf,pc,pg,ph,x,pi,C,pj,pm,pn,po,pp,pq,J,pb,pa,())
 letI d:=(pt,pu,qm,pv,pw,qn,pr,qo,qp,qq,qr,qs,qt,py,pz,qa,())
 letI a:=(j,e,d,(qu,qv,qw,qx,qy,qz,q0,px,()),(q1,q2,qe,qf,qb,()),())
 letI b:=(((),(),pd,A,(),(),(),z,N,()),a)
 letI g:=z.toNat
 letI h:=(0:Int)
 letI k:=R z pu.length
 letI l:=pu.getD g N
 cond (V (z<(B.length:Int))) (cond (R z px.length) (cond k (cond (! ((px.getD g (CarOutput.mk h h N h h N h h N)).N5==l)) (L (Q (Q ((N,()),())))) (aA (cond (R z pc.length) (cond (pc.getD g N) (cond k (cond (! l) (cond (R z pt.length) (cond (pt.getD g h !=2) (L (((),(),pd,A,(),(),(),z,! ((qe==8)&&((qf==z)&&true)),()),a)) (L b)) O) (L b)) O) (L b)) O) λy1=>letI m:=y1.1.2.2
 cond m.2.2.2.2.2.2.1 (L (Q (Q ((N,()),())))) (L (U (((),(),m.1,m.2.1,(),(),(),P.wrap (m.2.2.2.2.2.1+1),()),(y1.2.1,y1.2.2.1,y1.2.2.2.1,y1.2.2.2.2.1,y1.2.2.2.2.2.1,())))))) O) O) (L (Q (U (((),(),pd,A,(),()),(j,e,d,())))))
def Ee:=lp Ks
def Kr:=
 letI a:=((D,E,qd,ql,F,H,I,B,()),(pf,pc,pg,ph,x,pi,C,pj,pm,pn,po,pp,pq,J,pb,pa,()),(pt,pu,qm,pv,pw,qn,pr,qo,qp,qq,qr,qs,qt,py,pz,qa,()),(qu,qv,qw,qx,qy,qz,q0,px,()),(q1,q2,qe,qf,qb,()),())
 letI b:=(((),(),pd,A,(),(),(),z,true,()),a)
 letI c:=(0:Int)
 cond (V (z<(pv.length:Int))) (cond (R z pv.length) (let z0:=pv.getD z.toNat (Entry.mk c c c c N)
 letI e:=z0.Q0
 letI d:=pt.getD e.toNat c
 letI g:=R e pt.length
 aA (cond (V (c≤e)) (cond (V ((B.length:Int)≤e)) (L b) (cond (R e pu.length) (cond (pu.getD e.toNat N) (L b) (cond g (cond (d==2) (L b) (cond g (L (((),(),pd,A,(),(),(),z,d==3,()),a)) O)) O)) O)) (L (((),(),pd,A,(),(),(),z,N,()),a))) λy1=>letI h:=y1.1.2.2
 cond h.2.2.2.2.2.2.1 (L (Q (Q ((N,()),())))) (L (U (((),(),h.1,h.2.1,(),(),(),P.wrap (h.2.2.2.2.2.1+1),()),(y1.2.1,y1.2.2.1,y1.2.2.2.1,y1.2.2.2.2.1,y1.2.2.2.2.2.1,()))))) O) (L (Q (U (((),(),pd,A,(),(),(),()),a))))
def Ed:=lp Kr
def Kq:=
 letI j:=((N,()),())
 letI q:=(z,D,E,qd,F,H,I,B,())
 letI v:=((),(),(),(0:Int),())
 cond (V (A<(pd.length:Int))) (aA (L (((),(),pd,A,()),(q,(pf,pc,pg,ph,x,pi,C,pj,pm,pn,po,pp,pq,J,pb,pa,()),()))) λy1=>letI g:=y1.2.2.1
 letI n:=g.2.2
 letI w:=n.2
 letI a:=w.2.2.2
 letI m:=y1.2.1
 letI r:=m.2
 letI b:=r.2.2
 letI h:=b.2
 letI l:=h.2
 letI s:=l.2
 letI c:=(s.2.1.length:Int)
 letI d:=y1.1.2.2
 letI e:=a.2.2.2
 letI u:=d.2.1
 letI ab:=d.1
 letI k:=R u ab.length
 letI o:=e.2.2
 letI aa:=o.2
 cond k ((ET m.1 r.1 r.2.1 b.1 h.1 l.1 s.1 s.2.1 g.1 g.2.1 n.1 w.1 w.2.1 w.2.2.1 a.1 a.2.1 a.2.2.1 e.1 e.2.1 o.1 aa.1 aa.2.1 aa.2.2.1 aa.2.2.2.1 (ab.getD u.toNat (X (W []))) 1048576).bind λy2=>cond k ((Jv m.1 r.1 r.2.1 b.1 h.1 l.1 s.1 s.2.1 (ab.getD u.toNat (X (W [])))).bind λy3=>cond (y2.1.2.2.1 !=0) (L (Q (Q j))) (cond ((y2.2.1.2.1.length:Int) !=c) (L (Q (Q j))) (cond ((y2.2.1.1.length:Int) !=c) (L (Q (Q j))) (cond ((y2.2.2.1.2.2.2.2.2.2.2.1.length:Int) !=c) (L (Q (Q j))) ((Ed (((),(),ab,u,v),(m,g,y2.2.1,y2.2.2.1,y3.2.1,()))).bind λy4=>match y4 with
 | .inl y5=>
 ((Ee (((),(),y5.1.2.2.1,y5.1.2.2.2.1,v),(y5.2.1,y5.2.2.1,y5.2.2.2.1,y5.2.2.2.2.1,y5.2.2.2.2.2.1,()))).bind λy6=>match y6 with
 | .inl y7=>
 L (U (((),(),y7.1.2.2.1,P.wrap (y7.1.2.2.2.1+1),()),(y7.2.1,y7.2.2.2.1,())))
 | .inr y7=>
 L (Q (Q ((y7.1.1,()),()))))
 | .inr y5=>
 L (Q (Q ((y5.1.1,()),())))))))) O) O) (L (Q (U (((),()),(q,())))))
def Ec:=lp Kq
def F_l27_MachineFlags:=
 (ES A z D).bind λy1=>aA (L ((pf,(),()),(y1.2.1,()))) λy2=>letI e:=y2.2.1
 letI a:=e.2.2
 letI b:=a.2.2
 letI d:=b.2
 letI g:=d.2
 (Hq e.1 e.2.1 a.1 a.2.1 b.1 d.1 g.1 g.2.1).bind λy3=>(LL e.1 e.2.1 a.1 a.2.1 b.1 d.1 g.1 g.2.1 y2.1.1 100).bind λy4=>(Ec (((),(),y4.1.1,(0:Int),()),(e,y3.2.1,()))).bind λy5=>match y5 with
 | .inl y6=>
 letI c:=y6.2.1.2.2
 letI f:=c.2
 letI h:=f.2
 aA ((CO y6.2.1.1 y6.2.1.2.1 c.1 f.1 h.1 h.2.1 h.2.2.1 h.2.2.2.1).bind λy7=>cond (y7.1.1==0) ((Kg).bind λy8=>L ((y8.1.1,()),())) (L ((N,()),()))) λy9=>L ((y9.1.1,()),())
 | .inr y6=>
 L ((y6.1.1,()),())
end
end Go.Ovl
