/- What each function of the program comes to: part 1. -/
import Derived.Test.YtdapkmfmgpmnoaaGreatDoorTy
set_option linter.all false
open Option renaming some->L,none->P,bind->W
open Decidable renaming decide->N
open Go.IntKind renaming i64->O,wrap->S,u32->Y,u64->y,u8->aB,u16->aJ
open Bool renaming false->Q,true->aA
open Sum renaming inr->R,inl->U
open Go.Ab renaming inB->V,lp->Z
open BitVec renaming ofInt->X
open Array renaming mk->i
open ByteArray renaming mk->p,extract->aO
open Int renaming tmod->t,toNat->aG,fdiv->aI,tdiv->aL
open Go.Ovl renaming Entry->aC,CarInput->aE,Debounced->aP
open Min renaming min->aD
open Go.Ovl.Car renaming mk->aF
open Go.Ovl.Entry renaming mk->aH
open Go.Ovl.CarInput renaming mk->aK
open List renaming replicate->aM,getD->aQ
open Go.Ovl.Record renaming mk->aN
namespace Go.Ovl
open Go Go.Ab
set_option maxRecDepth 100000
set_option synthInstance.maxSize 9999
set_option synthInstance.maxHeartbeats 999999
noncomputable section
abbrev T'0:=(Int×Int×Int×Int×Nat×Nat×Nat×List Car×Unit)
abbrev T'9:=(List Int×List Bool×List Bool×List aC×Unit)
abbrev Ae8:=(Unit×Unit×Int×Unit)
abbrev GQ:=(Int×Int×Int×List Duty×Int×Bool×Unit)
abbrev Ho:=(List Int×List Bool×List Bool×List aC×ByteArray×ByteArray×Int×List aP×List Belief×List NewCar×List Loaded×List Int×List Calls×Int×Int×Int×Unit)
abbrev Bka:=(Unit×Unit×Unit×Int×Unit×Int×Unit)
abbrev Afa:=(T'0×T'9×Ho×Ho×Unit)
abbrev Bkb:=(Unit×Unit×Unit×Unit×Unit)
abbrev Baz:=(Unit×Unit×Unit×Unit×Int×Unit)
abbrev JW:=(Int×Int×Int×Int×List aE×Unit)
abbrev Hw:=((Int×Int×Unit)×Unit)
abbrev Ej:=(Int×Int×Int×Int×Nat×Nat×Nat×List Car×List Int×List Bool×List Bool×List aC×ByteArray×ByteArray×Int×List aP×List Belief×List NewCar×List Loaded×List Int×List Calls×Int×Int×Int×Int×Int×Int×Int×List aE×Bool×Int×Int×List Bool×List Calls×List Bool×Int×Int×Int×Int×Bool×Bool×Int×List CarOutput×Unit)
abbrev Po:=((Int×Int×Int×Unit)×Unit)
abbrev Afc:=(Int×Int×Int×Bool×Int×Unit)
abbrev Aap:=(Int×Int×Int×Int×Int×Bool×Int×Int×Int×Int×Int×Int×Int×Bool×Unit)
abbrev Pp:=(Int×Int×Int×Int×Nat×Nat×Nat×List Car×Int×Int×Int×Int×Int×Int×Bool×Int×Int×Int×Int×Int×Int×Int×Bool×Int×Bool×Int×Bool×Int×Unit)
abbrev Be6:=(Unit×Unit×Unit×Int×List Int×Int×Int×Unit)
abbrev Be7:=(T'9×(Int×Int×Unit)×Ej×Unit)
abbrev Acj:=(Int×Int×Int×Int×Bool×Bool×Int×List CarOutput×Unit)
abbrev Be8:=(Unit×Unit×List ByteArray×Unit×Int×Unit)
abbrev Be9:=(T'0×Ho×(Int×Int×Unit)×Unit)
abbrev Bfa:=(Unit×Unit×List ByteArray×Unit×Int×Unit×Unit×Unit×Int×Unit×Int×Unit)
abbrev Aj4:=(T'0×Ho×(Int×Int×Unit)×Ho×Acj×JW×(Int×Int×Unit)×Unit)
abbrev Bfb:=(Unit×Unit×List ByteArray×Unit×Int×Unit×Unit×Unit×Int×Unit×Unit)
abbrev Bfc:=(T'0×Ho×ByteArray×Int×Unit)
variable(x A C E pt qa:Int)(I J pa:Nat)(F:List Car)(pc:List Int)(ph pp:List Bool)(pd:List aC)(sx:List Int)(sy sz:List Bool)(rn:List aC)(H pn:ByteArray)(z:Int)(qb:List aP)(py:List Belief)(qe:List NewCar)(qf:List Loaded)(qq:List Int)(q8:List Calls)(B D pb:Int)(r3:List Int)(q5 q6:List Bool)(q7:List aC)(qd qo:ByteArray)(pf:Int)(r4:List aP)(rp:List Belief)(r9:List NewCar)(sa:List Loaded)(sb:List Int)(sc:List Calls)(po pw qk rq se s4 s5 ta tb td te tf tg th ti tj tk tm tp tq tr ts tt tu tv tw r5:Int)(pr:List aE)(qw sd s0 s1:Int)(ul:List aE)(pu:Bool)(px q1 q2 q3 q4 uh ui:Int)(qg:Bool)(pi pj pm:Nat)(pg:List Car)(qi qc qm qt:Int)(uj:List aE)(r7 r8 si sj:Int)(uk:List aE)(rj rl rm:Nat)(qj:List Car)(qr:List ByteArray)(q0:Int)(qp:ByteArray)(qx q9 ra rb um:Int)(rc rd rf:Nat)(rg:List Car)(un uo up uq s2 s3:Int)(pv:List Record)(pq rr ru rv rw:Int)(ry rz r0:Nat)(r1:List Car)(qn:List Int)(qu qv:List Bool)(qh:List aC)(sk:List Int)(sl sm:List Bool)(sn:List aC)(ql:List Duty)(qy qs tx ty tz t0:Int)(t4 t7 t8:Nat)(r6:List Car)(ur us ut:Int)(sf:List Duty)(uu:Int)(qz:Bool)(t9 ua ub uc:Int)(ud ue uf:Nat)(ug:List Car)(r2:ByteArray)(ro so sq sr ss:Int)(st su sv:Nat)(sw:List Car)(sg:Bool)(pz:Int)(ri:Bool)
def HL:=
 letI a:=(E,pt,qa,z,pi,pj,pm,pg,())
 cond (N (C<A)) (cond (x !=0) (let z0:List Car:=[aF 100 2 6 5 4 2 3 10 (t C x)]
 cond ((qj.length+z0.length).ble 2147483648) (L (U ((x,A,(),(),O.wrap (C+1),()),(a,(qi,qc,qm,qt,rj,rl,rm,qj++z0,()),())))) P) P) (L (R (((),(),()),(a,(qi,qc,qm,qt,rj,rl,rm,qj,()),()))))
def JN:=Z HL
def OJ:=
 letI a:=(0:Int)
 (JN ((x,A,(),(),a,()),((a,a,a,a,0,0,0,([]:List Car),()),(x,(1:Int),(4000:Int),(30:Int),4591870180066957722,4605380978949069210,4607632778762754458,([]:List Car),()),()))).bind λy1=>L (((),()),(y1.2.2.1,()))
def Gq:=
 letI b:=(0:Int)
 letI a:=aF b b b b b b b b b
 letI c:=(C,E,pt,qa,I,J,pa,F,())
 letI d:=(1:Int)
 letI e:=(3:Int)
 cond (N (A<(pg.length:Int))) (cond (V A pg.length) (let z0:Nat:=A.toNat
 let z1:=pg.getD z0 a
 let z2:=pg.set z0 (aF z1.I1 z1.G3 z1.J3 z1.I2 (S O (d+O.wrap (t x e))) z1.L2 z1.K2 z1.Q3 z1.A4)
 let z3:=z2.getD z0 a
 let z4:=z2.set z0 (aF z3.I1 z3.G3 z3.J3 z3.I2 z3.O3 (S O (d+O.wrap (t (S aB (aL x e)) e))) z3.K2 z3.Q3 z3.A4)
 let z5:=z4.getD z0 a
 let z6:=z4.set z0 (aF z5.I1 z5.G3 z5.J3 z5.I2 z5.O3 z5.L2 (S O (d+O.wrap (t (S aB (aL x 9)) e))) z5.Q3 z5.A4)
 letI f:=z6.getD z0 a
 let z7:Car:=f
 let z8:=z6.set z0 (aF z7.I1 z7.G3 z7.J3 z7.I2 z7.O3 z7.L2 z7.K2 (S O (f.K2+O.wrap (t (S aB (aL x 27)) 5))) z7.A4)
 cond (z !=b) (let z9:=z8.getD z0 a
 L (U ((x,(),(),O.wrap (A+d),()),(c,(z,B,D,pb,pi,pj,pm,z8.set z0 (aF z9.I1 z9.G3 z9.J3 z9.I2 z9.O3 z9.L2 z9.K2 z9.Q3 (t (S O (A+O.wrap x)) z)),()),())))) P) P) (L (R ((x,(),(),()),(c,(z,B,D,pb,pi,pj,pm,pg,()),()))))
def Ku:=Z Gq
def My:=
 letI b:=(0:Int)
 (OJ (S O (2+O.wrap (t x 5))) (S O (1+O.wrap (t (S aB (aL x 5)) 3)))).bind λy1=>(Ku ((A,(),(),b,()),((b,b,b,b,0,0,0,([]:List Car),()),y1.2.1,()))).bind λy2=>letI a:=y2.2.2.1.2
 letI c:=a.2.2.2
 L (((),()),((y2.2.2.1.1,a.1,a.2.1,O.wrap (1+O.wrap (t y2.1.1 7)),c.1,c.2.1,c.2.2.1,c.2.2.2.1,()),()))
def Gr:=
 letI a:=(0:Int)
 letI b:=(C,E,pt,qa,I,J,pa,F,())
 cond (N (A<(pg.length:Int))) (cond (V A pg.length) (let z0:Nat:=A.toNat
 let z1:=pg.getD z0 (aF a a a a a a a a a)
 L (U ((x,(),(),O.wrap (A+1),()),(b,(z,B,D,pb,pi,pj,pm,pg.set z0 (aF (S O (1+O.wrap (t x 16))) z1.G3 z1.J3 z1.I2 z1.O3 z1.L2 z1.K2 z1.Q3 z1.A4),()),())))) P) (L (R (((),(),()),(b,(z,B,D,pb,pi,pj,pm,pg,()),()))))
def Kv:=Z Gr
def MA:=
 letI a:=(0:Int)
 (My x A).bind λy1=>(Kv ((A,(),(),a,()),((a,a,a,a,0,0,0,([]:List Car),()),y1.2.1,()))).bind λy2=>L (((),()),(y2.2.2.1,()))
def Gs:=
 letI a:=(0:Int)
 letI b:=aF a a a a a a a a a
 letI c:=(pt,qa,z,B,pi,pj,pm,pg,())
 cond (N (x<(qj.length:Int))) (cond (V x qj.length) (let z0:=x.toNat
 let z1:=qj.getD z0 b
 let z2:=qj.set z0 (aF z1.I1 z1.G3 (S O (1+O.wrap (t E 4))) z1.I2 z1.O3 z1.L2 z1.K2 z1.Q3 z1.A4)
 cond (V x z2.length) (let z3:=x.toNat
 let z4:=z2.getD z3 b
 L (U (((),(),(),O.wrap (x+1),()),((A,C,E,()),c,(qi,qc,qm,qt,rj,rl,rm,z2.set z3 (aF z4.I1 z4.G3 z4.J3 (S O (t C 5)) z4.O3 z4.L2 z4.K2 z4.Q3 z4.A4),()),())))) P) P) (L (R (((),(),()),(c,(qi,qc,qm,qt,rj,rl,rm,qj,()),()))))
def HW:=Z Gs
def EU:=
 letI b:=(0:Int)
 (MA x A).bind λy1=>letI a:=y1.2.1.2.2.2
 letI c:=a.2
 letI d:=c.2
 (HW (((),(),(),b,()),((x,A,C,()),(b,b,b,b,0,0,0,([]:List Car),()),(y1.2.1.1,O.wrap (1+O.wrap (t C 3)),O.wrap (S O (S O (18*(d.2.2.1.length:Int))+24)+O.wrap (6*O.wrap (S aB (aL C 3)))),a.1,c.1,d.1,d.2.1,d.2.2.1,()),()))).bind λy2=>L (((),()),(y2.2.2.1,()))
def Hk:=
 W (cond (N (A≤x)) (L ((N (x≤C),()),())) (L ((Q,()),()))) λy1=>L ((y1.1.1,()),())
def FQ:=
 letI a:=((B,D,pb,pf,pi,pj,pm,pg,()),(qi,qc,qm,qt,r7,r8,si,sj,q0,()),())
 cond (N (z<7)) (cond (V z pc.length) ((Hk (pc.getD z.toNat 0) 1 10000).bind λy1=>cond (! y1.1.1) (L (R (R ((Q,()),())))) (L (U (((),(),pc,O.wrap (z+1),()),a)))) P) (L (R (U (((),(),()),a))))
def NK:=Z FQ
def QF:=
 letI b:=((Q,()),())
 cond (N (pb<0)) (L b) (cond (N (10000<pb)) (L b) ((NK (((),(),[z,B,D,pf,po,pw,qk,O.wrap (pb+1)],(0:Int),()),((x,A,C,E,I,J,pa,F,()),(z,B,D,pb,pf,po,pw,qk,rq,()),()))).bind λy1=>match y1 with
 | .inl y2=>
 letI a:=y2.2.2.1.2.2.2.2.2.2
 W (cond (N (a.1≤a.2.1)) ((Hk a.2.2.1 0 (S O (y2.2.1.1-1))).bind λy3=>L ((y3.1.1,()),())) (L b)) λy4=>L ((y4.1.1,()),())
 | .inr y2=>
 L ((y2.1.1,()),())))
def Iy:=
 letI a:=(0:Int)
 letI b:=((q1,q2,q3,q4,pi,pj,pm,pg,()),())
 cond (N (px<(pg.length:Int))) (W (cond pu (cond (V px pg.length) (let z0:=pg.getD px.toNat (aF a a a a a a a a a)
 (QF q1 q2 q3 q4 pi pj pm pg z0.I1 z0.G3 z0.J3 z0.I2 z0.O3 z0.L2 z0.K2 z0.Q3 z0.A4).bind λy1=>L (((),y1.1.1,px,()),b)) P) (L (((),Q,px,()),b))) λy2=>L (U (((),y2.1.2.1,O.wrap (y2.1.2.2.1+1),()),(y2.2.1,())))) (L (R (((),pu,()),b)))
def NJ:=Z Iy
def Eb:=
 letI a:=(FloatKind.format FloatKind.f64).order
 letI c:=(((13:Int),()),())
 letI e:=((x,A,C,E,I,J,pa,F,()),())
 (Hk x 2 32).bind λy1=>cond (! y1.1.1) (L (((10:Int),()),())) ((Hk (F.length:Int) 1 8).bind λy2=>cond (! y2.1.1) (L (((11:Int),()),())) (W ((Hk A 1 16).bind λy3=>cond y3.1.1 ((Hk E 1 10000).bind λy4=>L (((),y4.1.1,()),e)) (L (((),Q,()),e))) λy5=>(NJ (((),y5.1.2.1,(0:Int),()),(y5.2.1,()))).bind λy6=>letI b:=y6.2.1.2.2.2.2
 letI f:=b.2
 letI d:=a f.2.1 9218868437227405311
 cond (! y6.1.2.1) (L (((12:Int),()),())) (cond (a 0 b.1==L Ordering.lt) (cond (a b.1 f.1==L Ordering.lt) (cond (a f.1 f.2.1==L Ordering.lt) (cond (! (d==L Ordering.lt||d==L Ordering.eq)) (L c) ((Hk y6.2.1.2.2.1 (S O (S O (18*(f.2.2.1.length:Int))+24)) 65536).bind λy7=>cond (! y7.1.1) (L (((14:Int),()),())) (L (((0:Int),()),())))) (L c)) (L c)) (L c))))
def Hl:=
 letI a:=((Q,()),())
 W (cond (N (1≤x)) (cond (N (x≤65536)) (cond (N ((H.size:Int)≤x)) (cond (N ((pn.size:Int)≤x)) (cond (z==0) (L ((aA,()),())) (L ((z==1,()),()))) (L a)) (L a)) (L a)) (L a)) λy1=>L ((y1.1.1,()),())
def Ti:=
 W ((Eb x A C E I J pa F).bind λy1=>cond (y1.1.1==0) ((Hl C H pn z).bind λy2=>cond y2.1.1 (L ((N (0≤B),()),())) (L ((Q,()),()))) (L ((Q,()),()))) λy3=>L ((y3.1.1,()),())
def NE:=
 (Eb x A C E I J pa F).bind λy1=>cond (y1.1.1 !=0) (L (((),()),((([]:List Int),([]:List Bool),([]:List Bool),([]:List aC),()),()))) (let z0:Int:=(F.length:Int)
 letI a:=(N (0≤z0)&&decide (z0≤z0))&&decide (z0≤2147483648)
 letI b:=aM z0.toNat Q
 cond a (cond a (cond a (L (((),()),((aM z0.toNat 0,b,b,([]:List aC),()),()))) P) P) P)
def NC:=
 cond (z==1) (L ((pn,()),())) (L ((H,()),()))
def Pn:=
 letI a:=(B,O.wrap (D+1),())
 letI b:=IntKind.bits O
 cond (N (D<8)) (let z0:Int:=t (S O (z*2)) 256
 cond (N (128≤z)) (L (U ((H,O.wrap (stk z0 7 (X b z0^^^X b 7).toNat),a),()))) (L (U ((H,z0,a),())))) (L (R ((H,z,B,()),())))
def Pe:=Z Pn
def JT:=
 letI a:=IntKind.bits O
 cond (N (B<(H.size:Int))) (cond (V B H.size) (let z0:Int:=O.wrap (AF H B.toNat)
 (Pe ((H,O.wrap (stk z z0 (X a z^^^X a z0).toNat),B,(0:Int),()),())).bind λy1=>L (U ((y1.1.1,y1.1.2.1,O.wrap (y1.1.2.2.1+1),()),()))) P) (L (R ((z,()),())))
def Pd:=Z JT
def OQ:=
 (Pd ((H,(0:Int),(0:Int),()),())).bind λy1=>L ((S aB y1.1.1,()),())
def HU:=
 letI a:=Hk z 1 (S O (x-1))
 letI b:=((Q,()),())
 letI c:=B==2
 (Eb x A C E I J pa F).bind λy1=>cond (y1.1.1 !=0) (L b) (W (cond (B==1) ((Hk z 0 (S O (x-2))).bind λy2=>cond y2.1.1 (L ((aA,()),())) (cond c (a.bind λy3=>L ((y3.1.1,()),())) (L b))) (cond c (a.bind λy4=>L ((y4.1.1,()),())) (L b))) λy5=>L ((y5.1.1,()),()))
def Ob:=
 W (cond (N (A≤x)) (L ((N (x≤C),()),())) (L ((Q,()),()))) λy1=>L ((y1.1.1,()),())
def Lo:=
 letI a:=((Q,()),())
 letI c:=((x,A,C,E,I,J,pa,F,()),(z,B,D,pb,pf,()),())
 letI d:=(0:Int)
 letI j:=(1:Int)
 (Eb x A C E I J pa F).bind λy1=>cond (y1.1.1 !=d) (L a) ((HU x A C E I J pa F B D).bind λy2=>letI k:=(((),(),y2.1.1,Q,()),c)
 W ((Ob pb d (S O ((F.length:Int)-j))).bind λy3=>cond y3.1.1 (cond (B==d) (L (((),(),y2.1.1,D==d,()),c)) (L k)) (L k)) λy4=>letI b:=y4.2.2.1.2.2.2
 letI e:=y4.2.2.1.1
 letI f:=((b.2.1==d,()),())
 letI g:=Ob b.2.1 d
 letI h:=y4.1.2.2
 letI l:=h.1
 letI m:=b.1
 cond (e==j) (W (cond l (cond (m==d) (L f) (L a)) (L a)) λy5=>L ((y5.1.1,()),())) (cond (e==2) (W (cond l (cond (m==d) (L f) (L a)) (L a)) λy6=>L ((y6.1.1,()),())) (cond (e==3) (W (cond l ((Ob m (- 2:Int) (S O ((y4.2.1.2.2.2.2.2.2.2.1.length:Int)-j))).bind λy7=>cond y7.1.1 (L f) (L a)) (L a)) λy8=>L ((y8.1.1,()),())) (cond (e==4) (W (cond h.2.1 ((g (4:Int)).bind λy9=>L ((y9.1.1,()),())) (L a)) λy10=>L ((y10.1.1,()),())) (cond (e==5) (W (cond h.2.1 ((g j).bind λy11=>L ((y11.1.1,()),())) (L a)) λy12=>L ((y12.1.1,()),())) (cond (e==6) (W (cond h.2.1 ((g j).bind λy13=>L ((y13.1.1,()),())) (L a)) λy14=>L ((y14.1.1,()),())) (cond (e==7) (W (cond l ((Ob m d j).bind λy15=>cond y15.1.1 ((g (255:Int)).bind λy16=>L ((y16.1.1,()),())) (L a)) (L a)) λy17=>L ((y17.1.1,()),())) (L a))))))))
def XD:=
 letI a:=(0:Int)
 letI b:=((a,a,a,a,a,()),())
 letI c:=H.size
 letI d:=AF H
 letI e:=(5:Int)
 (Eb x A C E I J pa F).bind λy1=>cond (y1.1.1 !=a) (L (((),(1:Int),()),b)) (cond ((H.size:Int) !=6) (L (((),(4:Int),()),b)) (cond (N (e≤((c:Nat):Int))) ((OQ (aO H 0 5)).bind λy2=>cond (V e c) (cond (y2.1.1 !=d e.toNat) (L (((),e,()),b)) (cond (V a c) (let z0:Int:=O.wrap (d a.toNat)
 cond (V 1 c) (let z1:Int:=O.wrap (d (aG (1:Int)))
 cond (V 2 c) (let z2:Int:=O.wrap (d (aG (2:Int)))
 cond (V 3 c) (let z3:Int:=O.wrap (S O (d (aG (3:Int)))-2)
 cond (V 4 c) (let z4:Int:=O.wrap (d (aG (4:Int)))
 (Lo x A C E I J pa F z0 z1 z2 z3 z4).bind λy3=>cond (! y3.1.1) (L (((),(9:Int),()),b)) (L (((),a,()),((z0,z1,z2,z3,z4,()),())))) P) P) P) P) P)) P) P))
def Aku:=
 letI a:=O.wrap (pq+6)
 cond (N (a≤(H.size:Int))) (let z0:Int:=a
 cond (N (0≤z0)&&decide (z0≤(H.size:Int))) (cond (N (0≤pq)&&decide (pq≤((z0.toNat:Nat):Int))) ((XD rr ru rv rw ry rz r0 r1 (aO H pq.toNat z0.toNat)).bind λy1=>letI b:=y1.2.1.2
 cond (y1.1.2.1 !=0) (L (R ((pv,pq,()),()))) (let z1:List (Record):=[aN y1.2.1.1 b.1 b.2.1 b.2.2.1 b.2.2.2.1]
 cond ((pv.length+z1.length).ble 2147483648) (L (U ((H,(),pv++z1,a,()),((rr,ru,rv,rw,ry,rz,r0,r1,()),())))) P)) P) P) (L (R ((pv,pq,()),())))
def Ph:=Z Aku
def VU:=
 (Ph ((H,(),([]:List Record),(0:Int),()),((x,A,C,E,I,J,pa,F,()),()))).bind λy1=>L ((y1.1.1,y1.1.2.1,()),())
def OV(p2:Int)(p3:Int)(p4:Bool)(p5:Int)(p6:Int)(p7:Int)(p8:Int)(p9:Bool):=
 W (cond (N (x<p5)) (L ((aA,()),())) (cond (x==p5) (L ((N (A<p6),()),())) (L ((Q,()),())))) λy1=>L ((y1.1.1,()),())
def FC:=
 letI a:=((C,E,pt,qa,I,J,pa,F,()),(pc,ph,pp,pd,()),())
 letI b:=(((),(),x,A,aA,()),a)
 letI c:=(0:Int)
 letI d:=aH c c c c Q
 letI e:=pd.length
 cond (N (A<((e:Nat):Int))) (cond (V A e) (let z0:=pd.getD A.toNat d
 W ((HU C E pt qa I J pa F z0.D0 z0.I0).bind λy1=>cond (! y1.1.1) (L b) (cond (N (z0.S0<(- 2:Int))) (L b) (cond (N (x≤z0.S0)) (L b) (cond (N (z0.B1<c)) (L b) (cond (N (255<z0.B1)) (L b) (cond (N (c<A)) (let z1:Int:=O.wrap (A-1)
 cond (V z1 e) (let z2:=pd.getD z1.toNat d
 (OV z2.D0 z2.I0 z2.S0 z2.B1 z2.B2 z0.D0 z0.I0 z0.S0 z0.B1 z0.B2).bind λy2=>L (((),(),x,A,! y2.1.1,()),a)) P) (L (((),(),x,A,Q,()),a)))))))) λy3=>cond y3.1.2.2.2.2.1 (L (R (R ((Q,()),())))) (L (U (((),(),y3.1.2.2.1,O.wrap (y3.1.2.2.2.1+1),()),(y3.2.1,y3.2.2.1,()))))) P) (L (R (U ((),()))))
def LO:=Z FC
def GY:=
 letI a:=((C,E,pt,qa,I,J,pa,F,()),(pc,ph,pp,pd,()),())
 letI b:=pc.getD A.toNat 0
 letI c:=V A pc.length
 cond (N (A<x)) (cond c (cond (N (b<0)) (L (R (R ((Q,()),())))) (cond c (cond (N (4<b)) (L (R (R ((Q,()),())))) (L (U (((),(),x,O.wrap (A+1),()),a)))) P)) P) (L (R (U (((),(),x,()),a))))
def LN:=Z GY
def Hm:=
 letI a:=((Q,()),())
 let z0:Int:=(F.length:Int)
 (Eb x A C E I J pa F).bind λy1=>cond (y1.1.1 !=0) (L a) (cond ((pc.length:Int) !=z0) (L a) (cond ((ph.length:Int) !=z0) (L a) (cond ((pp.length:Int) !=z0) (L a) ((LN (((),(),z0,(0:Int),()),((x,A,C,E,I,J,pa,F,()),(pc,ph,pp,pd,()),()))).bind λy2=>match y2 with
 | .inl y3=>
 ((LO (((),(),y3.1.2.2.1,(0:Int),()),(y3.2.1,y3.2.2.1,()))).bind λy4=>match y4 with
 | .inl y5=>
 L ((aA,()),())
 | .inr y5=>
 L ((y5.1.1,()),()))
 | .inr y3=>
 L ((y3.1.1,()),())))))
def Akv:=
 letI c:=(0:Int)
 letI a:=pd.getD C.toNat (aH c c c c Q)
 letI b:=pd.length
 letI d:=((pc,ph,pp,pd,()),())
 cond (N (C<((b:Nat):Int))) (W (cond (V C b) (cond (a.D0==x) (cond (V C b) (L ((x,A,(),C,a.I0==A,()),d)) P) (L ((x,A,(),C,Q,()),d))) P) λy1=>letI e:=y1.1.2.2.2
 cond e.2.1 (L (R (R ((e.1,()),())))) (L (U ((y1.1.1,y1.1.2.1,(),O.wrap (e.1+1),()),(y1.2.1,()))))) (L (R (U ((),()))))
def Tl:=Z Akv
def Acg:=
 (Tl ((z,B,(),(0:Int),()),((pc,ph,pp,pd,()),()))).bind λy1=>match y1 with
 | .inl y2=>
 L (((- 1:Int),()),())
 | .inr y2=>
 L ((y2.1.1,()),())
def Ach:=
 letI a:=(0:Int)
 letI b:=((q1,q2,q3,q4,qg,()),())
 letI f:=aH a a a a Q
 cond (N (px<(pd.length:Int))) (W (W (cond (! pu) (cond (V px pd.length) (let z0:=pd.getD px.toNat f
 (OV q1 q2 q3 q4 qg z0.D0 z0.I0 z0.S0 z0.B1 z0.B2).bind λy1=>L ((pd,(),rn,pu,px,y1.1.1,()),b)) P) (L ((pd,(),rn,pu,px,Q,()),b))) λy2=>letI c:=y2.1.2.2
 letI e:=y2.2.1
 letI h:=c.2
 letI j:=e.2
 cond h.2.2.1 (let z1:List (aC):=[aH e.1 j.1 j.2.1 j.2.2.1 j.2.2.2.1]
 cond ((c.1.length+z1.length).ble 2147483648) (L ((y2.1.1,(),c.1++z1,aA,h.2.1,()),(e,()))) P) (L ((y2.1.1,(),c.1,h.1,h.2.1,()),(e,())))) λy3=>letI d:=y3.1.2.2
 letI g:=d.2.2.1
 cond (V g y3.1.1.length) (let z2:aC:=y3.1.1.getD g.toNat f
 let z3:List (aC):=[aH z2.D0 z2.I0 z2.S0 z2.B1 z2.B2]
 cond ((d.1.length+z3.length).ble 2147483648) (L (U ((y3.1.1,(),d.1++z3,d.2.1,O.wrap (g+1),()),(y3.2.1,())))) P) P) (L (R (((),rn,pu,()),b)))
def Pi:=Z Ach
def Xo:=
 (Pi ((pd,(),([]:List aC),Q,(0:Int),()),((z,B,D,pb,pu,()),()))).bind λy1=>letI a:=y1.2.1.2
 cond (! y1.1.2.2.1) (let z0:List (aC):=[aH y1.2.1.1 a.1 a.2.1 a.2.2.1 a.2.2.2.1]
 cond ((y1.1.2.1.length+z0.length).ble 2147483648) (L ((y1.1.2.1++z0,()),())) P) (L ((y1.1.2.1,()),()))
def ZQ:=
 letI a:=(0:Int)
 letI b:=List Bool
 letI d:=((),a,())
 letI g:=List aC
 letI j:=aH a a a a Q
 letI m:=(1:Int)
 letI n:=List Int
 letI r:=pb.toNat
 letI aa:=(z,B,D,pb,pf,())
 (Hm x A C E I J pa F pc ph pp pd).bind λy1=>cond (! y1.1.1) (L (((),m,()),((([]:n),([]:b),([]:b),([]:g),()),()))) ((Lo x A C E I J pa F z B D pb pf).bind λy2=>cond (! y2.1.1) (L (((),m,()),((([]:n),([]:b),([]:b),([]:g),()),()))) (cond ((([]:n).length+pc.length).ble 2147483648) (let z0:List (Int):=([]:n)++pc
 cond ((([]:b).length+ph.length).ble 2147483648) (let z1:List (Bool):=([]:b)++ph
 cond ((([]:b).length+pp.length).ble 2147483648) (let z2:List (Bool):=([]:b)++pp
 cond ((([]:g).length+pd.length).ble 2147483648) (let z3:List (aC):=([]:g)++pd
 letI u:=(z2,z3,())
 letI ae:=(z1,u)
 (Acg z0 z1 z2 z3 B D).bind λy3=>cond (z==4) (cond (V pb z0.length) (L (d,((z0.set r pf,ae),()))) P) (cond (z==5) (cond (V pb z1.length) (L (d,((z0,z1.set r (pf==m),u),()))) P) (cond (z==6) (cond (V pb z2.length) (L (d,((z0,z1,z2.set r (pf==m),z3,()),()))) P) (W (cond (z==m) (L (((),(),(),y3.1.1,decide (y3.1.1<a),()),((z0,ae),aa,(([]:n),([]:b),([]:b),([]:g),()),()))) (L (((),(),(),y3.1.1,Q,()),((z0,ae),aa,(([]:n),([]:b),([]:b),([]:g),()),())))) λy4=>letI c:=y4.2.1
 letI e:=y4.1.2.2.2.1
 letI f:=c.2
 letI ag:=f.2
 letI h:=ag.2.1
 letI l:=y4.2.2.1
 letI o:=e.toNat
 letI q:=V e h.length
 letI w:=l.2
 letI af:=w.2
 cond y4.1.2.2.2.2.1 ((Xo h w.1 af.1 (- 1:Int) a Q).bind λy5=>L (d,((c.1,f.1,ag.1,y5.1.1,()),()))) (cond (N (e<a)) (L (d,(c,()))) (cond (l.1==2) (W (L (((),(),e,()),(c,y4.2.2.2.1,()))) λy6=>letI s:=y6.2.1.2
 letI ad:=s.2.2.1
 letI k:=ad.length
 letI v:=y6.1.2.2.1
 letI ab:=((k:Nat):Int)
 cond (N (a≤v)&&decide (v≤ab)) (let z4:List (aC):=(ad.take v.toNat).drop 0
 cond ((([]:g).length+z4.length).ble 2147483648) (let z5:List (aC):=([]:g)++z4
 let z6:Int:=O.wrap (v+m)
 cond (N (a≤z6)&&decide (z6≤ab)) (let z7:List (aC):=(ad.take k).drop z6.toNat
 cond ((z5.length+z7.length).ble 2147483648) (L (d,((y6.2.1.1,s.1,s.2.1,z5++z7,()),()))) P) P) P) P) (cond (l.1==3) (cond q (let z8:Nat:=o
 let z9:=h.getD z8 j
 L (d,((c.1,f.1,ag.1,h.set z8 (aH z9.D0 z9.I0 af.2.1 z9.B1 z9.B2),()),()))) P) (cond (l.1==7) (cond q (let z10:Nat:=o
 let z11:=h.getD z10 j
 let z12:=h.set z10 (aH z11.D0 z11.I0 z11.S0 af.2.2.1 z11.B2)
 cond (V e z12.length) (let z13:Nat:=o
 let z14:=z12.getD z13 j
 L (d,((c.1,f.1,ag.1,z12.set z13 (aH z14.D0 z14.I0 z14.S0 z14.B1 (af.2.1==m)),()),()))) P) P) (L (d,(c,()))))))))))) P) P) P) P))
def Ae6:=
 letI a:=(0:Int)
 letI b:=(qn,qu,qv,qh,())
 cond (N (pq<(pv.length:Int))) (cond (V pq pv.length) (let z0:=pv.getD pq.toNat (aN a a a a a)
 (ZQ rr ru rv rw ry rz r0 r1 sk sl sm sn z0.R0 z0.D0 z0.I0 z0.S0 z0.G2).bind λy1=>L (U (((),(),(),pv,O.wrap (pq+1),()),((rr,ru,rv,rw,ry,rz,r0,r1,()),b,y1.2.1,())))) P) (L (R (((),(),()),(b,(sk,sl,sm,sn,()),()))))
def MO:=Z Ae6
def JK:=
 (NE x A C E I J pa F).bind λy1=>(NC H pn z).bind λy2=>(VU x A C E I J pa F y2.1.1).bind λy3=>(MO (((),(),(),y3.1.1,(0:Int),()),((x,A,C,E,I,J,pa,F,()),(([]:List Int),([]:List Bool),([]:List Bool),([]:List aC),()),y1.2.1,()))).bind λy4=>L (((),()),(y4.2.2.1,()))
def Ln:=
 letI a:=((N (D<0),()),())
 (Hl x H pn z).bind λy1=>cond (! y1.1.1) (L (((1:Int),()),())) (W (cond (B !=0) (cond (B !=1) (L ((aA,()),())) (L a)) (L a)) λy2=>cond y2.1.1 (L (((2:Int),()),())) (L (((0:Int),()),())))
def QI:=
 letI a:=(0:Int)
 (Ln x H pn z B D).bind λy1=>cond (y1.1.1 !=a) (L (((),a,y1.1.1,()),((p (i []),p (i []),a,()),()))) (cond (D==a) (L (((),a,(8:Int),()),((H,pn,z,()),()))) (cond (V B 2) (let z0:Nat:=B.toNat
 L (((),O.wrap (D-1),a,()),((cond (z0.beq 0) (p (i [])) H,cond (z0.beq 1) (p (i [])) pn,z,()),()))) P))
def Ol:=
 cond pu (L (((1:Int),()),())) (L (((0:Int),()),()))
def Gw:=
 letI a:=(0:Int)
 cond (N (pq<(qh.length:Int))) (cond (V pq qh.length) (let z0:=qh.getD pq.toNat (aH a a a a Q)
 (Ol z0.B2).bind λy1=>let z1:List (Record):=[aN 1 z0.D0 z0.I0 a a,aN 3 z0.D0 z0.I0 z0.S0 a,aN 7 z0.D0 z0.I0 y1.1.1 z0.B1]
 cond ((pv.length+z1.length).ble 2147483648) (L (U (((),pv++z1,O.wrap (pq+1),()),((qn,qu,qv,qh,()),())))) P) P) (L (R ((pv,()),())))
def Kz:=Z Gw
def Gv:=
 letI a:=(0:Int)
 letI b:=pq.toNat
 letI c:=((qn,qu,qv,qh,()),())
 cond (N (pq<(qn.length:Int))) (cond (V pq qn.length) (cond (V pq qu.length) ((Ol (qu.getD b Q)).bind λy1=>cond (V pq qv.length) ((Ol (qv.getD b Q)).bind λy2=>let z0:List (Record):=[aN 4 a a pq (qn.getD b a),aN 5 a a pq y1.1.1,aN 6 a a pq y2.1.1]
 cond ((pv.length+z0.length).ble 2147483648) (L (U (((),pv++z0,O.wrap (pq+1),()),c))) P) P) P) P) (L (R (((),pv,()),c)))
def Ky:=Z Gv
def MI:=
 (Hm x A C E I J pa F pc ph pp pd).bind λy1=>cond (! y1.1.1) (L ((([]:List Record),()),())) ((Ky (((),([]:List Record),(0:Int),()),((pc,ph,pp,pd,()),()))).bind λy2=>(Kz (((),y2.1.2.1,(0:Int),()),(y2.2.1,()))).bind λy3=>L ((y3.1.1,()),()))
def OU:=
 (Lo x A C E I J pa F z B D pb pf).bind λy1=>cond (! y1.1.1) (L ((p (i []),(1:Int),()),())) (let z0:ByteArray:=Hg [aB.wrap z,aB.wrap B,aB.wrap D,aB.wrap (S O (pb+2)),aB.wrap pf]
 (OQ z0).bind λy2=>let z1:ByteArray:=Hg [y2.1.1]
 cond ((z0.size+z1.size).ble 4611686018427387904) (L ((z0++z1,(0:Int),()),())) P)
def IC:=
 letI a:=(0:Int)
 cond (N (ro<(pv.length:Int))) (cond (V ro pv.length) (let z0:=pv.getD ro.toNat (aN a a a a a)
 (OU so sq sr ss st su sv sw z0.R0 z0.D0 z0.I0 z0.S0 z0.G2).bind λy1=>cond ((r2.size+y1.1.1.size).ble 4611686018427387904) (L (U ((pv,(),r2++y1.1.1,O.wrap (ro+1),()),((so,sq,sr,ss,st,su,sv,sw,()),())))) P) P) (L (R ((r2,()),())))
def NO:=Z IC
def QK:=
 (NO ((pv,(),p (i []),(0:Int),()),((x,A,C,E,I,J,pa,F,()),()))).bind λy1=>L ((y1.1.1,()),())
def Dj:=
 letI a:=O.wrap (B+1)
 letI b:=(0:Int)
 letI c:=((qp,r2,ro,()),())
 cond (N (B<(H.size:Int))) (cond (z==b) (L (R (R (((),b,(8:Int),()),((qd,qo,pf,()),()))))) (cond (V x 2) (let z0:ByteArray:=aQ [qd,qo] x.toNat (p (i []))
 let z1:Int:=a
 cond (N (b≤z1)&&decide (z1≤(H.size:Int))) (cond (N (b≤B)&&decide (B≤((z1.toNat:Nat):Int))) (let z2:ByteArray:=aO H B.toNat z1.toNat
 cond ((z0.size+z2.size).ble 4611686018427387904) (let z3:ByteArray:=z0++z2
 cond (V x 2) (let z4:=x.toNat
 L (U ((x,H,O.wrap (z-1),(),(),a,()),((cond (z4.beq 0) z3 qd,cond (z4.beq 1) z3 qo,pf,()),c)))) P) P) P) P) P)) (L (R (U ((z,(),(),()),((qd,qo,pf,()),c)))))
def KZ:=Z Dj
def QJ:=
 letI a:=(0:Int)
 letI b:=(a,())
 (Ln x H pn z B pf).bind λy1=>cond (y1.1.1 !=a) (L (((),a,y1.1.1,()),((p (i []),p (i []),b),()))) (cond (V B 2) (cond (N (x<O.wrap ((((aQ [H,pn] B.toNat (p (i []))).size:Nat):Int)+(qd.size:Int)))) (L (((),a,(7:Int),()),((p (i []),p (i []),b),()))) ((KZ ((B,qd,pf,(),(),b),((H,pn,z,()),(p (i []),p (i []),b),()))).bind λy2=>match y2 with
 | .inl y3=>
 L (((),y3.1.1,b),(y3.2.1,()))
 | .inr y3=>
 L (((),y3.1.2.1,y3.1.2.2.1,()),(y3.2.1,())))) P)
def OT:=
 letI a:=(0:Int)
 (Ln x H pn z B D).bind λy1=>cond (y1.1.1 !=a) (L (((),a,y1.1.1,()),((p (i []),p (i []),a,()),()))) (cond (D==a) (L (((),a,(8:Int),()),((H,pn,z,()),()))) (L (((),O.wrap (D-1),a,()),((H,pn,B,()),()))))
def ND:=
 letI a:=(0:Int)
 letI b:=((),a,(1:Int),())
 (Ti x A C E I J pa F H pn z pf).bind λy1=>cond (! y1.1.1) (L (b,((p (i []),p (i []),a,()),()))) ((Hm x A C E I J pa F qq q5 q6 q7).bind λy2=>cond (! y2.1.1) (L (b,((p (i []),p (i []),a,()),()))) (let z0:Int:=O.wrap (1-z)
 (QI C H pn z z0 pf).bind λy3=>cond (y3.1.2.2.1 !=a) (L (((),a,y3.1.2.2.1,()),(y3.2.1,()))) ((MI x A C E I J pa F qq q5 q6 q7).bind λy4=>(QK x A C E I J pa F y4.1.1).bind λy5=>(QJ C y3.2.1.1 y3.2.1.2.1 y3.2.1.2.2.1 z0 y5.1.1 y3.1.2.1).bind λy6=>cond (y6.1.2.2.1 !=a) (L (((),a,y6.1.2.2.1,()),(y6.2.1,()))) ((OT C y6.2.1.1 y6.2.1.2.1 y6.2.1.2.2.1 z0 y6.1.2.1).bind λy7=>L (((),y7.1.2.1,y7.1.2.2.1,()),(y7.2.1,()))))))
def NF:=
 letI a:=(0:Int)
 letI b:=List Bool
 (Ti x A C E I J pa F H pn z B).bind λy1=>cond (! y1.1.1) (L (((),(),a,(1:Int),()),((p (i []),p (i []),a,()),(([]:List Int),([]:b),([]:b),([]:List aC),()),()))) ((JK x A C E I J pa F H pn z).bind λy2=>letI c:=y2.2.1
 (ND x A C E I J pa F H pn z c.1 c.2.1 c.2.2.1 c.2.2.2.1 B).bind λy3=>cond (y3.1.2.2.1 !=a) (L (((),(),a,y3.1.2.2.1,()),(y3.2.1,(([]:List Int),([]:b),([]:b),([]:List aC),()),()))) (L (((),(),y3.1.2.1,a,()),(y3.2.1,c,()))))
def OX:=
 W ((Hm x A C E I J pa F pc ph pp pd).bind λy1=>cond y1.1.1 (L ((N (S O (S O (18*O.wrap ((F.length:Int)+(pd.length:Int)))+6)≤C),()),())) (L ((Q,()),()))) λy2=>L ((y2.1.1,()),())
def Om :Option ((Unit×Unit)×(GQ×Unit)):=
 L (((),()),(((-1:Int),(0:Int),(0:Int),([]:List Duty),(0:Int),Q,()),()))
def IE:=
 letI a:=((sx,sy,sz,rn,H,pn,z,qb,py,qe,qf,qq,q8,B,D,pb,()),(r3,q5,q6,q7,qd,qo,pf,r4,rp,r9,sa,sb,sc,po,pw,qk,()),())
 letI c:=(0:Int)
 letI f:=((A,C,E,pt,I,J,pa,F,()),(pc,ph,pp,pd,()),a)
 cond (N (x<(pd.length:Int))) (W (cond (V x pd.length) (let z0:=pd.getD x.toNat (aH c c c c Q)
 cond (N (c≤z0.S0)) (cond (V z0.S0 F.length) (L (((),(),(),(),x,(F.getD z0.S0.toNat (aF c c c c c c c c c)).I1,()),f)) P) (L (((),(),(),(),x,c,()),f))) P) λy1=>letI e:=y1.2.2.2.2.1
 letI h:=e.2
 letI j:=h.2
 letI b:=j.2.2.2
 letI k:=b.2
 letI d:=k.2.2.2
 letI g:=d.2.2
 letI l:=g.2
 let z1:List (Int):=[y1.1.2.2.2.2.2.1]
 cond ((g.1.length+z1.length).ble 2147483648) (L (U (((),(),(),(),O.wrap (y1.1.2.2.2.2.1+1),()),(y1.2.1,y1.2.2.1,y1.2.2.2.1,(e.1,h.1,j.1,j.2.1,j.2.2.1,b.1,k.1,k.2.1,k.2.2.1,d.1,d.2.1,g.1++z1,l.1,l.2.1,l.2.2.1,l.2.2.2.1,()),())))) P) (L (R (((),(),()),a)))
def Lb:=Z IE
def ID:=
 letI a:=(sx,sy,sz,rn,H,pn,z,qb,py,qe,qf,qq,q8,B,D,pb,())
 letI b:=(r9,sa,sb,sc,po,pw,qk,())
 letI d:=(C,E,pt,qa,I,J,pa,F,())
 letI f:=(pc,ph,pp,pd,())
 cond (N (A<x)) ((Om).bind λy1=>letI c:=y1.2.1.2
 letI e:=c.2
 let z0:List (Belief):=[Belief.mk y1.2.1.1 c.1 e.1 e.2.1 e.2.2.1 e.2.2.2.1]
 cond ((rp.length+z0.length).ble 2147483648) (L (U (((),(),(),x,(),O.wrap (A+1),()),(d,f,a,(r3,q5,q6,q7,qd,qo,pf,r4,rp++z0,b),())))) P) (L (R (((),(),(),(),()),(d,f,a,(r3,q5,q6,q7,qd,qo,pf,r4,rp,b),()))))
def La:=Z ID
def QL:=
 letI a:=(0:Int)
 letI c:=List Int
 letI d:=List Bool
 letI h:=(a,())
 letI e:=(a,a,h)
 letI g:=List Belief
 letI j:=List aC
 letI k:=List aP
 letI l:=List NewCar
 letI m:=List Loaded
 letI n:=List Calls
 (OX x A C E I J pa F pc ph pp pd).bind λy1=>cond (! y1.1.1) (L (((),(1:Int),()),((([]:c),([]:d),([]:d),([]:j),p (i []),p (i []),a,([]:k),([]:g),([]:l),([]:m),([]:c),([]:n),e),()))) ((Hl C H pn z).bind λy2=>cond (! y2.1.1) (L (((),(1:Int),()),((([]:c),([]:d),([]:d),([]:j),p (i []),p (i []),a,([]:k),([]:g),([]:l),([]:m),([]:c),([]:n),e),()))) (let z0:Int:=(F.length:Int)
 letI b:=(N (a≤z0)&&decide (z0≤z0))&&decide (z0≤2147483648)
 letI f:=z0.toNat
 cond b (cond b (cond b (cond b ((La (((),(),(),z0,(),h),((x,A,C,E,I,J,pa,F,()),(pc,ph,pp,pd,()),(([]:c),([]:d),([]:d),([]:j),p (i []),p (i []),a,([]:k),([]:g),([]:l),([]:m),([]:c),([]:n),e),(pc,ph,pp,pd,H,pn,z,aM f (Debounced.mk a Q Q Q Q a a a a a a a a a a a a a a a a a a a a a a a a a a a a a a a a a a a a),([]:g),aM f (NewCar.mk a a a a a Q a a a a a a a Q),aM f (Loaded.mk a),([]:c),aM f (Calls.mk a a),e),()))).bind λy3=>(Lb (((),(),(),(),h),(y3.2.1,y3.2.2.1,y3.2.2.2.1,y3.2.2.2.2.1,()))).bind λy4=>L (((),h),(y4.2.2.1,()))) P) P) P) P))
def OW:=
 letI a:=(0:Int)
 letI b:=List Bool
 letI c:=List Int
 letI f:=(a,a,a,())
 letI j:=List aC
 letI k:=List aP
 letI l:=List Belief
 letI m:=List NewCar
 letI n:=List Loaded
 letI o:=List Calls
 (NF x A C E I J pa F H pn z B).bind λy1=>cond (y1.1.2.2.2.1 !=a) (L (((),a,y1.1.2.2.2.1,()),((([]:c),([]:b),([]:b),([]:j),y1.2.1.1,y1.2.1.2.1,y1.2.1.2.2.1,([]:k),([]:l),([]:m),([]:n),([]:c),([]:o),f),()))) (W (L (((),(),(),(),y1.1.2.2.1,()),((x,A,C,E,I,J,pa,F,()),(([]:c),([]:b),([]:b),([]:j),p (i []),p (i []),a,([]:k),([]:l),([]:m),([]:n),([]:c),([]:o),f),y1.2.1,y1.2.2.1,()))) λy2=>letI d:=y2.2.1.2.2
 letI e:=y2.2.2.2
 letI g:=d.2
 letI h:=e.2.1
 letI q:=g.2
 (QL y2.2.1.1 y2.2.1.2.1 d.1 g.1 q.1 q.2.1 q.2.2.1 q.2.2.2.1 h.1 h.2.1 h.2.2.1 h.2.2.2.1 e.1.1 e.1.2.1 e.1.2.2.1).bind λy3=>cond (y3.1.2.1 !=a) (L (((),a,y3.1.2.1,()),((([]:c),([]:b),([]:b),([]:j),p (i []),p (i []),a,([]:k),([]:l),([]:m),([]:n),([]:c),([]:o),f),()))) (L (((),y2.1.2.2.2.2.1,a,()),(y3.2.1,()))))
def HD:=
 (OW x A C E I J pa F (p (i [])) (p (i [])) 0 1048576).bind λy1=>L (((),y1.1.2.2.1,()),(y1.2.1,()))
def Vr:=
 letI f:=(0:Int)
 letI a:=aK f Q Q Q Q f Q f Q f 0
 letI b:=IntKind.bits Y
 letI c:=((qi,qc,qm,qt,uj,()),(r7,r8,si,sj,uk,()),())
 letI g:=X b x
 cond (N (qw<(pr.length:Int))) (cond (V qw pr.length) (let z0:=qw.toNat
 letI d:=pr.getD z0 a
 let z1:aE:=d
 letI h:=z1.V0
 let z2:aE:=d
 let z3:aE:=d
 let z4:=pr.set z0 (aK (S Y (stk h x (X b h&&&g).toNat)) z3.T1 z3.F1 z3.G1 z3.C1 z3.J1 z3.L1 z3.R1 z3.M1 z3.Y1 z3.C3)
 let z5:=z4.getD z0 a
 let z6:=z4.set z0 (aK z5.V0 z5.T1 z5.F1 z5.G1 z5.C1 z5.J1 z5.L1 z5.R1 z5.M1 (S Y (stk z2.Y1 x (X b z2.Y1&&&g).toNat)) z5.C3)
 letI e:=z6.getD z0 a
 let z7:Int:=y.wrap sd
 cond (z7 !=f) (let z8:aE:=e
 let z9:=z6.set z0 (aK z8.V0 z8.T1 z8.F1 z8.G1 z8.C1 (S O (t (S y e.J1) z7)) z8.L1 z8.R1 z8.M1 z8.Y1 z8.C3)
 let z10:=z9.getD z0 a
 L (U (((),(),(),x,z9.set z0 (aK z10.V0 z10.T1 z10.F1 z10.G1 z10.C1 z10.J1 z10.L1 (S O (t (S y e.R1) 3)) z10.M1 z10.Y1 z10.C3),O.wrap (qw+1),()),((sd,s0,s1,px,pi,pj,pm,pg,()),c)))) P) P) (L (R (((),(),pr,()),c)))
def PX:=Z Vr
def JF:=
 letI a:=IntKind.bits Y
 letI b:=(0:Int)
 letI c:=(1:Int)
 letI d:=(x,A,C,E,I,J,pa,F,())
 let z0:Int:=y.wrap x
 cond (N (b≤z0)) (let z1:Int:=Y.wrap (S Y (c*((2:Int)^aD z0.toNat a))-c)
 letI e:=X a z1
 let z2:Int:=Y.wrap (stk z z1 (X a z&&&e).toNat)
 let z3:Int:=aI z1 ((2:Int)^aD c.toNat a)
 let z4:Int:=Y.wrap (stk z2 z3 (X a z2&&&X a z3).toNat)
 let z5:Int:=Y.wrap (stk B z1 (X a B&&&e).toNat)
 let z6:Int:=Y.wrap (stk z5 c (X a z5&&&(~~~ X a c)).toNat)
 let z7:Int:=O.wrap (t (S y D) 9)
 let z8:Int:=y.wrap (F.length:Int)
 cond (z8 !=b) (W (cond (z7==b) (L (((),(),(),z1,()),(d,(z4,z6,z7,b,pr,()),(b,b,b,b,([]:List aE),()),()))) (L (((),(),(),z1,()),(d,(z4,z6,z7,O.wrap (t (S y pb) z8),pr,()),(b,b,b,b,([]:List aE),()),())))) λy1=>let z9:Int:=(y1.2.1.2.2.2.2.2.2.2.1.length:Int)
 cond ((N (b≤z9)&&decide (z9≤z9))&&decide (z9≤2147483648)) ((PX (((),(),(),y1.1.2.2.2.1,KG (aM z9.toNat (aK b Q Q Q Q b Q b Q b 0)) y1.2.2.1.2.2.2.2.1,b,()),(y1.2.1,y1.2.2.1,y1.2.2.2.1,()))).bind λy2=>L (((),()),((y2.2.1.1,y2.2.1.2.1,y2.2.1.2.2.1,y2.2.1.2.2.2.1,y2.1.2.2.1,()),()))) P) P) P
def Vu:=
 letI b:=IntKind.bits aB
 letI c:=(0:Int)
 letI f:=(A,C,E,pt,I,J,pa,F,())
 letI h:=(pw,qk,rq,se,pr,())
 letI j:=(qw,sd,s0,s1,ul,())
 letI l:=(7:Int)
 letI o:=(z,B,D,pb,pf,po,())
 letI q:=(3:Int)
 letI r:=(2:Int)
 letI s:=(8:Int)
 letI u:=(1:Int)
 letI aa:=X b l
 cond (N (x<(F.length:Int))) (let z0:Int:=O.wrap (q+t x q)
 cond (V z0 6) (let z1:Int:=aQ [z,B,D,pb,pf,po] z0.toNat c
 letI d:=t (S aB (aL z1 32)) q
 letI e:=t (S aB (aL z1 s)) 4
 let z2:Int:=O.wrap (r+t x 4)
 cond (V z2 6) (let z3:Int:=aQ [z,B,D,pb,pf,po] z2.toNat c
 letI w:=((),(),(),(),x,z3,(),())
 letI ab:=X b z3
 let z4:Int:=aB.wrap (stk z1 z3 (X b z1&&&ab).toNat)
 let z5:Int:=Y.wrap (S aB (stk z4 l (X b z4&&&aa).toNat))
 (arF BinOp.quo FloatKind.f64 (Ad7 FloatKind.f64 (t z3 16)) 4622945017495814144).bind λy1=>let z6:Int:=y.wrap (t z1 s)
 cond (N (c≤z6)) (let z7:Bool:=e==u
 let z8:Bool:=e==r
 let z9:Bool:=d==u
 let z10:Bool:=d==r
 letI m:=(z7,z8,z9,z10,c,Q,c,Q,z5,y1,())
 W (cond (t z1 11==l) (L (w,(f,o,h,j,(S Y (S aB (stk z3 l (ab&&&aa).toNat)),m),()))) (L (w,(f,o,h,j,(S Y (u*(r^aD z6.toNat (IntKind.bits Y))),m),())))) λy2=>letI a:=y2.2.2.2.2
 letI g:=a.2.1.2
 letI k:=y2.1.2.2.2.2.2.1
 letI n:=a.1.2
 letI v:=g.2
 letI ad:=v.2
 letI ae:=n.2
 letI af:=ad.2.2.2.2.2.2
 let z11:List (aE):=[aK a.2.1.1 g.1 v.1 ad.1 ad.2.1 (S O (t k s)) (N (c<t k 5)) (S O (t (S aB (aL k s)) q)) (t k l==c) af.1 af.2.1]
 cond ((ae.2.2.1.length+z11.length).ble 2147483648) (L (U (((),(),(),(),O.wrap (y2.1.2.2.2.2.1+u),()),(y2.2.1,y2.2.2.1,y2.2.2.2.1,(a.1.1,n.1,ae.1,ae.2.1,ae.2.2.1++z11,()),())))) P) P) P) P) (L (R (((),(),(),()),(f,h,j,()))))
def Qa:=Z Vu
def OK:=
 letI a:=(0:Int)
 letI b:=IntKind.bits aB
 letI d:=((),(),(),(),())
 letI g:=List aE
 letI j:=(x,A,C,E,I,J,pa,F,())
 letI k:=(z,B,D,pb,pf,po,())
 W (cond (t z 3==a) (let z0:Int:=aI z ((2:Int)^aD (aG (3:Int)) b)
 let z1:Int:=aI B ((2:Int)^aD (aG (2:Int)) b)
 L (d,(j,k,(a,a,a,a,([]:g),()),(S Y (S aB (stk z0 B (X b z0&&&X b B).toNat)),Y.wrap (S aB (stk z1 z (X b z1&&&X b z).toNat)),a,a,([]:g),()),()))) (L (d,(j,k,(a,a,a,a,([]:g),()),(a,a,a,a,([]:g),()),())))) λy1=>letI c:=y1.2.2
 letI h:=c.2
 letI l:=c.1
 letI m:=h.2.1
 W (cond (t l.2.2.1 4==a) (L (d,(y1.2.1,l,h.1,(m.1,m.2.1,t (S O (S aB (aL l.2.2.1 4))) 9,O.wrap l.2.2.2.1,m.2.2.2.2.1,()),()))) (L (d,(y1.2.1,l,h.1,m,())))) λy2=>(Qa (((),(),(),(),a,()),(y2.2.1,y2.2.2.1,y2.2.2.2.1,y2.2.2.2.2.1,()))).bind λy3=>letI e:=y3.2.1.2.2
 letI f:=y3.2.2.2.1
 letI n:=e.2
 letI o:=n.2
 letI q:=f.2
 (JF y3.2.1.1 y3.2.1.2.1 e.1 n.1 o.1 o.2.1 o.2.2.1 o.2.2.2.1 f.1 q.1 q.2.1 q.2.2.1 q.2.2.2.1).bind λy4=>L (((),()),(y4.2.1,()))
def JS:=
 letI a:=IntKind.bits Y
 letI h:=(A,C,E,pt,I,J,pa,F,())
 letI j:=((z,B,()),(D,pb,()),())
 letI k:=(1:Int)
 cond (N (x<32)) (W ((HU A C E pt I J pa F x k).bind λy1=>cond y1.1.1 (let z0:Int:=y.wrap x
 cond (N (0≤z0)) (let z1:Int:=Y.wrap (k*((2:Int)^aD z0.toNat a))
 L (((),(),(),x,()),(h,(z,B,()),(S Y (stk D z1 (X a D|||BitVec.ofInt a z1).toNat),pb,()),()))) P) (L (((),(),(),x,()),(h,j)))) λy2=>letI n:=y2.1.2.2.2.1
 letI b:=((),(),(),O.wrap (n+k),())
 letI c:=y2.2
 letI d:=c.1
 letI e:=d.2.2
 letI g:=c.2
 letI l:=e.2
 letI m:=g.2.1
 letI o:=l.2
 (HU d.1 d.2.1 e.1 l.1 o.1 o.2.1 o.2.2.1 o.2.2.2.1 n 2).bind λy3=>cond y3.1.1 (let z2:Int:=y.wrap n
 cond (N (0≤z2)) (let z3:Int:=Y.wrap (k*((2:Int)^aD z2.toNat a))
 L (U (b,(d,g.1,(m.1,Y.wrap (stk m.2.1 z3 (X a m.2.1|||BitVec.ofInt a z3).toNat),()),())))) P) (L (U (b,(d,g.1,m,()))))) (L (R (((),(),()),j)))
def Pc:=Z JS
def Sf:=
 letI a:=(0:Int)
 (Pc (((),(),(),a,()),((x,A,C,E,I,J,pa,F,()),(a,a,()),(a,a,()),()))).bind λy1=>L (((),()),(y1.2.2.1,()))
def OS:=
 letI a:=IntKind.bits Y
 (Sf x A C E I J pa F).bind λy1=>W (cond (S Y (stk z y1.2.1.1 (X a z&&&(~~~ X a y1.2.1.1)).toNat)==0) (L ((S Y (stk B y1.2.1.2.1 (X a B&&&(~~~ X a y1.2.1.2.1)).toNat)==0,()),())) (L ((Q,()),()))) λy2=>L ((y2.1.1,()),())
def NZ:=
 W (cond (N (A≤x)) (L ((N (x≤C),()),())) (L ((Q,()),()))) λy1=>L ((y1.1.1,()),())
def OR(p1:Int)(p2:Int)(p3:Int)(p4:Nat)(p5:Nat)(p6:Nat)(p7:List Car)(n:Int):=
 let z0:Int:=y.wrap x
 cond (N (0≤z0)) (L ((aI (S y n) ((2:Int)^aD z0.toNat (IntKind.bits y))==0,()),())) P
def JU:=
 letI a:=(0:Int)
 letI b:=((Q,()),())
 letI c:=OR A C E pt I J pa F
 cond (N (x<(pr.length:Int))) (cond (V x pr.length) (let z0:=pr.getD x.toNat (aK a Q Q Q Q a Q a Q a 0)
 (c z0.V0).bind λy1=>cond (! y1.1.1) (L (R (R b))) ((c z0.Y1).bind λy2=>cond (! y2.1.1) (L (R (R b))) ((NZ z0.J1 a (S O (A-1))).bind λy3=>cond (! y3.1.1) (L (R (R b))) ((NZ z0.R1 a 2).bind λy4=>cond (! y4.1.1) (L (R (R b))) (L (U (((),(),O.wrap (x+1),()),((A,C,E,pt,I,J,pa,F,()),(z,B,D,pb,pr,()),())))))))) P) (L (R (U ((),()))))
def LZ:=Z JU
def Sh:=
 letI a:=((x,A,C,E,I,J,pa,F,()),(z,B,D,pb,pr,()),())
 letI e:=(F.length:Int)
 letI b:=(((),(),(pr.length:Int) !=e,()),a)
 letI c:=(((),(),aA,()),a)
 letI d:=(0:Int)
 W ((Eb x A C E I J pa F).bind λy1=>cond (y1.1.1 !=d) (L c) ((OS x A C E I J pa F z B).bind λy2=>cond (! y2.1.1) (L c) ((NZ D d 8).bind λy3=>cond (! y3.1.1) (L c) ((NZ pb d (S O (e-1))).bind λy4=>cond (! y4.1.1) (L c) (cond (D==d) (cond (pb !=d) (L c) (L b)) (L b)))))) λy5=>cond y5.1.2.2.1 (L ((Q,()),())) ((LZ (((),(),d,()),(y5.2.1,y5.2.2.1,()))).bind λy6=>match y6 with
 | .inl y7=>
 L ((aA,()),())
 | .inr y7=>
 L ((y7.1.1,()),()))
def Lp:=
 cond (N (z<A)) (let z0:Int:=y.wrap (S O (8*z))
 cond (N (0≤z0)) (cond (V z pc.length) (L (U ((x,A,pc.set z.toNat (S aB (aI x ((2:Int)^aD z0.toNat (IntKind.bits y)))),O.wrap (z+1),()),()))) P) P) (L (R ((pc,()),())))
def QM:=Z Lp
def DW:=
 cond ((N (0≤A)&&decide (A≤A))&&decide (A≤2147483648)) ((QM ((x,A,aM A.toNat 0,(0:Int),()),())).bind λy1=>L ((Hg y1.1.1,()),())) P
def QH:=
 (DW (S y x) 4).bind λy1=>(DW (S y A) 4).bind λy2=>cond ((y1.1.1.size+y2.1.1.size).ble 4611686018427387904) (L ((y1.1.1++y2.1.1,()),())) P
def JV:=
 letI a:=IntKind.bits y
 letI b:=(S O (B+1),())
 cond (N (B<(ph.length:Int))) (cond (V B ph.length) (cond (ph.getD B.toNat Q) (let z0:Int:=y.wrap B
 cond (N (0≤z0)) (let z1:Int:=y.wrap (1*((2:Int)^aD z0.toNat a))
 L (U ((ph,y.wrap (stk z z1 (X a z|||BitVec.ofInt a z1).toNat),b),()))) P) (L (U ((ph,z,b),())))) P) (L (R ((z,()),())))
def Pg:=Z JV
def Sj:=
 (Pg ((ph,(0:Int),(0:Int),()),())).bind λy1=>(DW y1.1.1 1).bind λy2=>L ((y2.1.1,()),())
def IA:=
 letI a:=(B,O.wrap (D+1),())
 letI b:=IntKind.bits O
 cond (N (D<8)) (let z0:Int:=t (S O (z*2)) 65536
 cond (N (32768≤z)) (L (U ((H,O.wrap (stk z0 4129 (X b z0^^^X b 4129).toNat),a),()))) (L (U ((H,z0,a),())))) (L (R ((H,z,B,()),())))
def NM:=Z IA
def Iz:=
 letI a:=IntKind.bits O
 cond (N (B<(H.size:Int))) (cond (V B H.size) (let z0:Int:=O.wrap (S O (AF H B.toNat)*256)
 (NM ((H,O.wrap (stk z z0 (X a z^^^X a z0).toNat),B,(0:Int),()),())).bind λy1=>L (U ((y1.1.1,y1.1.2.1,O.wrap (y1.1.2.2.1+1),()),()))) P) (L (R ((z,()),())))
def NL:=Z Iz
def QG:=
 (NL ((H,(65535:Int),(0:Int),()),())).bind λy1=>L ((S aJ y1.1.1,()),())
def OP:=
 (QG H).bind λy1=>let z0:ByteArray:=Hg [aB.wrap (S aJ (aL y1.1.1 256)),aB.wrap (t y1.1.1 256)]
 cond ((H.size+z0.size).ble 4611686018427387904) (L ((H++z0,()),())) P
def MP:=
 letI a:=(0:Int)
 cond (N (z<(pr.length:Int))) (cond (V z pr.length) (let z0:=pr.getD z.toNat (aK a Q Q Q Q a Q a Q a 0)
 (DW (S y z0.V0) 4).bind λy1=>cond ((H.size+y1.1.1.size).ble 4611686018427387904) (let z1:ByteArray:=H++y1.1.1
 (Sj [z0.T1,z0.F1,z0.G1,z0.C1,z0.L1,z0.M1]).bind λy2=>cond ((z1.size+y2.1.1.size).ble 4611686018427387904) (let z2:ByteArray:=z1++y2.1.1
 (DW (S y z0.J1) 1).bind λy3=>cond ((z2.size+y3.1.1.size).ble 4611686018427387904) (let z3:ByteArray:=z2++y3.1.1
 (DW (S y z0.R1) 1).bind λy4=>cond ((z3.size+y4.1.1.size).ble 4611686018427387904) (let z4:ByteArray:=z3++y4.1.1
 (DW (S y z0.Y1) 4).bind λy5=>cond ((z4.size+y5.1.1.size).ble 4611686018427387904) (let z5:ByteArray:=z4++y5.1.1
 (DW ((z0.C3:Nat):Int) 8).bind λy6=>cond ((z5.size+y6.1.1.size).ble 4611686018427387904) (L (U (((),z5++y6.1.1,O.wrap (z+1),()),((B,D,pb,pf,pr,()),())))) P) P) P) P) P) P) P) (L (R ((H,()),())))
def Pf:=Z MP
def NY:=
 letI a:=(1:Int)
 (Sh x A C E I J pa F z B D pb pr).bind λy1=>cond (! y1.1.1) (L ((p (i []),a,()),())) ((DW 165 a).bind λy2=>(DW (S y (F.length:Int)) a).bind λy3=>cond ((y2.1.1.size+y3.1.1.size).ble 4611686018427387904) (let z0:ByteArray:=y2.1.1++y3.1.1
 (QH z B).bind λy4=>cond ((z0.size+y4.1.1.size).ble 4611686018427387904) (let z1:ByteArray:=z0++y4.1.1
 (DW (S y D) a).bind λy5=>cond ((z1.size+y5.1.1.size).ble 4611686018427387904) (let z2:ByteArray:=z1++y5.1.1
 (DW (S y pb) a).bind λy6=>cond ((z2.size+y6.1.1.size).ble 4611686018427387904) ((Pf (((),z2++y6.1.1,(0:Int),()),((z,B,D,pb,pr,()),()))).bind λy7=>(OP y7.1.1).bind λy8=>L ((y8.1.1,(0:Int),()),())) P) P) P) P)
def Vt:=
 letI a:=(q9,ra,rb,um,rc,rd,rf,rg,())
 letI b:=(S O (qx+1),())
 letI c:=(a,(un,uo,up,uq,s2,s3,()),())
 letI d:=qr.length
 letI e:=((pc,z,(),qr,q0,()),(a,()))
 cond (N (qx≤O.wrap (t s3 4))) (cond (N (((d:Nat):Int)<z)) (cond (t s2 23==5) (let z0:Int:=O.wrap ((qp.size:Int)-1)
 cond (N (0≤z0)&&decide (z0≤(qp.size:Int))) (let z1:ByteArray:=aO qp 0 z0.toNat
 cond ((z1.size+(p (i [63])).size).ble 4611686018427387904) (let z2:ByteArray:=z1++p (i [63])
 let z3:List (ByteArray):=[z2]
 cond ((d+z3.length).ble 2147483648) (L (U ((pc,z,(),qr++z3,q0,(),z2,b),c))) P) P) P) (let z4:List (ByteArray):=[qp]
 cond ((d+z4.length).ble 2147483648) (L (U ((pc,z,(),qr++z4,q0,(),qp,b),c))) P)) (L (R e))) (L (R e))
def PZ:=Z Vt
def Vs:=
 letI a:=(0:Int)
 letI c:=O.wrap (6*q0)
 letI d:=pc.length
 cond (N (c<((d:Nat):Int))) (cond (N ((qr.length:Int)<z)) (let z0:Int:=c
 cond (N (a≤z0)&&decide (z0≤((d:Nat):Int))) (let z1:List (Int):=(pc.take d).drop z0.toNat
 letI b:=z1.length
 let z2:Int:=cond (Nat.blt 0 b) (z1.getD 0 a) a
 let z3:Int:=cond (Nat.blt 1 b) (z1.getD 1 a) a
 let z4:Int:=cond (Nat.blt 2 b) (z1.getD 2 a) a
 let z5:Int:=cond (Nat.blt 3 b) (z1.getD 3 a) a
 let z6:Int:=cond (Nat.blt 4 b) (z1.getD 4 a) a
 let z7:Int:=cond (Nat.blt 5 b) (z1.getD 5 a) a
 (OK qx q9 ra rb rc rd rf rg z2 z3 z4 z5 z6 z7).bind λy1=>letI e:=y1.2.1.2
 (NY qx q9 ra rb rc rd rf rg y1.2.1.1 e.1 e.2.1 e.2.2.1 e.2.2.2.1).bind λy2=>(PZ ((pc,z,(),qr,q0,(),y2.1.1,a,()),((qx,q9,ra,rb,rc,rd,rf,rg,()),(z2,z3,z4,z5,z6,z7,()),()))).bind λy3=>L (U ((y3.1.1,y3.1.2.1,(),y3.1.2.2.2.1,O.wrap (y3.1.2.2.2.2.1+1),()),(y3.2.1,())))) P) (L (R ((qr,()),())))) (L (R ((qr,()),())))
def PY:=Z Vs
def LX:=
 (PY ((pc,z,(),([]:List ByteArray),(0:Int),()),((x,A,C,E,I,J,pa,F,()),()))).bind λy1=>L ((y1.1.1,()),())
def Ca:=
 cond (N (B<z)) (cond (V B pc.length) (let z0:=pc.getD B.toNat 0
 cond (N (z0<x)) (L (R (R ((Q,()),())))) (cond (N (A<z0)) (L (R (R ((Q,()),())))) (L (U ((x,A,pc,z,O.wrap (B+1),()),()))))) P) (L (R (U ((),()))))
def Ii:=Z Ca
def BP:=
 (Ii ((x,A,pc,(pc.length:Int),(0:Int),()),())).bind λy1=>match y1 with
 | .inl y2=>
 L ((aA,()),())
 | .inr y2=>
 L ((y2.1.1,()),())
def Ko:=
 letI a:=((Q,()),())
 W ((BP 1 10000 [x,A,C,pt,qa,z,B]).bind λy1=>cond y1.1.1 ((BP 0 10000 [E]).bind λy2=>cond y2.1.1 (cond (N (z≤B)) ((BP 0 (S O (pb-1)) [D]).bind λy3=>L ((y3.1.1,()),())) (L a)) (L a)) (L a)) λy4=>L ((y4.1.1,()),())
def Kn(p0 p1 p2 p3:Int)(p4 p5 p6:Nat)(p7:List Car):Option ((Bool×Unit)×Unit):=
 letI a:=(FloatKind.format FloatKind.f64).order
 letI b:=a p6 9218868437227405311
 letI c:=((Q,()),())
 W (cond (a 0 p4==L Ordering.lt) (cond (a p4 p5==L Ordering.lt) (cond (a p5 p6==L Ordering.lt) (L ((b==L Ordering.lt||b==L Ordering.eq,()),())) (L c)) (L c)) (L c)) λy1=>L ((y1.1.1,()),())
def EY:=
 letI a:=(0:Int)
 letI b:=((qm,qt,r7,r8,rj,rl,rm,qj,()),())
 cond (N (qc<qi)) (cond (V qc pg.length) (let z0:=pg.getD qc.toNat (aF a a a a a a a a a)
 W (cond pu ((Ko z0.I1 z0.G3 z0.J3 z0.I2 z0.O3 z0.L2 z0.K2 z0.Q3 z0.A4 qm).bind λy1=>L (((),y1.1.1,pg,qi,qc,()),b)) (L (((),Q,pg,qi,qc,()),b))) λy2=>L (U (((),y2.1.2.1,y2.1.2.2.1,y2.1.2.2.2.1,O.wrap (y2.1.2.2.2.2.1+1),()),(y2.2.1,())))) P) (L (R (((),pu,()),b)))
def IU:=Z EY
def AU:=
 letI b:=((x,A,C,E,I,J,pa,F,()),())
 letI d:=BP 1
 (BP 2 32 [x]).bind λy1=>cond (! y1.1.1) (L (((10:Int),()),())) ((d (8:Int) [(F.length:Int)]).bind λy2=>cond (! y2.1.1) (L (((11:Int),()),())) (W ((d (16:Int) [A]).bind λy3=>cond y3.1.1 ((d (10000:Int) [E]).bind λy4=>L (((),y4.1.1,()),b)) (L (((),Q,()),b))) λy5=>letI e:=y5.2.1.2.2.2.2.2.2.2.1
 (IU (((),y5.1.2.1,e,(e.length:Int),(0:Int),()),(y5.2.1,()))).bind λy6=>letI a:=y6.2.1.2.2
 letI c:=a.2.2
 letI f:=c.2
 cond (! y6.1.2.1) (L (((12:Int),()),())) ((Kn y6.2.1.1 y6.2.1.2.1 a.1 a.2.1 c.1 f.1 f.2.1 f.2.2.1).bind λy7=>cond (! y7.1.1) (L (((13:Int),()),())) ((BP (S O (S O (18*(f.2.2.1.length:Int))+24)) 65536 [a.1]).bind λy8=>cond (! y8.1.1) (L (((14:Int),()),())) (L (((0:Int),()),()))))))
def Jm:=
 letI a:=BP 1 (S O (x-1))
 letI b:=C==2
 W (cond (C==1) ((BP 0 (S O (x-2)) [A]).bind λy1=>cond y1.1.1 (L ((aA,()),())) (cond b ((a [A]).bind λy2=>L ((y2.1.1,()),())) (L ((Q,()),())))) (cond b ((a [A]).bind λy3=>L ((y3.1.1,()),())) (L ((Q,()),())))) λy4=>L ((y4.1.1,()),())
def FJ:=
 W ((AU x A C E I J pa F).bind λy1=>cond (y1.1.1==0) ((Jm x z B).bind λy2=>L ((y2.1.1,()),())) (L ((Q,()),()))) λy3=>L ((y3.1.1,()),())
def Ny(p12:Bool):=
 letI a:=((Q,()),())
 W ((FJ x A C E I J pa F z B).bind λy1=>cond y1.1.1 (cond (N ((- 2:Int)≤D)) (cond (N (D<(F.length:Int))) (cond (N (0≤pb)) (L ((N (pb≤255),()),())) (L a)) (L a)) (L a)) (L a)) λy2=>L ((y2.1.1,()),())
def Lz:=
 L ((x !=x,()),())
def Es:=
 letI a:=(((- 1:Int),()),())
 letI b:=(((0:Int),()),())
 letI c:=(((1:Int),()),())
 (Lz x).bind λy1=>(Lz A).bind λy2=>cond y1.1.1 (cond y2.1.1 (L b) (L a)) (cond y2.1.1 (L c) (cond (N (x<A)) (L a) (cond (N (A<x)) (L c) (L b))))
def JQ:=
 cond (N (B<z)) (cond (V B pc.length) (let z0:=pc.getD B.toNat 0
 cond (z0 !=x) (L (R (R ((z0,()),())))) (L (U ((x,pc,z,O.wrap (B+1),()),())))) P) (L (R (U ((x,()),()))))
def ML:=Z JQ
def LV:=
 (ML (((0:Int),pc,(pc.length:Int),(0:Int),()),())).bind λy1=>match y1 with
 | .inl y2=>
 L ((y2.1.1,()),())
 | .inr y2=>
 L ((y2.1.1,()),())
def It(p2:Int)(p3:Int)(p4:Bool)(p5:Int)(p6:Int)(p7:Int)(p8:Int)(p9:Bool):=
 (Es x p5).bind λy1=>(Es A p6).bind λy2=>(LV [y1.1.1,y2.1.1]).bind λy3=>L ((y3.1.1,()),())
def Fy:=
 letI a:=((D,pb,pf,po,pi,pj,pm,pg,()),(qn,qu,qv,qh,()),())
 letI b:=(0:Int)
 letI c:=aH b b b b Q
 cond (N (B<z)) (cond (V B pd.length) (let z0:=pd.getD B.toNat c
 W ((Ny D pb pf po pi pj pm pg z0.D0 z0.I0 z0.S0 z0.B1 z0.B2).bind λy1=>cond (! y1.1.1) (L (((),(),pd,z,B,aA,()),a)) (cond (N (b<B)) (let z1:Int:=O.wrap (B-1)
 cond (V z1 qh.length) (let z2:=qh.getD z1.toNat c
 (It z2.D0 z2.I0 z2.S0 z2.B1 z2.B2 z0.D0 z0.I0 z0.S0 z0.B1 z0.B2).bind λy2=>L (((),(),pd,z,B,decide (b≤y2.1.1),()),a)) P) (L (((),(),pd,z,B,Q,()),a)))) λy3=>letI d:=y3.1.2.2
 cond d.2.2.2.1 (L (R (R ((Q,()),())))) (L (U (((),(),d.1,d.2.1,O.wrap (d.2.2.1+1),()),(y3.2.1,y3.2.2.1,()))))) P) (L (R (U ((),()))))
def LM:=Z Fy
def GX:=
 letI a:=((D,pb,pf,po,pi,pj,pm,pg,()),(qn,qu,qv,qh,()),())
 cond (N (B<z)) (cond (V B pc.length) (let z0:=pc.getD B.toNat 0
 cond (N (z0<0)) (L (R (R ((Q,()),())))) (cond (N (4<z0)) (L (R (R ((Q,()),())))) (L (U (((),(),pc,z,O.wrap (B+1),()),a))))) P) (L (R (U (((),(),()),a))))
def LL:=Z GX
def Cn:=
 letI a:=((Q,()),())
 letI b:=(pc.length:Int)
 let z0:Int:=(F.length:Int)
 (AU x A C E I J pa F).bind λy1=>cond (y1.1.1 !=0) (L a) (cond (b !=z0) (L a) (cond ((ph.length:Int) !=z0) (L a) (cond ((pp.length:Int) !=z0) (L a) ((LL (((),(),pc,b,(0:Int),()),((x,A,C,E,I,J,pa,F,()),(pc,ph,pp,pd,()),()))).bind λy2=>match y2 with
 | .inl y3=>
 ((LM (((),(),y3.2.2.1.2.2.2.1,(y3.2.2.1.2.2.2.1.length:Int),(0:Int),()),(y3.2.1,y3.2.2.1,()))).bind λy4=>match y4 with
 | .inl y5=>
 L ((aA,()),())
 | .inr y5=>
 L ((y5.1.1,()),()))
 | .inr y3=>
 L ((y3.1.1,()),())))))
def MJ:=
 W ((Cn x A C E I J pa F pc ph pp pd).bind λy1=>cond y1.1.1 (L ((N (S O (S O (18*O.wrap ((F.length:Int)+(pd.length:Int)))+6)≤C),()),())) (L ((Q,()),()))) λy2=>L ((y2.1.1,()),())
def Fw:=
 letI a:=((Q,()),())
 W (cond (N (1≤x)) (cond (N (x≤65536)) (cond (N ((H.size:Int)≤x)) (cond (N ((pn.size:Int)≤x)) (cond (z==0) (L ((aA,()),())) (L ((z==1,()),()))) (L a)) (L a)) (L a)) (L a)) λy1=>L ((y1.1.1,()),())
def IR:=
 W (cond (N (x<0)) (L ((aA,()),())) (L ((N (1000000<x),()),()))) λy1=>L ((y1.1.1,()),())
def AO:=
 cond (N (B<z)) (cond (V B pc.length) ((IR (pc.getD B.toNat 0)).bind λy1=>cond y1.1.1 (L (R (R ((B,()),())))) (L (U ((pc,(),z,O.wrap (B+1),()),())))) P) (L (R (U ((),()))))
def Bt:=Z AO
def Cz:=
 (Bt ((pc,(),(pc.length:Int),(0:Int),()),())).bind λy1=>match y1 with
 | .inl y2=>
 L (((- 1:Int),()),())
 | .inr y2=>
 L ((y2.1.1,()),())
def Cj:=
 (Cz pc).bind λy1=>L ((N (0≤y1.1.1),()),())
def HV:=
 (Cj pc).bind λy1=>L ((! y1.1.1,()),())
def BD:=
 cond (N (r5<36)) (cond (V r5 36) (let z0:Int:=aQ [A,C,E,pt,qa,z,B,D,pb,pf,po,pw,qk,rq,se,s4,s5,ta,tb,td,te,tf,tg,th,ti,tj,tk,tm,tp,tq,tr,ts,tt,tu,tv,tw] r5.toNat (0:Int)
 cond (N (z0<0)) (L (R (R ((Q,()),())))) (cond (N (x≤z0)) (L (R (R ((Q,()),())))) (L (U ((x,(A,C,E,pt,qa,z,B,D,pb,pf,po,pw,qk,rq,se,s4,s5,ta,tb,td,te,tf,tg,th,ti,tj,tk,tm,tp,tq,tr,ts,tt,tu,tv,tw,()),O.wrap (r5+1),()),()))))) P) (L (R (U ((),()))))
def EF:=Z BD
def Et(p0:Int)(p1:Bool)(p2:Bool)(p3:Bool)(p4:Bool)(p5:Int)(p6:Int)(p7:Int)(p8:Int)(p9:Int)(p10:Int)(p11:Int)(p12:Int)(p13:Int)(p14:Int)(p15:Int)(p16:Int)(p17:Int)(p18:Int)(p19:Int)(p20:Int)(p21:Int)(p22:Int)(p23:Int)(p24:Int)(p25:Int)(p26:Int)(p27:Int)(p28:Int)(p29:Int)(p30:Int)(p31:Int)(p32:Int)(p33:Int)(p34:Int)(p35:Int)(p36:Int)(p37:Int)(p38:Int)(p39:Int)(p40:Int):=
 cond (N (x<1)) (L ((Q,()),())) (cond (N (16<x)) (L ((Q,()),())) ((EF ((x,(p5,p6,p7,p8,p9,p10,p11,p12,p13,p14,p15,p16,p17,p18,p19,p20,p21,p22,p23,p24,p25,p26,p27,p28,p29,p30,p31,p32,p33,p34,p35,p36,p37,p38,p39,p40,()),(0:Int),()),())).bind λy1=>match y1 with
 | .inl y2=>
 L ((aA,()),())
 | .inr y2=>
 L ((y2.1.1,()),())))
def Gk(_ p0:Int)(p1 p2 p3 p4:Bool)(p5 p6 p7 p8 p9 p10 p11 p12 p13 p14 p15 p16 p17 p18 p19 p20 p21 p22 p23 p24 p25 p26 p27 p28 p29 p30 p31 p32 p33 p34 p35 p36 p37 p38 p39 p40 p41 p42 p43 p44:Int)(p45 p46 p47:Nat)(p48:List Car):Option ((Bool×Unit)×(T'0×Unit)):=
 (Et p42 p0 p1 p2 p3 p4 p5 p6 p7 p8 p9 p10 p11 p12 p13 p14 p15 p16 p17 p18 p19 p20 p21 p22 p23 p24 p25 p26 p27 p28 p29 p30 p31 p32 p33 p34 p35 p36 p37 p38 p39 p40).bind λy1=>L ((y1.1.1,()),((p41,p42,p43,p44,p45,p46,p47,p48,()),()))
def Aw:=
 letI a:=(0:Int)
 cond (N (D<B)) (cond (V D qb.length) (let z0:=qb.getD D.toNat (Debounced.mk a Q Q Q Q a a a a a a a a a a a a a a a a a a a a a a a a a a a a a a a a a a a a)
 (Gk D z0.V0 z0.T1 z0.F1 z0.G1 z0.C1 z0.E5 z0.F5 z0.G5 z0.H5 z0.I5 z0.K5 z0.L5 z0.M5 z0.N5 z0.O5 z0.B4 z0.C4 z0.D4 z0.E4 z0.F4 z0.G4 z0.H4 z0.I4 z0.J4 z0.K4 z0.L4 z0.M4 z0.N4 z0.O4 z0.P4 z0.Q4 z0.R4 z0.S4 z0.T4 z0.U4 z0.V4 z0.W4 z0.X4 z0.Y4 z0.Z4 z0.A5 pb pf po pw pi pj pm pg).bind λy1=>cond (! y1.1.1) (L (R (R ((Q,()),(y1.2.1,()))))) (L (U (((),qb,B,O.wrap (D+1),()),(y1.2.1,()))))) P) (L (R (U ((),((pb,pf,po,pw,pi,pj,pm,pg,()),())))))
def Bb:=Z Aw
def Bd:=
 letI a:=((D,pb,pf,po,pi,pj,pm,pg,()),())
 letI b:=(qb.length:Int)
 cond (b !=B) (L ((Q,()),a)) ((Bb (((),qb,b,(0:Int),()),a)).bind λy1=>match y1 with
 | .inl y2=>
 L ((aA,()),(y2.2.1,()))
 | .inr y2=>
 L ((y2.1.1,()),(y2.2.1,())))
def Dz:=
 W (cond (N (A≤x)) (L ((N (x≤C),()),())) (L ((Q,()),()))) λy1=>L ((y1.1.1,()),())
def Da(p2:Int)(p3:Int)(p4:Int)(p5:Int):=
 (Es x p3).bind λy1=>(Es A p4).bind λy2=>(LV [y1.1.1,y2.1.1]).bind λy3=>L ((y3.1.1,()),())
def EX:=
 letI a:=((tx,ty,tz,t0,t4,t7,t8,r6,()),(ur,us,ut,sf,uu,qz,()),())
 letI b:=(0:Int)
 letI c:=((x,(),(),ql,qy,qs,aA,()),a)
 letI e:=Duty.mk b b b
 cond (N (qs<qy)) (cond (V qs ql.length) (let z0:=ql.getD qs.toNat e
 W ((FJ tx ty tz t0 t4 t7 t8 r6 z0.D0 z0.I0).bind λy1=>cond (! y1.1.1) (L c) (cond (V x r6.length) ((Dz z0.C5 b (r6.getD x.toNat (aF b b b b b b b b b)).I1).bind λy2=>cond (! y2.1.1) (L c) (cond (N (b<qs)) (let z1:Int:=O.wrap (qs-1)
 cond (V z1 sf.length) (let z2:=sf.getD z1.toNat e
 (Da z2.D0 z2.I0 z2.C5 z0.D0 z0.I0 z0.C5).bind λy3=>L ((x,(),(),ql,qy,qs,decide (b≤y3.1.1),()),a)) P) (L ((x,(),(),ql,qy,qs,Q,()),a)))) P)) λy4=>letI d:=y4.1.2.2.2
 cond d.2.2.2.1 (L (R (R ((Q,()),())))) (L (U ((y4.1.1,(),(),d.1,d.2.1,O.wrap (d.2.2.1+1),()),(y4.2.1,y4.2.2.1,()))))) P) (L (R (U ((),()))))
def IT:=Z EX
def Co:=
 letI a:=((x,A,C,E,I,J,pa,F,()),(B,D,pb,ql,qy,qz,()),())
 letI b:=((z,(),(),aA,()),a)
 letI c:=(0:Int)
 W ((AU x A C E I J pa F).bind λy1=>cond (y1.1.1 !=c) (L b) ((Dz z c (S O ((F.length:Int)-1))).bind λy2=>cond (! y2.1.1) (L b) ((Dz B (- 1:Int) (S O (x-1))).bind λy3=>cond (! y3.1.1) (L b) ((Dz D c 3).bind λy4=>cond (! y4.1.1) (L b) ((Dz pb c 3).bind λy5=>cond (! y5.1.1) (L b) ((Dz qy c 1000000).bind λy6=>cond (! y6.1.1) (L b) (cond qz (L ((z,(),(),decide (c<(ql.length:Int)),()),a)) (L ((z,(),(),Q,()),a))))))))) λy7=>cond y7.1.2.2.2.1 (L ((Q,()),())) ((IT ((y7.1.1,(),(),y7.2.2.1.2.2.2.1,(y7.2.2.1.2.2.2.1.length:Int),c,()),(y7.2.1,y7.2.2.1,()))).bind λy8=>match y8 with
 | .inl y9=>
 L ((aA,()),())
 | .inr y9=>
 L ((y9.1.1,()),()))
def Gl:=
 (Co t9 ua ub uc ud ue uf ug x A C E ql qy qz).bind λy1=>L ((y1.1.1,()),((t9,ua,ub,uc,ud,ue,uf,ug,()),()))
def AD:=
 letI a:=(0:Int)
 cond (N (D<B)) (cond (V D py.length) (let z0:=py.getD D.toNat (Belief.mk a a a [] a Q)
 (Gl D z0.D0 z0.I0 z0.E3 z0.U0 z0.V2 z0.N3 pb pf po pw pi pj pm pg).bind λy1=>cond (! y1.1.1) (L (R (R ((Q,()),(y1.2.1,()))))) (L (U (((),py,B,O.wrap (D+1),()),(y1.2.1,()))))) P) (L (R (U ((),((pb,pf,po,pw,pi,pj,pm,pg,()),())))))
def Bg:=Z AD
def Bk:=
 letI a:=((D,pb,pf,po,pi,pj,pm,pg,()),())
 letI b:=(py.length:Int)
 cond (b !=B) (L ((Q,()),a)) ((Bg (((),py,b,(0:Int),()),a)).bind λy1=>match y1 with
 | .inl y2=>
 L ((aA,()),(y2.2.1,()))
 | .inr y2=>
 L ((y2.1.1,()),(y2.2.1,())))
def Fm:=
 letI a:=((Q,()),())
 W (cond (N (0≤x)) (cond (N (x≤2)) (cond (N (0≤A)) (L ((N (A≤7),()),())) (L a)) (L a)) (L a)) λy1=>L ((y1.1.1,()),())
def HH:=
 W (cond (N (0≤x)) (L ((N (x≤1000000),()),())) (L ((Q,()),()))) λy1=>L ((y1.1.1,()),())
def Gi:=
 letI a:=(0:Int)
 letI b:=((Q,()),())
 cond (x==a) (L (((x==a)&&((A==a)&&((C==a)&&((pu==Q)&&((px==a)&&aA)))),()),())) (W (cond (N (a≤x)) (cond (N (x≤3)) ((HH A).bind λy1=>cond y1.1.1 ((HH C).bind λy2=>cond y2.1.1 ((HH px).bind λy3=>L ((y3.1.1,()),())) (L b)) (L b)) (L b)) (L b)) λy4=>L ((y4.1.1,()),()))
def Fu:=
 letI a:=(0:Int)
 W (cond (C !=1) (L ((x,A,C,C !=2,()),())) (L ((x,A,C,Q,()),()))) λy1=>cond y1.1.2.2.2.1 (L ((a,Q,()),())) (cond (V y1.1.2.2.1 3) (let z0:Int:=O.wrap (y1.1.2.1+aQ [a,(1:Int),(- 1:Int)] y1.1.2.2.1.toNat a)
 W (cond (N (a≤z0)) (L ((z0,decide (z0<y1.1.1),()),())) (L ((z0,Q,()),()))) λy2=>L ((y2.1.1,y2.1.2.1,()),())) P)
def Gj:=
 letI a:=((Q,()),())
 letI b:=(0:Int)
 cond (N (x<2)) (L a) (cond (N (32<x)) (L a) (cond (N (C<b)) (L a) (cond (N (1000000<C)) (L a) (cond (N (E<b)) (L a) (cond (N (x≤E)) (L a) (cond (A==b) (L ((E==b,()),())) ((Fu x E A).bind λy1=>L ((y1.1.2.1,()),()))))))))
def DU:=
 letI a:=(0:Int)
 letI b:=((x,A,C,E,I,J,pa,F,()),(z,B,D,pb,pf,pu,px,q1,q2,q3,q4,uh,ui,qg,()),())
 letI g:=((Q,()),())
 W ((AU x A C E I J pa F).bind λy1=>cond (y1.1.1 !=a) (L (((),(),aA,()),b)) (cond qg (L (((),(),! ((z==a)&&((B==a)&&((D==a)&&((pb==a)&&((pf==a)&&((pu==Q)&&((px==a)&&((q1==a)&&((q2==a)&&((q3==a)&&((q4==a)&&((uh==a)&&((ui==a)&&((qg==aA)&&aA)))))))))))))),()),b)) (L (((),(),Q,()),b)))) λy2=>letI k:=y2.2.2.1
 letI m:=k.2
 letI c:=m.2.2
 letI e:=(y2.2.1,k,())
 letI f:=c.2.2
 letI h:=(((),(),aA,()),e)
 letI j:=f.2
 letI l:=j.2
 letI n:=l.2
 cond y2.1.2.2.1 (L g) (W ((Fm k.1 m.1).bind λy3=>cond (! y3.1.1) (L h) ((Gi m.2.1 c.1 c.2.1 f.1 j.1).bind λy4=>cond (! y4.1.1) (L h) ((Gj y2.2.1.1 l.1 n.1 n.2.1).bind λy5=>cond (! y5.1.1) (L h) (cond (! ((m.2.1==a)&&((c.1==a)&&((c.2.1==a)&&((f.1==Q)&&((j.1==a)&&aA)))))) (L (((),(),! ((l.1==a)&&((n.1==a)&&((n.2.1==a)&&aA))),()),e)) (L (((),(),Q,()),e)))))) λy6=>letI d:=y6.2.2.1.2.2.2.2.2.2.2.2.2.2
 letI o:=d.2
 cond y6.1.2.2.1 (L g) (W (cond (N (a≤y6.2.1.1)) (cond (aI d.1 ((2:Int)^aD y6.2.1.1.toNat (IntKind.bits Y))==a) (cond (N (a≤o.1)) (cond (N (o.1≤2)) (cond (N (a≤o.2.1)) (L ((N (o.2.1≤1000000),()),())) (L g)) (L g)) (L g)) (L g)) P) λy7=>L ((y7.1.1,()),())))
def Gm(_ p0 p1 p2 p3 p4:Int)(p5:Bool)(p6 p7 p8 p9 p10 p11 p12:Int)(p13:Bool)(p14 p15 p16 p17:Int)(p18 p19 p20:Nat)(p21:List Car):Option ((Bool×Unit)×(T'0×Unit)):=
 (DU p14 p15 p16 p17 p18 p19 p20 p21 p0 p1 p2 p3 p4 p5 p6 p7 p8 p9 p10 p11 p12 p13).bind λy1=>L ((y1.1.1,()),((p14,p15,p16,p17,p18,p19,p20,p21,()),()))
def AE:=
 letI a:=(0:Int)
 cond (N (D<B)) (cond (V D qe.length) (let z0:=qe.getD D.toNat (NewCar.mk a a a a a Q a a a a a a a Q)
 (Gm D z0.V1 z0.E1 z0.Y0 z0.N1 z0.H1 z0.K1 z0.D1 z0.T0 z0.X0 z0.Q0 z0.Y1 z0.X2 z0.I3 z0.Z2 pb pf po pw pi pj pm pg).bind λy1=>cond (! y1.1.1) (L (R (R ((Q,()),(y1.2.1,()))))) (L (U (((),qe,B,O.wrap (D+1),()),(y1.2.1,()))))) P) (L (R (U ((),((pb,pf,po,pw,pi,pj,pm,pg,()),())))))
def Bh:=Z AE
def Bl:=
 letI a:=((D,pb,pf,po,pi,pj,pm,pg,()),())
 letI b:=(qe.length:Int)
 cond (b !=B) (L ((Q,()),a)) ((Bh (((),qe,b,(0:Int),()),a)).bind λy1=>match y1 with
 | .inl y2=>
 L ((aA,()),(y2.2.1,()))
 | .inr y2=>
 L ((y2.1.1,()),(y2.2.1,())))
def JM(_ p0:Int):Option ((Bool×Unit)×Unit):=
 W (cond (N (0≤p0)) (L ((N (p0≤4),()),())) (L ((Q,()),()))) λy1=>L ((y1.1.1,()),())
def AQ:=
 cond (N (D<B)) (cond (V D qf.length) ((JM D (qf.getD D.toNat (Loaded.mk 0)).T5).bind λy1=>cond (! y1.1.1) (L (R (R ((Q,()),())))) (L (U (((),qf,B,O.wrap (D+1),()),())))) P) (L (R (U ((),()))))
def Bw:=Z AQ
def BH:=
 letI a:=(qf.length:Int)
 cond (a !=B) (L ((Q,()),())) ((Bw (((),qf,a,(0:Int),()),())).bind λy1=>match y1 with
 | .inl y2=>
 L ((aA,()),())
 | .inr y2=>
 L ((y2.1.1,()),()))
def Gf:=
 letI a:=((Q,()),())
 let z0:Int:=(F.length:Int)
 (MJ x A C E I J pa F pc ph pp pd).bind λy1=>cond (! y1.1.1) (L a) ((Fw C H pn z).bind λy2=>cond (! y2.1.1) (L a) (cond ((qq.length:Int) !=(pd.length:Int)) (L a) ((HV qq).bind λy3=>cond (! y3.1.1) (L a) ((HV [B,D,pb]).bind λy4=>cond (! y4.1.1) (L a) ((Bd qb z0 x A C E I J pa F).bind λy5=>letI b:=y5.2.1.2.2
 letI d:=b.2
 letI f:=d.2
 (Bk py z0 y5.2.1.1 y5.2.1.2.1 b.1 d.1 f.1 f.2.1 f.2.2.1 f.2.2.2.1).bind λy6=>letI c:=y6.2.1.2.2
 letI e:=c.2
 letI g:=e.2
 (Bl qe z0 y6.2.1.1 y6.2.1.2.1 c.1 e.1 g.1 g.2.1 g.2.2.1 g.2.2.2.1).bind λy7=>(BH qf z0).bind λy8=>W (cond y5.1.1 (cond y6.1.1 (cond y7.1.1 (cond y8.1.1 (L (((q8.length:Int)==z0,()),())) (L a)) (L a)) (L a)) (L a)) λy9=>L ((y9.1.1,()),()))))))
def BI:=
 PD pc
def Bf:=
 PD ph
def Bp:=
 PD pd
def CD:=
 PD qb
def Di:=
 PD qe
def Dh:=
 PD qf
def GC:=
 PD q8
def Dg:=
 PD py
def Eg:=
 PD ql
def Pm:=
 letI a:=((r3,q5,q6,q7,qd,qo,pf,r4,rp,r9,sa,sb,sc,po,pw,qk,()),())
 letI b:=(0:Int)
 letI c:=(qe,qf,qq,q8,B,D,pb,())
 letI d:=V A py.length
 letI e:=Belief.mk b b b
 cond (N (A<x)) (cond d ((Eg (py.getD A.toNat (e [] b Q)).U0).bind λy1=>cond d (let z0:Nat:=A.toNat
 let z1:=py.getD z0 (e [] b Q)
 L (U (((),(),x,O.wrap (A+1),()),((pc,ph,pp,pd,H,pn,z,qb,py.set z0 (Belief.mk z1.D0 z1.I0 z1.E3 y1.1.1 z1.V2 z1.N3),c),a)))) P) P) (L (R (((),(),()),((pc,ph,pp,pd,H,pn,z,qb,py,c),a))))
def IW:=Z Pm
def Nz:=
 letI a:=(0:Int)
 (BI pc).bind λy1=>(Bf ph).bind λy2=>(Bf pp).bind λy3=>(Bp pd).bind λy4=>(CD qb).bind λy5=>(Di qe).bind λy6=>(Dh qf).bind λy7=>(BI qq).bind λy8=>(GC q8).bind λy9=>(Dg py).bind λy10=>(IW (((),(),(y10.1.1.length:Int),a,()),((y1.1.1,y2.1.1,y3.1.1,y4.1.1,H,pn,z,y5.1.1,y10.1.1,y6.1.1,y7.1.1,y8.1.1,y9.1.1,B,D,pb,()),(([]:List Int),([]:List Bool),([]:List Bool),([]:List aC),p (i []),p (i []),a,([]:List aP),([]:List Belief),([]:List NewCar),([]:List Loaded),([]:List Int),([]:List Calls),a,a,a,()),()))).bind λy11=>L (((),()),(y11.2.1,()))
def OH:=
 letI a:=O.wrap (19*(F.length:Int))
 (AU x A C E I J pa F).bind λy1=>cond (y1.1.1 !=0) (L (((0:Int),(0:Int),()),())) (L ((S O (14+a),O.wrap (23+a),()),()))
def Ix:=
 letI a:=IntKind.bits aJ
 cond (N (pb<8)) (let z0:Int:=aJ.wrap (z*((2:Int)^aD (aG (1:Int)) a))
 let z1:Int:=aJ.wrap (aI z ((2:Int)^aD (aG (15:Int)) a)*4129)
 L (U ((H,aJ.wrap (stk z0 z1 (X a z0^^^X a z1).toNat),B,D,O.wrap (pb+1),()),()))) (L (R ((H,z,B,D,()),())))
def NI:=Z Ix
def Iw:=
 letI a:=IntKind.bits aJ
 cond (N (D<B)) (cond (V D H.size) (let z0:Int:=aJ.wrap (S aJ (AF H D.toNat)*((2:Int)^aD (aG (8:Int)) a))
 (NI ((H,aJ.wrap (stk z z0 (X a z^^^X a z0).toNat),B,D,(0:Int),()),())).bind λy1=>L (U ((y1.1.1,y1.1.2.1,y1.1.2.2.1,O.wrap (y1.1.2.2.2.1+1),()),()))) P) (L (R ((z,()),())))
def NH:=Z Iw
def QA:=
 (NH ((H,(65535:Int),(H.size:Int),(0:Int),()),())).bind λy1=>L ((y1.1.1,()),())
def Sd:=
 (QA H).bind λy1=>let z0:ByteArray:=Hg [aB.wrap (aI y1.1.1 ((2:Int)^aD (aG (8:Int)) (IntKind.bits aJ))),aB.wrap y1.1.1]
 cond ((H.size+z0.size).ble 4611686018427387904) (L ((H++z0,()),())) P
def Sc:=
 let z0:Int:=O.wrap ((H.size:Int)-2)
 letI a:=decide (0≤z0)&&decide (z0≤(H.size:Int))
 letI b:=aO H 0 z0.toNat
 cond (N (z0<0)) (L ((p (i []),(4:Int),()),())) (cond a ((Sd b).bind λy1=>cond (! eqB y1.1.1 H) (L ((p (i []),(5:Int),()),())) (cond a (L ((b,(0:Int),()),())) P)) P)
def OI:=
 letI a:=(0:Int)
 letI b:=(((),(30:Int),()),())
 letI c:=H.size
 (AU x A C E I J pa F).bind λy1=>cond (y1.1.1 !=a) (L (U (((),(1:Int),()),()))) (cond (((c:Nat):Int) !=z) (L (U (((),(4:Int),()),()))) (cond (V a c) (cond (AF H a.toNat !=B) (L (U b)) (cond (V 1 c) (cond (S O (AF H (aG (1:Int))) !=(F.length:Int)) (L (U b)) ((Sc H).bind λy2=>letI d:=y2.1.1.size
 cond (y2.1.2.1 !=a) (L (U (((),y2.1.2.1,()),()))) (cond (N (2≤((d:Nat):Int))) (L (R (((),a,()),((aO y2.1.1 2 d,x,A,C,E,I,J,pa,F,()),())))) P))) P)) P))
def GP:=
 letI a:=IntKind.bits y
 letI b:=((H,z,B,D,pb,pi,pj,pm,pg,()),())
 cond (N (E<C)) (cond (V E H.size) (let z0:Int:=O.wrap (8*E)
 cond (N (0≤z0)) (let z1:Int:=y.wrap (S y (AF H E.toNat)*((2:Int)^aD z0.toNat a))
 L (U (((),x,y.wrap (stk A z1 (X a A|||BitVec.ofInt a z1).toNat),C,O.wrap (E+1),()),b))) P) P) (L (R (((),x,A,()),b)))
def CY:=Z GP
def BG:=
 (CY (((),x,(0:Int),x,(0:Int),()),((H,z,B,D,pb,pi,pj,pm,pg,()),()))).bind λy1=>letI b:=y1.2.1
 letI a:=b.2.2.2
 letI c:=a.2
 letI d:=b.1.size
 letI e:=c.2
 cond (N (0≤y1.1.2.1)&&decide (y1.1.2.1≤((d:Nat):Int))) (L ((y1.1.2.2.1,()),((aO b.1 y1.1.2.1.toNat d,b.2.1,b.2.2.1,a.1,c.1,e.1,e.2.1,e.2.2.1,e.2.2.2.1,()),()))) P
def Fl:=
 letI a:=(0:Int)
 letI b:=(1:Int)
 letI c:=IntKind.bits Y
 (AU x A C E I J pa F).bind λy1=>cond (y1.1.1 !=a) (L (((),()),((a,a,()),()))) (let z0:Int:=O.wrap (x-b)
 cond (N (a≤z0)) (let z1:Int:=Y.wrap (S Y (b*((2:Int)^aD z0.toNat c))-b)
 L (((),()),((z1,Y.wrap (z1*((2:Int)^aD b.toNat c)),()),()))) P)
def LB:=
 letI a:=IntKind.bits Y
 (Fl x A C E I J pa F).bind λy1=>W (cond (S Y (stk z y1.2.1.1 (X a z&&&(~~~ X a y1.2.1.1)).toNat)==0) (L ((S Y (stk B y1.2.1.2.1 (X a B&&&(~~~ X a y1.2.1.2.1)).toNat)==0,()),())) (L ((Q,()),()))) λy2=>L ((y2.1.1,()),())
def GL:=
 cond (! pu) P (L ((),()))
def EA:=
 (BG 4 H z B D pb pi pj pm pg).bind λy1=>letI a:=y1.2.1.2.2.2
 letI c:=a.2
 letI e:=c.2
 let z0:Int:=Y.wrap y1.1.1
 (BG 4 y1.2.1.1 y1.2.1.2.1 y1.2.1.2.2.1 a.1 c.1 e.1 e.2.1 e.2.2.1 e.2.2.2.1).bind λy2=>letI b:=y2.2.1.2.2.2
 letI d:=b.2
 letI f:=d.2
 let z1:Int:=Y.wrap y2.1.1
 (LB y2.2.1.2.1 y2.2.1.2.2.1 b.1 d.1 f.1 f.2.1 f.2.2.1 f.2.2.2.1 z0 z1).bind λy3=>(GL y3.1.1).bind λy4=>L (((),()),((z0,z1,()),y2.2.1,()))
def Br:=
 (BG 1 H z B D pb pi pj pm pg).bind λy1=>let z0:Int:=O.wrap y1.1.1
 (GL (N (z0≤x))).bind λy2=>L ((z0,()),(y1.2.1,()))
def Df:=
 (BG 4 H z B D pb pi pj pm pg).bind λy1=>let z0:Int:=Y.wrap y1.1.1
 cond (N (0≤y1.2.1.2.1)) ((GL (aI z0 ((2:Int)^aD y1.2.1.2.1.toNat (IntKind.bits Y))==0)).bind λy2=>L ((z0,()),(y1.2.1,()))) P
def Cf:=
 letI a:=IntKind.bits O
 letI b:=((qd,pf,po,pw,qk,pi,pj,pm,pg,()),())
 letI c:=(1:Int)
 cond (N (B<z)) (cond (N (0≤B)) (let z0:Int:=aI x ((2:Int)^aD B.toNat a)
 cond (V B ph.length) (L (U ((x,ph.set B.toNat (S O (stk z0 c (X a z0&&&X a c).toNat)==c),z,O.wrap (B+c),()),b))) P) P) (L (R ((ph,()),b)))
def FT:=Z Cf
def EB:=
 letI a:=decide (0≤x)
 cond a ((Br (S O (S O (1*((2:Int)^aD x.toNat (IntKind.bits O)))-1)) H z B D pb pi pj pm pg).bind λy1=>cond ((a&&decide (x≤x))&&decide (x≤2147483648)) (let z0:List (Bool):=aM x.toNat Q
 (FT ((y1.1.1,z0,(z0.length:Int),(0:Int),()),(y1.2.1,()))).bind λy2=>L ((y2.1.1,()),(y2.2.1,()))) P) P
def BX:=
 letI l:=(1:Int)
 cond (N (A<x)) ((Df qp qx q9 ra rb rc rd rf rg).bind λy1=>letI c:=y1.2.1.2.2.2
 letI k:=c.2
 letI r:=k.2
 (EB 6 y1.2.1.1 y1.2.1.2.1 y1.2.1.2.2.1 c.1 k.1 r.1 r.2.1 r.2.2.1 r.2.2.2.1).bind λy2=>letI j:=y2.1.1
 letI a:=j.length
 letI b:=y2.2.1.2
 letI h:=b.2.2
 letI m:=h.2
 letI s:=m.2
 cond (V 0 a) (cond (V l a) (cond (V 2 a) (cond (V 3 a) (cond (V 4 a) (cond (V 5 a) ((Br (S O (b.1-l)) y2.2.1.1 b.1 b.2.1 h.1 m.1 s.1 s.2.1 s.2.2.1 s.2.2.2.1).bind λy3=>letI d:=y3.2.1.2.2.2
 letI n:=d.2
 letI u:=n.2
 (Br 2 y3.2.1.1 y3.2.1.2.1 y3.2.1.2.2.1 d.1 n.1 u.1 u.2.1 u.2.2.1 u.2.2.2.1).bind λy4=>letI f:=y4.2.1.2.2.2
 letI o:=f.2
 letI v:=o.2
 (Df y4.2.1.1 y4.2.1.2.1 y4.2.1.2.2.1 f.1 o.1 v.1 v.2.1 v.2.2.1 v.2.2.2.1).bind λy5=>letI g:=y5.2.1.2.2.2
 letI q:=g.2
 letI w:=q.2
 (BG 8 y5.2.1.1 y5.2.1.2.1 y5.2.1.2.2.1 g.1 q.1 w.1 w.2.1 w.2.2.1 w.2.2.2.1).bind λy6=>let z0:List (aE):=[aK y1.1.1 (j.getD (aG (0:Int)) Q) (j.getD l.toNat Q) (j.getD (aG (2:Int)) Q) (j.getD (aG (3:Int)) Q) y3.1.1 (j.getD (aG (4:Int)) Q) y4.1.1 (j.getD (aG (5:Int)) Q) y5.1.1 y6.1.1.toNat]
 cond ((pr.length+z0.length).ble 2147483648) (L (U (((),(),(),x,O.wrap (A+l),()),((C,E,pt,qa,pr++z0,()),(qw,()),y6.2.1,())))) P) P) P) P) P) P) P) (L (R (((),(),()),((C,E,pt,qa,pr,()),(qw,()),(qp,qx,q9,ra,rb,rc,rd,rf,rg,()),()))))
def DE:=Z BX
def Ed:=
 letI c:=(0:Int)
 letI f:=(c,())
 letI k:=((),(),())
 (EA H z B D pb pi pj pm pg).bind λy1=>letI g:=y1.2
 letI a:=g.2.1.2.2
 letI d:=a.2.2
 letI h:=d.2
 letI l:=g.1
 (Br 8 g.2.1.1 g.2.1.2.1 a.1 a.2.1 d.1 h.1 h.2.1 h.2.2.1 h.2.2.2.1).bind λy2=>letI b:=y2.2.1.2.2.2
 letI e:=b.2.2
 letI j:=e.2
 (Br (S O ((j.2.2.1.length:Int)-1)) y2.2.1.1 y2.2.1.2.1 y2.2.1.2.2.1 b.1 b.2.1 e.1 j.1 j.2.1 j.2.2.1).bind λy3=>W (cond (y2.1.1 !=c) ((GL aA).bind λy4=>L (((),k),((l.1,l.2.1,y2.1.1,y3.1.1,([]:List aE),()),f,y3.2.1,()))) ((GL (y3.1.1==c)).bind λy5=>L (((),k),((l.1,l.2.1,y2.1.1,y3.1.1,([]:List aE),()),f,y3.2.1,())))) λy6=>(DE (((),(),(),(y6.2.2.2.1.2.2.2.2.2.2.2.2.1.length:Int),f),(y6.2.1,(y6.2.2.1.1,()),y6.2.2.2.1,()))).bind λy7=>L (k,(y7.2.1,f,y7.2.2.2.1,()))
def Ec:=
 letI a:=(0:Int)
 letI d:=List aE
 (OH x A C E I J pa F).bind λy1=>(OI x A C E I J pa F H y1.1.1 165).bind λy2=>match y2 with
 | .inl y3=>
 cond (y3.1.2.1 !=a) (L (((),y3.1.2.1,()),((a,a,a,a,([]:d),()),()))) P
 | .inr y3=>
 letI b:=y3.2.1.2.2.2
 letI c:=b.2
 letI e:=c.2
 cond (y3.1.2.1 !=a) (L (((),y3.1.2.1,()),((a,a,a,a,([]:d),()),()))) ((Ed y3.2.1.1 y3.2.1.2.1 y3.2.1.2.2.1 b.1 c.1 e.1 e.2.1 e.2.2.1 e.2.2.2.1).bind λy4=>cond (y4.2.2.1.1 !=a) (L (((),y4.2.2.1.1,()),((a,a,a,a,([]:d),()),()))) (L (((),a,()),(y4.2.1,()))))
def HJ:=
 let z0:Int:=O.wrap (x+1)
 L ((cond (N (1000000<z0)) (1000000:Int) z0,()),())
def KU:=
 letI a:=IntKind.bits Y
 letI b:=decide (0≤pz)
 cond (pz==32) (L ((pu,()),())) (cond (pz==33) (L ((qg,()),())) (cond (pz==34) (L ((qz,()),())) (cond (pz==35) (L ((sg,()),())) (W (cond b (cond (N (pz<32)) (cond b (let z0:Int:=aI x ((2:Int)^aD pz.toNat a)
 L ((S Y (stk z0 1 (X a z0&&&X a 1).toNat)==1,()),())) P) (L ((Q,()),()))) (L ((Q,()),()))) λy1=>L ((y1.1.1,()),())))))
def Nv:=
 letI a:=IntKind.bits Y
 letI h:=(qz,sg,())
 letI d:=((x,pu,qg,h),((0:Int),Q,Q,Q,Q,()),())
 letI e:=((),())
 cond (pz==32) (L (e,((x,ri,qg,h),()))) (cond (pz==33) (L (e,((x,pu,ri,h),()))) (cond (pz==34) (L (e,((x,pu,qg,ri,sg,()),()))) (cond (pz==35) (L (e,((x,pu,qg,qz,ri,()),()))) (W (cond (N (0≤pz)) (L ((pz,ri,(),(),decide (pz<32),()),d)) (L ((pz,ri,(),(),Q,()),d))) λy1=>letI b:=Y.wrap (1*((2:Int)^aD y1.1.1.toNat a))
 letI f:=y1.2.1
 letI j:=f.2
 letI c:=(j.1,j.2.1,j.2.2.1,j.2.2.2.1,())
 letI g:=decide (0≤y1.1.1)
 cond y1.1.2.2.2.2.1 (cond g (let z0:Int:=b
 let z1:Int:=Y.wrap (stk f.1 z0 (X a f.1&&&(~~~ X a z0)).toNat)
 cond y1.1.2.1 (cond g (let z2:Int:=b
 L (e,((S Y (stk z1 z2 (X a z1|||BitVec.ofInt a z2).toNat),c),()))) P) (L (e,((z1,c),())))) P) (L (e,(f,())))))))
end
end Go.Ovl
