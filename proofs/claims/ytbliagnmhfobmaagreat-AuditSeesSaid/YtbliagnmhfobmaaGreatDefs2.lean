/- What each function of the program comes to: part 2. -/
import Derived.Test.YtbliagnmhfobmaaGreatDefs1
namespace Go.Ovl
open Go Go.Ab
set_option maxRecDepth 100000
noncomputable def nhg' (i p0 p1 p2 p3:Int) (p4 p5 p6:Nat) (p7:List Car) (p8:List Int) (p9 p10:List Bool) (p11:List Entry) (p12 p13:ByteArray) (p14:Int) (p15:List Debounced) (p16:List Belief) (p17:List NewCar) (p18:List Loaded) (p19:List Int) (p20:List Calls) (p21 p22 p23 p24 p25 p26 p27:Int) (p28:List CarInput) (p29:Bool) (p30:List Calls) (p31 p32:List Int) (p33 t_e p34 p35 p36 p37:Int) (p38 p39:Bool) (p40:Int) (p41:List CarOutput):Option (Sum ((Unit×Int×Unit)×(T'65×Unit)) (Unit×(T'65×Unit))):=
 letI b:=(0:Int)
 letI e:=(p19,p20,p21,p22,p23,p24,p25,p26,p27,p28,p29,p30,p31,p32,p33,t_e,p34,p35,p36,p37,p38,p39,p40,p41,())
 letI l:=(Int.toNat i)
 letI g:=(List.getD p28 l (CarInput.mk b false false false false b false b false b 0))
 letI q:=(inB i (List.length p15))
 letI r:=(inB i (List.length p28))
 letI s:=(inB i (List.length p18))
 bif (decide (i < ((List.length p7:Nat):Int))) then bif q then let z0:Debounced:=(List.getD p15 l (Debounced.mk b false false false false b b b b b b b b b b b b b b b b b b b b b b b b b b b b b b b b b b b b))
 bif r then let z1:CarInput:=g
 (nps' p1 z0.Z0 z0.V1 z0.L1 z0.M1 z0.F1 z0.U4 z0.V4 z0.X4 z0.Y4 z0.Z4 z0.A5 z0.B5 z0.C5 z0.D5 z0.E5 z0.R3 z0.T3 z0.U3 z0.V3 z0.X3 z0.Y3 z0.Z3 z0.A4 z0.B4 z0.C4 z0.D4 z0.E4 z0.F4 z0.G4 z0.H4 z0.I4 z0.J4 z0.K4 z0.L4 z0.M4 z0.N4 z0.O4 z0.P4 z0.Q4 z0.R4 z0.S4 z1.Z0 z1.V1 z1.L1 z1.M1 z1.F1).bind fun y1=>letI k:=y1.2.1.2.2.2
 letI u:=k.2
 letI ad:=u.2
 letI d:=ad.2.2.2
 letI ae:=d.2
 letI h:=ae.2.2.2
 letI m:=h.2.2
 letI v:=m.2
 letI af:=v.2
 letI a:=af.2.2.2
 letI j:=a.2.2.2
 letI o:=j.2.2
 letI ag:=o.2
 letI c:=ag.2.2.2
 letI w:=c.2
 letI ah:=w.2
 letI f:=ah.2.2.2
 letI n:=f.2.2
 letI aa:=n.2
 letI ab:=aa.2
 bif q then bif s then bif r then (no4' p0 p1 p2 p3 p4 p5 p6 p7 (List.getD p18 l (Loaded.mk b)).F5 g.H3).bind fun y2=>bif s then some (Sum.inl (((),(IntKind.i64.wrap (i + (1:Int))),()),((p0,p1,p2,p3,p4,p5,p6,p7,p8,p9,p10,p11,p12,p13,p14,(List.set p15 l (Debounced.mk y1.2.1.1 y1.2.1.2.1 y1.2.1.2.2.1 k.1 u.1 ad.1 ad.2.1 ad.2.2.1 d.1 ae.1 ae.2.1 ae.2.2.1 h.1 h.2.1 m.1 v.1 af.1 af.2.1 af.2.2.1 a.1 a.2.1 a.2.2.1 j.1 j.2.1 o.1 ag.1 ag.2.1 ag.2.2.1 c.1 w.1 ah.1 ah.2.1 ah.2.2.1 f.1 f.2.1 n.1 aa.1 ab.1 ab.2.1 ab.2.2.1 ab.2.2.2.1)),p16,p17,(List.set p18 l (Loaded.mk y2.2.1.1)),e),()))) else none else none else none else none else none else none else some (Sum.inr ((),((p0,p1,p2,p3,p4,p5,p6,p7,p8,p9,p10,p11,p12,p13,p14,p15,p16,p17,p18,e),())))
noncomputable def nd9':((Unit×Int×Unit)×(T'65×Unit))→Option (Unit×(T'65×Unit)):=iter (fun x=>letI f:=x.2.1.2.2.2; letI j:=f.2.2; letI c:=j.2.2.2.2; letI m:=c.2.2; letI e:=m.2.2.2; letI k:=e.2.2; letI a:=k.2.2.2.2; letI g:=a.2.2.2.2; letI l:=g.2.2; letI b:=l.2.2.2.2; letI n:=b.2.2; letI d:=n.2.2.2; letI h:=d.2.2.2; nhg' x.1.2.1 x.2.1.1 x.2.1.2.1 x.2.1.2.2.1 f.1 f.2.1 j.1 j.2.1 j.2.2.1 j.2.2.2.1 c.1 c.2.1 m.1 m.2.1 m.2.2.1 e.1 e.2.1 k.1 k.2.1 k.2.2.1 k.2.2.2.1 a.1 a.2.1 a.2.2.1 a.2.2.2.1 g.1 g.2.1 l.1 l.2.1 l.2.2.1 l.2.2.2.1 b.1 b.2.1 n.1 n.2.1 n.2.2.1 d.1 d.2.1 d.2.2.1 h.1 h.2.1 h.2.2.1 h.2.2.2.1 h.2.2.2.2.1) fuel
noncomputable def ncu' (p0 p1 p2 p3:Int) (p4 p5 p6:Nat) (p7:List Car) (p8:List Int) (p9 p10:List Bool) (p11:List Entry) (p12 p13:ByteArray) (p14:Int) (p15:List Debounced) (p16:List Belief) (p17:List NewCar) (p18:List Loaded) (p19:List Int) (p20:List Calls) (p21 p22 p23 p24 p25 p26 p27:Int) (p28:List CarInput) (p29:Bool) (p30:List Calls) (p31 p32:List Int) (p33 t_e p34 p35 p36 p37:Int) (p38 p39:Bool) (p40:Int) (p41:List CarOutput):Option ((Unit×(T'65×Unit)) ⊕ (Unit×(T'65×Unit))):=
 letI a:=(p23,p24,p25,p26,p27,p28,p29,p30,p31,p32,p33,t_e,p34,p35,p36,p37,p38,p39,p40,p41,())
 (ngx' p21).bind fun y1=>bif (! p29) then (ngx' p22).bind fun y2=>some (Sum.inl ((),((p0,p1,p2,p3,p4,p5,p6,p7,p8,p9,p10,p11,p12,p13,p14,p15,p16,p17,p18,p19,p20,y1.1.1,y2.1.1,a),()))) else (nd9' (((),(0:Int),()),((p0,p1,p2,p3,p4,p5,p6,p7,p8,p9,p10,p11,p12,p13,p14,p15,p16,p17,p18,p19,p20,y1.1.1,p22,a),()))).bind fun y3=>some (Sum.inr ((),(y3.2.1,())))
noncomputable def n6' (p0:Int):Option ((Bool×Unit)×Unit):=
 Option.bind (bif (p0==(0:Int)) then some ((true,()),()) else some (((p0==(1:Int)),()),())) fun y1=>some ((y1.1.1,()),())
noncomputable def nmt' (p0:Int):Option ((Bool×Unit)×Unit):=
 Option.bind (bif (decide ((2:Int)≤p0)) then some (((decide (p0≤(32:Int))),()),()) else some ((false,()),())) fun y1=>some ((y1.1.1,()),())
noncomputable def nts' (p0 p1 f:Int):Option (Sum ((Int×Int×Int×Unit)×Unit) ((Unit×Unit) ⊕ ((Int×Unit)×Unit))):=
 bif (decide (f < p0)) then let z0:Int:=(IntKind.u64.wrap f)
 bif (decide ((0:Int)≤z0)) then bif (p1==(IntKind.u32.wrap ((1:Int) * ((2:Int) ^ (Min.min (Int.toNat z0) (IntKind.bits IntKind.u32)))))) then some (Sum.inr (Sum.inr ((f,()),()))) else some (Sum.inl ((p0,p1,(IntKind.i64.wrap (f + (1:Int))),()),())) else none else some (Sum.inr (Sum.inl ((),())))
noncomputable def nos':((Int×Int×Int×Unit)×Unit)→Option ((Unit×Unit) ⊕ ((Int×Unit)×Unit)):=iter (fun x=>nts' x.1.1 x.1.2.1 x.1.2.2.1) fuel
noncomputable def nna' (p0 p1:Int):Option ((Int×Unit)×Unit):=
 letI a:=(((- 1:Int),()),())
 (nmt' p0).bind fun y1=>bif (! y1.1.1) then some a else (nos' ((p0,p1,(0:Int),()),())).bind fun y2=>(match y2 with
 | .inl y3=>
 some a
 | .inr y3=>
 some ((y3.1.1,()),()))
noncomputable def nk5' (p0 p1:Int) (p2 p3 p4 p5:Bool):Option ((Unit×Unit)×T'66):=
 letI d:=((),())
 letI e:=(0:Int)
 letI f:=((),(),d)
 letI n:=((),(),(),false,())
 (nna' p0 p1).bind fun y1=>letI a:=((p1,p2,p3,p4,p5,()),(e,e,e,()),(y1.1.1,e,e,()),())
 Option.bind (Option.bind (bif p2 then some (((),(),(),p3,()),a) else some (n,a)) fun y2=>letI g:=y2.2
 letI l:=g.2
 letI b:=l.2.1
 letI h:=g.1
 letI j:=(b.2.2.1,())
 letI m:=l.1
 bif y2.1.2.2.2.1 then some (f,(h,m,(b.1,(3:Int),j),())) else bif h.2.1 then some (f,(h,m,(b.1,(1:Int),j),())) else bif h.2.2.1 then some (f,(h,m,(b.1,(2:Int),j),())) else some (f,(h,m,b,()))) fun y3=>letI k:=(y3.2.1,y3.2.2.1,y3.2.2.2.1,())
 Option.bind (bif y3.2.1.2.2.2.1 then some (((),(),(),y3.2.1.2.2.2.2.1,()),k) else some (n,k)) fun y4=>letI c:=y4.2.2.2.1
 bif y4.1.2.2.2.1 then some (d,((c.1,c.2.1,(3:Int),()),())) else bif y4.2.1.2.2.2.1 then some (d,((c.1,c.2.1,(1:Int),()),())) else bif y4.2.1.2.2.2.2.1 then some (d,((c.1,c.2.1,(2:Int),()),())) else some (d,(c,()))
noncomputable def nhr' (p0 p1 p2 p3:Int):Option ((Bool×Unit)×Unit):=
 letI a:=((false,()),())
 Option.bind ((nmt' p0).bind fun y1=>bif y1.1.1 then bif (decide ((- 1:Int)≤p1)) then bif (decide (p1 < p0)) then bif (decide ((0:Int)≤p2)) then bif (decide (p2≤(3:Int))) then bif (decide ((0:Int)≤p3)) then some (((decide (p3≤(3:Int))),()),()) else some a else some a else some a else some a else some a else some a) fun y2=>some ((y2.1.1,()),())
noncomputable def nhz' (p0 p1 p2 p3:Int):Option ((Unit×Unit)×T'3):=
 letI b:=(0:Int)
 letI a:=((b,b,()),())
 letI c:=(((),()),a)
 letI d:=(1:Int)
 letI f:=((p1,p2,p3,()),a)
 (nhr' p0 p1 p2 p3).bind fun y1=>bif (! y1.1.1) then some c else bif (p3 != d) then some c else bif (decide (p1 < b)) then some c else let z0:Int:=(IntKind.u64.wrap p1)
 bif (decide (b≤z0)) then let z1:Int:=(IntKind.u32.wrap (d * ((2:Int) ^ (Min.min (Int.toNat z0) (IntKind.bits IntKind.u32)))))
 Option.bind (bif (p2==d) then some (((),(),z1,(decide (p1 < (IntKind.i64.wrap (p0 - d)))),()),f) else some (((),(),z1,false,()),f)) fun y2=>letI e:=y2.1.2.2
 bif e.2.1 then some (((),()),((e.1,b,()),())) else Option.bind (bif (y2.2.1.2.1==(2:Int)) then some (((),e.1,(decide (b < y2.2.1.1)),()),(y2.2.2.1,())) else some (((),e.1,false,()),(y2.2.2.1,()))) fun y3=>bif y3.1.2.2.1 then some (((),()),((b,y3.1.2.1,()),())) else some c else none
noncomputable def nc1' (p0 p1 p2 dir:Int):Option ((Bool×Unit)×Unit):=
 letI a:=(IntKind.bits IntKind.u32)
 letI b:=(1:Int)
 letI c:=((false,()),())
 letI d:=(BitVec.ofInt a b)
 letI e:=(IntKind.u64.wrap p2)
 letI f:=(2:Int)
 letI g:=(0:Int)
 bif (decide (p2 < g)) then some c else bif (decide ((31:Int) < p2)) then some c else Option.bind (bif (dir==b) then let z0:Int:=e
 bif (decide (g≤z0)) then let z1:Int:=(Int.fdiv p0 (f ^ (Min.min (Int.toNat z0) a)))
 bif ((IntKind.u32.wrap (stk z1 b (BitVec.toNat ((BitVec.ofInt a z1) &&& d))))==b) then some ((true,()),()) else bif (dir==f) then let z2:Int:=e
 bif (decide (g≤z2)) then let z3:Int:=(Int.fdiv p1 (f ^ (Min.min (Int.toNat z2) a)))
 some ((((IntKind.u32.wrap (stk z3 b (BitVec.toNat ((BitVec.ofInt a z3) &&& d))))==b),()),()) else none else some c else none else bif (dir==f) then let z4:Int:=e
 bif (decide (g≤z4)) then let z5:Int:=(Int.fdiv p1 (f ^ (Min.min (Int.toNat z4) a)))
 some ((((IntKind.u32.wrap (stk z5 b (BitVec.toNat ((BitVec.ofInt a z5) &&& d))))==b),()),()) else none else some c) fun y1=>some ((y1.1.1,()),())
noncomputable def nud' (car:Int) (l:List Duty) (p0:Bool) (i p1 p2 p3 p4:Int) (p5 p6 p7:Nat) (p8:List Car) (p9 p10 p11:Int) (p12:List Duty) (p13:Int) (p14:Bool) (p15 p16 p17 p18 p19:Int) (p20:List Duty) (p21:Int) (p22:Bool):Option (Sum (T'67×T'68) (T'69×(T'37×T'37×Unit))):=
 letI b:=(0:Int)
 letI h:=(p17,p18,p19,p20,p21,p22,())
 letI j:=(p9,p10,p11,p12,p13,p14,())
 bif (decide (i < ((List.length p12:Nat):Int))) then bif (inB i (List.length p12)) then let z0:Duty:=(List.getD p12 (Int.toNat i) (Duty.mk b b b))
 let z1:Int:=(IntKind.i64.wrap (z0.H5 + (1:Int)))
 letI a:=((p1,p2,p3,p4,p5,p6,p7,p8,()),j,(p15,p16,()),h,(z0.C0,z0.G0,z1,()),())
 Option.bind (bif p0 then some ((car,(),(),(),(),l,true,i,(),()),a) else bif (inB car (List.length p8)) then some ((car,(),(),(),(),l,(decide ((List.getD p8 (Int.toNat car) (Car.mk b b b b b b b b b)).S1 < z1)),i,(),()),a) else none) fun y1=>letI c:=y1.1.2.2.2.2.2
 letI d:=y1.2.2.2
 letI e:=(c.2.1,(IntKind.i64.wrap (c.2.2.1 + (1:Int))),())
 letI f:=d.2.2.1
 letI g:=(y1.2.1,y1.2.2.1,d.1,d.2.1,())
 (nc1' d.1.1 d.1.2.1 f.1 f.2.1).bind fun y2=>bif (! y2.1.1) then let z2:List ( Duty ):=[(Duty.mk f.1 f.2.1 f.2.2.1)]
 bif (Nat.ble ((List.length c.1) + (List.length z2)) 2147483648) then some (Sum.inl ((y1.1.1,(),(),(),(),(c.1++z2),e),g)) else none else some (Sum.inl ((y1.1.1,(),(),(),(),c.1,e),g)) else none else some (Sum.inr (((),(),l,p0,()),(j,h,())))
noncomputable def nqs':(T'67×T'68)→Option (T'69×(T'37×T'37×Unit)):=iter (fun x=>letI a:=x.2.2; letI b:=x.2.1.2.2; letI c:=a.2.2.1; letI d:=x.1.2.2.2.2.2; letI e:=a.1.2; letI f:=b.2.2; letI g:=c.2.2; nud' x.1.1 d.1 d.2.1 d.2.2.1 x.2.1.1 x.2.1.2.1 b.1 b.2.1 f.1 f.2.1 f.2.2.1 f.2.2.2.1 a.1.1 e.1 e.2.1 e.2.2.1 e.2.2.2.1 e.2.2.2.2.1 a.2.1.1 a.2.1.2.1 c.1 c.2.1 g.1 g.2.1 g.2.2.1 g.2.2.2.1) fuel
noncomputable def nlt' (p0 p1 p2 p3:Int) (p4 p5 p6:Nat) (p7:List Car) (car p8 p9 p10:Int) (p11:List Duty) (p12:Int) (p13:Bool) (p14 p15:Int):Option ((Unit×Unit)×(T'37×Unit)):=
 letI b:=(0:Int)
 letI e:=List Duty
 (nqs' ((car,(),(),(),(),([]:e),false,b,()),((p0,p1,p2,p3,p4,p5,p6,p7,()),(p8,p9,p10,p11,p12,p13,()),(p14,p15,()),(b,b,b,([]:e),b,false,()),()))).bind fun y1=>letI a:=y1.2.1
 letI d:=a.2
 letI c:=(d.2.2.2.1,y1.1.2.2.2.1,())
 bif y1.1.2.2.2.1 then some (((),()),((a.1,d.1,d.2.1,([]:e),c),())) else some (((),()),((a.1,d.1,d.2.1,y1.1.2.2.1,c),()))
noncomputable def nka' (p0 p1 p2 p3:Int) (p4 p5 p6:Nat) (p7:List Car) (car p8 p9 p10:Int) (p11:List Duty) (p12:Int) (p13:Bool) (p14 p15 p16:Int):Option ((Unit×Int×Unit)×(T'37×Unit)):=
 letI b:=(0:Int)
 letI d:=(false,())
 letI f:=List Duty
 letI j:=(b,d)
 (nbx' p0 p1 p2 p3 p4 p5 p6 p7 car p8 p9 p10 p11 p12 p13).bind fun y1=>bif (! y1.1.1) then some (((),(1:Int),()),((b,b,b,([]:f),j),())) else (nhr' p0 p14 p15 p16).bind fun y2=>bif (! y2.1.1) then some (((),(1:Int),()),((b,b,b,([]:f),j),())) else (nhz' p0 p14 p15 p16).bind fun y3=>(nlt' p0 p1 p2 p3 p4 p5 p6 p7 car p8 p9 p10 p11 p12 p13 y3.2.1.1 y3.2.1.2.1).bind fun y4=>letI g:=y4.2.1.2
 letI m:=g.2
 Option.bind (bif (decide (b≤p14)) then some (((),(),(),()),((p14,g.1,m.1,m.2.1,m.2.2.1,m.2.2.2.1,()),(p14,p15,p16,()),(b,b,b,([]:f),j),())) else some (((),(),(),()),(y4.2.1,(p14,p15,p16,()),(b,b,b,([]:f),j),()))) fun y5=>letI l:=y5.2.1.2.2.2
 letI h:=y5.2.2.1
 letI n:=h.2
 letI a:=((y5.2.1.1,n.1,n.2.1,l.1,l.2.1,l.2.2.1,()),y5.2.2.2.1,())
 letI o:=(((),(),d),a)
 Option.bind (bif (decide (b≤h.1)) then bif (n.2.1==(2:Int)) then some (((),(),(n.1==b),()),a) else some o else some o) fun y6=>letI c:=y6.2.1.2
 letI e:=c.2
 letI k:=e.2
 bif y6.1.2.2.1 then let z0:Int:=(IntKind.i64.wrap (k.2.1 + (1:Int)))
 some (((),b,()),((y6.2.1.1,c.1,e.1,k.1,(bif (decide ((1000000:Int) < z0)) then (1000000:Int) else z0),k.2.2.1,()),())) else some (((),b,()),((y6.2.1.1,c.1,e.1,k.1,b,k.2.2.1,()),()))
noncomputable def nnj' (p0 p1 p2 p3:Int) (p4 p5 p6:Nat) (p7:List Car) (car p8 p9 p10:Int) (p11:List Duty) (p12:Int) (p13:Bool):Option ((Unit×Int×Unit)×(T'37×Unit)):=
 letI a:=(0:Int)
 (nbx' p0 p1 p2 p3 p4 p5 p6 p7 car p8 p9 p10 p11 p12 p13).bind fun y1=>bif (! y1.1.1) then some (((),(1:Int),()),((a,a,a,([]:List Duty),a,false,()),())) else (nlt' p0 p1 p2 p3 p4 p5 p6 p7 car p8 p9 p10 p11 p12 p13 a a).bind fun y2=>letI b:=y2.2.1.2
 some (((),a,()),((y2.2.1.1,b.1,b.2.1,b.2.2.1,a,b.2.2.2.2.1,()),()))
noncomputable def n9' (p0:Int):Option ((Bool×Unit)×Unit):=
 Option.bind (bif (p0==(3:Int)) then some ((true,()),()) else some (((p0==(4:Int)),()),())) fun y1=>some ((y1.1.1,()),())
noncomputable def nn4' (p0:List Int) (p1 p2:List Bool) (p3:List Entry) (car:Int):Option ((Bool×Unit)×Unit):=
 letI a:=((false,()),())
 Option.bind (bif (decide ((0:Int)≤car)) then bif (decide (car < ((List.length p0:Nat):Int))) then bif (decide (car < ((List.length p1:Nat):Int))) then some (((decide (car < ((List.length p2:Nat):Int))),()),()) else some a else some a else some a) fun y1=>some ((y1.1.1,()),())
noncomputable def njs' (p0:List Int) (p1 p2:List Bool) (p3:List Entry) (car:Int):Option ((Bool×Unit)×Unit):=
 letI a:=(Int.toNat car)
 letI b:=((false,()),())
 letI c:=(((! (List.getD p2 a false)),()),())
 letI d:=inB car
 letI e:=(List.getD p0 a (0:Int))
 letI f:=(! (List.getD p1 a false))
 letI g:=(d (List.length p0))
 letI h:=(d (List.length p1))
 letI j:=(d (List.length p2))
 Option.bind ((nn4' p0 p1 p2 p3 car).bind fun y1=>bif y1.1.1 then bif g then bif (e==(0:Int)) then bif h then bif f then bif j then some c else none else some b else none else bif g then bif (e==(4:Int)) then bif h then bif f then bif j then some c else none else some b else none else some b else none else none else some b) fun y2=>some ((y2.1.1,()),())
noncomputable def nq9' (out:List View) (i:Int) (p0:List Int) (p1 p2:List Bool) (p3:List Entry):Option (Sum (T'70×(T'18×Unit)) ((List View×Unit)×Unit)):=
 letI a:=(0:Int)
 bif (decide (i < ((List.length out:Nat):Int))) then (njs' p0 p1 p2 p3 i).bind fun y1=>bif (inB i (List.length out)) then let z0:Nat:=(Int.toNat i)
 let z1:View:=(List.getD out z0 (View.mk false false false false a a a a a a a a))
 some (Sum.inl (((),(List.set out z0 (View.mk y1.1.1 z1.E3 z1.F3 z1.J3 z1.C0 z1.G0 z1.H3 z1.A3 z1.T2 z1.X2 z1.I2 z1.Z1)),(IntKind.i64.wrap (i + (1:Int))),()),((p0,p1,p2,p3,()),()))) else none else some (Sum.inr ((out,()),()))
noncomputable def nlr':(T'70×(T'18×Unit))→Option ((List View×Unit)×Unit):=iter (fun x=>nq9' x.1.2.1 x.1.2.2.1 x.2.1.1 x.2.1.2.1 x.2.1.2.2.1 x.2.1.2.2.2.1) fuel
noncomputable def nfc' (p0:List Int) (p1 p2:List Bool) (p3:List Entry):Option ((List View×Unit)×Unit):=
 letI a:=(0:Int)
 let z0:Int:=((List.length p0:Nat):Int)
 bif (((decide (a≤z0))&&(decide (z0≤z0)))&&(decide (z0≤(2147483648:Int)))) then (nlr' (((),(List.replicate (Int.toNat z0) (View.mk false false false false a a a a a a a a)),a,()),((p0,p1,p2,p3,()),()))).bind fun y1=>some ((y1.1.1,()),()) else none
noncomputable def nc5' (p0 dir:Int):Option ((Unit×Unit)×T'3):=
 letI a:=(0:Int)
 letI b:=(((),()),((a,a,()),()))
 letI c:=(IntKind.bits IntKind.u32)
 letI d:=(IntKind.u64.wrap p0)
 bif (decide (p0 < a)) then some b else bif (decide ((31:Int) < p0)) then some b else bif (dir==(1:Int)) then let z0:Int:=d
 bif (decide (a≤z0)) then some (((),()),(((IntKind.u32.wrap ((1:Int) * ((2:Int) ^ (Min.min (Int.toNat z0) c)))),a,()),())) else none else bif (dir==(2:Int)) then let z1:Int:=d
 bif (decide (a≤z1)) then some (((),()),((a,(IntKind.u32.wrap ((1:Int) * ((2:Int) ^ (Min.min (Int.toNat z1) c)))),()),())) else none else some b
noncomputable def nbw' (p0 p1 p2 p3:Int):Option ((Unit×Unit)×T'3):=
 letI a:=(IntKind.bits IntKind.u32)
 some (((),()),(((IntKind.u32.wrap (stk p0 p2 (BitVec.toNat ((BitVec.ofInt a p0) ||| (BitVec.ofInt a p2))))),(IntKind.u32.wrap (stk p1 p3 (BitVec.toNat ((BitVec.ofInt a p1) ||| (BitVec.ofInt a p3))))),()),()))
noncomputable def nfb' (p0:List View) (car i:Int) (p1:List Int) (p2 p3:List Bool) (p4:List Entry) (p5 p6 p7 p8:Int):Option (Sum (T'71×T'72) ((Unit×Unit×Unit)×T'5)):=
 letI b:=(0:Int)
 bif (decide (i < ((List.length p4:Nat):Int))) then bif (inB i (List.length p4)) then let z0:Entry:=(List.getD p4 (Int.toNat i) (Entry.mk b b b b false))
 letI a:=((p1,p2,p3,p4,()),(p5,p6,()),(p7,p8,()),(z0.C0,z0.G0,z0.O0,z0.V0,z0.Q1,()),())
 Option.bind (bif (z0.O0==car) then some ((p0,car,(),(),(),i,(),true,()),a) else bif (z0.O0==(- 2:Int)) then bif (inB car (List.length p0)) then some ((p0,car,(),(),(),i,(),(List.getD p0 (Int.toNat car) (View.mk false false false false b b b b b b b b)).J2,()),a) else none else some ((p0,car,(),(),(),i,(),false,()),a)) fun y1=>letI c:=(y1.1.1,y1.1.2.1,(),(),(),(IntKind.i64.wrap (y1.1.2.2.2.2.2.1 + (1:Int))),())
 letI d:=y1.2.2
 letI e:=d.2
 bif y1.1.2.2.2.2.2.2.2.1 then (nc5' e.2.1.1 e.2.1.2.1).bind fun y2=>(nbw' e.1.1 e.1.2.1 y2.2.1.1 y2.2.1.2.1).bind fun y3=>some (Sum.inl (c,(y1.2.1,d.1,y3.2.1,()))) else some (Sum.inl (c,(y1.2.1,d.1,e.1,()))) else none else some (Sum.inr (((),(),()),((p5,p6,()),(p7,p8,()),())))
noncomputable def nkg':(T'71×T'72)→Option ((Unit×Unit×Unit)×T'5):=iter (fun x=>nfb' x.1.1 x.1.2.1 x.1.2.2.2.2.2.1 x.2.1.1 x.2.1.2.1 x.2.1.2.2.1 x.2.1.2.2.2.1 x.2.2.1.1 x.2.2.1.2.1 x.2.2.2.1.1 x.2.2.2.1.2.1) fuel
noncomputable def nhs' (p0 p1 p2 p3:Int) (p4 p5 p6:Nat) (p7:List Car) (p8:List Int) (p9 p10:List Bool) (p11:List Entry) (p12:List View) (car:Int):Option ((Unit×Unit)×T'3):=
 letI d:=(0:Int)
 letI a:=(d,d,())
 letI b:=(((),()),(a,()))
 letI c:=((List.length p7:Nat):Int)
 (n7' p0 p1 p2 p3 p4 p5 p6 p7 p8 p9 p10 p11).bind fun y1=>bif (! y1.1.1) then some b else bif (((List.length p12:Nat):Int) != c) then some b else bif (decide (car < d)) then some b else bif (decide (c≤car)) then some b else (nkg' ((p12,car,(),(),(),d,()),((p8,p9,p10,p11,()),a,a,()))).bind fun y2=>some (((),()),(y2.2.2.1,()))
noncomputable def njd' (p0 p1 p2 p3:Int) (p4 p5 p6:Nat) (p7:List Car) (car p8 p9 p10 p11 p12:Int) (p13:Bool) (p14 p15 p16 p17 p18 p19 p20:Int) (p21:Bool):Option ((Bool×Unit)×Unit):=
 Option.bind ((nd3' p0 p1 p2 p3 p4 p5 p6 p7 p8 p9 p10 p11 p12 p13 p14 p15 p16 p17 p18 p19 p20 p21).bind fun y1=>bif y1.1.1 then bif (decide ((0:Int)≤car)) then some (((decide (car < ((List.length p7:Nat):Int))),()),()) else some ((false,()),()) else some ((false,()),())) fun y2=>some ((y2.1.1,()),())
noncomputable def ng6' (p0 p1 p2 p3:Int) (p4 p5 p6:Nat) (p7:List Car) (p8:Int) (p9:Bool) (p10:Int) (p11:Bool):Option ((Bool×Unit)×Unit):=
 letI a:=((false,()),())
 Option.bind (bif (decide ((0:Int)≤p8)) then bif (decide (p8 < p0)) then bif (decide ((0:Int)≤p10)) then some (((decide (p10≤(2:Int))),()),()) else some a else some a else some a) fun y1=>some ((y1.1.1,()),())
noncomputable def nfx' (p0 p1 p2:Int):Option ((Unit×Unit)×T'66):=
 letI b:=(0:Int)
 letI a:=((p0,p1,p2,()),(b,b,b,()),())
 Option.bind (bif (decide (b≤p1)) then some (((),(),(decide (p1 < (1000000:Int))),()),a) else some (((),(),false,()),a)) fun y1=>bif y1.1.2.2.1 then some (((),()),((y1.2.1.1,(IntKind.i64.wrap (y1.2.1.2.1 + (1:Int))),y1.2.1.2.2.1,()),())) else some (((),()),(y1.2.1,()))
noncomputable def ni3' (p0 p1 p2 p3 p4:Int) (p5:Bool) (p6:Int) (p7:Bool) (p8:Int):Option (T'73×T'66):=
 letI a:=(0:Int)
 letI b:=(a,a,a,())
 letI c:=(false,())
 letI d:=(((),a,c),(b,()))
 letI e:=(b,(p8,a,p4,()),())
 letI f:=((p1,p2,p3,()),b,())
 (nb9' p0 p1 p2 p3).bind fun y1=>bif (! y1.1.1) then some d else (nfw' p0 p4).bind fun y2=>bif (! y2.1.1) then some d else bif (p1 != a) then Option.bind (bif p5 then (ncw' p1 p2 p3).bind fun y3=>some (((),(),(p4==y3.1.1),()),f) else some (((),(),c),f)) fun y4=>bif y4.1.2.2.1 then some (((),a,true,()),(b,())) else (nfx' y4.2.1.1 y4.2.1.2.1 y4.2.1.2.2.1).bind fun y5=>some (((),y4.2.1.1,c),(y5.2.1,())) else bif (! p5) then (nfx' p1 p2 p3).bind fun y6=>some (((),a,c),(y6.2.1,())) else Option.bind (bif (p8 != a) then (nb9' p0 p8 a p4).bind fun y7=>some ((p8,(),(),y7.1.1,()),e) else some ((p8,(),(),c),e)) fun y8=>bif y8.1.2.2.2.1 then some (((),y8.1.1,c),(y8.2.2.1,())) else some d
noncomputable def nl8' (p0 p1 p2 p3 p4 p5 p6 p7 p8 p9 p10 p11:Int) (p12:Bool) (p13:Int):Option ((Bool×Unit)×Unit):=
 letI a:=(((decide (p5 < p10)),()),())
 Option.bind (bif (p9==(1:Int)) then some a else bif (p9==(3:Int)) then some a else some ((false,()),())) fun y1=>some ((y1.1.1,()),())
noncomputable def nmh' (p0 p1 p2 p3 p4 p5 p6 p7 p8 p9 p10 p11:Int):Option ((Bool×Unit)×Unit):=
 some (((decide (p4 < p10)),()),())
noncomputable def nin' (p0 p1 p2 p3:Int) (p4 p5 p6:Nat) (p7:List Car) (car p8 p9 p10 p11 p12:Int) (p13:Bool) (p14 p15 p16 p17 p18 p19 p20:Int) (p21:Bool) (cmd:Int):Option ((Unit×Int×Int×Unit)×(T'74×Unit)):=
 letI a:=(0:Int)
 letI b:=(((),a,a,()),((a,a,a,a,a,false,a,a,a,a,a,a,a,true,()),()))
 letI c:=(List.getD p7 (Int.toNat car) (Car.mk a a a a a a a a a))
 letI d:=(inB car (List.length p7))
 bif d then let z0:Car:=c
 (nl8' z0.S1 z0.C3 z0.G3 z0.O2 z0.M3 z0.V2 z0.U2 z0.L3 z0.Q3 p10 p11 p12 p13 p14).bind fun y1=>bif y1.1.1 then some b else bif d then let z1:Car:=c
 (nmh' z1.S1 z1.C3 z1.G3 z1.O2 z1.M3 z1.V2 z1.U2 z1.L3 z1.Q3 p15 p16 p17).bind fun y2=>bif y2.1.1 then some b else some (((),cmd,a,()),((p8,p9,p10,p11,p12,p13,p14,p15,p16,p17,p18,p19,p20,p21,()),())) else none else none
noncomputable def nes' (p0 p1 p2 p3:Int):Option ((Unit×Unit)×T'66):=
 letI a:=(IntKind.bits IntKind.u32)
 letI b:=(0:Int)
 letI c:=(1:Int)
 letI e:=(((),()),((b,b,b,()),()))
 bif (decide (p0 < c)) then some e else bif (decide ((32:Int) < p0)) then some e else let z0:Int:=(IntKind.u64.wrap p0)
 bif (decide (b≤z0)) then let z1:Int:=(IntKind.u32.wrap ((IntKind.u32.wrap (c * ((2:Int) ^ (Min.min (Int.toNat z0) a)))) - c))
 letI d:=(BitVec.ofInt a z1)
 let z2:Int:=(IntKind.u32.wrap (stk p2 z1 (BitVec.toNat ((BitVec.ofInt a p2) &&& d))))
 let z3:Int:=(IntKind.u64.wrap (IntKind.i64.wrap (p0 - c)))
 bif (decide (b≤z3)) then let z4:Int:=(IntKind.u32.wrap (c * ((2:Int) ^ (Min.min (Int.toNat z3) a))))
 let z5:Int:=(IntKind.u32.wrap (stk p3 z1 (BitVec.toNat ((BitVec.ofInt a p3) &&& d))))
 some (((),()),(((IntKind.u32.wrap (stk p1 z1 (BitVec.toNat ((BitVec.ofInt a p1) &&& d)))),(IntKind.u32.wrap (stk z2 z4 (BitVec.toNat ((BitVec.ofInt a z2) &&& (~~~ (BitVec.ofInt a z4)))))),(IntKind.u32.wrap (stk z5 c (BitVec.toNat ((BitVec.ofInt a z5) &&& (~~~ (BitVec.ofInt a c)))))),()),())) else none else none
noncomputable def ngb' (p0 p1 p2 p3 p4 p5:Int):Option ((Unit×Unit)×T'66):=
 letI a:=(IntKind.bits IntKind.u32)
 letI b:=(0:Int)
 letI c:=(IntKind.bits IntKind.i64)
 letI f:=(b,b,())
 let z0:Int:=(IntKind.u64.wrap p2)
 bif (decide (b≤z0)) then let z1:Int:=(IntKind.u32.wrap ((1:Int) * ((2:Int) ^ (Min.min (Int.toNat z0) a))))
 letI k:=((),(),(),(),z1,())
 Option.bind (bif (p1 != b) then some (k,((p0,p1,()),(p3,p4,p5,()),(b,f),((IntKind.u32.wrap (stk p3 z1 (BitVec.toNat ((BitVec.ofInt a p3) &&& (BitVec.ofInt a z1))))),f),())) else some (k,((p0,p1,()),(p3,p4,p5,()),(b,f),(b,f),()))) fun y1=>letI d:=y1.2.2
 letI e:=y1.1.2.2.2.2.1
 letI g:=d.2
 letI j:=((),(),(),(),e,())
 letI l:=d.1
 Option.bind (bif ((IntKind.i64.wrap (stk y1.2.1.2.1 (2:Int) (BitVec.toNat ((BitVec.ofInt c y1.2.1.2.1) &&& (BitVec.ofInt c (2:Int)))))) != b) then some (j,(y1.2.1,l,g.1,(g.2.1.1,(IntKind.u32.wrap (stk l.2.1 e (BitVec.toNat ((BitVec.ofInt a l.2.1) &&& (BitVec.ofInt a e))))),g.2.1.2.2.1,()),())) else some (j,(y1.2.1,l,g.1,g.2.1,()))) fun y2=>letI h:=y2.2.2.2.2.1
 bif ((IntKind.i64.wrap (stk y2.2.1.2.1 (4:Int) (BitVec.toNat ((BitVec.ofInt c y2.2.1.2.1) &&& (BitVec.ofInt c (4:Int)))))) != b) then some (((),()),((h.1,h.2.1,(IntKind.u32.wrap (stk y2.2.2.1.2.2.1 y2.1.2.2.2.2.1 (BitVec.toNat ((BitVec.ofInt a y2.2.2.1.2.2.1) &&& (BitVec.ofInt a y2.1.2.2.2.2.1))))),()),())) else some (((),()),(h,())) else none
noncomputable def ne0' (p0 p1 p2 p3 p4 p5:Int):Option ((Int×Unit)×Unit):=
 (ngb' p0 p1 p2 p3 p4 p5).bind fun y1=>bif ((y1.2.1.1==p3)&&((y1.2.1.2.1==p4)&&((y1.2.1.2.2.1==p5)&&true))) then some (((0:Int),()),()) else some ((p1,()),())
noncomputable def njk' (p0 p1 p2 p3 p4 p5 p6:Int):Option ((Unit×Unit)×T'66):=
 letI c:=(0:Int)
 letI a:=(((),()),((c,c,c,()),()))
 bif (decide (p0 < (2:Int))) then some a else bif (decide ((32:Int) < p0)) then some a else bif (decide (p3 < c)) then some a else bif (decide (p0≤p3)) then some a else (nb7' p1 p2).bind fun y1=>bif (! y1.1.1) then some a else (nes' p0 p4 p5 p6).bind fun y2=>letI b:=y2.2.1
 letI d:=b.2
 (ne0' p1 p2 p3 b.1 d.1 d.2.1).bind fun y3=>(ngb' p1 y3.1.1 p3 b.1 d.1 d.2.1).bind fun y4=>some (((),()),(y4.2.1,()))
noncomputable def ncn' (p0 p1 p2 p3:Int):Option ((Unit×Unit)×T'3):=
 letI a:=(IntKind.bits IntKind.u32)
 some (((),()),(((IntKind.u32.wrap (stk p0 p2 (BitVec.toNat ((BitVec.ofInt a p0) &&& (~~~ (BitVec.ofInt a p2)))))),(IntKind.u32.wrap (stk p1 p3 (BitVec.toNat ((BitVec.ofInt a p1) &&& (~~~ (BitVec.ofInt a p3)))))),()),()))
noncomputable def ntl' (p0 f p1 p2 p3:Int):Option (Sum ((Int×Unit×Int×Unit)×T'66) ((Unit×Unit) ⊕ ((Bool×Int×Unit)×Unit))):=
 letI a:=(IntKind.bits IntKind.u32)
 letI b:=(1:Int)
 bif (decide (f < (32:Int))) then let z0:Int:=(IntKind.u32.wrap (stk p1 p2 (BitVec.toNat ((BitVec.ofInt a p1) ||| (BitVec.ofInt a p2)))))
 let z1:Int:=(IntKind.u64.wrap f)
 bif (decide ((0:Int)≤z1)) then let z2:Int:=(Int.fdiv (IntKind.u32.wrap (stk z0 p3 (BitVec.toNat ((BitVec.ofInt a z0) ||| (BitVec.ofInt a p3))))) ((2:Int) ^ (Min.min (Int.toNat z1) a)))
 bif ((IntKind.u32.wrap (stk z2 b (BitVec.toNat ((BitVec.ofInt a z2) &&& (BitVec.ofInt a b)))))==b) then some (Sum.inr (Sum.inr ((true,(IntKind.i64.wrap (f - p0)),()),()))) else some (Sum.inl ((p0,(),(IntKind.i64.wrap (f + b)),()),((p1,p2,p3,()),()))) else none else some (Sum.inr (Sum.inl ((),())))
noncomputable def nop':((Int×Unit×Int×Unit)×T'66)→Option ((Unit×Unit) ⊕ ((Bool×Int×Unit)×Unit)):=iter (fun x=>ntl' x.1.1 x.1.2.2.1 x.2.1.1 x.2.1.2.1 x.2.1.2.2.1) fuel
noncomputable def njf' (p0 p1 p2 p3:Int):Option ((Bool×Int×Unit)×Unit):=
 (nop' ((p3,(),(IntKind.i64.wrap (p3 + (1:Int))),()),((p0,p1,p2,()),()))).bind fun y1=>(match y1 with
 | .inl y2=>
 some ((false,(0:Int),()),())
 | .inr y2=>
 some ((y2.1.1,y2.1.2.1,()),()))
noncomputable def ntu' (p0 f p1 p2 p3:Int):Option (Sum ((Int×Unit×Int×Unit)×T'66) ((Unit×Unit) ⊕ ((Bool×Int×Unit)×Unit))):=
 letI a:=(IntKind.bits IntKind.u32)
 letI b:=(1:Int)
 bif (decide ((0:Int)≤f)) then let z0:Int:=(IntKind.u32.wrap (stk p1 p2 (BitVec.toNat ((BitVec.ofInt a p1) ||| (BitVec.ofInt a p2)))))
 let z1:Int:=(IntKind.u64.wrap f)
 bif (decide ((0:Int)≤z1)) then let z2:Int:=(Int.fdiv (IntKind.u32.wrap (stk z0 p3 (BitVec.toNat ((BitVec.ofInt a z0) ||| (BitVec.ofInt a p3))))) ((2:Int) ^ (Min.min (Int.toNat z1) a)))
 bif ((IntKind.u32.wrap (stk z2 b (BitVec.toNat ((BitVec.ofInt a z2) &&& (BitVec.ofInt a b)))))==b) then some (Sum.inr (Sum.inr ((true,(IntKind.i64.wrap (p0 - f)),()),()))) else some (Sum.inl ((p0,(),(IntKind.i64.wrap (f - b)),()),((p1,p2,p3,()),()))) else none else some (Sum.inr (Sum.inl ((),())))
noncomputable def not':((Int×Unit×Int×Unit)×T'66)→Option ((Unit×Unit) ⊕ ((Bool×Int×Unit)×Unit)):=iter (fun x=>ntu' x.1.1 x.1.2.2.1 x.2.1.1 x.2.1.2.1 x.2.1.2.2.1) fuel
noncomputable def njh' (p0 p1 p2 p3:Int):Option ((Bool×Int×Unit)×Unit):=
 (not' ((p3,(),(IntKind.i64.wrap (p3 - (1:Int))),()),((p0,p1,p2,()),()))).bind fun y1=>(match y1 with
 | .inl y2=>
 some ((false,(0:Int),()),())
 | .inr y2=>
 some ((y2.1.1,y2.1.2.1,()),()))
noncomputable def nlz' (p0 p1 p2 p3 p4 p5 p6:Int):Option ((Unit×Unit)×(T'75×Unit)):=
 letI b:=(IntKind.bits IntKind.u32)
 letI e:=(1:Int)
 (njk' p0 p1 p2 p3 p4 p5 p6).bind fun y1=>(ncn' p5 p6 y1.2.1.2.1 y1.2.1.2.2.1).bind fun y2=>letI g:=nc1' y2.2.1.1 y2.2.1.2.1 p3
 (g e).bind fun y3=>(g (2:Int)).bind fun y4=>let z0:Int:=(IntKind.u64.wrap p3)
 bif (decide ((0:Int)≤z0)) then let z1:Int:=(Int.fdiv (IntKind.u32.wrap (stk p4 y1.2.1.1 (BitVec.toNat ((BitVec.ofInt b p4) &&& (~~~ (BitVec.ofInt b y1.2.1.1)))))) ((2:Int) ^ (Min.min (Int.toNat z0) b)))
 let z2:Bool:=((IntKind.u32.wrap (stk z1 e (BitVec.toNat ((BitVec.ofInt b z1) &&& (BitVec.ofInt b e)))))==e)
 (njf' p4 p5 p6 p3).bind fun y5=>(njh' p4 p5 p6 p3).bind fun y6=>letI h:=y6.1.1
 letI a:=((false,false,false,false,false,(0:Int),()),(y3.1.1,y4.1.1,z2,y5.1.1,h,(0:Int),()),())
 Option.bind (bif y5.1.1 then bif (! h) then some (((),(),h,true,()),a) else some (((),(),h,(decide (y5.1.2.1≤y6.1.2.1)),()),a) else some (((),(),h,false,()),a)) fun y7=>letI c:=y7.2.2.1
 letI d:=c.2
 letI f:=d.2
 letI j:=f.2
 bif y7.1.2.2.2.1 then some (((),()),((c.1,d.1,f.1,j.1,j.2.1,e,()),())) else bif y7.1.2.2.1 then some (((),()),((c.1,d.1,f.1,j.1,j.2.1,(2:Int),()),())) else some (((),()),(c,())) else none
noncomputable def ncx' (dir:Int):Option ((Unit×Unit)×T'66):=
 some (((),()),(((3:Int),dir,dir,()),()))
noncomputable def ng4' (dir:Int):Option ((Unit×Unit)×T'66):=
 letI a:=(0:Int)
 bif (dir==(1:Int)) then some (((),()),(((1:Int),dir,a,()),())) else bif (dir==(2:Int)) then some (((),()),(((2:Int),dir,a,()),())) else some (((),()),((a,a,a,()),()))
noncomputable def ner' (dir p0:Int) (car p1 p2 p3 p4:Bool):Option ((Unit×Bool×Unit)×T'66):=
 letI g:=(0:Int)
 letI a:=((g,g,g,()),())
 letI b:=((),true,())
 letI d:=((dir,p0,car,p2,p3,p4,(),p3,()),a)
 letI f:=((dir,p0,car,p2,p3,p4,b),a)
 letI h:=((),false,())
 Option.bind (bif car then bif p1 then some f else some d else bif p1 then bif p1 then some f else some d else some ((dir,p0,car,p2,p3,p4,h),a)) fun y1=>letI j:=y1.1
 letI n:=j.2
 letI c:=n.2
 letI e:=c.2.2
 letI k:=(y1.2.1,())
 letI l:=j.1
 letI m:=c.1
 bif e.2.2.2.1 then (ncx' l).bind fun y2=>some (b,(y2.2.1,())) else Option.bind (bif m then bif c.2.1 then some ((l,n.1,m,e.1,b),k) else some ((l,n.1,m,e.1,(),e.2.1,()),k) else some ((l,n.1,m,e.1,h),k)) fun y3=>bif y3.1.2.2.2.2.2.1 then (ncx' y3.1.2.1).bind fun y4=>some (b,(y4.2.1,())) else bif y3.1.2.2.1 then (ncx' g).bind fun y5=>some (b,(y5.2.1,())) else bif y3.1.2.2.2.1 then (ng4' y3.1.1).bind fun y6=>some (b,(y6.2.1,())) else some (h,a)
noncomputable def ney' (p0:Int) (p1 p2:Bool):Option ((Unit×Unit)×T'66):=
 bif p1 then (ncx' p0).bind fun y1=>some (((),()),(y1.2.1,())) else bif p2 then (ng4' p0).bind fun y2=>some (((),()),(y2.2.1,())) else some (((),()),(((0:Int),(0:Int),(0:Int),()),()))
noncomputable def nii' (p0 p1 p2 p3 p4 p5 p6:Int):Option ((Unit×Unit)×T'66):=
 letI h:=(0:Int)
 letI d:=((),())
 letI a:=(d,((h,h,h,()),()))
 letI f:=(2:Int)
 letI g:=(1:Int)
 bif (decide (p0 < f)) then some a else bif (decide ((32:Int) < p0)) then some a else bif (decide (p3 < h)) then some a else bif (decide (p0≤p3)) then some a else (nb7' p1 p2).bind fun y1=>bif (! y1.1.1) then some a else (nes' p0 p4 p5 p6).bind fun y2=>(nlz' p0 p1 p2 p3 y2.2.1.1 y2.2.1.2.1 y2.2.1.2.2.1).bind fun y3=>letI b:=y3.2.1.2
 letI c:=b.2
 letI e:=c.2
 letI j:=e.2
 letI k:=y3.2.1.1
 letI l:=b.1
 bif (p1==g) then (ner' g f c.1 k l e.1 j.1).bind fun y4=>bif y4.1.2.1 then some (d,(y4.2.1,())) else (ney' f l j.1).bind fun y5=>some (d,(y5.2.1,())) else bif (p1==f) then (ner' f g c.1 l k j.1 e.1).bind fun y6=>bif y6.1.2.1 then some (d,(y6.2.1,())) else (ney' g k e.1).bind fun y7=>some (d,(y7.2.1,())) else bif k then (ncx' g).bind fun y8=>some (d,(y8.2.1,())) else bif l then (ncx' f).bind fun y9=>some (d,(y9.2.1,())) else bif c.1 then (ncx' j.2.1).bind fun y10=>some (d,(y10.2.1,())) else (ng4' j.2.1).bind fun y11=>some (d,(y11.2.1,()))
noncomputable def npf' (p0 p1 p2 p3 p4 p5 p6:Int):Option ((Unit×Unit)×T'3):=
 letI c:=(0:Int)
 letI a:=(((),()),((c,c,()),()))
 letI b:=(IntKind.bits IntKind.i64)
 bif (decide (p0 < (2:Int))) then some a else bif (decide ((32:Int) < p0)) then some a else bif (decide (p3 < c)) then some a else bif (decide (p0≤p3)) then some a else (nb7' p1 p2).bind fun y1=>bif (! y1.1.1) then some a else (nii' p0 p1 p2 p3 p4 p5 p6).bind fun y2=>bif (y2.2.1.1==(3:Int)) then (nes' p0 p4 p5 p6).bind fun y3=>(ne0' p1 p2 p3 y3.2.1.1 y3.2.1.2.1 y3.2.1.2.2.1).bind fun y4=>let z0:Int:=(IntKind.u64.wrap y2.2.1.2.2.1)
 bif (decide (c≤z0)) then let z1:Int:=(IntKind.i64.wrap ((1:Int) * ((2:Int) ^ (Min.min (Int.toNat z0) b))))
 some (((),()),((y2.2.1.2.1,(IntKind.i64.wrap (stk y4.1.1 z1 (BitVec.toNat ((BitVec.ofInt b y4.1.1) ||| (BitVec.ofInt b z1))))),()),())) else none else some (((),()),((y2.2.1.2.1,c,()),()))
noncomputable def nkj' (p0 p1 p2:Int) (p3:Bool) (p4 p5:Int):Option ((Unit×Unit)×(T'76×Unit)):=
 some (((),()),((p5,(0:Int),p2,p3,p4,()),()))
noncomputable def ndm' (n:Int):Option ((Int×Unit)×Unit):=
 let z0:Int:=(IntKind.i64.wrap (n + (1:Int)))
 some (((bif (decide ((1000000:Int) < z0)) then (1000000:Int) else z0),()),())
noncomputable def nia' (p0 p1 p2:Int) (p3:Bool) (p4:Int):Option ((Unit×Int×Unit)×(T'76×Unit)):=
 letI d:=(0:Int)
 letI a:=((p0,p1,p2,p3,p4,()),(d,d,d,false,d,()),())
 Option.bind (bif (p0==(3:Int)) then some (((),(),p3,()),a) else some (((),(),false,()),a)) fun y1=>letI b:=y1.2.1.2
 letI c:=b.2
 letI e:=c.2
 bif y1.1.2.2.1 then (ndm' b.1).bind fun y2=>some (((),(5:Int),()),((y1.2.1.1,y2.1.1,c.1,e.1,e.2.1,()),())) else (nkj' y1.2.1.1 b.1 c.1 e.1 e.2.1 (3:Int)).bind fun y3=>some (((),(5:Int),()),((y3.2.1.1,y3.2.1.2.1,y3.2.1.2.2.1,true,y3.2.1.2.2.2.2.1,()),()))
noncomputable def ni7' (p0 p1 p2 p3 p4 p5 p6 p7 p8 p9 p10 p11:Int) (p12:Bool) (p13 p14:Int) (p15 p16:Bool):Option ((Unit×Int×Unit)×(T'76×Unit)):=
 letI a:=(0:Int)
 letI af:=(a,())
 letI c:=(a,a,a,false,af)
 letI j:=(1:Int)
 letI m:=(3:Int)
 letI n:=((),(),(),())
 letI r:=(p0,p1,p2,p3,p4,p5,p6,p7,p8,())
 letI aa:=(false,())
 Option.bind ((nd8' p9 p10 p11 p12 p13).bind fun y1=>bif (! y1.1.1) then some ((p14,p15,p16,n),(r,c,c,())) else some ((p14,p15,p16,n),(r,(p9,p10,p11,p12,p13,()),c,()))) fun y2=>letI b:=y2.2.2.1
 letI h:=b.2
 letI o:=h.2
 letI aj:=(y2.1.1,y2.1.2.1,n)
 letI am:=o.2
 bif (b.1==a) then bif y2.1.2.2.1 then (nkj' b.1 h.1 o.1 am.1 am.2.1 j).bind fun y3=>some (((),m,()),(y3.2.1,())) else some (((),af),(b,())) else Option.bind (bif (decide (a < o.1)) then (ndm' o.1).bind fun y4=>some (aj,(y2.2.1,(b.1,h.1,y4.1.1,am.1,am.2.1,()),y2.2.2.2.1,())) else some (aj,(y2.2.1,b,y2.2.2.2.1,()))) fun y5=>letI s:=(y5.2.1,y5.2.2.1,y5.2.2.2.1,())
 let z0:Bool:=(decide (y5.2.1.2.2.2.2.2.2.2.1 < y5.2.2.1.2.2.1))
 Option.bind (bif (y5.2.2.1.1==j) then some ((y5.1.1,y5.1.2.1,(),(),(),z0,(y5.1.1==j),()),s) else some ((y5.1.1,y5.1.2.1,(),(),(),z0,aa),s)) fun y6=>letI f:=y6.2.2.1
 letI v:=(y6.2.1,f,y6.2.2.2.1,())
 letI w:=y6.1.2.2.2.2.2
 letI an:=f.2
 bif w.2.1 then (nkj' f.1 an.1 an.2.1 an.2.2.1 an.2.2.2.1 (2:Int)).bind fun y7=>letI u:=y7.2.1.2
 letI ao:=u.2
 some (((),af),((y7.2.1.1,u.1,(bif (decide (j < ao.1)) then ao.1 else j),ao.2.1,ao.2.2.1,()),())) else Option.bind (bif (f.1==m) then some ((y6.1.2.1,(),(),(),w.1,(y6.1.1==(2:Int)),()),v) else some ((y6.1.2.1,(),(),(),w.1,aa),v)) fun y8=>letI e:=y8.2.2.1
 letI ak:=(e,y8.2.2.2.1,())
 letI k:=((y8.1.1,(),(),aa),ak)
 letI ab:=e.2
 bif y8.1.2.2.2.2.2.1 then some (((),af),(c,())) else bif y8.1.2.2.2.2.1 then (nia' e.1 ab.1 ab.2.1 ab.2.2.1 ab.2.2.2.1).bind fun y9=>some (((),y9.1.2.1,()),(y9.2.1,())) else Option.bind (bif (e.1==(2:Int)) then bif (decide (y8.2.1.2.2.2.2.2.2.1≤(IntKind.i64.wrap (ab.1 + j)))) then some ((y8.1.1,(),(),(! y8.1.1),()),ak) else some k else some k) fun y10=>letI l:=y10.2.1
 letI ag:=l.2
 letI al:=(l,y10.2.2.1,())
 bif y10.1.2.2.2.1 then (nkj' l.1 ag.1 ag.2.1 ag.2.2.1 ag.2.2.2.1 m).bind fun y11=>some (((),(4:Int),()),(y11.2.1,())) else Option.bind (bif (l.1==m) then some (((),(),y10.1.1,()),al) else some (((),(),aa),al)) fun y12=>letI d:=y12.2.1
 letI g:=d.2
 letI q:=g.2
 letI ah:=d.1
 letI ai:=q.2
 bif y12.1.2.2.1 then (nkj' ah g.1 q.1 ai.1 ai.2.1 j).bind fun y13=>letI ad:=y13.2.1
 letI ae:=ad.2
 (ndm' ae.2.2.2.1).bind fun y14=>some (((),m,()),((ad.1,ae.1,ae.2.1,ae.2.2.1,y14.1.1,()),())) else (ndm' g.1).bind fun y15=>let z1:List ( Int ):=[a,m,a,(4:Int)]
 bif (inB ah (List.length z1)) then some (((),(List.getD z1 (Int.toNat ah) a),()),((ah,y15.1.1,q.1,ai.1,ai.2.1,()),())) else none
noncomputable def no7' (p0 p1 p2 p3:Int) (p4 p5 p6:Nat) (p7:List Car) (car p8 p9:Int):Option ((Int×Unit)×Unit):=
 letI a:=(0:Int)
 letI b:=((a,()),())
 (n3' p0 p1 p2 p3 p4 p5 p6 p7).bind fun y1=>bif (y1.1.1 != a) then some b else bif (decide (car < a)) then some b else bif (decide (((List.length p7:Nat):Int)≤car)) then some b else bif (decide (p9 < a)) then some b else bif (decide (p0≤p9)) then some b else bif (decide (p8 < p3)) then some b else bif (inB car (List.length p7)) then let z0:Car:=(List.getD p7 (Int.toNat car) (Car.mk a a a a a a a a a))
 bif (decide (p9 < z0.Q3)) then some (((1:Int),()),()) else bif (decide (z0.Q3 < p9)) then some (((2:Int),()),()) else some b else none
noncomputable def nlo' (p0 p1 p2 p3:Int) (p4 p5 p6:Nat) (p7:List Car) (car p8 p9 p10 p11 p12:Int) (p13:Bool) (p14 p15 p16 p17 p18 p19 p20:Int) (p21:Bool) (p22:Int) (p23:Bool) (p24:Int) (p25:Bool) (p26 p27:Int):Option ((Unit×Int×Int×Unit)×(T'74×Unit)):=
 letI a:=(0:Int)
 letI b:=((a,a,a,a,a,false,a,a,a,a,a,a,a,false,()),())
 letI d:=(p0,p1,p2,p3,p4,p5,p6,p7,())
 letI e:=ni3' p0 p15 p16 p17 p22 p23 p24 p25
 letI m:=(p21,())
 bif (inB car (List.length p7)) then let z0:Car:=(List.getD p7 (Int.toNat car) (Car.mk a a a a a a a a a))
 (nii' p0 p8 p9 p22 p18 p26 p27).bind fun y1=>letI l:=y1.2.1.1
 (npf' p0 p8 p9 p22 p18 p26 p27).bind fun y2=>letI g:=y2.2.1
 letI k:=g.2.1
 letI n:=g.1
 Option.bind (bif (l==(3:Int)) then (ni7' z0.S1 z0.C3 z0.G3 z0.O2 z0.M3 z0.V2 z0.U2 z0.L3 z0.Q3 p10 p11 p12 p13 p14 p24 p25 true).bind fun y3=>letI r:=y3.2.1.2
 some ((car,(),(),(),y3.1.2.1,()),(d,(n,k,y3.2.1.1,r.1,r.2.1,r.2.2.1,r.2.2.2.1,p15,p16,p17,p18,y1.2.1.2.2.1,a,m),b)) else bif (l==(1:Int)) then (e l).bind fun y4=>some ((car,(),(),(),y4.1.2.1,()),(d,(n,k,p10,p11,p12,p13,p14,y4.2.1.1,y4.2.1.2.1,y4.2.1.2.2.1,p18,p19,a,m),b)) else bif (l==(2:Int)) then (e l).bind fun y5=>some ((car,(),(),(),y5.1.2.1,()),(d,(n,k,p10,p11,p12,p13,p14,y5.2.1.1,y5.2.1.2.1,y5.2.1.2.2.1,p18,p19,a,m),b)) else (no7' p0 p1 p2 p3 p4 p5 p6 p7 car p20 p22).bind fun y6=>bif (y6.1.1 != a) then (e y6.1.1).bind fun y7=>some ((car,(),(),(),y7.1.2.1,()),(d,(n,k,p10,p11,p12,p13,p14,y7.2.1.1,y7.2.1.2.1,y7.2.1.2.2.1,p18,p19,p20,m),b)) else let z1:Int:=(IntKind.i64.wrap (p20 + (1:Int)))
 some ((car,(),(),(),a,()),(d,(n,k,p10,p11,p12,p13,p14,p15,p16,p17,p18,p19,(bif (decide ((1000000:Int) < z1)) then (1000000:Int) else z1),m),b))) fun y8=>letI j:=y8.2.2.1.2
 letI u:=j.2
 letI c:=u.2.2.2
 letI f:=c.2.2.2
 letI h:=y8.2.1.2.2
 letI o:=h.2
 letI q:=f.2
 letI s:=o.2
 letI v:=q.2
 (nin' y8.2.1.1 y8.2.1.2.1 h.1 o.1 s.1 s.2.1 s.2.2.1 s.2.2.2.1 y8.1.1 y8.2.2.1.1 j.1 u.1 u.2.1 u.2.2.1 c.1 c.2.1 c.2.2.1 f.1 q.1 v.1 v.2.1 v.2.2.1 v.2.2.2.1 y8.1.2.2.2.2.1).bind fun y9=>some (((),y9.1.2.1,y9.1.2.2.1,()),(y9.2.1,())) else none
noncomputable def npq' (p0 p1 p2 p3:Int) (p4 p5 p6:Nat) (p7:List Car) (car p8 p9 p10 p11 p12:Int) (p13:Bool) (p14 p15 p16 p17 p18 p19 p20:Int) (p21:Bool) (p22:Int) (p23:Bool) (p24:Int) (p25:Bool) (p26 p27 p28:Int):Option ((Unit×Int×Int×Unit)×(T'74×Unit)):=
 letI c:=(0:Int)
 letI j:=(IntKind.bits IntKind.u32)
 letI cx:=(false,())
 letI r:=(c,c,c,c,c,false,c,c,c,c,c,c,c,cx)
 letI ao:=(p8,p9,p10,p11,p12,p13,p14,p15,p16,p17,p18,p19,p20,p21,())
 letI ap:=(1:Int)
 letI cv:=(((),c,ap,()),(r,()))
 letI cw:=(2:Int)
 letI ed:=(IntKind.bits IntKind.i64)
 (njd' p0 p1 p2 p3 p4 p5 p6 p7 car p8 p9 p10 p11 p12 p13 p14 p15 p16 p17 p18 p19 p20 p21).bind fun y1=>bif (! y1.1.1) then some cv else (ng6' p0 p1 p2 p3 p4 p5 p6 p7 p22 p23 p24 p25).bind fun y2=>bif (! y2.1.1) then some cv else bif p21 then some (((),c,c,()),(ao,())) else bif (inB car (List.length p7)) then let z0:Car:=(List.getD p7 (Int.toNat car) (Car.mk c c c c c c c c c))
 letI e:=((p0,p1,p2,p3,p4,p5,p6,p7,()),ao,(p22,p23,p24,p25,()),(p27,p28,()),r,(z0.S1,z0.C3,z0.G3,z0.O2,z0.M3,z0.V2,z0.U2,z0.L3,z0.Q3,()),())
 let z1:Int:=(IntKind.u64.wrap p22)
 bif (decide (c≤z1)) then let z2:Int:=(IntKind.u32.wrap (ap * (cw ^ (Min.min (Int.toNat z1) j))))
 let z3:Int:=(IntKind.u64.wrap p0)
 bif (decide (c≤z3)) then let z4:Int:=(IntKind.u32.wrap ((IntKind.u32.wrap (ap * (cw ^ (Min.min (Int.toNat z3) j)))) - ap))
 let z5:Int:=(IntKind.u32.wrap (stk p26 z4 (BitVec.toNat ((BitVec.ofInt j p26) &&& (BitVec.ofInt j z4)))))
 Option.bind (bif (p10 != c) then some ((car,(),(),(),(),(),(),z2,(IntKind.u32.wrap (stk z5 z2 (BitVec.toNat ((BitVec.ofInt j z5) &&& (~~~ (BitVec.ofInt j z2)))))),()),e) else some ((car,(),(),(),(),(),(),z2,z5,()),e)) fun y3=>letI bs:=y3.2.2
 letI aj:=bs.1.2.2
 letI cu:=aj.2
 letI ea:=cu.2
 letI g:=ea.2.2.2
 letI ah:=y3.1.2.2.2.2.2.2.2
 letI bd:=g.2
 letI bi:=bd.2
 letI cn:=bi.2
 letI co:=bs.2
 let z6:Int:=(IntKind.u32.wrap (stk cn.1 ah.2.1 (BitVec.toNat ((BitVec.ofInt j cn.1) ||| (BitVec.ofInt j ah.2.1)))))
 letI b:=(y3.2.1,(bs.1.1,bs.1.2.1,aj.1,cu.1,ea.1,ea.2.1,ea.2.2.1,g.1,bd.1,bi.1,z6,cn.2.1,cn.2.2.1,cn.2.2.2.1,()),co.1,co.2.1,co.2.2.1,co.2.2.2.1,())
 Option.bind (Option.bind (bif (aj.1==c) then bif (! ((g.1==c)&&((bd.1==c)&&((bi.1==c)&&true)))) then some ((y3.1.1,(),(),(),(),(),(),ah.1,true,()),b) else some ((y3.1.1,(),(),(),(),(),(),ah.1,(! co.1.2.1),()),b) else some ((y3.1.1,(),(),(),(),(),(),ah.1,cx),b)) fun y4=>letI v:=y4.2.2
 letI ee:=v.1
 letI bc:=ee.2.2
 letI ct:=bc.2
 letI dy:=ct.2
 letI h:=dy.2.2.2
 letI af:=v.2
 letI ai:=y4.1.2.2.2.2.2.2.2
 letI bj:=h.2
 letI bk:=af.1
 letI bt:=bj.2
 letI bw:=af.2
 letI dl:=bk.2
 letI dm:=ai.1
 letI du:=bw.2
 letI dz:=bt.2
 bif ai.2.1 then (ni3' y4.2.1.1 h.1 bj.1 bt.1 bk.1 dl.1 dl.2.1 dl.2.2.1 c).bind fun y5=>letI a:=(y4.2.1,(ee.1,ee.2.1,bc.1,ct.1,dy.1,dy.2.1,dy.2.2.1,y5.2.1.1,y5.2.1.2.1,y5.2.1.2.2.1,dz.1,dz.2.1,dz.2.2.1,dz.2.2.2.1,()),bk,bw.1,du.1,du.2.1,(h.1,bj.1,bt.1,()),())
 Option.bind (bif (! y5.1.2.2.1) then bif (h.1==c) then some ((y4.1.1,(),(),(),(),(),(),dm,y5.1.2.1,(),(! dl.1),()),a) else some ((y4.1.1,(),(),(),(),(),(),dm,y5.1.2.1,(),true,()),a) else some ((y4.1.1,(),(),(),(),(),(),dm,y5.1.2.1,(),cx),a)) fun y6=>letI av:=y6.1.2.2.2.2.2.2.2
 letI ax:=y6.2.2
 letI bf:=ax.2.2
 letI dn:=bf.2
 letI ck:=(y6.2.1,ax.1,dn.1,())
 bif av.2.2.2.1 then Option.bind (Option.bind (bif (dn.2.2.1.1==c) then some ((y6.1.1,(),(),(),av.2.1,true,()),ck) else some ((y6.1.1,(),(),(),av.2.1,(ax.1.1 != c),()),ck)) fun y7=>letI bu:=y7.2.2
 letI bv:=bu.1
 letI dp:=bv.2
 letI s:=dp.2.2.2
 letI ay:=s.2.2.2
 letI ca:=(y7.1.1,(),(),(),y7.1.2.2.2.2.1,())
 letI cp:=ay.2
 letI dq:=cp.2
 bif y7.1.2.2.2.2.2.1 then some (ca,(y7.2.1,(bv.1,dp.1,dp.2.1,dp.2.2.1,s.1,s.2.1,s.2.2.1,ay.1,cp.1,dq.1,dq.2.1,dq.2.2.1,c,dq.2.2.2.2.1,()),bu.2.1,())) else some (ca,(y7.2.1,bv,bu.2.1,()))) fun y8=>letI bo:=y8.2.2.1.2
 letI ds:=bo.2
 letI k:=ds.2.2.2
 letI az:=k.2.2.2
 letI bg:=y8.2.1.2.2
 letI cq:=bg.2
 letI cr:=az.2
 letI dr:=cq.2
 letI dt:=cr.2
 (nin' y8.2.1.1 y8.2.1.2.1 bg.1 cq.1 dr.1 dr.2.1 dr.2.2.1 dr.2.2.2.1 y8.1.1 y8.2.2.1.1 bo.1 ds.1 ds.2.1 ds.2.2.1 k.1 k.2.1 k.2.2.1 az.1 cr.1 dt.1 dt.2.1 dt.2.2.1 dt.2.2.2.1 y8.1.2.2.2.2.1).bind fun y9=>some (Sum.inr (((),y9.1.2.1,y9.1.2.2.1,()),(y9.2.1,()))) else some (Sum.inl ((y6.1.1,(),(),(),(),(),(),av.1,()),(y6.2.1,ax.1,ax.2.1,bf.1,dn.1,dn.2.1,()))) else some (Sum.inl ((y4.1.1,(),(),(),(),(),(),dm,()),(y4.2.1,ee,bk,bw.1,du.1,du.2.1,())))) fun y10=>(match y10 with
 | .inl y11=>
 letI bp:=y11.2.2
 letI cb:=bp.2
 letI ab:=(y11.2.1,bp.1,cb.1,cb.2.1,cb.2.2.1,cb.2.2.2.1,())
 letI eb:=y11.1.2.2.2.2.2.2.2.1
 Option.bind (Option.bind (bif (bp.1.2.2.1==c) then some ((y11.1.1,(),(),(),(),(),(),eb,(cb.1.2.2.1 != cw),()),ab) else some ((y11.1.1,(),(),(),(),(),(),eb,cx),ab)) fun y12=>letI ag:=y12.2.2
 letI cc:=ag.1
 letI u:=cc.2.2.2.2.2.2.2
 letI dk:=ag.2
 letI am:=(dk.1,dk.2.1,dk.2.2.1,dk.2.2.2.1,())
 letI ef:=y12.1.2.2.2.2.2.2.2
 letI aw:=(y12.1.1,(),(),(),(),(),(),ef.1,())
 letI cs:=u.2
 letI cy:=cs.2
 bif ef.2.1 then some (aw,(y12.2.1,(cc.1,(IntKind.i64.wrap (stk cc.2.1 ap (BitVec.toNat ((BitVec.ofInt ed cc.2.1) ||| (BitVec.ofInt ed ap))))),ap,c,c,false,c,u.1,cs.1,cy.1,cy.2.1,c,cy.2.2.2.1,cy.2.2.2.2.1,()),am)) else some (aw,(y12.2.1,cc,am))) fun y13=>letI f:=y13.2.2
 letI dv:=f.1
 letI o:=dv.2
 letI ae:=o.2
 letI ak:=ae.2
 letI be:=ak.2
 letI ce:=be.2
 letI d:=ce.2.2
 letI dw:=d.2
 letI l:=dw.2
 letI q:=f.2
 letI bx:=q.2
 letI dc:=bx.2
 letI w:=dc.2.1.2
 letI aa:=l.2
 letI al:=aa.2
 letI au:=y13.2.1
 letI ba:=au.2.2
 letI bh:=w.2.2
 letI bl:=al.2
 letI bq:=q.1.2
 letI bz:=(al.1,bl.1,bl.2.1,())
 letI cd:=ba.2
 letI cf:=bh.2
 letI cz:=cd.2
 letI da:=aa.1
 letI db:=bq.2
 letI dd:=cf.2
 letI ec:=y13.1.2.2.2.2.2.2.2.1
 bif (ae.1==c) then (nlo' au.1 au.2.1 ba.1 cd.1 cz.1 cz.2.1 cz.2.2.1 cz.2.2.2.1 y13.1.1 dv.1 o.1 ae.1 ak.1 be.1 ce.1 ce.2.1 d.1 dw.1 l.1 da al.1 bl.1 bl.2.1 q.1.1 bq.1 db.1 db.2.1 bx.1.1 bx.1.2.1).bind fun y14=>some (((),y14.1.2.1,y14.1.2.2.1,()),(y14.2.1,())) else (ni7' dc.2.1.1 w.1 w.2.1 bh.1 cf.1 dd.1 dd.2.1 dd.2.2.1 dd.2.2.2.1 ae.1 ak.1 be.1 ce.1 ce.2.1 db.1 db.2.1 false).bind fun y15=>letI an:=y15.2.1
 letI aq:=an.2
 letI bm:=aq.2
 letI cl:=(y13.1.1,(),(),(),y15.1.2.1,())
 letI de:=bm.2
 Option.bind (bif (an.1==cw) then some (cl,(au,(dv.1,o.1,an.1,aq.1,bm.1,de.1,de.2.1,d.1,dw.1,l.1,(IntKind.u32.wrap (stk da ec (BitVec.toNat ((BitVec.ofInt j da) &&& (~~~ (BitVec.ofInt j ec)))))),bz),dc.1,())) else some (cl,(au,(dv.1,o.1,an.1,aq.1,bm.1,de.1,de.2.1,d.1,dw.1,l.1,da,bz),dc.1,()))) fun y16=>letI cm:=y16.2.2
 letI df:=cm.1
 letI m:=df.2.2
 letI dx:=m.2
 letI ad:=dx.2.2.2
 letI bn:=ad.2
 letI br:=(y16.1.1,(),(),(),y16.1.2.2.2.2.1,())
 letI cg:=bn.2
 letI dg:=cg.2
 Option.bind (bif (m.1==c) then some (br,(y16.2.1,(df.1,df.2.1,m.1,dx.1,dx.2.1,dx.2.2.1,ad.1,bn.1,cg.1,dg.1,dg.2.1,c,dg.2.2.2.1,dg.2.2.2.2.1,()),cm.2.1,())) else some (br,(y16.2.1,df,cm.2.1,()))) fun y17=>letI ci:=y17.2.2.1
 letI di:=ci.2
 letI n:=di.2.2.2
 letI ar:=n.2.2.2
 letI bb:=y17.2.1.2.2
 letI ch:=bb.2
 letI cj:=ar.2
 letI dh:=ch.2
 letI dj:=cj.2
 (nin' y17.2.1.1 y17.2.1.2.1 bb.1 ch.1 dh.1 dh.2.1 dh.2.2.1 dh.2.2.2.1 y17.1.1 ci.1 di.1 di.2.1 di.2.2.1 n.1 n.2.1 n.2.2.1 ar.1 cj.1 dj.1 dj.2.1 dj.2.2.1 c dj.2.2.2.2.1 y17.1.2.2.2.2.1).bind fun y18=>some (((),y18.1.2.1,y18.1.2.2.1,()),(y18.2.1,()))
 | .inr y11=>
 some (((),y11.1.2.1,y11.1.2.2.1,()),(y11.2.1,()))) else none else none else none
noncomputable def nlg' (p0 p1 p2:Int) (p3:Bool) (p4:Int):Option ((Unit×Unit)×(T'76×Unit)):=
 letI b:=(p3,p4,())
 letI a:=(((),()),((p0,p1,p2,b),()))
 (nd8' p0 p1 p2 p3 p4).bind fun y1=>bif (! y1.1.1) then some a else bif (p0==(0:Int)) then some a else (ndm' p1).bind fun y2=>bif (decide ((0:Int) < p2)) then (ndm' p2).bind fun y3=>some (((),()),((p0,y2.1.1,y3.1.1,b),())) else some (((),()),((p0,y2.1.1,p2,b),()))
noncomputable def nmi' (p0 p1 p2:Int):Option ((Unit×Unit)×T'66):=
 letI a:=(0:Int)
 letI b:=((p0,p1,p2,()),(a,a,a,()),())
 Option.bind (bif (p0 != a) then some (((),(),true,()),b) else some (((),(),(p1 != a),()),b)) fun y1=>bif y1.1.2.2.1 then (nfx' y1.2.1.1 y1.2.1.2.1 y1.2.1.2.2.1).bind fun y2=>some (((),()),(y2.2.1,())) else some (((),()),(y1.2.1,()))
noncomputable def nni' (p0 p1 p2 p3:Int) (p4 p5 p6:Nat) (p7:List Car) (car p8 p9 p10 p11 p12:Int) (p13:Bool) (p14 p15 p16 p17 p18 p19 p20:Int) (p21:Bool):Option ((Unit×Int×Int×Unit)×(T'74×Unit)):=
 letI a:=(0:Int)
 (njd' p0 p1 p2 p3 p4 p5 p6 p7 car p8 p9 p10 p11 p12 p13 p14 p15 p16 p17 p18 p19 p20 p21).bind fun y1=>bif (! y1.1.1) then some (((),a,(1:Int),()),((a,a,a,a,a,false,a,a,a,a,a,a,a,false,()),())) else bif p21 then some (((),a,a,()),((p8,p9,p10,p11,p12,p13,p14,p15,p16,p17,p18,p19,p20,p21,()),())) else (nlg' p10 p11 p12 p13 p14).bind fun y2=>letI b:=y2.2.1.2
 (nmi' p15 p16 p17).bind fun y3=>(nin' p0 p1 p2 p3 p4 p5 p6 p7 car p8 p9 y2.2.1.1 b.1 b.2.1 b.2.2.1 b.2.2.2.1 y3.2.1.1 y3.2.1.2.1 y3.2.1.2.2.1 p18 p19 p20 p21 a).bind fun y4=>some (((),y4.1.2.1,y4.1.2.2.1,()),(y4.2.1,()))
noncomputable def nho' (n i p0 p1 p2 p3:Int) (p4 p5 p6:Nat) (p7:List Car) (p8:List Int) (p9 p10:List Bool) (p11:List Entry) (p12 p13:ByteArray) (p14:Int) (p15:List Debounced) (p16:List Belief) (p17:List NewCar) (p18:List Loaded) (p19:List Int) (p20:List Calls) (p21 p22 p23 p24 p25 p26 p27:Int) (p28:List CarInput) (p29:Bool) (p30:List Calls) (p31 p32:List Int) (p33 t_e p34 p35 p36 p37:Int) (p38 p39:Bool) (p40:Int) (p41:List CarOutput):Option (Sum ((Unit×Int×Int×Unit)×(T'65×Unit)) (Unit×(T'65×Unit))):=
 letI e:=(0:Int)
 letI k:=((p0,p1,p2,p3,p4,p5,p6,p7,p8,p9,p10,p11,p12,p13,p14,p15,p16,p17,p18,p19,p20,p21,p22,p23,p24,p25,p26,p27,p28,p29,p30,p31,p32,p33,t_e,p34,p35,p36,p37,p38,p39,p40,p41,()),())
 letI av:=(NewCar.mk e e e e e false e e e e e e e false)
 letI eq:=Belief.mk e e e
 bif (decide (i < n)) then bif (inB i (List.length p31)) then let z0:Int:=(List.getD p31 (Int.toNat i) e)
 Option.bind ((n6' z0).bind fun y1=>bif y1.1.1 then some (((),n,i,z0,p29,()),k) else some (((),n,i,z0,false,()),k)) fun y2=>letI ag:=y2.2.1
 letI ao:=ag.2
 letI ay:=ao.2
 letI cp:=ay.2
 letI j:=cp.2
 letI bn:=j.2
 letI cq:=bn.2
 letI q:=cq.2
 letI dd:=q.2
 letI ah:=dd.2.2
 letI az:=ah.2
 letI bs:=az.2
 letI cr:=bs.2
 letI a:=cr.2.2
 letI ar:=a.2
 letI bt:=ar.2
 letI ct:=bt.2
 letI o:=ct.2.2
 letI de:=o.2
 letI ai:=de.2.2
 letI ba:=ai.2
 letI bu:=ba.2
 letI cu:=bu.2
 letI d:=cu.2.2
 letI bh:=d.2
 letI br:=bh.2
 letI ej:=br.2
 letI aa:=ej.2.2.2
 letI bf:=aa.2.2.2
 letI cz:=bf.2
 letI ek:=cz.2
 letI l:=(ej.1,ej.2.1,ej.2.2.1,aa.1,aa.2.1,aa.2.2.1,bf.1,cz.1,ek.1,ek.2.1,ek.2.2.1,ek.2.2.2.1,())
 letI r:=y2.1.2.2
 letI co:=ar.1
 letI bg:=r.1
 letI eo:=inB bg
 letI ae:=(eo (List.length co))
 letI am:=(Int.toNat bg)
 letI bj:=((),y2.1.2.1,(IntKind.i64.wrap (bg + (1:Int))),())
 letI ca:=ag.1
 letI dc:=r.2
 letI dp:=ao.1
 letI dq:=ay.1
 letI dr:=cp.1
 letI ds:=bn.1
 letI dt:=cq.1
 letI dv:=dc.1
 letI ep:=a.1
 letI er:=j.1
 letI es:=q.1
 bif dc.2.1 then bif (eo (List.length ep)) then let z1:Debounced:=(List.getD ep am (Debounced.mk e false false false false e e e e e e e e e e e e e e e e e e e e e e e e e e e e e e e e e e e e))
 (nk5' ca z1.Z0 z1.V1 z1.L1 z1.M1 z1.F1).bind fun y3=>letI da:=y3.2.1
 letI dn:=da.2
 (nhz' ca da.1 dn.1 dn.2.1).bind fun y4=>bif (eo (List.length br.1)) then bif ae then let z2:Belief:=(List.getD co am (eq [] e false))
 (nka' ca dp dq dr er ds dt es bg z2.C0 z2.G0 z2.Z2 z2.M0 z2.R2 z2.Y2 da.1 dn.1 dn.2.1).bind fun y5=>letI cs:=y5.2.1.2
 letI du:=cs.2
 bif ae then some (Sum.inl (bj,((ca,dp,dq,dr,er,ds,dt,es,dd.1,dd.2.1,ah.1,az.1,bs.1,cr.1,cr.2.1,ep,(List.set co am (Belief.mk y5.2.1.1 cs.1 du.1 du.2.1 du.2.2.1 du.2.2.2.1)),bt.1,ct.1,ct.2.1,o.1,de.1,de.2.1,ai.1,ba.1,bu.1,cu.1,cu.2.1,d.1,bh.1,(List.set br.1 am (Calls.mk y4.2.1.1 y4.2.1.2.1)),l),()))) else none else none else none else none else (n6' dv).bind fun y6=>bif y6.1.1 then bif ae then let z3:Belief:=(List.getD co am (eq [] e false))
 (nnj' ca dp dq dr er ds dt es bg z3.C0 z3.G0 z3.Z2 z3.M0 z3.R2 z3.Y2).bind fun y7=>letI cv:=y7.2.1.2
 letI dw:=cv.2
 bif ae then some (Sum.inl (bj,((ca,dp,dq,dr,er,ds,dt,es,dd.1,dd.2.1,ah.1,az.1,bs.1,cr.1,cr.2.1,ep,(List.set co am (Belief.mk y7.2.1.1 cv.1 dw.1 dw.2.1 dw.2.2.1 dw.2.2.2.1)),bt.1,ct.1,ct.2.1,o.1,de.1,de.2.1,ai.1,ba.1,bu.1,cu.1,cu.2.1,d.1,bh.1,br.1,l),()))) else none else none else Option.bind ((n9' dv).bind fun y8=>bif y8.1.1 then some (((),y2.1.2.1,bg,dv,bh.1,()),(ag,())) else some (((),y2.1.2.1,bg,dv,false,()),(ag,()))) fun y9=>letI bp:=y9.2.1
 letI dz:=bp.2
 letI af:=dz.2
 letI ax:=af.2
 letI bv:=ax.2
 letI ea:=bv.2
 letI h:=ea.2
 letI bx:=h.2
 letI dy:=bx.2
 letI u:=dy.2
 letI au:=u.2
 letI bb:=au.2
 letI bz:=bb.2.2
 letI ef:=bz.2
 letI c:=ef.2.2.2
 letI dm:=c.2
 letI eg:=dm.2
 letI ak:=eg.2.2.2
 letI bq:=ak.2.2
 letI cx:=bq.2
 letI eh:=cx.2
 letI g:=eh.2.2.2
 letI ck:=g.2.2
 letI ee:=ck.2
 letI ad:=ee.2.2
 letI cn:=y9.1.2
 letI dx:=cn.2
 letI aj:=dx.1
 letI be:=ad.2.2.2
 letI bk:=((),cn.1,(IntKind.i64.wrap (aj + (1:Int))),())
 letI cc:=(Int.toNat aj)
 letI cd:=(inB aj (List.length c.1))
 letI cy:=be.2
 letI db:=((),cn.1,aj,(),())
 letI ei:=cy.2
 letI el:=(bp,())
 bif dx.2.2.1 then Option.bind (bif (dx.2.1==(4:Int)) then (nfc' dy.1 u.1 au.1 bb.1).bind fun y10=>(nhs' bp.1 dz.1 af.1 ax.1 bv.1 ea.1 h.1 bx.1 dy.1 u.1 au.1 bb.1 y10.1.1 aj).bind fun y11=>some (db,(y11.2.1,el)) else some (db,((e,e,()),el))) fun y12=>letI aw:=y12.2.2.1
 letI bo:=aw.2
 letI ce:=bo.2
 letI m:=ce.2.2
 letI cw:=m.2
 letI ab:=cw.2.2
 letI ap:=ab.2.2.2
 letI bl:=ap.2.2
 letI cf:=bl.2
 letI df:=cf.2
 letI b:=df.2.2.2
 letI eb:=b.2
 letI al:=eb.2.2.2
 letI bm:=al.2.2
 letI ci:=bm.2
 letI di:=ci.2
 letI f:=di.2.2.2
 letI ec:=f.2
 letI s:=ec.2.2.2
 letI an:=y12.1.2.2.1
 letI ed:=s.2
 letI aq:=ed.2.2.2
 letI bi:=(Int.toNat an)
 letI bw:=aq.2
 letI em:=inB an
 letI cb:=(em (List.length b.1))
 letI cj:=bw.2
 letI dj:=cj.2
 bif (em (List.length f.1)) then let z4:CarInput:=(List.getD f.1 bi (CarInput.mk e false false false false e false e false e 0))
 bif cb then let z5:NewCar:=(List.getD b.1 bi av)
 (npq' aw.1 bo.1 ce.1 ce.2.1 m.1 cw.1 cw.2.1 ab.1 an z5.K2 z5.B2 z5.O1 z5.N2 z5.G2 z5.P2 z5.H2 z5.G1 z5.X1 z5.E1 z5.N1 z5.K3 z5.T4 z5.N3 z4.R1 z4.L2 z4.Y1 z4.M2 z4.N1 y12.2.1.1 y12.2.1.2.1).bind fun y13=>letI cg:=y13.2.1.2
 letI dg:=cg.2
 letI v:=dg.2.2.2
 letI bc:=v.2.2.2
 letI ch:=bc.2
 letI dh:=ch.2
 bif cb then bif (em (List.length s.1)) then some (Sum.inl (((),y12.1.2.1,(IntKind.i64.wrap (an + (1:Int))),()),((aw.1,bo.1,ce.1,ce.2.1,m.1,cw.1,cw.2.1,ab.1,ab.2.1,ab.2.2.1,ap.1,ap.2.1,bl.1,cf.1,df.1,df.2.1,df.2.2.1,(List.set b.1 bi (NewCar.mk y13.2.1.1 cg.1 dg.1 dg.2.1 dg.2.2.1 v.1 v.2.1 v.2.2.1 bc.1 ch.1 dh.1 dh.2.1 dh.2.2.1 dh.2.2.2.1)),eb.1,eb.2.1,eb.2.2.1,al.1,al.2.1,bm.1,ci.1,di.1,di.2.1,di.2.2.1,f.1,ec.1,ec.2.1,ec.2.2.1,(List.set s.1 bi y13.1.2.1),ed.1,ed.2.1,ed.2.2.1,aq.1,bw.1,cj.1,dj.1,dj.2.1,dj.2.2.1,dj.2.2.2.1,()),()))) else none else none else none else none else (n9' dx.2.1).bind fun y14=>bif y14.1.1 then bif cd then let z6:NewCar:=(List.getD c.1 cc av)
 (nni' bp.1 dz.1 af.1 ax.1 bv.1 ea.1 h.1 bx.1 aj z6.K2 z6.B2 z6.O1 z6.N2 z6.G2 z6.P2 z6.H2 z6.G1 z6.X1 z6.E1 z6.N1 z6.K3 z6.T4 z6.N3).bind fun y15=>letI cl:=y15.2.1.2
 letI dk:=cl.2
 letI w:=dk.2.2.2
 letI bd:=w.2.2.2
 letI cm:=bd.2
 letI dl:=cm.2
 bif cd then bif (inB aj (List.length ee.1)) then some (Sum.inl (bk,((bp.1,dz.1,af.1,ax.1,bv.1,ea.1,h.1,bx.1,dy.1,u.1,au.1,bb.1,bb.2.1,bz.1,ef.1,ef.2.1,ef.2.2.1,(List.set c.1 cc (NewCar.mk y15.2.1.1 cl.1 dk.1 dk.2.1 dk.2.2.1 w.1 w.2.1 w.2.2.1 bd.1 cm.1 dl.1 dl.2.1 dl.2.2.1 dl.2.2.2.1)),dm.1,eg.1,eg.2.1,eg.2.2.1,ak.1,ak.2.1,bq.1,cx.1,eh.1,eh.2.1,eh.2.2.1,g.1,g.2.1,ck.1,(List.set ee.1 cc y15.1.2.1),ee.2.1,ad.1,ad.2.1,ad.2.2.1,be.1,cy.1,ei.1,ei.2.1,ei.2.2.1,ei.2.2.2.1,()),()))) else none else none else none else some (Sum.inl (bk,el)) else none else some (Sum.inr ((),k))
noncomputable def nec':((Unit×Int×Int×Unit)×(T'65×Unit))→Option (Unit×(T'65×Unit)):=iter (fun x=>letI f:=x.2.1.2.2.2; letI j:=f.2.2; letI c:=j.2.2.2.2; letI m:=c.2.2; letI e:=m.2.2.2; letI k:=e.2.2; letI a:=k.2.2.2.2; letI g:=a.2.2.2.2; letI l:=g.2.2; letI b:=l.2.2.2.2; letI n:=b.2.2; letI d:=n.2.2.2; letI h:=d.2.2.2; nho' x.1.2.1 x.1.2.2.1 x.2.1.1 x.2.1.2.1 x.2.1.2.2.1 f.1 f.2.1 j.1 j.2.1 j.2.2.1 j.2.2.2.1 c.1 c.2.1 m.1 m.2.1 m.2.2.1 e.1 e.2.1 k.1 k.2.1 k.2.2.1 k.2.2.2.1 a.1 a.2.1 a.2.2.1 a.2.2.2.1 g.1 g.2.1 l.1 l.2.1 l.2.2.1 l.2.2.2.1 b.1 b.2.1 n.1 n.2.1 n.2.2.1 d.1 d.2.1 d.2.2.1 h.1 h.2.1 h.2.2.1 h.2.2.2.1 h.2.2.2.2.1) fuel
noncomputable def ncs' (p0 p1 p2 p3:Int) (p4 p5 p6:Nat) (p7:List Car) (p8:List Int) (p9 p10:List Bool) (p11:List Entry) (p12 p13:ByteArray) (p14:Int) (p15:List Debounced) (p16:List Belief) (p17:List NewCar) (p18:List Loaded) (p19:List Int) (p20:List Calls) (p21 p22 p23 p24 p25 p26 p27:Int) (p28:List CarInput) (p29:Bool) (p30:List Calls) (p31 p32:List Int) (p33 t_e p34 p35 p36 p37:Int) (p38 p39:Bool) (p40:Int) (p41:List CarOutput):Option (Unit×(T'65×Unit)):=
 letI b:=(0:Int)
 let z0:Int:=((List.length p7:Nat):Int)
 letI a:=(((decide (b≤z0))&&(decide (z0≤z0)))&&(decide (z0≤(2147483648:Int))))
 bif a then bif a then bif (Nat.ble ((List.length ([]:List Int)) + (List.length p8)) 2147483648) then (nec' (((),z0,b,()),((p0,p1,p2,p3,p4,p5,p6,p7,p8,p9,p10,p11,p12,p13,p14,p15,p16,p17,p18,p19,p20,p21,p22,p23,p24,p25,p26,p27,p28,p29,(List.replicate (Int.toNat z0) (Calls.mk b b)),(([]:List Int)++p8),(List.replicate (Int.toNat z0) b),p33,t_e,p34,p35,p36,p37,p38,p39,p40,p41,()),()))).bind fun y1=>some ((),(y1.2.1,())) else none else none else none
noncomputable def nis' (p0 p1 p2 p3:Int) (p4 p5 p6:Nat) (p7:List Car) (p8:List Int) (p9 p10:List Bool) (p11:List Entry):Option ((Bool×Unit)×Unit):=
 Option.bind ((n7' p0 p1 p2 p3 p4 p5 p6 p7 p8 p9 p10 p11).bind fun y1=>bif y1.1.1 then some (((decide ((IntKind.i64.wrap ((IntKind.i64.wrap ((18:Int) * (IntKind.i64.wrap ((IntKind.i64.wrap (((List.length p7:Nat):Int) + ((List.length p11:Nat):Int))) + (1:Int))))) + (6:Int)))≤p2)),()),()) else some ((false,()),())) fun y2=>some ((y2.1.1,()),())
noncomputable def nlk' (p0 p1 p2 p3:Int) (p4 p5 p6:Nat) (p7:List Car) (p8 p9:ByteArray) (p10:Int) (p11:List Int) (p12 p13:List Bool) (p14:List Entry) (p15 p16 p17 p18 p19 p20:Int):Option (T'24×(T'32×T'18×Unit)):=
 letI b:=List Bool
 letI d:=(0:Int)
 letI h:=List Entry
 letI j:=List Int
 letI k:=(d,())
 letI m:=(p0,p1,p2,p3,p4,p5,p6,p7,())
 letI r:=((),(),d,(1:Int),())
 letI s:=(p15,p16,p17,p18,p19,())
 letI v:=(p11,p12,p13,p14,())
 letI aa:=(p20,(),(),(),(),(),(),false,())
 letI af:=(p8,p9,p10,())
 (nm5' p0 p1 p2 p3 p4 p5 p6 p7 p8 p9 p10 p20).bind fun y1=>bif (! y1.1.1) then some (r,(((ByteArray.mk (Array.mk [])),(ByteArray.mk (Array.mk [])),k),(([]:j),([]:b),([]:b),([]:h),()),())) else (n7' p0 p1 p2 p3 p4 p5 p6 p7 p11 p12 p13 p14).bind fun y2=>bif (! y2.1.1) then some (r,(((ByteArray.mk (Array.mk [])),(ByteArray.mk (Array.mk [])),k),(([]:j),([]:b),([]:b),([]:h),()),())) else (nfz' p0 p1 p2 p3 p4 p5 p6 p7 p15 p16 p17 p18 p19).bind fun y3=>bif (! y3.1.1) then some (r,(((ByteArray.mk (Array.mk [])),(ByteArray.mk (Array.mk [])),k),(([]:j),([]:b),([]:b),([]:h),()),())) else Option.bind (bif (p15==(1:Int)) then (nfi' p11 p12 p13 p14 p16 p17).bind fun y4=>bif (decide (y4.1.1 < d)) then (nis' p0 p1 p2 p3 p4 p5 p6 p7 p11 p12 p13 p14).bind fun y5=>some ((p20,(),(),(),(),(),(),(! y5.1.1),()),(m,af,v,s,((ByteArray.mk (Array.mk [])),(ByteArray.mk (Array.mk [])),k),(([]:j),([]:b),([]:b),([]:h),()),())) else some (aa,(m,af,v,s,((ByteArray.mk (Array.mk [])),(ByteArray.mk (Array.mk [])),k),(([]:j),([]:b),([]:b),([]:h),()),())) else some (aa,(m,af,v,s,((ByteArray.mk (Array.mk [])),(ByteArray.mk (Array.mk [])),k),(([]:j),([]:b),([]:b),([]:h),()),()))) fun y6=>letI ab:=y6.2.1
 letI aj:=ab.2
 letI a:=aj.2
 letI c:=y6.2.2
 letI e:=c.2
 letI an:=a.2
 letI f:=an.2
 letI g:=e.2
 letI l:=g.1.2
 letI n:=c.1
 letI q:=f.2
 letI w:=n.2
 letI ad:=q.2
 letI ae:=l.2
 letI ag:=a.1
 letI ah:=e.1
 letI ai:=w.2.1
 letI ak:=ae.2
 letI ao:=ad.2.1
 bif y6.1.2.2.2.2.2.2.2.1 then some (((),(),d,(7:Int),()),(((ByteArray.mk (Array.mk [])),(ByteArray.mk (Array.mk [])),k),(([]:j),([]:b),([]:b),([]:h),()),())) else (nhw' ab.1 aj.1 ag an.1 f.1 q.1 ad.1 ao ah.1 ah.2.1 ah.2.2.1 ah.2.2.2.1 g.1.1 l.1 ae.1 ak.1 ak.2.1).bind fun y7=>letI al:=y7.2.1
 letI u:=(ah,g.2.1,g.2.2.1,al,())
 Option.bind ((nhn' n.1 w.1 ai).bind fun y8=>bif (decide ((IntKind.i64.wrap (((ByteArray.size y8.1.1:Nat):Int) + (6:Int)))≤ag)) then (njo' ab.1 aj.1 ag an.1 f.1 q.1 ad.1 ao [(Record.mk g.1.1 l.1 ae.1 ak.1 ak.2.1)]).bind fun y9=>(nju' ag n.1 w.1 ai ai y9.1.1 y6.1.1).bind fun y10=>some ((y10.1.2.1,(),(),(),(),(),y10.1.2.2.1,()),(y10.2.1,u)) else (nhf' ab.1 aj.1 ag an.1 f.1 q.1 ad.1 ao n.1 w.1 ai al.1 al.2.1 al.2.2.1 al.2.2.2.1 y6.1.1).bind fun y11=>some ((y11.1.2.1,(),(),(),(),(),y11.1.2.2.1,()),(y11.2.1,u))) fun y12=>letI o:=y12.1.2.2.2.2.2.2.1
 letI am:=((),(),d,o,())
 bif (o==d) then some (((),(),y12.1.1,k),(y12.2.1,y12.2.2.2.2.2.1,())) else bif (o==(8:Int)) then some (am,(y12.2.1,y12.2.2.1,())) else some (am,(((ByteArray.mk (Array.mk [])),(ByteArray.mk (Array.mk [])),k),(([]:j),([]:b),([]:b),([]:h),()),()))
noncomputable def ngs' (l:List Record) (i p0 p1 p2 p3:Int) (p4 p5 p6:Nat) (p7:List Car) (p8:List Int) (p9 p10:List Bool) (p11:List Entry) (p12 p13:ByteArray) (p14:Int) (p15:List Debounced) (p16:List Belief) (p17:List NewCar) (p18:List Loaded) (p19:List Int) (p20:List Calls) (p21 p22 p23 p24 p25 p26 p27:Int) (p28:List CarInput) (p29:Bool) (p30:List Calls) (p31 p32:List Int) (p33 t_e p34 p35 p36 p37:Int) (p38 p39:Bool) (p40:Int) (p41:List CarOutput):Option (Sum (T'33×(T'65×Unit)) (Unit×(T'65×Unit))):=
 letI e:=(p34,p35,p36,p37,p38,p39,p40,p41,())
 letI a:=((),((p0,p1,p2,p3,p4,p5,p6,p7,p8,p9,p10,p11,p12,p13,p14,p15,p16,p17,p18,p19,p20,p21,p22,p23,p24,p25,p26,p27,p28,p29,p30,p31,p32,p33,t_e,e),()))
 letI c:=(0:Int)
 letI d:=((),l,(IntKind.i64.wrap (i + (1:Int))),())
 bif (decide (i < ((List.length l:Nat):Int))) then bif (t_e==c) then bif (inB i (List.length l)) then let z0:Record:=(List.getD l (Int.toNat i) (Record.mk c c c c c))
 (nlk' p0 p1 p2 p3 p4 p5 p6 p7 p12 p13 p14 p8 p9 p10 p11 z0.U0 z0.C0 z0.G0 z0.O0 z0.U1 p33).bind fun y1=>letI b:=(y1.2.1.1,y1.2.1.2.1,y1.2.1.2.2.1,p15,p16,p17,p18,p19,p20,p21,p22,p23,p24,p25,p26,p27,p28,p29,p30,p31,p32,y1.1.2.2.1,y1.1.2.2.2.1,e)
 letI f:=y1.2.2.1
 bif (y1.1.2.2.2.1==c) then some (Sum.inl (d,((p0,p1,p2,p3,p4,p5,p6,p7,f.1,f.2.1,f.2.2.1,f.2.2.2.1,b),()))) else some (Sum.inl (d,((p0,p1,p2,p3,p4,p5,p6,p7,p8,p9,p10,p11,b),()))) else none else some (Sum.inr a) else some (Sum.inr a)
noncomputable def ndn':(T'33×(T'65×Unit))→Option (Unit×(T'65×Unit)):=iter (fun x=>letI f:=x.2.1.2.2.2; letI j:=f.2.2; letI c:=j.2.2.2.2; letI m:=c.2.2; letI e:=m.2.2.2; letI k:=e.2.2; letI a:=k.2.2.2.2; letI g:=a.2.2.2.2; letI l:=g.2.2; letI b:=l.2.2.2.2; letI n:=b.2.2; letI d:=n.2.2.2; letI h:=d.2.2.2; ngs' x.1.2.1 x.1.2.2.1 x.2.1.1 x.2.1.2.1 x.2.1.2.2.1 f.1 f.2.1 j.1 j.2.1 j.2.2.1 j.2.2.2.1 c.1 c.2.1 m.1 m.2.1 m.2.2.1 e.1 e.2.1 k.1 k.2.1 k.2.2.1 k.2.2.2.1 a.1 a.2.1 a.2.2.1 a.2.2.2.1 g.1 g.2.1 l.1 l.2.1 l.2.2.1 l.2.2.2.1 b.1 b.2.1 n.1 n.2.1 n.2.2.1 d.1 d.2.1 d.2.2.1 h.1 h.2.1 h.2.2.1 h.2.2.2.1 h.2.2.2.2.1) fuel
noncomputable def n0' (l:List Record) (p0 p1 p2 p3:Int) (p4 p5 p6:Nat) (p7:List Car) (p8:List Int) (p9 p10:List Bool) (p11:List Entry) (p12 p13:ByteArray) (p14:Int) (p15:List Debounced) (p16:List Belief) (p17:List NewCar) (p18:List Loaded) (p19:List Int) (p20:List Calls) (p21 p22 p23 p24 p25 p26 p27:Int) (p28:List CarInput) (p29:Bool) (p30:List Calls) (p31 p32:List Int) (p33 t_e p34 p35 p36 p37:Int) (p38 p39:Bool) (p40:Int) (p41:List CarOutput):Option (Unit×(T'65×Unit)):=
 (ndn' (((),l,(0:Int),()),((p0,p1,p2,p3,p4,p5,p6,p7,p8,p9,p10,p11,p12,p13,p14,p15,p16,p17,p18,p19,p20,p21,p22,p23,p24,p25,p26,p27,p28,p29,p30,p31,p32,p33,t_e,p34,p35,p36,p37,p38,p39,p40,p41,()),()))).bind fun y1=>some ((),(y1.2.1,()))
noncomputable def ngr' (l:List Record) (i p0 p1 p2 p3:Int) (p4 p5 p6:Nat) (p7:List Car) (p8:List Int) (p9 p10:List Bool) (p11:List Entry) (p12 p13:ByteArray) (p14:Int) (p15:List Debounced) (p16:List Belief) (p17:List NewCar) (p18:List Loaded) (p19:List Int) (p20:List Calls) (p21 p22 p23 p24 p25 p26 p27:Int) (p28:List CarInput) (p29:Bool) (p30:List Calls) (p31 p32:List Int) (p33 t_e p34 p35 p36 p37:Int) (p38 p39:Bool) (p40:Int) (p41:List CarOutput):Option (Sum (T'33×(T'65×Unit)) (T'34×(T'65×Unit))):=
 letI a:=((p0,p1,p2,p3,p4,p5,p6,p7,p8,p9,p10,p11,p12,p13,p14,p15,p16,p17,p18,p19,p20,p21,p22,p23,p24,p25,p26,p27,p28,p29,p30,p31,p32,p33,t_e,p34,p35,p36,p37,p38,p39,p40,p41,()),())
 letI b:=(0:Int)
 letI h:=(Int.toNat i)
 letI c:=(((),l,i,(! (List.getD p9 h false)),()),a)
 letI d:=(List.getD p17 h (NewCar.mk b b b b b false b b b b b b b false)).N3
 letI e:=(((),l,i,false,()),a)
 letI f:=(inB i (List.length p9))
 letI k:=(inB i (List.length p17))
 bif (decide (i < ((List.length p7:Nat):Int))) then bif (inB i (List.length p31)) then let z0:Int:=(List.getD p31 h b)
 Option.bind ((n6' z0).bind fun y1=>bif y1.1.1 then bif (inB i (List.length p16)) then bif (List.getD p16 h (Belief.mk b b b [] b false)).Y2 then bif f then some c else none else (n9' z0).bind fun y2=>bif y2.1.1 then bif k then bif d then bif f then some c else none else some e else none else some e else none else (n9' z0).bind fun y3=>bif y3.1.1 then bif k then bif d then bif f then some c else none else some e else none else some e) fun y4=>letI j:=y4.1.2
 letI g:=((IntKind.i64.wrap (j.2.1 + (1:Int))),())
 bif j.2.2.1 then let z1:List ( Record ):=[(Record.mk (5:Int) b b j.2.1 (1:Int))]
 bif (Nat.ble ((List.length j.1) + (List.length z1)) 2147483648) then some (Sum.inl (((),(j.1++z1),g),(y4.2.1,()))) else none else some (Sum.inl (((),j.1,g),(y4.2.1,()))) else none else some (Sum.inr (((),l,()),a))
noncomputable def nds':(T'33×(T'65×Unit))→Option (T'34×(T'65×Unit)):=iter (fun x=>letI f:=x.2.1.2.2.2; letI j:=f.2.2; letI c:=j.2.2.2.2; letI m:=c.2.2; letI e:=m.2.2.2; letI k:=e.2.2; letI a:=k.2.2.2.2; letI g:=a.2.2.2.2; letI l:=g.2.2; letI b:=l.2.2.2.2; letI n:=b.2.2; letI d:=n.2.2.2; letI h:=d.2.2.2; ngr' x.1.2.1 x.1.2.2.1 x.2.1.1 x.2.1.2.1 x.2.1.2.2.1 f.1 f.2.1 j.1 j.2.1 j.2.2.1 j.2.2.2.1 c.1 c.2.1 m.1 m.2.1 m.2.2.1 e.1 e.2.1 k.1 k.2.1 k.2.2.1 k.2.2.2.1 a.1 a.2.1 a.2.2.1 a.2.2.2.1 g.1 g.2.1 l.1 l.2.1 l.2.2.1 l.2.2.2.1 b.1 b.2.1 n.1 n.2.1 n.2.2.1 d.1 d.2.1 d.2.2.1 h.1 h.2.1 h.2.2.1 h.2.2.2.1 h.2.2.2.2.1) fuel
noncomputable def ncl' (p0 p1 p2 p3:Int) (p4 p5 p6:Nat) (p7:List Car) (p8:List Int) (p9 p10:List Bool) (p11:List Entry) (p12 p13:ByteArray) (p14:Int) (p15:List Debounced) (p16:List Belief) (p17:List NewCar) (p18:List Loaded) (p19:List Int) (p20:List Calls) (p21 p22 p23 p24 p25 p26 p27:Int) (p28:List CarInput) (p29:Bool) (p30:List Calls) (p31 p32:List Int) (p33 t_e p34 p35 p36 p37:Int) (p38 p39:Bool) (p40:Int) (p41:List CarOutput):Option (Unit×(T'65×Unit)):=
 (nds' (((),([]:List Record),(0:Int),()),((p0,p1,p2,p3,p4,p5,p6,p7,p8,p9,p10,p11,p12,p13,p14,p15,p16,p17,p18,p19,p20,p21,p22,p23,p24,p25,p26,p27,p28,p29,p30,p31,p32,p33,t_e,p34,p35,p36,p37,p38,p39,p40,p41,()),()))).bind fun y1=>letI g:=y1.2.1.2.2.2
 letI k:=g.2.2
 letI q:=k.2
 letI c:=q.2.2.2
 letI r:=c.2
 letI e:=r.2.2.2
 letI h:=e.2.2
 letI m:=h.2
 letI s:=m.2
 letI a:=s.2.2.2
 letI u:=a.2
 letI f:=u.2.2.2
 letI l:=f.2.2
 letI v:=l.2
 letI b:=v.2.2.2
 letI n:=b.2
 letI w:=n.2
 letI d:=w.2.2.2
 letI j:=d.2.2
 letI o:=j.2
 letI aa:=o.2
 (n0' y1.1.2.1 y1.2.1.1 y1.2.1.2.1 y1.2.1.2.2.1 g.1 g.2.1 k.1 q.1 q.2.1 q.2.2.1 c.1 r.1 r.2.1 r.2.2.1 e.1 e.2.1 h.1 m.1 s.1 s.2.1 s.2.2.1 a.1 u.1 u.2.1 u.2.2.1 f.1 f.2.1 l.1 v.1 v.2.1 v.2.2.1 b.1 n.1 w.1 w.2.1 w.2.2.1 d.1 d.2.1 j.1 o.1 aa.1 aa.2.1 aa.2.2.1 aa.2.2.2.1).bind fun y2=>some ((),(y2.2.1,()))
noncomputable def nnt' (p0 p1 p2 p3:Int) (p4 p5 p6:Nat) (p7:List Car) (car p8 p9 p10:Int) (p11:List Duty) (p12:Int) (p13:Bool):Option ((Bool×Unit)×Unit):=
 letI a:=(0:Int)
 letI b:=((false,()),())
 Option.bind ((nbx' p0 p1 p2 p3 p4 p5 p6 p7 car p8 p9 p10 p11 p12 p13).bind fun y1=>bif y1.1.1 then bif (((List.length p11:Nat):Int)==a) then bif (p10==(2:Int)) then bif (inB car (List.length p7)) then some (((decide ((List.getD p7 (Int.toNat car) (Car.mk a a a a a a a a a)).G3≤p12)),()),()) else none else some b else some b else some b) fun y2=>some ((y2.1.1,()),())
noncomputable def nnd' (p0 p1 p2 p3:Int) (p4 p5 p6:Nat) (p7:List Car) (p8 p9 p10 p11 p12:Int) (p13:Bool) (p14 p15 p16 p17 p18 p19 p20:Int) (p21:Bool) (p22:Int) (p23:Bool) (p24:Int) (p25:Bool):Option ((Bool×Unit)×Unit):=
 letI a:=((false,()),())
 letI b:=(0:Int)
 Option.bind ((nd3' p0 p1 p2 p3 p4 p5 p6 p7 p8 p9 p10 p11 p12 p13 p14 p15 p16 p17 p18 p19 p20 p21).bind fun y1=>bif y1.1.1 then bif (! p21) then bif ((p10==b)&&((p11==b)&&((p12==b)&&((p13==false)&&((p14==b)&&true))))) then bif ((p15==b)&&((p16==b)&&((p17==b)&&true))) then bif (p18==b) then bif p23 then some (((p24==(2:Int)),()),()) else some a else some a else some a else some a else some a else some a) fun y2=>some ((y2.1.1,()),())
noncomputable def nhd' (t:r27_ticker) (out:List Bool) (i:Int):Option (Sum (T'77×Unit) ((List Bool×Unit)×Unit)):=
 letI a:=(0:Int)
 letI b:=((IntKind.i64.wrap (i + (1:Int))),())
 letI c:=(Int.toNat i)
 letI d:=List.length out
 letI e:=inB i
 bif (decide (i < ((d:Nat):Int))) then bif (e (List.length t.m_Image_Phases)) then let z0:Int:=(List.getD t.m_Image_Phases c a)
 (n6' z0).bind fun y1=>bif y1.1.1 then bif (e (List.length t.m_Beliefs)) then let z1:Belief:=(List.getD t.m_Beliefs c (Belief.mk a a a [] a false))
 (nnt' t.b_Floors t.b_Debounce t.b_Room t.b_Park t.b_Empty t.b_Full t.b_Over t.b_Cars i z1.C0 z1.G0 z1.Z2 z1.M0 z1.R2 z1.Y2).bind fun y2=>bif (e (d)) then some (Sum.inl ((t,(List.set out c y2.1.1),b),())) else none else none else (n9' z0).bind fun y3=>bif y3.1.1 then bif (e (List.length t.m_Cars)) then let z2:NewCar:=(List.getD t.m_Cars c (NewCar.mk a a a a a false a a a a a a a false))
 bif (e (List.length t.x_Cars)) then let z3:CarInput:=(List.getD t.x_Cars c (CarInput.mk a false false false false a false a false a 0))
 (nnd' t.b_Floors t.b_Debounce t.b_Room t.b_Park t.b_Empty t.b_Full t.b_Over t.b_Cars z2.K2 z2.B2 z2.O1 z2.N2 z2.G2 z2.P2 z2.H2 z2.G1 z2.X1 z2.E1 z2.N1 z2.K3 z2.T4 z2.N3 z3.R1 z3.L2 z3.Y1 z3.M2).bind fun y4=>bif (e (d)) then some (Sum.inl ((t,(List.set out c y4.1.1),b),())) else none else none else none else some (Sum.inl ((t,out,b),())) else none else some (Sum.inr ((out,()),()))
noncomputable def nd6':(T'77×Unit)→Option ((List Bool×Unit)×Unit):=iter (fun x=>nhd' x.1.1 x.1.2.1 x.1.2.2.1) fuel
noncomputable def nbd' (t:r27_ticker):Option ((List Bool×Unit)×Unit):=
 let z0:Int:=((List.length t.b_Cars:Nat):Int)
 bif (((decide ((0:Int)≤z0))&&(decide (z0≤z0)))&&(decide (z0≤(2147483648:Int)))) then (nd6' ((t,(List.replicate (Int.toNat z0) false),(0:Int),()),())).bind fun y1=>some ((y1.1.1,()),()) else none
noncomputable def nq1' (n i:Int) (p0:List Int) (p1 p2:List Bool) (p3:List Entry):Option (Sum ((Unit×Int×Int×Unit)×(T'18×Unit)) ((Int×Unit)×Unit)):=
 letI f:=((p0,p1,p2,p3,()),())
 letI a:=(((),n,i,(List.getD p2 (Int.toNat i) false),()),f)
 letI c:=(List.getD p0 (Int.toNat i) (0:Int))
 letI d:=List.length p0
 letI e:=(inB i (List.length p2))
 bif (decide (i < ((d:Nat):Int))) then Option.bind (bif (inB i (d)) then bif (c != (0:Int)) then bif (inB i (d)) then bif (c != (4:Int)) then some (((),n,i,true,()),f) else bif e then some a else none else none else bif e then some a else none else none) fun y1=>letI b:=((IntKind.i64.wrap (y1.1.2.2.1 + (1:Int))),())
 bif y1.1.2.2.2.1 then some (Sum.inl (((),(IntKind.i64.wrap (y1.1.2.1 + (1:Int))),b),(y1.2.1,()))) else some (Sum.inl (((),y1.1.2.1,b),(y1.2.1,()))) else some (Sum.inr ((n,()),()))
noncomputable def nmb':((Unit×Int×Int×Unit)×(T'18×Unit))→Option ((Int×Unit)×Unit):=iter (fun x=>nq1' x.1.2.1 x.1.2.2.1 x.2.1.1 x.2.1.2.1 x.2.1.2.2.1 x.2.1.2.2.2.1) fuel
noncomputable def nj0' (p0:List Int) (p1 p2:List Bool) (p3:List Entry):Option ((Int×Unit)×Unit):=
 (nmb' (((),(0:Int),(0:Int),()),((p0,p1,p2,p3,()),()))).bind fun y1=>some ((y1.1.1,()),())
noncomputable def neh' (car to:Int):Option ((List Record×Unit)×Unit):=
 some (([(Record.mk (4:Int) (0:Int) (0:Int) car to)],()),())
noncomputable def njr' (p0 p1 p2 p3:Int) (p4 p5 p6:Nat) (p7:List Car) (p8:List Int) (p9 p10:List Bool) (p11:List Entry) (p12 p13:Int) (p14:List Bool):Option (T'22×Unit):=
 letI a:=(0:Int)
 letI b:=List Record
 letI h:=(Int.toNat p13)
 letI ae:=(List.getD p9 h false)
 letI d:=((p12,p13,()),())
 letI c:=(((),ae,()),d)
 letI e:=((260:Int),())
 letI aa:=inB p13
 letI f:=(aa (List.length p9))
 letI g:=(a,())
 letI j:=(((),false,()),d)
 letI r:=(6:Int)
 letI k:=(p12==r)
 letI l:=(2:Int)
 letI m:=(3:Int)
 letI n:=(1:Int)
 letI o:=(5:Int)
 letI q:=neh' p13
 letI s:=(4:Int)
 letI u:=((List.length p7:Nat):Int)
 letI v:=List.length p14
 letI w:=(! (List.getD p14 h false))
 letI ab:=(p12==m)
 letI ad:=(p12==o)
 letI af:=(nj0' p8 p9 p10 p11)
 letI ag:=Record.mk r a a
 letI ah:=(((),true,()),d)
 (n7' p0 p1 p2 p3 p4 p5 p6 p7 p8 p9 p10 p11).bind fun y1=>bif (! y1.1.1) then some ((([]:b),n,()),()) else bif (((v:Nat):Int) != u) then some ((([]:b),n,()),()) else bif (decide (p12 < a)) then some ((([]:b),r,()),()) else bif (decide ((8:Int) < p12)) then some ((([]:b),r,()),()) else bif (decide (p13 < a)) then some ((([]:b),l,()),()) else bif (decide (u≤p13)) then some ((([]:b),l,()),()) else bif (aa (List.length p8)) then let z0:Int:=(List.getD p8 h a)
 bif (aa (List.length p10)) then let z1:Bool:=(List.getD p10 h false)
 bif (p12==n) then bif (z0 != a) then some ((([]:b),e),()) else af.bind fun y2=>bif (decide (a < y2.1.1)) then some ((([]:b),(261:Int),()),()) else (q n).bind fun y3=>some ((y3.1.1,g),()) else bif (p12==l) then bif (z0==n) then (q a).bind fun y4=>some ((y4.1.1,g),()) else Option.bind (bif (z0==s) then some (((),z1,()),d) else some j) fun y5=>bif y5.1.2.1 then some (([(ag y5.2.1.2.1 a)],g),()) else some ((([]:b),e),()) else bif ab then bif (z0 != l) then some ((([]:b),e),()) else bif ab then (q a).bind fun y6=>some ((y6.1.1,g),()) else (q m).bind fun y7=>some ((y7.1.1,g),()) else bif (p12==s) then bif (z0 != l) then some ((([]:b),e),()) else bif ab then (q a).bind fun y8=>some ((y8.1.1,g),()) else (q m).bind fun y9=>some ((y9.1.1,g),()) else bif ad then bif (z0 != m) then some ((([]:b),e),()) else Option.bind (bif ad then bif (aa (v)) then bif w then some ah else bif k then bif f then some c else none else some j else none else bif k then bif f then some c else none else some j) fun y10=>bif y10.1.2.1 then some ((([]:b),(262:Int),()),()) else bif (y10.2.1.1==o) then (neh' y10.2.1.2.1 l).bind fun y11=>some ((y11.1.1,g),()) else (neh' y10.2.1.2.1 s).bind fun y12=>some ((y12.1.1,g),()) else bif k then bif (z0 != m) then some ((([]:b),e),()) else Option.bind (bif ad then bif (aa (v)) then bif w then some ah else bif k then bif f then some c else none else some j else none else bif k then bif f then some c else none else some j) fun y13=>bif y13.1.2.1 then some ((([]:b),(262:Int),()),()) else bif (y13.2.1.1==o) then (neh' y13.2.1.2.1 l).bind fun y14=>some ((y14.1.1,g),()) else (neh' y13.2.1.2.1 s).bind fun y15=>some ((y15.1.1,g),()) else bif (p12==(7:Int)) then bif (z0 != s) then some ((([]:b),e),()) else bif z1 then some ((([]:b),e),()) else af.bind fun y16=>bif (decide (a < y16.1.1)) then some ((([]:b),(261:Int),()),()) else some (([(ag p13 n)],g),()) else bif (p12==(8:Int)) then bif f then bif (! ae) then some ((([]:b),e),()) else some (([(Record.mk o a a p13 a)],g),()) else none else some ((([]:b),g),()) else none else none
noncomputable def nol' (car i:Int) (p0:List Int) (p1 p2:List Bool) (p3:List Entry):Option (Sum ((Int×Unit×Int×Unit)×(T'18×Unit)) ((Unit×Unit) ⊕ ((Bool×Unit)×Unit))):=
 letI a:=(0:Int)
 bif (decide (i < ((List.length p3:Nat):Int))) then bif (inB i (List.length p3)) then bif ((List.getD p3 (Int.toNat i) (Entry.mk a a a a false)).O0==car) then some (Sum.inr (Sum.inr ((false,()),()))) else some (Sum.inl ((car,(),(IntKind.i64.wrap (i + (1:Int))),()),((p0,p1,p2,p3,()),()))) else none else some (Sum.inr (Sum.inl ((),())))
noncomputable def nip':((Int×Unit×Int×Unit)×(T'18×Unit))→Option ((Unit×Unit) ⊕ ((Bool×Unit)×Unit)):=iter (fun x=>nol' x.1.1 x.1.2.2.1 x.2.1.1 x.2.1.2.1 x.2.1.2.2.1 x.2.1.2.2.2.1) fuel
noncomputable def nhb' (p0:List Int) (p1 p2:List Bool) (p3:List Entry) (car:Int):Option ((Bool×Unit)×Unit):=
 (nip' ((car,(),(0:Int),()),((p0,p1,p2,p3,()),()))).bind fun y1=>(match y1 with
 | .inl y2=>
 some ((true,()),())
 | .inr y2=>
 some ((y2.1.1,()),()))
noncomputable def nt7' (p0:List Bool) (out:List Record) (i:Int) (p1:List Int) (p2 p3:List Bool) (p4:List Entry):Option (Sum (T'78×(T'18×Unit)) ((List Record×Unit)×Unit)):=
 letI e:=(0:Int)
 letI o:=((p1,p2,p3,p4,()),())
 bif (decide (i < ((List.length p1:Nat):Int))) then Option.bind (bif (inB i (List.length p1)) then bif ((List.getD p1 (Int.toNat i) e)==(4:Int)) then bif (inB i (List.length p3)) then some ((p0,(),out,i,(List.getD p3 (Int.toNat i) false),()),o) else none else some ((p0,(),out,i,false,()),o) else none) fun y1=>letI a:=y1.1.2.2
 letI b:=a.2
 letI j:=y1.2.1
 letI s:=(j,())
 letI l:=b.2.1
 letI q:=y1.1.1
 letI h:=b.1
 letI d:=((q,(),a.1,h,l,true,()),s)
 Option.bind (bif (inB h (List.length q)) then bif (! (List.getD q (Int.toNat h) false)) then some d else (nhb' j.1 j.2.1 j.2.2.1 j.2.2.2.1 h).bind fun y2=>bif (! y2.1.1) then some d else bif (inB h (List.length j.1)) then bif ((List.getD j.1 (Int.toNat h) e) != (1:Int)) then some ((q,(),a.1,h,l,(! l),()),s) else some ((q,(),a.1,h,l,false,()),s) else none else none) fun y3=>letI c:=y3.1.2.2
 letI k:=c.2
 letI m:=k.1
 letI r:=(y3.2.1,())
 bif k.2.2.1 then some (Sum.inl ((y3.1.1,(),c.1,(IntKind.i64.wrap (m + (1:Int))),()),r)) else (neh' m (2:Int)).bind fun y4=>bif (Nat.ble ((List.length c.1) + (List.length y4.1.1)) 2147483648) then let z0:List ( Record ):=(c.1++y4.1.1)
 Option.bind (bif k.2.1 then let z1:List ( Record ):=[(Record.mk (6:Int) e e m e)]
 bif (Nat.ble ((List.length z0) + (List.length z1)) 2147483648) then some ((y3.1.1,(),(z0++z1),m,()),r) else none else some ((y3.1.1,(),z0,m,()),r)) fun y5=>letI f:=y5.1.2.2
 letI n:=f.2.1
 letI g:=((IntKind.i64.wrap (n + (1:Int))),())
 bif (inB n (List.length y5.2.1.2.1)) then bif (List.getD y5.2.1.2.1 (Int.toNat n) false) then let z2:List ( Record ):=[(Record.mk (5:Int) e e n e)]
 bif (Nat.ble ((List.length f.1) + (List.length z2)) 2147483648) then some (Sum.inl ((y5.1.1,(),(f.1++z2),g),(y5.2.1,()))) else none else some (Sum.inl ((y5.1.1,(),f.1,g),(y5.2.1,()))) else none else none else some (Sum.inr ((out,()),()))
noncomputable def np7':(T'78×(T'18×Unit))→Option ((List Record×Unit)×Unit):=iter (fun x=>nt7' x.1.1 x.1.2.2.1 x.1.2.2.2.1 x.2.1.1 x.2.1.2.1 x.2.1.2.2.1 x.2.1.2.2.2.1) fuel
noncomputable def nls' (p0 p1 p2 p3:Int) (p4 p5 p6:Nat) (p7:List Car) (p8:List Int) (p9 p10:List Bool) (p11:List Entry) (p12:List Bool):Option ((List Record×Unit)×Unit):=
 letI a:=List Record
 (n7' p0 p1 p2 p3 p4 p5 p6 p7 p8 p9 p10 p11).bind fun y1=>bif (! y1.1.1) then some ((([]:a),()),()) else bif (((List.length p12:Nat):Int) != ((List.length p7:Nat):Int)) then some ((([]:a),()),()) else (np7' ((p12,(),([]:a),(0:Int),()),((p8,p9,p10,p11,()),()))).bind fun y2=>some ((y2.1.1,()),())
noncomputable def nid' (p0 p1 p2 p3:Int) (p4 p5 p6:Nat) (p7:List Car) (car p8 p9 p10:Int) (p11:List Duty) (p12:Int) (p13:Bool):Option ((Unit×Int×Unit)×(T'37×Unit)):=
 letI a:=(0:Int)
 (nbx' p0 p1 p2 p3 p4 p5 p6 p7 car p8 p9 p10 p11 p12 p13).bind fun y1=>bif (! y1.1.1) then some (((),(1:Int),()),((a,a,a,([]:List Duty),a,false,()),())) else some (((),a,()),((p8,p9,p10,([]:List Duty),a,false,()),()))
noncomputable def ngl' (p0 p1:List Bool) (i p2 p3 p4 p5:Int) (p6 p7 p8:Nat) (p9:List Car) (p10:List Int) (p11 p12:List Bool) (p13:List Entry) (p14 p15:ByteArray) (p16:Int) (p17:List Debounced) (p18:List Belief) (p19:List NewCar) (p20:List Loaded) (p21:List Int) (p22:List Calls) (p23 p24 p25 p26 p27 p28 p29:Int) (p30:List CarInput) (p31:Bool) (p32:List Calls) (p33 p34:List Int) (p35 t_e p36 p37 p38 p39:Int) (p40 p41:Bool) (p42:Int) (p43:List CarOutput):Option (Sum (T'79×(T'65×Unit)) (Unit×(T'65×Unit))):=
 letI c:=((p2,p3,p4,p5,p6,p7,p8,p9,p10,p11,p12,p13,p14,p15,p16,p17,p18,p19,p20,p21,p22,p23,p24,p25,p26,p27,p28,p29,p30,p31,p32,p33,p34,p35,t_e,p36,p37,p38,p39,p40,p41,p42,p43,()),())
 letI f:=(0:Int)
 letI u:=(NewCar.mk f f f f f false f f f f f f f false)
 letI bf:=(((),p0,p1,i,true,()),c)
 letI bg:=(((),p0,p1,i,false,()),c)
 bif (decide (i < ((List.length p33:Nat):Int))) then bif (inB i (List.length p33)) then let z0:Int:=(List.getD p33 (Int.toNat i) f)
 bif (inB i (List.length p10)) then let z1:Int:=(List.getD p10 (Int.toNat i) f)
 Option.bind (bif (z0 != z1) then (n6' z0).bind fun y1=>bif y1.1.1 then (n6' z1).bind fun y2=>bif (! y2.1.1) then (n9' z0).bind fun y3=>bif y3.1.1 then (n9' z1).bind fun y4=>some (((),p0,p1,i,(! y4.1.1),()),c) else some bf else some bg else (n9' z0).bind fun y5=>bif y5.1.1 then (n9' z1).bind fun y6=>some (((),p0,p1,i,(! y6.1.1),()),c) else some bf else some bg) fun y7=>letI af:=y7.2.1
 letI ag:=af.2.2
 letI az:=ag.2
 letI bi:=az.2
 letI h:=bi.2.2.2
 letI aa:=h.2.2.2
 letI am:=aa.2.2
 letI bj:=am.2
 letI b:=bj.2.2.2
 letI au:=b.2
 letI bl:=au.2
 letI n:=bl.2.2.2
 letI aj:=n.2.2
 letI bb:=aj.2
 letI bm:=bb.2
 letI d:=bm.2.2.2
 letI ad:=y7.1.2
 letI ah:=ad.2
 letI j:=ah.2.1
 letI bt:=d.2
 letI k:=bt.2.2.2
 letI bu:=k.2
 letI r:=bu.2.2.2
 letI v:=(Int.toNat j)
 letI an:=inB j
 letI ao:=r.2.2
 letI ax:=ad.1
 letI ay:=ah.1
 letI bn:=ao.2
 bif ah.2.2.1 then (nfr').bind fun y8=>letI ba:=y8.2.1.2
 letI bk:=ba.2
 bif (an (List.length b.1)) then bif (an (List.length au.1)) then bif (an (List.length k.1)) then some (Sum.inl (((),ax,ay,(IntKind.i64.wrap (j + (1:Int))),()),((af.1,af.2.1,ag.1,az.1,bi.1,bi.2.1,bi.2.2.1,h.1,h.2.1,h.2.2.1,aa.1,aa.2.1,am.1,bj.1,bj.2.1,bj.2.2.1,(List.set b.1 v (Belief.mk y8.2.1.1 ba.1 bk.1 bk.2.1 bk.2.2.1 bk.2.2.2.1)),(List.set au.1 v u),bl.1,bl.2.1,bl.2.2.1,n.1,n.2.1,aj.1,bb.1,bm.1,bm.2.1,bm.2.2.1,d.1,bt.1,bt.2.1,bt.2.2.1,(List.set k.1 v f),bu.1,bu.2.1,bu.2.2.1,r.1,r.2.1,ao.1,bn.1,bn.2.1,bn.2.2.1,bn.2.2.2.1,()),()))) else none else none else none else Option.bind (bif (an (List.length ax)) then bif (List.getD ax v false) then bif (an (List.length ay)) then some (((),ax,ay,j,(! (List.getD ay v false)),()),(af,())) else none else some (((),ax,ay,j,false,()),(af,())) else none) fun y9=>letI ab:=y9.2.1.2
 letI ai:=ab.2
 letI bc:=ai.2
 letI g:=bc.2.2
 letI av:=g.2
 letI bo:=av.2
 letI q:=bo.2.2
 letI ak:=q.2.2
 letI bd:=ak.2
 letI bp:=bd.2
 letI a:=bp.2.2.2
 letI aw:=a.2
 letI bq:=aw.2
 letI o:=bq.2.2.2
 letI al:=o.2.2
 letI be:=al.2
 letI br:=be.2
 letI e:=br.2.2.2
 letI bv:=e.2
 letI l:=bv.2.2.2
 letI m:=y9.1.2.2.2.1
 letI bw:=l.2
 letI s:=bw.2.2.2
 letI w:=((),y9.1.2.1,y9.1.2.2.1,(IntKind.i64.wrap (m + (1:Int))),())
 letI ae:=(Int.toNat m)
 letI ap:=(inB m (List.length a.1))
 letI ar:=s.2.2
 letI bs:=ar.2
 bif y9.1.2.2.2.2.1 then bif ap then let z2:Belief:=(List.getD a.1 ae (Belief.mk f f f [] f false))
 (nid' y9.2.1.1 ab.1 ai.1 bc.1 bc.2.1 g.1 av.1 bo.1 m z2.C0 z2.G0 z2.Z2 z2.M0 z2.R2 z2.Y2).bind fun y10=>letI aq:=y10.2.1.2
 letI bh:=aq.2
 bif ap then bif (inB m (List.length aw.1)) then bif (inB m (List.length l.1)) then some (Sum.inl (w,((y9.2.1.1,ab.1,ai.1,bc.1,bc.2.1,g.1,av.1,bo.1,bo.2.1,q.1,q.2.1,ak.1,bd.1,bp.1,bp.2.1,bp.2.2.1,(List.set a.1 ae (Belief.mk y10.2.1.1 aq.1 bh.1 bh.2.1 bh.2.2.1 bh.2.2.2.1)),(List.set aw.1 ae u),bq.1,bq.2.1,bq.2.2.1,o.1,o.2.1,al.1,be.1,br.1,br.2.1,br.2.2.1,e.1,bv.1,bv.2.1,bv.2.2.1,(List.set l.1 ae f),bw.1,bw.2.1,bw.2.2.1,s.1,s.2.1,ar.1,bs.1,bs.2.1,bs.2.2.1,bs.2.2.2.1,()),()))) else none else none else none else none else some (Sum.inl (w,(y9.2.1,()))) else none else none else some (Sum.inr ((),c))
noncomputable def nby':(T'79×(T'65×Unit))→Option (Unit×(T'65×Unit)):=iter (fun x=>letI f:=x.2.1.2.2.2; letI j:=f.2.2; letI c:=j.2.2.2.2; letI m:=c.2.2; letI e:=m.2.2.2; letI k:=e.2.2; letI a:=k.2.2.2.2; letI g:=a.2.2.2.2; letI l:=g.2.2; letI b:=l.2.2.2.2; letI n:=b.2.2; letI d:=n.2.2.2; letI h:=d.2.2.2; ngl' x.1.2.1 x.1.2.2.1 x.1.2.2.2.1 x.2.1.1 x.2.1.2.1 x.2.1.2.2.1 f.1 f.2.1 j.1 j.2.1 j.2.2.1 j.2.2.2.1 c.1 c.2.1 m.1 m.2.1 m.2.2.1 e.1 e.2.1 k.1 k.2.1 k.2.2.1 k.2.2.2.1 a.1 a.2.1 a.2.2.1 a.2.2.2.1 g.1 g.2.1 l.1 l.2.1 l.2.2.1 l.2.2.2.1 b.1 b.2.1 n.1 n.2.1 n.2.2.1 d.1 d.2.1 d.2.2.1 h.1 h.2.1 h.2.2.1 h.2.2.2.1 h.2.2.2.2.1) fuel
noncomputable def nb5' (p0 p1 p2 p3:Int) (p4 p5 p6:Nat) (p7:List Car) (p8:List Int) (p9 p10:List Bool) (p11:List Entry) (p12 p13:ByteArray) (p14:Int) (p15:List Debounced) (p16:List Belief) (p17:List NewCar) (p18:List Loaded) (p19:List Int) (p20:List Calls) (p21 p22 p23 p24 p25 p26 p27:Int) (p28:List CarInput) (p29:Bool) (p30:List Calls) (p31 p32:List Int) (p33 t_e p34 p35 p36 p37:Int) (p38 p39:Bool) (p40:Int) (p41:List CarOutput):Option ((Unit×(T'65×Unit)) ⊕ (Unit×(T'65×Unit))):=
 letI af:=List Bool
 letI ai:=(0:Int)
 bif (! p29) then some (Sum.inl ((),((p0,p1,p2,p3,p4,p5,p6,p7,p8,p9,p10,p11,p12,p13,p14,p15,p16,p17,p18,p19,p20,p21,p22,p23,p24,p25,p26,p27,p28,p29,p30,p31,p32,p33,t_e,p34,p35,p36,p37,p38,p39,p40,p41,()),()))) else bif (Nat.ble ((List.length ([]:af)) + (List.length p9)) 2147483648) then let z0:List ( Bool ):=(([]:af)++p9)
 (nbd' (r27_ticker.mk p0 p1 p2 p3 p4 p5 p6 p7 p8 p9 p10 p11 p12 p13 p14 p15 p16 p17 p18 p19 p20 p21 p22 p23 p24 p25 p26 p27 p28 p29 p30 p31 p32 p33 t_e p34 p35 p36 p37 p38 p39 p40 p41)).bind fun y1=>(njr' p0 p1 p2 p3 p4 p5 p6 p7 p8 p9 p10 p11 p26 p27 y1.1.1).bind fun y2=>(n0' y2.1.1 p0 p1 p2 p3 p4 p5 p6 p7 p8 p9 p10 p11 p12 p13 p14 p15 p16 p17 p18 p19 p20 p21 p22 p23 p24 p25 p26 p27 p28 p29 p30 p31 p32 p33 t_e p34 p35 p36 p37 p38 p39 y2.1.2.1 p41).bind fun y3=>letI ag:=y3.2.1
 letI q:=ag.2.2.2
 letI ab:=q.2.2
 letI aq:=ab.2
 letI c:=aq.2.2.2
 letI aj:=c.2
 letI ar:=aj.2
 letI h:=ar.2.2.2
 letI r:=h.2.2.2
 letI ak:=r.2
 letI au:=ak.2
 letI a:=au.2.2.2
 letI bc:=a.2
 letI k:=bc.2.2.2
 letI w:=k.2
 letI bd:=w.2
 letI f:=bd.2.2.2
 letI l:=f.2.2.2
 letI s:=l.2.2.2
 letI al:=s.2
 letI av:=al.2
 letI ba:=(ag,())
 bif (l.1 != ai) then some (Sum.inl ((),ba)) else bif (Nat.ble ((List.length ([]:af)) + (List.length c.1)) 2147483648) then let z1:List ( Bool ):=(([]:af)++c.1)
 (nbd' (r27_ticker.mk ag.1 ag.2.1 ag.2.2.1 q.1 q.2.1 ab.1 aq.1 aq.2.1 aq.2.2.1 c.1 aj.1 ar.1 ar.2.1 ar.2.2.1 h.1 h.2.1 h.2.2.1 r.1 ak.1 au.1 au.2.1 au.2.2.1 a.1 bc.1 bc.2.1 bc.2.2.1 k.1 w.1 bd.1 bd.2.1 bd.2.2.1 f.1 f.2.1 f.2.2.1 l.1 l.2.1 l.2.2.1 s.1 al.1 av.1 av.2.1 av.2.2.1 av.2.2.2.1)).bind fun y4=>Option.bind (bif (k.1 != ai) then bif (inB w.1 (List.length y4.1.1)) then some (((),z0,z1,(List.set y4.1.1 (Int.toNat w.1) false),()),ba) else none else some (((),z0,z1,y4.1.1,()),ba)) fun y5=>letI bb:=y5.2.1
 letI m:=bb.2.2
 letI u:=m.2
 letI aa:=u.2
 letI ah:=aa.2
 letI d:=ah.2.2
 letI am:=d.2
 letI g:=am.2.2
 letI an:=g.2
 letI n:=an.2.2.2
 letI ad:=n.2.2
 letI aw:=ad.2
 letI b:=aw.2.2.2
 letI be:=b.2
 letI o:=be.2.2.2
 letI ae:=o.2.2
 letI ax:=ae.2
 letI e:=ax.2.2.2
 letI ao:=e.2
 letI ay:=ao.2
 letI j:=ay.2.2.2
 letI v:=j.2.2
 letI ap:=v.2
 letI az:=ap.2
 (nls' bb.1 bb.2.1 m.1 u.1 aa.1 ah.1 ah.2.1 d.1 am.1 am.2.1 g.1 an.1 y5.1.2.2.2.1).bind fun y6=>(n0' y6.1.1 bb.1 bb.2.1 m.1 u.1 aa.1 ah.1 ah.2.1 d.1 am.1 am.2.1 g.1 an.1 an.2.1 an.2.2.1 n.1 n.2.1 ad.1 aw.1 aw.2.1 aw.2.2.1 b.1 be.1 be.2.1 be.2.2.1 o.1 o.2.1 ae.1 ax.1 ax.2.1 ax.2.2.1 e.1 ao.1 ay.1 ay.2.1 ay.2.2.1 j.1 j.2.1 v.1 ap.1 az.1 az.2.1 az.2.2.1 az.2.2.2.1).bind fun y7=>bif (y7.2.1.2.2.2.2.2.2.2.2.2.2.2.2.2.2.2.2.2.2.2.2.2.2.2.2.2.2.2.2.2.2.2.2.2.2.1 != ai) then some (Sum.inl ((),(y7.2.1,()))) else (nby' (((),y5.1.2.1,y5.1.2.2.1,ai,()),(y7.2.1,()))).bind fun y8=>some (Sum.inr ((),(y8.2.1,()))) else none else none
noncomputable def nj6' (p0:List Int) (p1 p2:List Bool) (p3:List Entry) (car:Int):Option ((Bool×Unit)×Unit):=
 letI a:=(List.getD p0 (Int.toNat car) (0:Int))
 letI b:=(inB car (List.length p0))
 Option.bind ((nn4' p0 p1 p2 p3 car).bind fun y1=>bif y1.1.1 then bif b then bif (a==(0:Int)) then some ((true,()),()) else bif b then bif (a==(1:Int)) then some ((true,()),()) else bif b then some (((a==(4:Int)),()),()) else none else none else none else some ((false,()),())) fun y2=>some ((y2.1.1,()),())
noncomputable def njg' (p0:List Int) (p1 p2:List Bool) (p3:List Entry) (i:Int):Option ((Unit×Unit)×(T'80×Unit)):=
 letI a:=(0:Int)
 letI b:=((- 1:Int),a,a,a,a,a,a,a,())
 (nj6' p0 p1 p2 p3 i).bind fun y1=>Option.bind (bif (! y1.1.1) then some (((),()),((false,y1.1.1,false,true,b),())) else bif (inB i (List.length p1)) then some (((),()),((false,y1.1.1,false,(List.getD p1 (Int.toNat i) false),b),())) else none) fun y2=>some (((),()),(y2.2.1,()))
noncomputable def nng' (p0 p1 p2 p3:Int) (p4 p5 p6:Nat) (p7:List Car) (p8 p9 p10 p11 p12:Int) (p13:Bool) (p14 p15 p16 p17 p18 p19 p20:Int) (p21:Bool) (p22:Int) (p23:Bool) (p24:Int) (p25:Bool):Option ((Unit×Unit)×T'3):=
 letI a:=(((),()),(((0:Int),(0:Int),()),()))
 (nd3' p0 p1 p2 p3 p4 p5 p6 p7 p8 p9 p10 p11 p12 p13 p14 p15 p16 p17 p18 p19 p20 p21).bind fun y1=>bif (! y1.1.1) then some a else bif (p10 != (2:Int)) then some a else bif (! p23) then some a else bif (p24 != (1:Int)) then some a else (ncq' p0 p1 p2 p3 p4 p5 p6 p7 p22 p19).bind fun y2=>bif (! y2.1.1) then some a else (nc5' p22 p19).bind fun y3=>some (((),()),(y3.2.1,()))
noncomputable def nt9' (i k:Int) (p0:List Int) (p1 p2:List Bool) (p3:List Entry) (p4 p5:ByteArray) (p6:Int) (p7:List Debounced) (p8:List Belief) (p9:List NewCar) (p10:List Loaded) (p11:List Int) (p12:List Calls) (p13 p14 p15:Int) (p16 p17 p18 p19:Bool) (p20 p21 p22 p23 p24 p25 p26 p27:Int) (p28 p29 p30 p31:Bool) (p32 p33 p34 p35 p36 p37 p38 p39:Int):Option (Sum (T'63×T'81) ((Unit×Unit×Unit)×(T'80×T'80×Unit))):=
 letI a:=(0:Int)
 letI b:=(p16,p17,p18,p19,p20,p21,p22,p23,p24,p25,p26,p27,())
 letI c:=(inB i (List.length p8))
 letI d:=Belief.mk a a a
 bif c then bif (decide (k < ((List.length (List.getD p8 (Int.toNat i) (d [] a false)).M0:Nat):Int))) then bif c then let z0:Belief:=(List.getD p8 (Int.toNat i) (d [] a false))
 bif (inB k (List.length z0.M0)) then let z1:Duty:=(List.getD z0.M0 (Int.toNat k) (Duty.mk a a a))
 (nc5' z1.C0 z1.G0).bind fun y1=>(nbw' p38 p39 y1.2.1.1 y1.2.1.2.1).bind fun y2=>some (Sum.inl ((i,(),(),(),(IntKind.i64.wrap (k + (1:Int))),()),((p0,p1,p2,p3,p4,p5,p6,p7,p8,p9,p10,p11,p12,p13,p14,p15,()),b,(p28,p29,p30,p31,p32,p33,p34,p35,p36,p37,y2.2.1.1,y2.2.1.2.1,()),()))) else none else none else some (Sum.inr (((),(),()),(b,(p28,p29,p30,p31,p32,p33,p34,p35,p36,p37,p38,p39,()),()))) else none
noncomputable def np8':(T'63×T'81)→Option ((Unit×Unit×Unit)×(T'80×T'80×Unit)):=iter (fun x=>letI f:=x.2.1.2.2; letI a:=f.2.2.2.2; letI g:=x.2.2; letI l:=g.2.1; letI b:=l.2.2.2; letI k:=g.1.2; letI c:=k.2.2.2; letI d:=a.2.2.2.2; letI e:=b.2.2.2; letI h:=c.2.2.2; letI j:=d.2.2; letI m:=e.2.2; nt9' x.1.1 x.1.2.2.2.2.1 x.2.1.1 x.2.1.2.1 f.1 f.2.1 f.2.2.1 f.2.2.2.1 a.1 a.2.1 a.2.2.1 a.2.2.2.1 d.1 d.2.1 j.1 j.2.1 j.2.2.1 j.2.2.2.1 g.1.1 k.1 k.2.1 k.2.2.1 c.1 c.2.1 c.2.2.1 h.1 h.2.1 h.2.2.1 h.2.2.2.1 h.2.2.2.2.1 l.1 l.2.1 l.2.2.1 b.1 b.2.1 b.2.2.1 e.1 e.2.1 m.1 m.2.1 m.2.2.1 m.2.2.2.1) fuel
noncomputable def npn' (p0 p1 p2 p3:Int) (p4 p5 p6:Nat) (p7:List Car) (p8:List Int) (p9 p10:List Bool) (p11:List Entry) (p12 p13:ByteArray) (p14:Int) (p15:List Debounced) (p16:List Belief) (p17:List NewCar) (p18:List Loaded) (p19:List Int) (p20:List Calls) (p21 p22 p23 p24:Int) (p25:Bool) (p26:Int) (p27:Bool) (i:Int):Option ((Unit×Unit)×(T'80×Unit)):=
 letI a:=(0:Int)
 letI c:=(NewCar.mk a a a a a false a a a a a a a false)
 letI d:=(p8,p9,p10,p11,p12,p13,p14,p15,p16,p17,p18,p19,p20,p21,p22,p23,())
 letI e:=(false,false,false,false,a,a,a,a,a,a,a,a,())
 letI h:=(Int.toNat i)
 letI r:=(p0,p1,p2,p3,p4,p5,p6,p7,())
 letI s:=inB i
 letI aa:=(s (List.length p16))
 letI ab:=(s (List.length p17))
 letI ad:=(List.getD p17 h c)
 letI ae:=(s (List.length p8))
 letI af:=(List.getD p8 h a)
 letI ah:=Belief.mk a a a
 letI ai:=((),())
 (njg' p8 p9 p10 p11 i).bind fun y1=>letI k:=y1.2.1.2
 letI o:=k.2.2
 letI b:=o.2.2.2.2
 letI al:=b.2
 letI g:=(al.2.1,al.2.2.1,al.2.2.2.1,())
 letI u:=(b.1,al.1,g)
 (njs' p8 p9 p10 p11 i).bind fun y2=>bif ae then (n6' af).bind fun y3=>bif y3.1.1 then bif aa then bif aa then (np8' ((i,(),(),(),a,()),(d,e,(y2.1.1,k.1,y3.1.1,o.1,(List.getD p16 h (ah [] a false)).C0,(List.getD p16 h (ah [] a false)).G0,o.2.2.2.1,u),()))).bind fun y4=>some (ai,(y4.2.2.1,())) else none else none else bif ab then let z0:NewCar:=ad
 bif (s (List.length p18)) then let z1:Loaded:=(List.getD p18 h (Loaded.mk a))
 Option.bind (bif ae then bif (af==(4:Int)) then bif ab then let z2:NewCar:=ad
 (nng' p0 p1 p2 p3 p4 p5 p6 p7 z2.K2 z2.B2 z2.O1 z2.N2 z2.G2 z2.P2 z2.H2 z2.G1 z2.X1 z2.E1 z2.N1 z2.K3 z2.T4 z2.N3 p24 p25 p26 p27).bind fun y5=>some ((i,(),(),(),ai),(r,d,e,(y2.1.1,k.1,y3.1.1,o.1,p24,z0.K2,z1.F5,y5.2.1.1,y5.2.1.2.1,g),())) else none else some ((i,(),(),(),ai),(r,d,e,(y2.1.1,k.1,y3.1.1,o.1,p24,z0.K2,z1.F5,u),())) else none) fun y6=>letI f:=y6.2.2.2.2.1.2
 letI j:=y6.2.2.1
 letI l:=y6.2.1.2.2
 letI m:=j.2
 letI n:=f.2.2
 letI q:=m.2
 letI v:=l.2
 letI w:=n.2
 letI ag:=q.2.2.2.2.2.2.2.1
 letI aj:=v.2
 letI ak:=w.2
 bif (inB y6.1.1 (List.length ag)) then (nfc' j.1 m.1 q.1 q.2.1).bind fun y7=>(nhs' y6.2.1.1 y6.2.1.2.1 l.1 v.1 aj.1 aj.2.1 aj.2.2.1 aj.2.2.2.1 j.1 m.1 q.1 q.2.1 y7.1.1 y6.1.1).bind fun y8=>some (ai,((y6.2.2.2.2.1.1,f.1,f.2.1,n.1,w.1,ak.1,ak.2.1,ak.2.2.1,ak.2.2.2.1,(List.getD ag (Int.toNat y6.1.1) c).N1,y8.2.1.1,y8.2.1.2.1,()),())) else none else none else none else none
noncomputable def nhc' (p0 p1 p2 p3:Int):Option ((Unit×Unit)×T'3):=
 letI a:=(IntKind.bits IntKind.u32)
 some (((),()),(((IntKind.u32.wrap (stk p0 p2 (BitVec.toNat ((BitVec.ofInt a p0) &&& (BitVec.ofInt a p2))))),(IntKind.u32.wrap (stk p1 p3 (BitVec.toNat ((BitVec.ofInt a p1) &&& (BitVec.ofInt a p3))))),()),()))
noncomputable def nij' (p0 p1 p2 p3:Int) (p4 p5 p6:Nat) (p7:List Car) (p8 p9 p10 p11:Bool) (p12 p13 p14 p15 p16 p17 p18 p19:Int):Option ((Unit×Unit)×T'3):=
 bif (! p9) then some (((),()),(((0:Int),(0:Int),()),())) else (ng5' p0 p1 p2 p3 p4 p5 p6 p7).bind fun y1=>(nhc' p15 p16 y1.2.1.1 y1.2.1.2.1).bind fun y2=>some (((),()),(y2.2.1,()))
noncomputable def ne5' (p0:List View) (p1:List Calls) (i p2 p3 p4 p5:Int) (p6 p7 p8:Nat) (p9:List Car) (p10:List Calls) (p11:List Bool) (p12 p13:Int) (p14:List Calls) (p15:List Bool) (p16 p17:Int):Option (Sum (T'83×T'84) ((Unit×Unit×Unit)×(T'82×T'82×Unit))):=
 letI a:=(0:Int)
 letI c:=(p10,p11,p12,p13,())
 bif (decide (i < ((List.length p0:Nat):Int))) then bif (inB i (List.length p0)) then let z0:View:=(List.getD p0 (Int.toNat i) (View.mk false false false false a a a a a a a a))
 (nij' p2 p3 p4 p5 p6 p7 p8 p9 z0.J2 z0.E3 z0.F3 z0.J3 z0.C0 z0.G0 z0.H3 z0.A3 z0.T2 z0.X2 z0.I2 z0.Z1).bind fun y1=>(ncn' y1.2.1.1 y1.2.1.2.1 p16 p17).bind fun y2=>letI b:=y2.2.1
 let z1:List ( Calls ):=[(Calls.mk b.1 b.2.1)]
 bif (Nat.ble ((List.length p14) + (List.length z1)) 2147483648) then bif (inB i (List.length p1)) then let z2:Calls:=(List.getD p1 (Int.toNat i) (Calls.mk a a))
 (ncn' b.1 b.2.1 z2.Up z2.G5).bind fun y3=>let z3:List ( Bool ):=[(! ((y3.2.1.1==a)&&((y3.2.1.2.1==a)&&true)))]
 bif (Nat.ble ((List.length p15) + (List.length z3)) 2147483648) then (nbw' p16 p17 b.1 b.2.1).bind fun y4=>some (Sum.inl ((p0,p1,(),(),(),(IntKind.i64.wrap (i + (1:Int))),()),((p2,p3,p4,p5,p6,p7,p8,p9,()),c,((p14++z1),(p15++z3),y4.2.1.1,y4.2.1.2.1,()),()))) else none else none else none else none else some (Sum.inr (((),(),()),(c,(p14,p15,p16,p17,()),())))
noncomputable def nj3':(T'83×T'84)→Option ((Unit×Unit×Unit)×(T'82×T'82×Unit)):=iter (fun x=>letI a:=x.2.1.2.2; letI b:=x.2.2; letI c:=a.2.2; letI d:=b.2.1; ne5' x.1.1 x.1.2.1 x.1.2.2.2.2.2.1 x.2.1.1 x.2.1.2.1 a.1 a.2.1 c.1 c.2.1 c.2.2.1 c.2.2.2.1 b.1.1 b.1.2.1 b.1.2.2.1 b.1.2.2.2.1 d.1 d.2.1 d.2.2.1 d.2.2.2.1) fuel
noncomputable def nnp' (p0 p1 p2 p3:Int) (p4 p5 p6:Nat) (p7:List Car) (p8:List View) (p9:List Calls):Option ((Unit×Int×Unit)×(T'82×Unit)):=
 letI a:=(0:Int)
 letI b:=(a,a,())
 letI c:=List Calls
 letI d:=List Bool
 letI e:=((),(1:Int),())
 letI f:=((List.length p7:Nat):Int)
 (n3' p0 p1 p2 p3 p4 p5 p6 p7).bind fun y1=>bif (y1.1.1 != a) then some (e,((([]:c),([]:d),b),())) else bif (((List.length p8:Nat):Int) != f) then some (e,((([]:c),([]:d),b),())) else bif (((List.length p9:Nat):Int) != f) then some (e,((([]:c),([]:d),b),())) else (nj3' ((p8,p9,(),(),(),a,()),((p0,p1,p2,p3,p4,p5,p6,p7,()),(([]:c),([]:d),b),(([]:c),([]:d),b),()))).bind fun y2=>some (((),a,()),(y2.2.2.1,()))
noncomputable def ne6' (p0:List View) (out:List Record) (i k p1 p2 p3 p4:Int) (p5 p6 p7:Nat) (p8:List Car) (p9:List Int) (p10 p11:List Bool) (p12:List Entry) (p13 p14 p15 p16:Int) (p17:Bool):Option (Sum (T'86×T'87) (T'85×(T'0×T'18×Unit))):=
 letI a:=(0:Int)
 letI b:=(p1,p2,p3,p4,p5,p6,p7,p8,())
 letI c:=(p9,p10,p11,p12,())
 bif (decide (k < ((List.length p0:Nat):Int))) then bif (inB k (List.length p0)) then let z0:View:=(List.getD p0 (Int.toNat k) (View.mk false false false false a a a a a a a a))
 (nij' p1 p2 p3 p4 p5 p6 p7 p8 z0.J2 z0.E3 z0.F3 z0.J3 z0.C0 z0.G0 z0.H3 z0.A3 z0.T2 z0.X2 z0.I2 z0.Z1).bind fun y1=>(nc1' y1.2.1.1 y1.2.1.2.1 p13 p14).bind fun y2=>bif y2.1.1 then let z1:List ( Record ):=[(Record.mk (2:Int) p13 p14 a a)]
 bif (Nat.ble ((List.length out) + (List.length z1)) 2147483648) then some (Sum.inr ((p0,(),(),(out++z1),i,()),(b,c,()))) else none else some (Sum.inl ((p0,(),(),out,i,(),(IntKind.i64.wrap (k + (1:Int))),()),(b,c,(p13,p14,p15,p16,p17,()),()))) else none else some (Sum.inr ((p0,(),(),out,i,()),(b,c,())))
noncomputable def njz':(T'86×T'87)→Option (T'85×(T'0×T'18×Unit)):=iter (fun x=>letI a:=x.2.1.2.2; letI b:=x.2.2; letI c:=b.2.1; letI d:=a.2.2; ne6' x.1.1 x.1.2.2.2.1 x.1.2.2.2.2.1 x.1.2.2.2.2.2.2.1 x.2.1.1 x.2.1.2.1 a.1 a.2.1 d.1 d.2.1 d.2.2.1 d.2.2.2.1 b.1.1 b.1.2.1 b.1.2.2.1 b.1.2.2.2.1 c.1 c.2.1 c.2.2.1 c.2.2.2.1 c.2.2.2.2.1) fuel
noncomputable def nfd' (p0:List View) (out:List Record) (i p1 p2 p3 p4:Int) (p5 p6 p7:Nat) (p8:List Car) (p9:List Int) (p10 p11:List Bool) (p12:List Entry):Option (Sum (T'85×(T'0×T'18×Unit)) ((List Record×Unit)×Unit)):=
 letI a:=(0:Int)
 bif (decide (i < ((List.length p12:Nat):Int))) then bif (inB i (List.length p12)) then let z0:Entry:=(List.getD p12 (Int.toNat i) (Entry.mk a a a a false))
 (njz' ((p0,(),(),out,i,(),a,()),((p1,p2,p3,p4,p5,p6,p7,p8,()),(p9,p10,p11,p12,()),(z0.C0,z0.G0,z0.O0,z0.V0,z0.Q1,()),()))).bind fun y1=>some (Sum.inl ((y1.1.1,(),(),y1.1.2.2.2.1,(IntKind.i64.wrap (y1.1.2.2.2.2.1 + (1:Int))),()),(y1.2.1,y1.2.2.1,()))) else none else some (Sum.inr ((out,()),()))
noncomputable def nkf':(T'85×(T'0×T'18×Unit))→Option ((List Record×Unit)×Unit):=iter (fun x=>letI a:=x.2.1.2.2; letI b:=a.2.2; letI c:=x.2.2.1; nfd' x.1.1 x.1.2.2.2.1 x.1.2.2.2.2.1 x.2.1.1 x.2.1.2.1 a.1 a.2.1 b.1 b.2.1 b.2.2.1 b.2.2.2.1 c.1 c.2.1 c.2.2.1 c.2.2.2.1) fuel
noncomputable def nno' (p0 p1 p2 p3:Int) (p4 p5 p6:Nat) (p7:List Car) (p8:List Int) (p9 p10:List Bool) (p11:List Entry) (p12:List View):Option ((List Record×Unit)×Unit):=
 letI a:=List Record
 (n7' p0 p1 p2 p3 p4 p5 p6 p7 p8 p9 p10 p11).bind fun y1=>bif (! y1.1.1) then some ((([]:a),()),()) else bif (((List.length p12:Nat):Int) != ((List.length p7:Nat):Int)) then some ((([]:a),()),()) else (nkf' ((p12,(),(),([]:a),(0:Int),()),((p0,p1,p2,p3,p4,p5,p6,p7,()),(p8,p9,p10,p11,()),()))).bind fun y2=>some ((y2.1.1,()),())
end Go.Ovl
