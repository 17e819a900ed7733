/- What each function of the program comes to: part 3. -/
import Derived.Test.YtbliagnmhfobmaaGreatDefs2
namespace Go.Ovl
open Go Go.Ab
set_option maxRecDepth 100000
noncomputable def nci' (l:List Record) (i p0 p1 p2 p3:Int) (p4 p5 p6:Nat) (p7:List Car) (p8:List Int) (p9 p10:List Bool) (p11:List Entry) (p12:List Int) (p13 p14:List Bool) (p15:List Entry):Option (Sum (T'88×T'31) (((Unit×Unit×Unit)×(T'18×T'18×Unit)) ⊕ ((Unit×Int×Unit)×(T'18×Unit)))):=
 letI a:=(0:Int)
 letI b:=((p12,p13,p14,p15,()),())
 bif (decide (i < ((List.length l:Nat):Int))) then bif (inB i (List.length l)) then let z0:Record:=(List.getD l (Int.toNat i) (Record.mk a a a a a))
 (nhw' p0 p1 p2 p3 p4 p5 p6 p7 p8 p9 p10 p11 z0.U0 z0.C0 z0.G0 z0.O0 z0.U1).bind fun y1=>bif (y1.1.2.1 != a) then some (Sum.inr (Sum.inr (((),y1.1.2.1,()),((([]:List Int),([]:List Bool),([]:List Bool),([]:List Entry),()),())))) else some (Sum.inl ((l,(),(),(),(IntKind.i64.wrap (i + (1:Int))),()),((p0,p1,p2,p3,p4,p5,p6,p7,()),y1.2.1,b))) else none else some (Sum.inr (Sum.inl (((),(),()),((p8,p9,p10,p11,()),b))))
noncomputable def ngn':(T'88×T'31)→Option (((Unit×Unit×Unit)×(T'18×T'18×Unit)) ⊕ ((Unit×Int×Unit)×(T'18×Unit))):=iter (fun x=>letI a:=x.2.1.2.2; letI b:=x.2.2; letI c:=a.2.2; letI d:=b.2.1; nci' x.1.1 x.1.2.2.2.2.1 x.2.1.1 x.2.1.2.1 a.1 a.2.1 c.1 c.2.1 c.2.2.1 c.2.2.2.1 b.1.1 b.1.2.1 b.1.2.2.1 b.1.2.2.2.1 d.1 d.2.1 d.2.2.1 d.2.2.2.1) fuel
noncomputable def nmk' (p0 p1 p2 p3:Int) (p4 p5 p6:Nat) (p7:List Car) (p8:List Int) (p9 p10:List Bool) (p11:List Entry) (l:List Record):Option ((Unit×Int×Unit)×(T'18×Unit)):=
 (ngn' ((l,(),(),(),(0:Int),()),((p0,p1,p2,p3,p4,p5,p6,p7,()),(p8,p9,p10,p11,()),(([]:List Int),([]:List Bool),([]:List Bool),([]:List Entry),()),()))).bind fun y1=>(match y1 with
 | .inl y2=>
 some (((),(0:Int),()),(y2.2.1,()))
 | .inr y2=>
 some (((),y2.1.2.1,()),(y2.2.1,())))
noncomputable def nlh' (p0:List Int) (p1 p2:List Bool) (p3:List Entry) (p4:List Int) (p5 dir:Int):Option ((Int×Unit)×Unit):=
 (nfi' p0 p1 p2 p3 p5 dir).bind fun y1=>bif (decide ((0:Int)≤y1.1.1)) then bif (inB y1.1.1 (List.length p4)) then some (((List.getD p4 (Int.toNat y1.1.1) (0:Int)),()),()) else none else some (((0:Int),()),())
noncomputable def ne1' (p0 out:List Int) (i:Int) (p1:List Int) (p2 p3:List Bool) (p4:List Entry) (p5:List Int) (p6 p7:List Bool) (p8:List Entry):Option (Sum (T'89×(T'18×T'18×Unit)) ((List Int×Unit)×Unit)):=
 letI c:=(0:Int)
 letI a:=(List.getD p8 (Int.toNat i) (Entry.mk c c c c false))
 letI b:=List.length p8
 bif (decide (i < ((b:Nat):Int))) then bif (inB i (b)) then bif (inB i (b)) then (nlh' p1 p2 p3 p4 p0 a.C0 a.G0).bind fun y1=>let z0:List ( Int ):=[y1.1.1]
 bif (Nat.ble ((List.length out) + (List.length z0)) 2147483648) then some (Sum.inl ((p0,(),(),(out++z0),(IntKind.i64.wrap (i + (1:Int))),()),((p1,p2,p3,p4,()),(p5,p6,p7,p8,()),()))) else none else none else none else some (Sum.inr ((out,()),()))
noncomputable def nj7':(T'89×(T'18×T'18×Unit))→Option ((List Int×Unit)×Unit):=iter (fun x=>letI a:=x.2.2.1; ne1' x.1.1 x.1.2.2.2.1 x.1.2.2.2.2.1 x.2.1.1 x.2.1.2.1 x.2.1.2.2.1 x.2.1.2.2.2.1 a.1 a.2.1 a.2.2.1 a.2.2.2.1) fuel
noncomputable def nnv' (p0:List Int) (p1 p2:List Bool) (p3:List Entry) (p4 p5:List Int) (p6 p7:List Bool) (p8:List Entry):Option ((List Int×Unit)×Unit):=
 (nj7' ((p4,(),(),([]:List Int),(0:Int),()),((p0,p1,p2,p3,()),(p5,p6,p7,p8,()),()))).bind fun y1=>some ((y1.1.1,()),())
noncomputable def nfs' (p0 p1 p2 p3:Int) (p4 p5 p6:Nat) (p7:List Car) (p8:List Record) (p9:List Int) (p10 p11:List Bool) (p12:List Entry) (p13:List Int) (p14:List Calls) (p15:List Bool) (p16 p17 p18 p19:Int) (l:List Record):Option ((Unit×Unit)×(T'90×Unit)):=
 (nmk' p0 p1 p2 p3 p4 p5 p6 p7 p9 p10 p11 p12 l).bind fun y1=>letI a:=y1.2.1
 letI b:=a.2
 letI c:=b.2
 (nnv' p9 p10 p11 p12 p13 a.1 b.1 c.1 c.2.1).bind fun y2=>bif (Nat.ble ((List.length ([]:List Record)) + (List.length p8)) 2147483648) then let z0:List ( Record ):=(([]:List Record)++p8)
 bif (Nat.ble ((List.length z0) + (List.length l)) 2147483648) then some (((),()),(((z0++l),a.1,b.1,c.1,c.2.1,y2.1.1,p14,p15,p16,p17,p18,p19,()),())) else none else none
noncomputable def nl4' (out:List Entry) (f d p0 p1:Int):Option (Sum (T'92×T'3) (T'91×T'3)):=
 letI a:=(f,(IntKind.i64.wrap (d + (1:Int))),())
 letI b:=((p0,p1,()),())
 bif (decide (d≤(2:Int))) then (nc1' p0 p1 f d).bind fun y1=>bif y1.1.1 then let z0:List ( Entry ):=[(Entry.mk f d (- 1:Int) (0:Int) false)]
 bif (Nat.ble ((List.length out) + (List.length z0)) 2147483648) then some (Sum.inl (((),(out++z0),a),b)) else none else some (Sum.inl (((),out,a),b)) else some (Sum.inr (((),out,f,()),b))
noncomputable def nky':(T'92×T'3)→Option (T'91×T'3):=iter (fun x=>nl4' x.1.2.1 x.1.2.2.1 x.1.2.2.2.1 x.2.1.1 x.2.1.2.1) fuel
noncomputable def nl6' (out:List Entry) (f p0 p1:Int):Option (Sum (T'91×T'3) ((List Entry×Unit)×Unit)):=
 bif (decide (f < (32:Int))) then (nky' (((),out,f,(1:Int),()),((p0,p1,()),()))).bind fun y1=>some (Sum.inl (((),y1.1.2.1,(IntKind.i64.wrap (y1.1.2.2.1 + (1:Int))),()),(y1.2.1,()))) else some (Sum.inr ((out,()),()))
noncomputable def nk7':(T'91×T'3)→Option ((List Entry×Unit)×Unit):=iter (fun x=>nl6' x.1.2.1 x.1.2.2.1 x.2.1.1 x.2.1.2.1) fuel
noncomputable def nld' (p0 p1:Int):Option ((List Entry×Unit)×Unit):=
 (nk7' (((),([]:List Entry),(0:Int),()),((p0,p1,()),()))).bind fun y1=>some ((y1.1.1,()),())
noncomputable def niw' (p0 p1 p2 p3:Bool) (p4 p5 p6 p7 p8 p9 p10 p11:Int):Option ((Bool×Unit)×Unit):=
 Option.bind (bif (p6==(3:Int)) then some ((true,()),()) else some (((p6==(4:Int)),()),())) fun y1=>some ((y1.1.1,()),())
noncomputable def nda' (p0 p1 p2 p3 f p4:Int):Option ((Bool×Unit)×Unit):=
 letI a:=(IntKind.bits IntKind.u32)
 letI b:=(1:Int)
 letI c:=(BitVec.ofInt a b)
 letI d:=(IntKind.u64.wrap f)
 letI e:=(0:Int)
 letI g:=(2:Int)
 bif (p4==b) then Option.bind (bif (decide (f < (IntKind.i64.wrap (p0 - b)))) then let z0:Int:=d
 bif (decide (e≤z0)) then let z1:Int:=(Int.fdiv p2 (g ^ (Min.min (Int.toNat z0) a)))
 some ((((IntKind.u32.wrap (stk z1 b (BitVec.toNat ((BitVec.ofInt a z1) &&& c))))==b),()),()) else none else some ((false,()),())) fun y1=>some ((y1.1.1,()),()) else bif (p4==g) then Option.bind (bif (decide (e < f)) then let z2:Int:=d
 bif (decide (e≤z2)) then let z3:Int:=(Int.fdiv p3 (g ^ (Min.min (Int.toNat z2) a)))
 some ((((IntKind.u32.wrap (stk z3 b (BitVec.toNat ((BitVec.ofInt a z3) &&& c))))==b),()),()) else none else some ((false,()),())) fun y2=>some ((y2.1.1,()),()) else let z4:Int:=d
 bif (decide (e≤z4)) then let z5:Int:=(Int.fdiv p1 (g ^ (Min.min (Int.toNat z4) a)))
 some ((((IntKind.u32.wrap (stk z5 b (BitVec.toNat ((BitVec.ofInt a z5) &&& c))))==b),()),()) else none
noncomputable def neu' (p0 p1 p2 p3 dir hi lo f p4 p5 p6:Int):Option (Sum (T'93×T'66) (T'47×Unit)):=
 letI k:=((p4,p5,p6,()),())
 letI b:=((p0,p1,p2,p3,dir,(),hi,lo,f,true,()),k)
 letI g:=nda' p0 p4 p5 p6 f
 bif (decide (f < p0)) then Option.bind ((g (0:Int)).bind fun y1=>bif y1.1.1 then some b else (g (1:Int)).bind fun y2=>bif y2.1.1 then some b else (g (2:Int)).bind fun y3=>some ((p0,p1,p2,p3,dir,(),hi,lo,f,y3.1.1,()),k)) fun y4=>letI e:=y4.1.2.2
 letI j:=e.2
 letI a:=j.2.2.2
 letI c:=a.2
 letI h:=c.2.1
 letI d:=((IntKind.i64.wrap (h + (1:Int))),())
 bif c.2.2.1 then some (Sum.inl ((y4.1.1,y4.1.2.1,e.1,j.1,j.2.1,(),(bif (decide (a.1 < h)) then h else a.1),(bif (decide (h < c.1)) then h else c.1),d),(y4.2.1,()))) else some (Sum.inl ((y4.1.1,y4.1.2.1,e.1,j.1,j.2.1,(),a.1,c.1,d),(y4.2.1,()))) else some (Sum.inr ((p1,p2,p3,dir,hi,lo,()),()))
noncomputable def nmj':(T'93×T'66)→Option (T'47×Unit):=iter (fun x=>letI a:=x.1.2.2.2; neu' x.1.1 x.1.2.1 x.1.2.2.1 a.1 a.2.1 a.2.2.2.1 a.2.2.2.2.1 a.2.2.2.2.2.1 x.2.1.1 x.2.1.2.1 x.2.1.2.2.1) fuel
noncomputable def nph' (p0 p1 p2 p3 p4 p5 p6 dir:Int):Option ((Int×Unit)×Unit):=
 letI v:=((p3,p4,p5,()),())
 letI a:=((p0,p1,p2,p6,dir,(),true,()),v)
 letI b:=((p0,p1,p2,p6,dir,(),(! (decide (p6 < p0))),()),v)
 letI d:=(((- 1:Int),()),())
 letI l:=(0:Int)
 letI n:=(2:Int)
 letI o:=(1:Int)
 letI w:=(decide (l < p6))
 letI ae:=(false,())
 letI al:=(dir==n)
 bif (decide (p0 < n)) then some d else bif (decide ((32:Int) < p0)) then some d else bif (decide (p1 < l)) then some d else bif (decide (p0≤p1)) then some d else bif (decide (p2 < l)) then some d else bif (decide (n < p2)) then some d else Option.bind (bif (dir==o) then bif (decide (l≤p6)) then bif (decide (p6 < (IntKind.i64.wrap (p0 - o)))) then some ((p0,p1,p2,p6,dir,(),ae),v) else bif al then bif w then some b else some a else some a else bif al then bif w then some b else some a else some a else bif al then bif w then some b else some a else some a) fun y1=>letI k:=y1.1.2
 letI q:=k.2.2
 letI af:=k.1
 letI ag:=q.1
 bif q.2.2.2.1 then some d else (nmj' ((y1.1.1,af,k.2.1,ag,q.2.1,(),(bif (decide (af < ag)) then ag else af),(bif (decide (ag < af)) then ag else af),l,()),(y1.2.1,()))).bind fun y2=>letI aa:=y2.1
 letI ab:=aa.2
 letI e:=ab.2
 letI ad:=aa.1
 letI am:=ab.1
 letI s:=e.2
 letI ap:=s.2
 letI ah:=e.1
 letI g:=((ad,am,ah,s.1,ap.1,ap.2.1,ae),())
 bif (am==l) then let z0:Int:=(IntKind.i64.wrap (ad - ah))
 let z1:Int:=(IntKind.i64.wrap (ah - ad))
 some (((bif (decide (z0 < z1)) then z1 else z0),()),()) else Option.bind (bif (am==o) then bif (s.1==o) then some ((ad,am,ah,s.1,ap.1,ap.2.1,(decide (ad≤ah)),()),()) else some g else some g) fun y3=>letI aq:=y3.1
 letI ar:=aq.2
 letI h:=ar.2
 letI r:=h.2
 letI ai:=r.2
 bif ai.2.2.1 then some (((IntKind.i64.wrap (h.1 - aq.1)),()),()) else Option.bind (bif (ar.1==o) then some ((aq.1,ar.1,h.1,r.1,ai.1,ai.2.1,(r.1==n),()),()) else some ((aq.1,ar.1,h.1,r.1,ai.1,ai.2.1,ae),())) fun y4=>letI c:=y4.1.2.2
 letI au:=c.2
 letI f:=au.2
 letI av:=f.1
 letI j:=(IntKind.i64.wrap ((IntKind.i64.wrap (av - y4.1.1)) + av))
 letI aj:=f.2
 letI ak:=c.1
 letI an:=aj.1
 bif aj.2.1 then some (((IntKind.i64.wrap (j - ak)),()),()) else bif (y4.1.2.1==o) then some (((IntKind.i64.wrap ((IntKind.i64.wrap ((IntKind.i64.wrap (j - an)) + ak)) - an)),()),()) else Option.bind (bif (au.1==n) then some ((y4.1.1,ak,au.1,av,an,(decide (ak≤y4.1.1)),()),()) else some ((y4.1.1,ak,au.1,av,an,ae),())) fun y5=>letI ao:=y5.1.2
 letI m:=ao.2.2
 letI aw:=m.2
 letI u:=(IntKind.i64.wrap (y5.1.1 - aw.1))
 bif aw.2.1 then some (((IntKind.i64.wrap (y5.1.1 - ao.1)),()),()) else bif (ao.2.1==o) then some (((IntKind.i64.wrap ((IntKind.i64.wrap (u + ao.1)) - aw.1)),()),()) else some (((IntKind.i64.wrap ((IntKind.i64.wrap ((IntKind.i64.wrap ((IntKind.i64.wrap (u + m.1)) - aw.1)) + m.1)) - ao.1)),()),())
noncomputable def ne2' (p0 n f k p1 p2 p3:Int):Option (Sum (T'95×T'66) (T'94×T'66)):=
 letI a:=(f,(IntKind.i64.wrap (k + (1:Int))),())
 letI b:=((p1,p2,p3,()),())
 bif (decide (k < (3:Int))) then (nda' p0 p1 p2 p3 f k).bind fun y1=>bif y1.1.1 then some (Sum.inl ((p0,(),(IntKind.i64.wrap (n + (1:Int))),a),b)) else some (Sum.inl ((p0,(),n,a),b)) else some (Sum.inr ((p0,(),n,f,()),b))
noncomputable def njx':(T'95×T'66)→Option (T'94×T'66):=iter (fun x=>ne2' x.1.1 x.1.2.2.1 x.1.2.2.2.1 x.1.2.2.2.2.1 x.2.1.1 x.2.1.2.1 x.2.1.2.2.1) fuel
noncomputable def nd7' (p0 n f p1 p2 p3:Int):Option (Sum (T'94×T'66) ((Int×Unit)×Unit)):=
 bif (decide (f < p0)) then (njx' ((p0,(),n,f,(0:Int),()),((p1,p2,p3,()),()))).bind fun y1=>some (Sum.inl ((y1.1.1,(),y1.1.2.2.1,(IntKind.i64.wrap (y1.1.2.2.2.1 + (1:Int))),()),(y1.2.1,()))) else some (Sum.inr ((n,()),()))
noncomputable def noq':(T'94×T'66)→Option ((Int×Unit)×Unit):=iter (fun x=>nd7' x.1.1 x.1.2.2.1 x.1.2.2.2.1 x.2.1.1 x.2.1.2.1 x.2.1.2.2.1) fuel
noncomputable def nnk' (p0 p1 p2 p3:Int):Option ((Int×Unit)×Unit):=
 letI a:=((0:Int),())
 bif (decide (p0 < (2:Int))) then some (a,()) else bif (decide ((32:Int) < p0)) then some (a,()) else (noq' ((p0,(),(0:Int),a),((p1,p2,p3,()),()))).bind fun y1=>some ((y1.1.1,()),())
noncomputable def ndf' (p0 p1 p2 p3:Int) (p4 p5 p6:Nat) (p7:List Car) (car:Int) (p8 p9 p10 p11:Bool) (p12 p13 p14 p15 p16 p17 p18 p19 p20 dir:Int):Option ((Int×Unit)×Unit):=
 letI b:=(0:Int)
 letI e:=(1000000:Int)
 letI c:=((e,()),())
 letI d:=((p0,p1,p2,p3,p4,p5,p6,p7,()),(p8,p9,p10,p11,p12,p13,p14,p15,p16,p17,p18,p19,()),())
 (n3' p0 p1 p2 p3 p4 p5 p6 p7).bind fun y1=>bif (y1.1.1 != b) then some c else bif (decide (car < b)) then some c else bif (decide (((List.length p7:Nat):Int)≤car)) then some c else bif (decide (p12 < b)) then some c else Option.bind (bif (p13==(3:Int)) then some ((car,p20,dir,(),(),b,()),d) else some ((car,p20,dir,(),(),p13,()),d)) fun y2=>letI a:=y2.2.2.1.2.2.2.2.2.2.2.2.2
 letI f:=y2.2.1.2.2.2.2.2.2.2.1
 letI g:=a.2
 (nph' y2.2.1.1 y2.2.2.1.2.2.2.2.1 y2.1.2.2.2.2.2.1 a.1 g.1 g.2.1 y2.1.2.1 y2.1.2.2.1).bind fun y3=>bif (decide (y3.1.1 < b)) then some c else bif (inB y2.1.1 (List.length f)) then let z0:Car:=(List.getD f (Int.toNat y2.1.1) (Car.mk b b b b b b b b b))
 (nnk' y2.2.1.1 a.1 g.1 g.2.1).bind fun y4=>let z1:Int:=(IntKind.i64.wrap ((IntKind.i64.wrap (y3.1.1 * z0.M3)) + (IntKind.i64.wrap (y4.1.1 * (IntKind.i64.wrap ((IntKind.i64.wrap ((2:Int) * z0.V2)) + z0.U2))))))
 some (((bif (decide (e < z1)) then e else z1),()),()) else none
noncomputable def nmd' (p0 p1 p2 p3:Int) (p4 p5 p6:Nat) (p7:List Car) (p8:List View) (car p9 dir:Int):Option ((Unit×Unit)×T'3):=
 letI a:=(0:Int)
 letI b:=(View.mk false false false false a a a a a a a a)
 letI c:=((p0,p1,p2,p3,p4,p5,p6,p7,()),(a,a,()),())
 Option.bind (bif (inB car (List.length p8)) then let z0:View:=(List.getD p8 (Int.toNat car) b)
 (niw' z0.J2 z0.E3 z0.F3 z0.J3 z0.C0 z0.G0 z0.H3 z0.A3 z0.T2 z0.X2 z0.I2 z0.Z1).bind fun y1=>bif y1.1.1 then some ((p8,car,p9,dir,(),(),(1:Int),()),c) else some ((p8,car,p9,dir,(),(),a,()),c) else none) fun y2=>letI d:=y2.2.1.2.2
 letI e:=y2.1.2
 letI f:=d.2
 letI g:=f.2
 bif (inB e.1 (List.length y2.1.1)) then let z1:View:=(List.getD y2.1.1 (Int.toNat e.1) b)
 (ndf' y2.2.1.1 y2.2.1.2.1 d.1 f.1 g.1 g.2.1 g.2.2.1 g.2.2.2.1 e.1 z1.J2 z1.E3 z1.F3 z1.J3 z1.C0 z1.G0 z1.H3 z1.A3 z1.T2 z1.X2 z1.I2 z1.Z1 e.2.1 e.2.2.1).bind fun y3=>some (((),()),((e.2.2.2.2.2.1,y3.1.1,()),())) else none
noncomputable def nie' (p0 p1 p2 p3:Int):Option ((Bool×Unit)×Unit):=
 Option.bind (bif (decide (p0 < p2)) then some ((true,()),()) else bif (p0==p2) then some (((decide (p1 < p3)),()),()) else some ((false,()),())) fun y1=>some ((y1.1.1,()),())
noncomputable def nen' (p0:List View) (p1 dir p2 p3 i p4 p5 p6 p7:Int) (p8 p9 p10:Nat) (p11:List Car):Option (Sum (T'96×(T'0×Unit)) ((Int×Unit)×Unit)):=
 letI a:=((p4,p5,p6,p7,p8,p9,p10,p11,()),())
 letI b:=(0:Int)
 letI c:=((p0,p1,dir,p2,(),p3,(IntKind.i64.wrap (i + (1:Int))),()),a)
 letI f:=nmd' p4 p5 p6 p7 p8 p9 p10 p11 p0
 bif (decide (i < ((List.length p0:Nat):Int))) then bif (inB i (List.length p0)) then bif (! (List.getD p0 (Int.toNat i) (View.mk false false false false b b b b b b b b)).J2) then some (Sum.inl c) else bif (i==p2) then some (Sum.inl c) else Option.bind (bif (decide (p3 < b)) then some ((p0,p1,dir,p2,(),p3,i,true,()),a) else (f i p1 dir).bind fun y1=>(f p3 p1 dir).bind fun y2=>(nie' y1.2.1.1 y1.2.1.2.1 y2.2.1.1 y2.2.1.2.1).bind fun y3=>some ((p0,p1,dir,p2,(),p3,i,y3.1.1,()),a)) fun y4=>letI d:=y4.1.2.2
 letI g:=d.2
 letI h:=g.2.2
 letI e:=((IntKind.i64.wrap (h.2.1 + (1:Int))),())
 bif h.2.2.1 then some (Sum.inl ((y4.1.1,y4.1.2.1,d.1,g.1,(),h.2.1,e),(y4.2.1,()))) else some (Sum.inl ((y4.1.1,y4.1.2.1,d.1,g.1,(),h.1,e),(y4.2.1,()))) else none else some (Sum.inr ((p3,()),()))
noncomputable def ni0':(T'96×(T'0×Unit))→Option ((Int×Unit)×Unit):=iter (fun x=>letI a:=x.2.1.2.2; letI b:=x.1.2.2; letI c:=a.2.2; nen' x.1.1 x.1.2.1 b.1 b.2.1 b.2.2.2.1 b.2.2.2.2.1 x.2.1.1 x.2.1.2.1 a.1 a.2.1 c.1 c.2.1 c.2.2.1 c.2.2.2.1) fuel
noncomputable def nim' (p0 p1 p2 p3:Int) (p4 p5 p6:Nat) (p7:List Car) (p8:List View) (p9 dir p10:Int):Option ((Int×Unit)×Unit):=
 letI a:=(((- 1:Int),()),())
 (n3' p0 p1 p2 p3 p4 p5 p6 p7).bind fun y1=>bif (y1.1.1 != (0:Int)) then some a else bif (((List.length p8:Nat):Int) != ((List.length p7:Nat):Int)) then some a else (ni0' ((p8,p9,dir,p10,(),(- 1:Int),(0:Int),()),((p0,p1,p2,p3,p4,p5,p6,p7,()),()))).bind fun y2=>some ((y2.1.1,()),())
noncomputable def nkh' (p0 p1 p2 p3:Int) (p4 p5 p6:Nat) (p7:List Car) (p8 p9 p10 p11:Int) (p12:Bool) (p13:Int) (p14:List View):Option ((Unit×Unit)×(T'28×Unit)):=
 letI b:=(0:Int)
 letI e:=(View.mk false false false false b b b b b b b b)
 letI am:=(p11,p12,())
 letI u:=(false,())
 letI k:=((p0,p1,p2,p3,p4,p5,p6,p7,()),(p8,p9,p10,am),(b,b,b,b,u),())
 letI r:=((),())
 let z0:Int:=(IntKind.i64.wrap (((List.length p7:Nat):Int) + (1:Int)))
 bif (p10==(- 2:Int)) then some (r,((p8,p9,p10,am),())) else bif (p10==(- 1:Int)) then (nim' p0 p1 p2 p3 p4 p5 p6 p7 p14 p8 p9 (- 1:Int)).bind fun y1=>some (r,((p8,p9,y1.1.1,am),())) else Option.bind (bif (inB p10 (List.length p14)) then bif (List.getD p14 (Int.toNat p10) e).J3 then some ((p13,p14,(),(),(),z0,(decide (z0≤p11)),()),k) else some ((p13,p14,(),(),(),z0,u),k) else none) fun y2=>letI ag:=y2.2.1
 letI ai:=ag.2
 letI c:=ai.2.2
 letI d:=y2.2.2.1
 letI s:=c.2
 letI ah:=s.2
 letI j:=d.2
 letI al:=j.1
 letI q:=y2.1.2.1
 letI l:=j.2
 letI aq:=l.1
 letI ao:=ah.2
 letI ak:=d.1
 letI f:=(nim' ag.1 ai.1 ai.2.1 c.1 s.1 ah.1 ao.1 ao.2.1 q ak al aq)
 letI h:=nmd' ag.1 ai.1 ai.2.1 c.1 s.1 ah.1 ao.1 ao.2.1 q
 letI v:=(List.getD q (Int.toNat aq) e)
 letI aa:=(inB aq (List.length q))
 letI ad:=l.2
 letI ae:=(r,(d,()))
 letI ap:=ad.2.1
 bif y2.1.2.2.2.2.2.2.1 then some (r,((ak,al,(- 2:Int),ad.1,ap,()),())) else bif aa then bif v.J3 then f.bind fun y3=>some (r,((ak,al,y3.1.1,(IntKind.i64.wrap (ad.1 + (1:Int))),ap,()),())) else bif ap then some ae else bif (decide (y2.1.2.2.2.2.2.1≤ad.1)) then some ae else bif aa then let z1:View:=v
 letI a:=(d,y2.2.2.2.1,(z1.J2,z1.E3,z1.F3,z1.J3,z1.C0,z1.G0,z1.H3,z1.A3,z1.T2,z1.X2,z1.I2,z1.Z1,()),())
 f.bind fun y4=>letI w:=((q,(),(),(),y4.1.1,u),a)
 bif (decide (y4.1.1 < b)) then some ae else Option.bind (bif z1.F3 then bif (y2.1.1==b) then (h y4.1.1 ak al).bind fun y5=>(h aq ak al).bind fun y6=>(nie' y5.2.1.1 y5.2.1.2.1 y6.2.1.1 y6.2.1.2.1).bind fun y7=>some ((q,(),(),(),y4.1.1,y7.1.1,()),a) else some w else some w) fun y8=>letI ar:=y8.2.2.2.1
 letI g:=ar.2.2
 letI m:=y8.1.2.2.2.2
 letI n:=g.2.2.2
 letI o:=(y8.2.1,y8.2.2.1,())
 letI ab:=n.2.2
 letI af:=m.1
 letI aj:=(((),(),af,u),o)
 letI an:=ab.2
 Option.bind (bif m.2.1 then some (((),(),af,true,()),o) else bif (! g.1) then (niw' ar.1 ar.2.1 g.1 g.2.1 g.2.2.1 n.1 n.2.1 ab.1 an.1 an.2.1 an.2.2.1 an.2.2.2.1).bind fun y9=>bif y9.1.1 then bif (inB af (List.length y8.1.1)) then let z2:View:=(List.getD y8.1.1 (Int.toNat af) e)
 (niw' z2.J2 z2.E3 z2.F3 z2.J3 z2.C0 z2.G0 z2.H3 z2.A3 z2.T2 z2.X2 z2.I2 z2.Z1).bind fun y10=>some (((),(),af,(! y10.1.1),()),o) else none else some aj else some aj) fun y11=>letI au:=y11.2.1
 bif y11.1.2.2.2.1 then some (r,((au.1,au.2.1,y11.1.2.2.1,(IntKind.i64.wrap (au.2.2.2.1 + (1:Int))),true,()),())) else some (r,(au,())) else none else none
noncomputable def ngk' (p0:List Int) (p1:List View) (out:List Record) (p2:List Int) (i p3 p4 p5 p6:Int) (p7 p8 p9:Nat) (p10:List Car) (p11:List Int) (p12 p13:List Bool) (p14:List Entry):Option (Sum (T'98×(T'0×T'18×Unit)) (T'99×Unit)):=
 letI a:=(0:Int)
 bif (decide (i < ((List.length p14:Nat):Int))) then bif (inB i (List.length p14)) then let z0:Entry:=(List.getD p14 (Int.toNat i) (Entry.mk a a a a false))
 bif (inB i (List.length p0)) then (nkh' p3 p4 p5 p6 p7 p8 p9 p10 z0.C0 z0.G0 z0.O0 z0.V0 z0.Q1 (List.getD p0 (Int.toNat i) a) p1).bind fun y1=>letI d:=((p3,p4,p5,p6,p7,p8,p9,p10,()),(p11,p12,p13,p14,()),(z0.C0,z0.G0,z0.O0,z0.V0,z0.Q1,()),y1.2.1,())
 Option.bind (Option.bind (bif (y1.2.1.2.2.2.1 != z0.V0) then some ((p0,p1,(),(),out,p2,i,(),(),true,()),d) else some ((p0,p1,(),(),out,p2,i,(),(),(! (y1.2.1.2.2.2.2.1==z0.Q1)),()),d)) fun y2=>letI ao:=y2.1
 letI ap:=ao.2
 letI b:=ap.2.2.2
 letI k:=y2.2.2.2
 letI e:=(y2.2.1,y2.2.2.1,k.1,k.2.1,())
 letI j:=(b.2.1,b.2.2.1,(),(),())
 letI r:=Record.mk (7:Int) k.1.1 k.1.2.1
 letI ab:=k.2.1.2.2.2
 letI ae:=b.1
 letI am:=(List.length ae)
 bif b.2.2.2.2.2.1 then bif ab.2.1 then let z1:List ( Record ):=[(r (1:Int) ab.1)]
 bif (Nat.ble (am + (List.length z1)) 2147483648) then some ((ao.1,ap.1,(),(),(ae++z1),j),e) else none else let z2:List ( Record ):=[(r a ab.1)]
 bif (Nat.ble (am + (List.length z2)) 2147483648) then some ((ao.1,ap.1,(),(),(ae++z2),j),e) else none else some ((ao.1,ap.1,(),(),ae,j),e)) fun y3=>letI g:=y3.1.2.2.2.2
 letI l:=y3.2.2.2
 letI aq:=l.1
 letI s:=(y3.2.1,y3.2.2.1,aq,l.2.1,())
 letI v:=(g.2.1,g.2.2.1,(),(),())
 Option.bind (bif (l.2.1.2.2.1 != aq.2.2.1) then let z3:List ( Record ):=[(Record.mk (3:Int) aq.1 aq.2.1 l.2.1.2.2.1 a)]
 bif (Nat.ble ((List.length g.1) + (List.length z3)) 2147483648) then some ((y3.1.1,y3.1.2.1,(),(),(g.1++z3),v),s) else none else some ((y3.1.1,y3.1.2.1,(),(),g.1,v),s)) fun y4=>letI m:=y4.1.2.2.2.2
 letI ad:=y4.2.2.2
 letI ar:=ad.2.1
 letI o:=(y4.2.1,y4.2.2.1,ad.1,ar,())
 letI au:=m.2
 Option.bind (bif (ar.2.2.1 != ad.1.2.2.1) then some ((y4.1.1,y4.1.2.1,(),(),m.1,au.1,au.2.1,(),(),(decide (a≤ar.2.2.1)),()),o) else some ((y4.1.1,y4.1.2.1,(),(),m.1,au.1,au.2.1,(),(),false,()),o)) fun y5=>letI af:=y5.1
 letI ag:=af.2
 letI c:=ag.2.2.2
 letI w:=y5.2
 letI ah:=w.2
 letI f:=ah.2.2.1.2.2.1
 letI aa:=w.1
 letI h:=aa.2.2.2
 letI n:=c.2
 letI av:=n.2
 letI q:=((IntKind.i64.wrap (av.1 + (1:Int))),())
 letI u:=h.2.2
 letI ai:=ag.1
 letI aj:=af.1
 letI ak:=u.2.2.1
 letI al:=(List.length n.1)
 letI an:=(aa,ah.1,())
 bif av.2.2.2.1 then bif (inB f (List.length ai)) then let z4:View:=(List.getD ai (Int.toNat f) (View.mk false false false false a a a a a a a a))
 (ndf' aa.1 aa.2.1 aa.2.2.1 h.1 h.2.1 u.1 u.2.1 ak f z4.J2 z4.E3 z4.F3 z4.J3 z4.C0 z4.G0 z4.H3 z4.A3 z4.T2 z4.X2 z4.I2 z4.Z1 ah.2.1.1 ah.2.1.2.1).bind fun y6=>bif (inB f (List.length ak)) then let z5:Int:=(IntKind.i64.wrap (y6.1.1 + (List.getD ak (Int.toNat f) (Car.mk a a a a a a a a a)).O2))
 let z6:List ( Int ):=[(bif (decide ((1000000:Int) < z5)) then (1000000:Int) else z5)]
 bif (Nat.ble (al + (List.length z6)) 2147483648) then some (Sum.inl ((aj,ai,(),(),c.1,(n.1++z6),q),an)) else none else none else none else bif (inB av.1 (List.length aj)) then let z7:Int:=(IntKind.i64.wrap ((List.getD aj (Int.toNat av.1) a) - (1:Int)))
 let z8:List ( Int ):=[(bif (decide (a < z7)) then z7 else a)]
 bif (Nat.ble (al + (List.length z8)) 2147483648) then some (Sum.inl ((aj,ai,(),(),c.1,(n.1++z8),q),an)) else none else none else none else none else some (Sum.inr ((out,p2,()),()))
noncomputable def nl1':(T'98×(T'0×T'18×Unit))→Option (T'99×Unit):=iter (fun x=>letI a:=x.2.1.2.2; letI b:=x.1.2.2.2.2; letI c:=a.2.2; letI d:=x.2.2.1; ngk' x.1.1 x.1.2.1 b.1 b.2.1 b.2.2.1 x.2.1.1 x.2.1.2.1 a.1 a.2.1 c.1 c.2.1 c.2.2.1 c.2.2.2.1 d.1 d.2.1 d.2.2.1 d.2.2.2.1) fuel
noncomputable def nmf' (p0 p1 p2 p3:Int) (p4 p5 p6:Nat) (p7:List Car) (p8:List Int) (p9 p10:List Bool) (p11:List Entry) (p12:List Int) (p13:List View):Option (T'97×Unit):=
 letI a:=List Record
 letI b:=List Int
 letI c:=((1:Int),())
 (n7' p0 p1 p2 p3 p4 p5 p6 p7 p8 p9 p10 p11).bind fun y1=>bif (! y1.1.1) then some ((([]:a),([]:b),c),()) else (ncg' p8 p9 p10 p11 p12).bind fun y2=>bif (! y2.1.1) then some ((([]:a),([]:b),c),()) else bif (((List.length p13:Nat):Int) != ((List.length p7:Nat):Int)) then some ((([]:a),([]:b),c),()) else (nl1' ((p12,p13,(),(),([]:a),([]:b),(0:Int),()),((p0,p1,p2,p3,p4,p5,p6,p7,()),(p8,p9,p10,p11,()),()))).bind fun y3=>some ((y3.1.1,y3.1.2.1,(0:Int),()),())
noncomputable def ngh' (p0:List View) (l:List Entry) (i p1 p2 p3 p4:Int) (p5 p6 p7:Nat) (p8:List Car) (p9:List Int) (p10 p11:List Bool) (p12:List Entry) (p13:List Record) (p14:List Int) (p15 p16:List Bool) (p17:List Entry) (p18:List Int) (p19:List Calls) (p20:List Bool) (p21 p22 p23 p24:Int) (p25:List Record) (p26:List Int) (p27 p28:List Bool) (p29:List Entry) (p30:List Int) (p31:List Calls) (p32:List Bool) (p33 p34 p35 p36:Int):Option (Sum (T'100×T'101) (T'102×T'103)):=
 letI f:=(p13,p14,p15,p16,p17,p18,p19,p20,p21,p22,p23,p24,())
 letI a:=(f,(p25,p26,p27,p28,p29,p30,p31,p32,p33,p34,p35,p36,()),())
 letI h:=(0:Int)
 letI c:=(List.getD l (Int.toNat i) (Entry.mk h h h h false))
 letI d:=(p1,p2,p3,p4,p5,p6,p7,p8,())
 letI e:=(p0,(),(),(),(),l,(IntKind.i64.wrap (i + (1:Int))),())
 letI m:=(p9,p10,p11,p12,())
 letI o:=List.length l
 bif (decide (i < ((o:Nat):Int))) then bif (inB i (o)) then let z0:Entry:=c
 bif (inB i (o)) then let z1:Entry:=c
 (nfi' p9 p10 p11 p12 z0.C0 z1.G0).bind fun y1=>bif (decide (h≤y1.1.1)) then some (Sum.inl (e,(d,m,a))) else (nis' p1 p2 p3 p4 p5 p6 p7 p8 p26 p27 p28 p29).bind fun y2=>bif (! y2.1.1) then (nc5' z0.C0 z1.G0).bind fun y3=>(nbw' p35 p36 y3.2.1.1 y3.2.1.2.1).bind fun y4=>some (Sum.inl (e,(d,m,f,(p25,p26,p27,p28,p29,p30,p31,p32,p33,p34,y4.2.1.1,y4.2.1.2.1,()),()))) else Option.bind (some ((p0,(),(),(),(),l,i,z0.C0,z1.G0,()),(d,m,a))) fun y5=>letI s:=y5.2
 letI n:=s.2.2.2.1
 letI b:=n.2.2.2
 letI g:=b.2.2.2
 letI u:=s.1
 letI j:=u.2.2
 letI k:=y5.1.2.2.2.2.2
 letI q:=j.2
 letI r:=g.2
 letI v:=q.2
 letI w:=r.2
 (nfs' u.1 u.2.1 j.1 q.1 v.1 v.2.1 v.2.2.1 v.2.2.2.1 n.1 n.2.1 n.2.2.1 b.1 b.2.1 b.2.2.1 g.1 r.1 w.1 w.2.1 w.2.2.1 w.2.2.2.1 [(Record.mk (1:Int) k.2.2.1 k.2.2.2.1 h h)]).bind fun y6=>some (Sum.inl ((y5.1.1,(),(),(),(),k.1,(IntKind.i64.wrap (k.2.1 + (1:Int))),()),(u,s.2.1,s.2.2.1,y6.2.1,()))) else none else none else some (Sum.inr ((p0,(),(),(),()),(d,a)))
noncomputable def nlx':(T'100×T'101)→Option (T'102×T'103):=iter (fun x=>letI a:=x.2.2.2; letI g:=a.2.1; letI b:=g.2.2.2.2; letI k:=a.1.2; letI c:=k.2.2.2; letI d:=x.2.1.2.2; letI e:=c.2.2.2; letI f:=b.2.2.2; letI h:=d.2.2; letI j:=x.2.2.1; ngh' x.1.1 x.1.2.2.2.2.2.1 x.1.2.2.2.2.2.2.1 x.2.1.1 x.2.1.2.1 d.1 d.2.1 h.1 h.2.1 h.2.2.1 h.2.2.2.1 j.1 j.2.1 j.2.2.1 j.2.2.2.1 a.1.1 k.1 k.2.1 k.2.2.1 c.1 c.2.1 c.2.2.1 e.1 e.2.1 e.2.2.1 e.2.2.2.1 e.2.2.2.2.1 g.1 g.2.1 g.2.2.1 g.2.2.2.1 b.1 b.2.1 b.2.2.1 f.1 f.2.1 f.2.2.1 f.2.2.2.1 f.2.2.2.2.1) fuel
noncomputable def no0' (p0 p1 p2 p3:Int) (p4 p5 p6:Nat) (p7:List Car) (p8:List Int) (p9 p10:List Bool) (p11:List Entry) (p12:List Int) (p13:List View) (p14:List Calls) (p15 p16:Int) (p17:Bool):Option ((Unit×Int×Unit)×(T'90×Unit)):=
 letI a:=(0:Int)
 letI b:=List Bool
 letI an:=(a,())
 letI bm:=(a,an)
 letI e:=(a,a,bm)
 letI f:=List Int
 letI j:=List Record
 letI k:=((List.length p13:Nat):Int)
 letI s:=List Entry
 letI u:=List Calls
 letI w:=((),(1:Int),())
 letI af:=((),(),(),(),(),())
 letI am:=((List.length p7:Nat):Int)
 letI ax:=(p0,p1,p2,p3,p4,p5,p6,p7,())
 letI bn:=(p8,p9,p10,p11,())
 letI bo:=(2147483648:Int)
 (n7' p0 p1 p2 p3 p4 p5 p6 p7 p8 p9 p10 p11).bind fun y1=>bif (! y1.1.1) then some (w,((([]:j),([]:f),([]:b),([]:b),([]:s),([]:f),([]:u),([]:b),e),())) else (ncg' p8 p9 p10 p11 p12).bind fun y2=>bif (! y2.1.1) then some (w,((([]:j),([]:f),([]:b),([]:b),([]:s),([]:f),([]:u),([]:b),e),())) else bif (k != am) then some (w,((([]:j),([]:f),([]:b),([]:b),([]:s),([]:f),([]:u),([]:b),e),())) else bif (((List.length p14:Nat):Int) != am) then some (w,((([]:j),([]:f),([]:b),([]:b),([]:s),([]:f),([]:u),([]:b),e),())) else Option.bind (bif p17 then (nnp' p0 p1 p2 p3 p4 p5 p6 p7 p13 p14).bind fun y3=>Option.bind (some ((p13,af),(ax,bn,(p15,p16,()),(([]:j),([]:f),([]:b),([]:b),([]:s),([]:f),([]:u),([]:b),e),(([]:j),p8,p9,p10,p11,p12,y3.2.1.1,y3.2.1.2.1,y3.2.1.2.2.1,y3.2.1.2.2.2.1,bm),()))) fun y4=>letI aa:=y4.2
 letI ab:=aa.2
 letI ap:=ab.2
 letI bg:=ap.2.2.1
 letI c:=bg.2.2
 letI ag:=aa.1
 letI g:=ag.2.2
 letI l:=c.2.2.2
 letI n:=g.2.2
 letI ah:=l.2.2
 letI ak:=n.2
 letI ao:=ab.1
 letI bh:=ak.2
 letI bi:=ah.2
 (nno' ag.1 ag.2.1 g.1 g.2.1 n.1 ak.1 bh.1 bh.2.1 ao.1 ao.2.1 ao.2.2.1 ao.2.2.2.1 y4.1.1).bind fun y5=>(nfs' ag.1 ag.2.1 g.1 g.2.1 n.1 ak.1 bh.1 bh.2.1 bg.1 bg.2.1 c.1 c.2.1 c.2.2.1 l.1 l.2.1 ah.1 bi.1 bi.2.1 bi.2.2.1 bi.2.2.2.1 y5.1.1).bind fun y6=>some ((y4.1.1,af),(ag,ao,ap.1,ap.2.1,y6.2.1,())) else let z0:Int:=k
 bif (((decide (a≤z0))&&(decide (z0≤z0)))&&(decide (z0≤bo))) then let z1:Int:=k
 bif (((decide (a≤z1))&&(decide (z1≤z1)))&&(decide (z1≤bo))) then some ((p13,af),(ax,bn,bm,(([]:j),([]:f),([]:b),([]:b),([]:s),([]:f),([]:u),([]:b),e),(([]:j),p8,p9,p10,p11,p12,(List.replicate (Int.toNat z0) (Calls.mk a a)),(List.replicate (Int.toNat z1) false),e),())) else none else none) fun y7=>letI ay:=y7.2
 letI bj:=ay.1
 letI ad:=bj.2.2
 letI aq:=ad.2
 letI az:=ay.2
 letI bk:=aq.2
 letI bl:=az.2
 (ng5' bj.1 bj.2.1 ad.1 aq.1 bk.1 bk.2.1 bk.2.2.1 bk.2.2.2.1).bind fun y8=>(nhc' bl.1.1 bl.1.2.1 y8.2.1.1 y8.2.1.2.1).bind fun y9=>(nld' y9.2.1.1 y9.2.1.2.1).bind fun y10=>(nlx' ((y7.1.1,(),(),(),(),y10.1.1,an),(bj,az.1,bl.2.1,bl.2.2.1,()))).bind fun y11=>letI m:=y11.2
 letI o:=m.1
 letI q:=m.2.2.1
 letI ae:=o.2.2
 letI ai:=ae.2
 letI ar:=q.2
 letI ba:=ai.2
 letI bb:=ar.2
 (nmf' o.1 o.2.1 ae.1 ai.1 ba.1 ba.2.1 ba.2.2.1 ba.2.2.2.1 ar.1 bb.1 bb.2.1 bb.2.2.1 bb.2.2.2.1 y11.1.1).bind fun y12=>Option.bind (some (((),(),(),y12.1.1,y12.1.2.1,()),(o,m.2.1,q,()))) fun y13=>letI al:=y13.2.2.2.1
 letI d:=al.2.2.2
 letI r:=d.2.2.2
 letI v:=y13.2.1.2.2
 letI au:=v.2
 letI av:=r.2
 letI bc:=au.2
 letI bd:=av.2
 (nfs' y13.2.1.1 y13.2.1.2.1 v.1 au.1 bc.1 bc.2.1 bc.2.2.1 bc.2.2.2.1 al.1 al.2.1 al.2.2.1 d.1 d.2.1 d.2.2.1 r.1 av.1 bd.1 bd.2.1 bd.2.2.1 bd.2.2.2.1 y13.1.2.2.2.1).bind fun y14=>letI aj:=y14.2.1.2
 letI be:=aj.2
 letI h:=be.2.2.2.2
 letI aw:=h.2
 letI bf:=aw.2
 some (((),an),((y14.2.1.1,aj.1,be.1,be.2.1,be.2.2.1,y13.1.2.2.2.2.1,h.1,aw.1,bf.1,bf.2.1,bf.2.2.1,bf.2.2.2.1,()),()))
noncomputable def ngt' (p0:List View) (i:Int) (p1:List Record) (p2:List Int) (p3 p4:List Bool) (p5:List Entry) (p6:List Int) (p7:List Calls) (p8:List Bool) (p9 p10 p11 p12 p13 p14 p15 p16:Int) (p17 p18 p19:Nat) (p20:List Car) (p21:List Int) (p22 p23:List Bool) (p24:List Entry) (p25 p26:ByteArray) (p27:Int) (p28:List Debounced) (p29:List Belief) (p30:List NewCar) (p31:List Loaded) (p32:List Int) (p33:List Calls) (p34 p35 p36 p37 p38 p39 p40:Int) (p41:List CarInput) (p42:Bool) (p43:List Calls) (p44 p45:List Int) (p46 t_e p47 p48 p49 p50:Int) (p51 p52:Bool) (p53:Int) (p54:List CarOutput):Option (Sum (T'104×(T'90×T'65×Unit)) (T'105×(T'90×T'65×Unit))):=
 letI a:=((p1,p2,p3,p4,p5,p6,p7,p8,p9,p10,p11,p12,()),(p13,p14,p15,p16,p17,p18,p19,p20,p21,p22,p23,p24,p25,p26,p27,p28,p29,p30,p31,p32,p33,p34,p35,p36,p37,p38,p39,p40,p41,p42,p43,p44,p45,p46,t_e,p47,p48,p49,p50,p51,p52,p53,p54,()),())
 letI f:=((IntKind.i64.wrap (i + (1:Int))),())
 letI g:=(0:Int)
 letI k:=(List.length p0)
 letI l:=(Int.toNat i)
 bif (decide (i < ((List.length p20:Nat):Int))) then (njg' p21 p22 p23 p24 i).bind fun y1=>letI n:=y1.2.1.2
 letI c:=n.2.2.2
 letI h:=c.2.2
 letI m:=h.2
 letI s:=m.2
 bif p42 then bif (inB i (List.length p41)) then let z0:CarInput:=(List.getD p41 l (CarInput.mk g false false false false g false g false g 0))
 (npn' p13 p14 p15 p16 p17 p18 p19 p20 p21 p22 p23 p24 p25 p26 p27 p28 p29 p30 p31 p32 p33 p34 p35 p36 z0.R1 z0.L2 z0.Y1 z0.M2 i).bind fun y2=>letI o:=y2.2.1.2
 letI b:=o.2.2.2
 letI r:=b.2
 letI d:=View.mk y2.2.1.1 o.1 o.2.1 o.2.2.1 b.1 r.1 r.2.1
 letI e:=r.2.2.2
 letI j:=e.2
 letI q:=j.2
 bif (inB i (List.length p44)) then (n6' (List.getD p44 l g)).bind fun y3=>bif y3.1.1 then bif (inB i (List.length p43)) then let z1:Calls:=(List.getD p43 l (Calls.mk g g))
 let z2:List ( View ):=[(d z1.Up z1.G5 j.1 q.1 q.2.1)]
 bif (Nat.ble (k + (List.length z2)) 2147483648) then some (Sum.inl (((),(),(p0++z2),f),a)) else none else none else let z3:List ( View ):=[(d r.2.2.1 e.1 j.1 q.1 q.2.1)]
 bif (Nat.ble (k + (List.length z3)) 2147483648) then some (Sum.inl (((),(),(p0++z3),f),a)) else none else none else none else let z4:List ( View ):=[(View.mk y1.2.1.1 n.1 n.2.1 n.2.2.1 c.1 c.2.1 h.1 m.1 s.1 s.2.1 s.2.2.1 s.2.2.2.1)]
 bif (Nat.ble (k + (List.length z4)) 2147483648) then some (Sum.inl (((),(),(p0++z4),f),a)) else none else some (Sum.inr (((),(),p0,()),a))
noncomputable def ndo':(T'104×(T'90×T'65×Unit))→Option (T'105×(T'90×T'65×Unit)):=iter (fun x=>letI h:=x.2.2.1.2.2; letI l:=h.2.2; letI c:=l.2.2.2.2; letI q:=c.2.2; letI f:=q.2.2.2; letI m:=f.2.2; letI a:=m.2.2.2.2; letI r:=a.2.2; letI g:=r.2.2.2; letI n:=g.2.2; letI b:=n.2.2.2.2; letI o:=x.2.1.2; letI d:=o.2.2.2; letI s:=b.2.2; letI e:=s.2.2.2; letI j:=d.2.2.2; letI k:=e.2.2.2; ngt' x.1.2.2.1 x.1.2.2.2.1 x.2.1.1 o.1 o.2.1 o.2.2.1 d.1 d.2.1 d.2.2.1 j.1 j.2.1 j.2.2.1 j.2.2.2.1 j.2.2.2.2.1 x.2.2.1.1 x.2.2.1.2.1 h.1 h.2.1 l.1 l.2.1 l.2.2.1 l.2.2.2.1 c.1 c.2.1 q.1 q.2.1 q.2.2.1 f.1 f.2.1 m.1 m.2.1 m.2.2.1 m.2.2.2.1 a.1 a.2.1 r.1 r.2.1 r.2.2.1 g.1 g.2.1 n.1 n.2.1 n.2.2.1 n.2.2.2.1 b.1 b.2.1 s.1 s.2.1 s.2.2.1 e.1 e.2.1 e.2.2.1 k.1 k.2.1 k.2.2.1 k.2.2.2.1 k.2.2.2.2.1) fuel
noncomputable def ncm' (p0 p1 p2 p3:Int) (p4 p5 p6:Nat) (p7:List Car) (p8:List Int) (p9 p10:List Bool) (p11:List Entry) (p12 p13:ByteArray) (p14:Int) (p15:List Debounced) (p16:List Belief) (p17:List NewCar) (p18:List Loaded) (p19:List Int) (p20:List Calls) (p21 p22 p23 p24 p25 p26 p27:Int) (p28:List CarInput) (p29:Bool) (p30:List Calls) (p31 p32:List Int) (p33 t_e p34 p35 p36 p37:Int) (p38 p39:Bool) (p40:Int) (p41:List CarOutput):Option ((Unit×Unit)×(T'90×T'65×Unit)):=
 letI ad:=(0:Int)
 letI bt:=List Bool
 (ndo' (((),(),([]:List View),ad,()),((([]:List Record),([]:List Int),([]:bt),([]:bt),([]:List Entry),([]:List Int),([]:List Calls),([]:bt),ad,ad,ad,ad,()),(p0,p1,p2,p3,p4,p5,p6,p7,p8,p9,p10,p11,p12,p13,p14,p15,p16,p17,p18,p19,p20,p21,p22,p23,p24,p25,p26,p27,p28,p29,p30,p31,p32,p33,t_e,p34,p35,p36,p37,p38,p39,p40,p41,()),()))).bind fun y1=>letI ab:=y1.2.2.1
 letI ao:=ab.2.2
 letI bl:=ao.2
 letI h:=bl.2.2.2
 letI au:=h.2.2
 letI bm:=au.2
 letI l:=bm.2.2.2.2.2.2.2.2.2.2
 letI az:=l.2.2.2.2.2
 (no0' ab.1 ab.2.1 ao.1 bl.1 bl.2.1 bl.2.2.1 h.1 h.2.1 au.1 bm.1 bm.2.1 bm.2.2.1 l.1 y1.1.2.2.1 l.2.1 az.1 az.2.1 az.2.2.2.2.2.1).bind fun y2=>Option.bind (some (((),(),(),()),(y1.2.1,y2.2.1,ab,()))) fun y3=>letI u:=y3.2.2
 letI w:=u.2.1.2
 letI av:=w.2.2
 letI bn:=av.2
 letI f:=bn.2.2.2
 letI bj:=f.2
 letI bo:=bj.2
 letI o:=bo.2.2.2
 letI an:=o.2.2
 letI ba:=an.2
 letI bp:=ba.2
 letI b:=bp.2.2.2
 letI bv:=b.2
 letI s:=bv.2.2.2
 letI aw:=s.2.2
 letI bq:=aw.2
 letI e:=bq.2.2.2
 letI bk:=e.2
 letI br:=bk.2
 letI m:=br.2.2.2
 letI aa:=m.2.2.2
 letI bu:=u.1
 letI ae:=bu.2.2.2.2.2
 letI bb:=aa.2
 letI bs:=bb.2
 (n0' bu.1 u.2.1.1 w.1 w.2.1 av.1 bn.1 bn.2.1 bn.2.2.1 f.1 bj.1 bo.1 bo.2.1 bo.2.2.1 o.1 o.2.1 an.1 ba.1 bp.1 bp.2.1 bp.2.2.1 b.1 bv.1 bv.2.1 bv.2.2.1 s.1 s.2.1 aw.1 bq.1 bq.2.1 bq.2.2.1 e.1 bk.1 br.1 br.2.1 br.2.2.1 m.1 m.2.1 m.2.2.1 aa.1 bb.1 bs.1 bs.2.1 bs.2.2.1 bs.2.2.2.1).bind fun y4=>letI ay:=y4.2.1
 letI bd:=ay.2
 letI n:=bd.2.2
 letI af:=n.2
 letI aj:=af.2
 letI be:=aj.2
 letI d:=be.2.2
 letI aq:=d.2
 letI bf:=aq.2
 letI j:=bf.2.2
 letI q:=j.2.2
 letI ag:=q.2
 letI ak:=ag.2
 letI bg:=ak.2
 letI a:=bg.2.2.2
 letI ap:=a.2
 letI bc:=ap.2
 letI k:=bc.2.2
 letI v:=k.2.2
 letI ar:=v.2
 letI bh:=ar.2
 letI c:=bh.2.2
 letI ah:=c.2
 letI al:=ah.2
 letI bi:=al.2
 letI g:=bi.2.2
 letI r:=g.2.2
 letI ai:=r.2
 letI am:=ai.2
 letI ax:=(am.2.2.1,am.2.2.2.1,())
 bif (! ((ae.2.2.2.2.2.1==ad)&&((ae.2.2.2.2.2.2.1==ad)&&true))) then (ngx' bc.2.1).bind fun y5=>some (((),()),(bu,(ay.1,bd.1,bd.2.1,n.1,af.1,aj.1,be.1,be.2.1,d.1,aq.1,bf.1,bf.2.1,j.1,j.2.1,q.1,ag.1,ak.1,bg.1,bg.2.1,ae.1,a.1,ap.1,bc.1,y5.1.1,k.1,k.2.1,v.1,ar.1,bh.1,bh.2.1,c.1,ah.1,al.1,bi.1,bi.2.1,g.1,g.2.1,r.1,ai.1,am.1,true,ax),())) else some (((),()),(bu,(ay.1,bd.1,bd.2.1,n.1,af.1,aj.1,be.1,be.2.1,d.1,aq.1,bf.1,bf.2.1,j.1,j.2.1,q.1,ag.1,ak.1,bg.1,bg.2.1,ae.1,a.1,ap.1,bc.1,bc.2.1,k.1,k.2.1,v.1,ar.1,bh.1,bh.2.1,c.1,ah.1,al.1,bi.1,bi.2.1,g.1,g.2.1,r.1,ai.1,am.1,am.2.1,ax),()))
noncomputable def niz' (l:List Entry) (i p0 p1 p2 p3:Int):Option (Sum (T'106×T'5) ((Unit×Unit×Unit)×T'5)):=
 letI c:=(0:Int)
 letI a:=(List.getD l (Int.toNat i) (Entry.mk c c c c false))
 letI b:=List.length l
 bif (decide (i < ((b:Nat):Int))) then bif (inB i (b)) then bif (inB i (b)) then (nc5' a.C0 a.G0).bind fun y1=>(nbw' p2 p3 y1.2.1.1 y1.2.1.2.1).bind fun y2=>some (Sum.inl ((l,(),(),(IntKind.i64.wrap (i + (1:Int))),()),((p0,p1,()),y2.2.1,()))) else none else none else some (Sum.inr (((),(),()),((p0,p1,()),(p2,p3,()),())))
noncomputable def no2':(T'106×T'5)→Option ((Unit×Unit×Unit)×T'5):=iter (fun x=>niz' x.1.1 x.1.2.2.2.1 x.2.1.1 x.2.1.2.1 x.2.2.1.1 x.2.2.1.2.1) fuel
noncomputable def nsv' (l:List Entry):Option ((Unit×Unit)×T'3):=
 letI a:=(0:Int)
 (no2' ((l,(),(),a,()),((a,a,()),(a,a,()),()))).bind fun y1=>some (((),()),(y1.2.2.1,()))
noncomputable def nnm' (p0:List Int) (p1 p2:List Bool) (p3:List Entry):Option ((Unit×Unit)×T'3):=
 (nsv' p3).bind fun y1=>some (((),()),(y1.2.1,()))
noncomputable def nsd' (all:List Entry) (l:List Duty) (i f d age k p0 p1 p2:Int) (p3:List Duty) (p4:Int) (p5:Bool) (p6 p7 p8 p9 p10:Int) (p11:List Duty) (p12:Int) (p13:Bool):Option (Sum (T'110×T'108) (T'111×T'108)):=
 letI b:=((p0,p1,p2,p3,p4,p5,()),(p6,p7,()),(p8,p9,p10,p11,p12,p13,()),())
 letI c:=(Duty.mk (0:Int) (0:Int) (0:Int))
 letI j:=(List.getD p3 (Int.toNat k) c)
 letI n:=List.length p3
 bif (decide (k < ((n:Nat):Int))) then Option.bind (bif (inB k (n)) then bif (j.C0==f) then bif (inB k (n)) then some (((),(),(),all,l,i,f,d,age,k,(j.G0==d),()),b) else none else some (((),(),(),all,l,i,f,d,age,k,false,()),b) else none) fun y1=>letI r:=y1.1.2.2.2
 letI a:=r.2
 letI e:=a.2.2
 letI h:=e.2
 letI o:=h.2
 letI q:=o.2
 letI g:=((IntKind.i64.wrap (q.1 + (1:Int))),())
 letI m:=(y1.2.1,y1.2.2.1,y1.2.2.2.1,())
 bif q.2.1 then bif (inB q.1 (List.length y1.2.1.2.2.2.1)) then some (Sum.inl (((),(),(),r.1,a.1,a.2.1,e.1,h.1,(List.getD y1.2.1.2.2.2.1 (Int.toNat q.1) c).H5,g),m)) else none else some (Sum.inl (((),(),(),r.1,a.1,a.2.1,e.1,h.1,o.1,g),m)) else some (Sum.inr (((),(),(),all,l,i,f,d,age,()),b))
noncomputable def nmr':(T'110×T'108)→Option (T'111×T'108):=iter (fun x=>letI a:=x.1.2.2.2.2; letI b:=x.2.2.2.1; letI c:=x.2.1.2; letI d:=a.2.2; letI e:=b.2.2; nsd' x.1.2.2.2.1 a.1 a.2.1 d.1 d.2.1 d.2.2.1 d.2.2.2.1 x.2.1.1 c.1 c.2.1 c.2.2.1 c.2.2.2.1 c.2.2.2.2.1 x.2.2.1.1 x.2.2.1.2.1 b.1 b.2.1 e.1 e.2.1 e.2.2.1 e.2.2.2.1) fuel
noncomputable def nr2' (all:List Entry) (l:List Duty) (i p0 p1 p2:Int) (p3:List Duty) (p4:Int) (p5:Bool) (p6 p7 p8 p9 p10:Int) (p11:List Duty) (p12:Int) (p13:Bool):Option (Sum (T'107×T'108) (T'109×(T'37×T'37×Unit))):=
 letI d:=(0:Int)
 letI f:=(List.getD all (Int.toNat i) (Entry.mk d d d d false))
 letI k:=((p8,p9,p10,p11,p12,p13,()),())
 letI s:=List.length all
 letI v:=(p0,p1,p2,p3,p4,p5,())
 bif (decide (i < ((s:Nat):Int))) then bif (inB i (s)) then bif (inB i (s)) then (nmr' (((),(),(),all,l,i,f.C0,f.G0,(- 1:Int),d,()),(v,(p6,p7,()),k))).bind fun y1=>letI w:=y1.1.2.2.2
 letI a:=w.2
 letI e:=a.2.2
 letI m:=e.2
 letI n:=(y1.2.1,y1.2.2.1,y1.2.2.2.1,())
 Option.bind (Option.bind (bif (decide (m.2.1 < d)) then (nc1' y1.2.2.1.1 y1.2.2.1.2.1 e.1 m.1).bind fun y2=>some (((),(),(),w.1,a.1,a.2.1,e.1,m.1,m.2.1,y2.1.1,()),n) else some (((),(),(),w.1,a.1,a.2.1,e.1,m.1,m.2.1,false,()),n)) fun y3=>letI b:=y3.1.2.2.2
 letI g:=b.2.2
 letI o:=g.2
 letI q:=(y3.2.1,y3.2.2.1,y3.2.2.2.1,())
 letI aa:=o.2
 bif aa.2.2.1 then some (((),(),(),b.1,b.2.1,g.1,o.1,aa.1,d,()),q) else some (((),(),(),b.1,b.2.1,g.1,o.1,aa.1,aa.2.1,()),q)) fun y4=>letI c:=y4.1.2.2.2
 letI h:=c.2
 letI u:=h.2
 letI j:=((IntKind.i64.wrap (u.1 + (1:Int))),())
 letI r:=(y4.2.1,y4.2.2.1,y4.2.2.2.1,())
 letI ab:=u.2
 bif (decide (d≤ab.2.2.1)) then let z0:List ( Duty ):=[(Duty.mk ab.1 ab.2.1 ab.2.2.1)]
 bif (Nat.ble ((List.length h.1) + (List.length z0)) 2147483648) then some (Sum.inl (((),(),(),c.1,(h.1++z0),j),r)) else none else some (Sum.inl (((),(),(),c.1,h.1,j),r)) else none else none else some (Sum.inr (((),(),l,()),(v,k)))
noncomputable def nm3':(T'107×T'108)→Option (T'109×(T'37×T'37×Unit)):=iter (fun x=>letI a:=x.2.2.2.1; letI b:=x.2.1.2; letI c:=a.2.2; nr2' x.1.2.2.2.1 x.1.2.2.2.2.1 x.1.2.2.2.2.2.1 x.2.1.1 b.1 b.2.1 b.2.2.1 b.2.2.2.1 b.2.2.2.2.1 x.2.2.1.1 x.2.2.1.2.1 a.1 a.2.1 c.1 c.2.1 c.2.2.1 c.2.2.2.1) fuel
noncomputable def nl2' (p0 p1 p2 p3:Int) (p4 p5 p6:Nat) (p7:List Car) (car p8 p9 p10:Int) (p11:List Duty) (p12:Int) (p13:Bool) (p14 p15:Int):Option ((Unit×Int×Unit)×(T'37×Unit)):=
 letI a:=(0:Int)
 letI d:=List Duty
 (nbx' p0 p1 p2 p3 p4 p5 p6 p7 car p8 p9 p10 p11 p12 p13).bind fun y1=>bif (! y1.1.1) then some (((),(1:Int),()),((a,a,a,([]:d),a,false,()),())) else (ng5' p0 p1 p2 p3 p4 p5 p6 p7).bind fun y2=>(nld' y2.2.1.1 y2.2.1.2.1).bind fun y3=>(nm3' (((),(),(),y3.1.1,([]:d),a,()),((p8,p9,p10,p11,p12,p13,()),(p14,p15,()),(a,a,a,([]:d),a,false,()),()))).bind fun y4=>letI b:=y4.2.1.2
 letI c:=b.2
 letI e:=y4.1.2.2.1
 bif (decide (a < ((List.length e:Nat):Int))) then some (((),a,()),((y4.2.1.1,b.1,c.1,e,c.2.2.1,false,()),())) else some (((),a,()),((y4.2.1.1,b.1,c.1,e,c.2.2.1,c.2.2.2.1,()),()))
noncomputable def ntk' (car i p0 p1 p2 p3:Int) (p4 p5 p6:Nat) (p7:List Car) (p8 p9 p10:Int) (p11:List Duty) (p12:Int) (p13:Bool) (p14 p15:Int) (p16:Bool) (p17 p18:Int) (p19:Bool):Option (Sum (T'113×T'114) ((Unit×Unit×Unit)×T'115)):=
 letI b:=(0:Int)
 letI a:=(List.getD p11 (Int.toNat i) (Duty.mk b b b))
 letI c:=(car,(),(),(),(),(IntKind.i64.wrap (i + (1:Int))),())
 letI d:=(inB i (List.length p11))
 letI e:=((p14,p15,p16,()),(p17,p18,p19,()),())
 letI f:=(p0,p1,p2,p3,p4,p5,p6,p7,())
 letI g:=(p8,p9,p10,p11,p12,p13,())
 bif (decide (i < ((List.length p11:Nat):Int))) then bif d then bif (inB car (List.length p7)) then bif (decide (a.H5 < (List.getD p7 (Int.toNat car) (Car.mk b b b b b b b b b)).C3)) then bif d then bif d then (nc5' a.C0 a.G0).bind fun y1=>(nbw' p17 p18 y1.2.1.1 y1.2.1.2.1).bind fun y2=>some (Sum.inl (c,(f,g,(p14,p15,p16,()),(y2.2.1.1,y2.2.1.2.1,p19,()),()))) else none else none else some (Sum.inl (c,(f,g,e))) else none else none else some (Sum.inr (((),(),()),e))
noncomputable def now':(T'113×T'114)→Option ((Unit×Unit×Unit)×T'115):=iter (fun x=>letI a:=x.2.2; letI b:=x.2.1.2.2; letI c:=a.1.2; letI d:=a.2; letI e:=b.2.2; ntk' x.1.1 x.1.2.2.2.2.2.1 x.2.1.1 x.2.1.2.1 b.1 b.2.1 e.1 e.2.1 e.2.2.1 e.2.2.2.1 a.1.1 c.1 c.2.1 c.2.2.1 c.2.2.2.1 c.2.2.2.2.1 d.1.1 d.1.2.1 d.1.2.2.1 d.2.1.1 d.2.1.2.1 d.2.1.2.2.1) fuel
noncomputable def nnz' (p0 p1 p2 p3:Int) (p4 p5 p6:Nat) (p7:List Car) (car p8 p9 p10 p11:Int) (p12:List Duty) (p13:Int) (p14:Bool):Option ((Unit×Unit)×T'112):=
 letI b:=(0:Int)
 letI d:=((b,b,false,()),())
 letI a:=((p0,p1,p2,p3,p4,p5,p6,p7,()),(p9,p10,p11,p12,p13,p14,()),d)
 letI c:=(nbx' p0 p1 p2 p3 p4 p5 p6 p7 car p9 p10 p11 p12 p13 p14)
 Option.bind (bif (p8 != b) then bif (p8 != (1:Int)) then some ((car,(),(),(),true,()),a) else c.bind fun y1=>some ((car,(),(),(),(! y1.1.1),()),a) else c.bind fun y2=>some ((car,(),(),(),(! y2.1.1),()),a)) fun y3=>bif y3.1.2.2.2.2.1 then some (((),()),((b,b,true,()),())) else (now' ((y3.1.1,(),(),(),(),b,()),(y3.2.1,y3.2.2.1,y3.2.2.2.1,d))).bind fun y4=>some (((),()),(y4.2.2.1,()))
noncomputable def nd4' (p0 p1:Int):Option ((Bool×Unit)×Unit):=
 Option.bind (bif (p1==(0:Int)) then some ((true,()),()) else bif (p0==(3:Int)) then some ((true,()),()) else some (((p0==(4:Int)),()),())) fun y1=>some ((y1.1.1,()),())
noncomputable def ngj' (i:Int) (p0:List Record) (p1:List Int) (p2 p3:List Bool) (p4:List Entry) (p5:List Int) (p6:List Calls) (p7:List Bool) (p8 p9 p10 p11 p12 p13 p14 p15:Int) (p16 p17 p18:Nat) (p19:List Car) (p20:List Int) (p21 p22:List Bool) (p23:List Entry) (p24 p25:ByteArray) (p26:Int) (p27:List Debounced) (p28:List Belief) (p29:List NewCar) (p30:List Loaded) (p31:List Int) (p32:List Calls) (p33 p34 p35 p36 p37 p38 p39:Int) (p40:List CarInput) (p41:Bool) (p42:List Calls) (p43 p44:List Int) (p45 m_e p46 p47 p48 p49:Int) (p50 p51:Bool) (p52:Int) (p53:List CarOutput):Option (Sum (T'13×(T'90×T'65×Unit)) ((Unit×Unit×Unit)×(T'90×T'65×Unit))):=
 letI c:=((p0,p1,p2,p3,p4,p5,p6,p7,p8,p9,p10,p11,()),(p12,p13,p14,p15,p16,p17,p18,p19,p20,p21,p22,p23,p24,p25,p26,p27,p28,p29,p30,p31,p32,p33,p34,p35,p36,p37,p38,p39,p40,p41,p42,p43,p44,p45,m_e,p46,p47,p48,p49,p50,p51,p52,p53,()),())
 letI q:=(0:Int)
 letI ck:=Belief.mk q q q
 bif (decide (i < ((List.length p19:Nat):Int))) then bif (inB i (List.length p20)) then let z0:Int:=(List.getD p20 (Int.toNat i) q)
 Option.bind (Option.bind ((n6' z0).bind fun y1=>bif y1.1.1 then bif (inB i (List.length p21)) then some (((),(),(),i,z0,(! (List.getD p21 (Int.toNat i) false)),()),c) else none else some (((),(),(),i,z0,false,()),c)) fun y2=>letI n:=y2.2.2.1
 letI ad:=n.2
 letI ag:=ad.2
 letI ap:=ag.2
 letI bs:=ap.2
 letI d:=bs.2
 letI ax:=d.2
 letI bt:=ax.2
 letI k:=bt.2
 letI cl:=k.2
 letI aa:=cl.2
 letI am:=aa.2
 letI bd:=am.2
 letI bu:=bd.2
 letI a:=bu.2.2.2
 letI bn:=a.2
 letI bw:=bn.2
 letI r:=bw.2.2.2
 letI ar:=r.2.2
 letI bf:=ar.2
 letI bx:=bf.2
 letI e:=bx.2.2.2
 letI bb:=e.2.2
 letI bz:=bb.2
 letI l:=bz.2.2.2
 letI u:=y2.1.2.2.2
 letI ak:=l.2.2.2
 letI ao:=u.1
 letI ba:=(inB ao (List.length a.1))
 letI bc:=((),(),(),ao,u.2.1,())
 letI bg:=ak.2
 letI ca:=bg.2
 letI co:=(Int.toNat ao)
 bif u.2.2.1 then bif ba then let z1:Belief:=(List.getD a.1 co (ck [] q false))
 (nfc' k.1 cl.1 aa.1 am.1).bind fun y3=>(nhs' n.1 ad.1 ag.1 ap.1 bs.1 d.1 ax.1 bt.1 k.1 cl.1 aa.1 am.1 y3.1.1 ao).bind fun y4=>(nl2' n.1 ad.1 ag.1 ap.1 bs.1 d.1 ax.1 bt.1 ao z1.C0 z1.G0 z1.Z2 z1.M0 z1.R2 z1.Y2 y4.2.1.1 y4.2.1.2.1).bind fun y5=>letI be:=y5.2.1.2
 letI bv:=be.2
 bif ba then some (bc,(y2.2.1,(n.1,ad.1,ag.1,ap.1,bs.1,d.1,ax.1,bt.1,k.1,cl.1,aa.1,am.1,bd.1,bu.1,bu.2.1,bu.2.2.1,(List.set a.1 co (Belief.mk y5.2.1.1 be.1 bv.1 bv.2.1 bv.2.2.1 bv.2.2.2.1)),bn.1,bw.1,bw.2.1,bw.2.2.1,r.1,r.2.1,ar.1,bf.1,bx.1,bx.2.1,bx.2.2.1,e.1,e.2.1,bb.1,bz.1,bz.2.1,bz.2.2.1,l.1,l.2.1,l.2.2.1,ak.1,bg.1,ca.1,ca.2.1,ca.2.2.1,ca.2.2.2.1,()),())) else none else none else some (bc,(y2.2.1,n,()))) fun y6=>letI aq:=y6.2.2.1
 letI cb:=aq.2
 letI m:=cb.2.2.2
 letI cm:=m.2
 letI ah:=cm.2.2.2.2
 letI aw:=ah.2.2.2.2.2.2.2
 letI h:=aw.2.2.2.2.2.2.2.2.2.2.2.2.2.2.2.2.1
 letI j:=y6.1.2.2.2
 letI ai:=j.1
 letI v:=(Int.toNat ai)
 letI aj:=y6.2.1.2.2.2.2.2.2
 letI an:=inB ai
 letI bk:=(an (List.length h))
 letI bl:=(List.getD h v q)
 letI bo:=j.2.1
 letI br:=((),(),(),ai,(),())
 bif (an (List.length aw.1)) then let z2:Belief:=(List.getD aw.1 v (ck [] q false))
 (nnz' aq.1 cb.1 cb.2.1 cb.2.2.1 m.1 cm.1 cm.2.1 cm.2.2.1 ai bo z2.C0 z2.G0 z2.Z2 z2.M0 z2.R2 z2.Y2).bind fun y7=>letI bm:=y7.2.1
 letI cc:=bm.2
 bif (an (List.length aj.1)) then let z3:Calls:=(List.getD aj.1 v (Calls.mk q q))
 bif (an (List.length aj.2.1)) then let z4:Bool:=(List.getD aj.2.1 v false)
 bif (an (List.length ah.1)) then let z5:Bool:=(List.getD ah.1 v false)
 Option.bind (bif bk then (nd4' bo bl).bind fun y8=>bif y8.1.1 then bif bk then some (br,(y6.2.1,(bm.1,cc.1,cc.2.1,z3.Up,z3.G5,z4,bl,bo,z5,()),aq,())) else none else some (br,(y6.2.1,(bm.1,cc.1,cc.2.1,z3.Up,z3.G5,z4,q,bo,z5,()),aq,())) else none) fun y9=>letI ab:=y9.2.2
 letI af:=ab.2.1.2
 letI az:=af.2.2
 letI cf:=az.2
 letI g:=cf.2.2.2
 letI bp:=g.2
 letI cg:=bp.2
 letI s:=cg.2.2.2
 letI au:=s.2.2
 letI bi:=au.2
 letI ch:=bi.2
 letI b:=ch.2.2.2
 letI cn:=b.2
 letI w:=cn.2.2.2
 letI av:=w.2.2
 letI bj:=av.2
 letI ci:=bj.2
 letI f:=ci.2.2.2
 letI bq:=f.2
 letI cj:=bq.2
 letI o:=cj.2.2.2
 letI ae:=ab.1.2.2
 letI al:=o.2.2.2
 letI ay:=ae.2.2
 letI bh:=al.2
 letI cd:=ay.2
 letI ce:=bh.2
 let z6:List ( CarOutput ):=[(CarOutput.mk ab.1.1 ab.1.2.1 ae.1 ae.2.1 ay.1 cd.1 cd.2.1 cd.2.2.1 cd.2.2.2.1)]
 bif (Nat.ble ((List.length ce.2.2.1) + (List.length z6)) 2147483648) then some (Sum.inl (((),(),(),(IntKind.i64.wrap (y9.1.2.2.2.1 + (1:Int))),()),(y9.2.1,(ab.2.1.1,af.1,af.2.1,az.1,cf.1,cf.2.1,cf.2.2.1,g.1,bp.1,cg.1,cg.2.1,cg.2.2.1,s.1,s.2.1,au.1,bi.1,ch.1,ch.2.1,ch.2.2.1,b.1,cn.1,cn.2.1,cn.2.2.1,w.1,w.2.1,av.1,bj.1,ci.1,ci.2.1,ci.2.2.1,f.1,bq.1,cj.1,cj.2.1,cj.2.2.1,o.1,o.2.1,o.2.2.1,al.1,bh.1,ce.1,ce.2.1,(ce.2.2.1++z6),()),()))) else none else none else none else none else none else none else some (Sum.inr (((),(),()),c))
noncomputable def ndk':(T'13×(T'90×T'65×Unit))→Option ((Unit×Unit×Unit)×(T'90×T'65×Unit)):=iter (fun x=>letI h:=x.2.2.1.2.2; letI l:=h.2.2; letI c:=l.2.2.2.2; letI q:=c.2.2; letI f:=q.2.2.2; letI m:=f.2.2; letI a:=m.2.2.2.2; letI r:=a.2.2; letI g:=r.2.2.2; letI n:=g.2.2; letI b:=n.2.2.2.2; letI o:=x.2.1.2; letI d:=o.2.2.2; letI s:=b.2.2; letI e:=s.2.2.2; letI j:=d.2.2.2; letI k:=e.2.2.2; ngj' x.1.2.2.2.1 x.2.1.1 o.1 o.2.1 o.2.2.1 d.1 d.2.1 d.2.2.1 j.1 j.2.1 j.2.2.1 j.2.2.2.1 j.2.2.2.2.1 x.2.2.1.1 x.2.2.1.2.1 h.1 h.2.1 l.1 l.2.1 l.2.2.1 l.2.2.2.1 c.1 c.2.1 q.1 q.2.1 q.2.2.1 f.1 f.2.1 m.1 m.2.1 m.2.2.1 m.2.2.2.1 a.1 a.2.1 r.1 r.2.1 r.2.2.1 g.1 g.2.1 n.1 n.2.1 n.2.2.1 n.2.2.2.1 b.1 b.2.1 s.1 s.2.1 s.2.2.1 e.1 e.2.1 e.2.2.1 k.1 k.2.1 k.2.2.1 k.2.2.2.1 k.2.2.2.2.1) fuel
noncomputable def nf6' (i:Int) (p0:List Record) (p1:List Int) (p2 p3:List Bool) (p4:List Entry) (p5:List Int) (p6:List Calls) (p7:List Bool) (p8 p9 p10 p11 p12 p13 p14 p15:Int) (p16 p17 p18:Nat) (p19:List Car) (p20:List Int) (p21 p22:List Bool) (p23:List Entry) (p24 p25:ByteArray) (p26:Int) (p27:List Debounced) (p28:List Belief) (p29:List NewCar) (p30:List Loaded) (p31:List Int) (p32:List Calls) (p33 p34 p35 p36 p37 p38 p39:Int) (p40:List CarInput) (p41:Bool) (p42:List Calls) (p43 p44:List Int) (p45 m_e p46 p47 p48 p49:Int) (p50 p51:Bool) (p52:Int) (p53:List CarOutput):Option (Sum (T'13×(T'90×T'65×Unit)) (T'49×(T'90×T'65×Unit))):=
 letI c:=(p0,p1,p2,p3,p4,p5,p6,p7,p8,p9,p10,p11,())
 letI e:=(p50,p51,p52,p53,())
 letI a:=(c,(p12,p13,p14,p15,p16,p17,p18,p19,p20,p21,p22,p23,p24,p25,p26,p27,p28,p29,p30,p31,p32,p33,p34,p35,p36,p37,p38,p39,p40,p41,p42,p43,p44,p45,m_e,p46,p47,p48,p49,e),())
 letI b:=((),(),(),(IntKind.i64.wrap (i + (1:Int))),())
 letI d:=(0:Int)
 bif (decide (i < ((List.length p0:Nat):Int))) then bif (inB i (List.length p0)) then let z0:Record:=(List.getD p0 (Int.toNat i) (Record.mk d d d d d))
 bif (z0.U0==(2:Int)) then (nc5' z0.C0 z0.G0).bind fun y1=>(nbw' p48 p49 y1.2.1.1 y1.2.1.2.1).bind fun y2=>some (Sum.inl (b,(c,(p12,p13,p14,p15,p16,p17,p18,p19,p20,p21,p22,p23,p24,p25,p26,p27,p28,p29,p30,p31,p32,p33,p34,p35,p36,p37,p38,p39,p40,p41,p42,p43,p44,p45,m_e,p46,p47,y2.2.1.1,y2.2.1.2.1,e),()))) else some (Sum.inl (b,a)) else none else some (Sum.inr (((),(),(),()),a))
noncomputable def ndc':(T'13×(T'90×T'65×Unit))→Option (T'49×(T'90×T'65×Unit)):=iter (fun x=>letI h:=x.2.2.1.2.2; letI l:=h.2.2; letI c:=l.2.2.2.2; letI q:=c.2.2; letI f:=q.2.2.2; letI m:=f.2.2; letI a:=m.2.2.2.2; letI r:=a.2.2; letI g:=r.2.2.2; letI n:=g.2.2; letI b:=n.2.2.2.2; letI o:=x.2.1.2; letI d:=o.2.2.2; letI s:=b.2.2; letI e:=s.2.2.2; letI j:=d.2.2.2; letI k:=e.2.2.2; nf6' x.1.2.2.2.1 x.2.1.1 o.1 o.2.1 o.2.2.1 d.1 d.2.1 d.2.2.1 j.1 j.2.1 j.2.2.1 j.2.2.2.1 j.2.2.2.2.1 x.2.2.1.1 x.2.2.1.2.1 h.1 h.2.1 l.1 l.2.1 l.2.2.1 l.2.2.2.1 c.1 c.2.1 q.1 q.2.1 q.2.2.1 f.1 f.2.1 m.1 m.2.1 m.2.2.1 m.2.2.2.1 a.1 a.2.1 r.1 r.2.1 r.2.2.1 g.1 g.2.1 n.1 n.2.1 n.2.2.1 n.2.2.2.1 b.1 b.2.1 s.1 s.2.1 s.2.2.1 e.1 e.2.1 e.2.2.1 k.1 k.2.1 k.2.2.1 k.2.2.2.1 k.2.2.2.2.1) fuel
noncomputable def nb8' (p0:List Record) (p1:List Int) (p2 p3:List Bool) (p4:List Entry) (p5:List Int) (p6:List Calls) (p7:List Bool) (p8 p9 p10 p11 p12 p13 p14 p15:Int) (p16 p17 p18:Nat) (p19:List Car) (p20:List Int) (p21 p22:List Bool) (p23:List Entry) (p24 p25:ByteArray) (p26:Int) (p27:List Debounced) (p28:List Belief) (p29:List NewCar) (p30:List Loaded) (p31:List Int) (p32:List Calls) (p33 p34 p35 p36 p37 p38 p39:Int) (p40:List CarInput) (p41:Bool) (p42:List Calls) (p43 p44:List Int) (p45 t_e p46 p47 p48 p49:Int) (p50 p51:Bool) (p52:Int) (p53:List CarOutput):Option (Unit×(T'65×Unit)):=
 letI aj:=((),(),(),(0:Int),())
 (ndc' (aj,((p0,p1,p2,p3,p4,p5,p6,p7,p8,p9,p10,p11,()),(p12,p13,p14,p15,p16,p17,p18,p19,p20,p21,p22,p23,p24,p25,p26,p27,p28,p29,p30,p31,p32,p33,p34,p35,p36,p37,p38,p39,p40,p41,p42,p43,p44,p45,t_e,p46,p47,p48,p49,p50,p51,p52,p53,()),()))).bind fun y1=>letI m:=y1.2.2.1.2.2
 letI v:=m.2.2
 letI aw:=v.2
 letI c:=aw.2.2.2
 letI k:=c.2.2
 letI av:=k.2
 letI q:=av.2.2
 letI ae:=q.2
 letI ak:=ae.2
 letI b:=ak.2.2.2
 letI ax:=b.2
 letI l:=ax.2.2.2
 letI w:=l.2.2
 letI ay:=w.2
 letI d:=ay.2.2.2
 letI r:=d.2
 letI aa:=r.2.2
 letI al:=aa.2
 letI j:=al.2.2.2.2.2
 letI au:=j.2.2.2
 (nnm' c.1 c.2.1 k.1 av.1).bind fun y2=>(ndk' (aj,(y1.2.1,(y1.2.2.1.1,y1.2.2.1.2.1,m.1,m.2.1,v.1,aw.1,aw.2.1,aw.2.2.1,c.1,c.2.1,k.1,av.1,av.2.1,q.1,ae.1,ak.1,ak.2.1,ak.2.2.1,b.1,ax.1,ax.2.1,ax.2.2.1,l.1,l.2.1,w.1,ay.1,ay.2.1,ay.2.2.1,d.1,r.1,r.2.1,aa.1,al.1,al.2.1,al.2.2.1,y2.2.1.1,y2.2.1.2.1,j.1,j.2.1,(! r.1),au.1,au.2.1,au.2.2.1,()),()))).bind fun y3=>letI n:=y3.2.2.1.2.2
 letI ab:=n.2.2
 letI am:=ab.2
 letI e:=am.2.2.2
 letI af:=e.2
 letI an:=af.2
 letI g:=an.2.2.2
 letI s:=g.2.2
 letI ag:=s.2
 letI ao:=ag.2
 letI a:=ao.2.2.2.2
 letI o:=a.2.2.2
 letI ad:=o.2.2
 letI ap:=ad.2
 letI f:=ap.2.2.2
 letI ah:=f.2
 letI aq:=ah.2
 letI h:=aq.2.2.2
 letI u:=h.2.2
 letI ai:=u.2
 letI ar:=ai.2
 some ((),((y3.2.2.1.1,y3.2.2.1.2.1,n.1,n.2.1,ab.1,am.1,am.2.1,am.2.2.1,e.1,af.1,an.1,an.2.1,an.2.2.1,g.1,g.2.1,s.1,ag.1,ao.1,ao.2.1,ao.2.2.1,y3.2.1.2.2.2.2.2.2.1,a.1,a.2.1,a.2.2.1,o.1,o.2.1,ad.1,ap.1,ap.2.1,ap.2.2.1,f.1,ah.1,aq.1,aq.2.1,aq.2.2.1,h.1,h.2.1,u.1,ai.1,ar.1,ar.2.1,ar.2.2.1,ar.2.2.2.1,()),()))
noncomputable def npr' (p0 p1 p2 p3:Int) (p4 p5 p6:Nat) (p7:List Car) (p8:List Int) (p9 p10:List Bool) (p11:List Entry) (p12 p13:ByteArray) (p14:Int) (p15:List Debounced) (p16:List Belief) (p17:List NewCar) (p18:List Loaded) (p19:List Int) (p20:List Calls) (p21 p22 p23:Int) (p24:ByteArray) (p25:Int):Option (T'25×(T'38×T'2×Unit)):=
 letI g:=(0:Int)
 letI am:=List Bool
 letI an:=((),(),(),())
 letI aq:=List Int
 letI bc:=(g,g,g,())
 letI bd:=List Debounced
 letI be:=List Belief
 letI bf:=List NewCar
 letI bg:=List Loaded
 letI bx:=List Entry
 letI bz:=List Calls
 letI ca:=List CarOutput
 letI ew:=((),(),(1:Int),())
 (nft' p0 p1 p2 p3 p4 p5 p6 p7 p8 p9 p10 p11 p12 p13 p14 p15 p16 p17 p18 p19 p20 p21 p22 p23).bind fun y1=>bif (! y1.1.1) then some (ew,((([]:aq),([]:am),([]:am),([]:bx),(ByteArray.mk (Array.mk [])),(ByteArray.mk (Array.mk [])),g,([]:bd),([]:be),([]:bf),([]:bg),([]:aq),([]:bz),bc),(g,g,g,g,false,false,g,([]:ca),()),())) else bif (decide (p25 < g)) then some (ew,((([]:aq),([]:am),([]:am),([]:bx),(ByteArray.mk (Array.mk [])),(ByteArray.mk (Array.mk [])),g,([]:bd),([]:be),([]:bf),([]:bg),([]:aq),([]:bz),bc),(g,g,g,g,false,false,g,([]:ca),()),())) else bif (Nat.ble ((List.length ([]:bd)) + (List.length p15)) 2147483648) then bif (Nat.ble ((List.length ([]:be)) + (List.length p16)) 2147483648) then bif (Nat.ble ((List.length ([]:bf)) + (List.length p17)) 2147483648) then bif (Nat.ble ((List.length ([]:bg)) + (List.length p18)) 2147483648) then (nlv' p0 p1 p2 p3 p4 p5 p6 p7 p24).bind fun y2=>letI dx:=y2.2.1.2
 Option.bind ((ncu' p0 p1 p2 p3 p4 p5 p6 p7 p8 p9 p10 p11 p12 p13 p14 (([]:bd)++p15) (([]:be)++p16) (([]:bf)++p17) (([]:bg)++p18) p19 p20 p21 p22 p23 y2.2.1.1 dx.1 dx.2.1 dx.2.2.1 dx.2.2.2.1 (y2.1.2.1==g) [] [] [] p25 g g g g g false false g []).bind fun y3=>(match y3 with
 | .inl y4=>
 some (an,((([]:aq),([]:am),([]:am),([]:bx),(ByteArray.mk (Array.mk [])),(ByteArray.mk (Array.mk [])),g,([]:bd),([]:be),([]:bf),([]:bg),([]:aq),([]:bz),bc),(g,g,g,g,false,false,g,([]:ca),()),y4.2.1,()))
 | .inr y4=>
 some (an,((([]:aq),([]:am),([]:am),([]:bx),(ByteArray.mk (Array.mk [])),(ByteArray.mk (Array.mk [])),g,([]:bd),([]:be),([]:bf),([]:bg),([]:aq),([]:bz),bc),(g,g,g,g,false,false,g,([]:ca),()),y4.2.1,())))) fun y5=>letI dy:=y5.2
 letI dz:=dy.2
 letI ay:=dz.2.1.2
 letI cd:=ay.2.2
 letI ea:=cd.2
 letI q:=ea.2.2.2
 letI dd:=q.2
 letI eb:=dd.2
 letI ah:=eb.2.2.2
 letI bs:=ah.2.2
 letI cv:=bs.2
 letI ec:=cv.2
 letI c:=ec.2.2.2
 letI ex:=c.2
 letI av:=ex.2.2.2
 letI ce:=av.2.2
 letI ed:=ce.2
 letI l:=ed.2.2.2
 letI de:=l.2
 letI ee:=de.2
 letI ab:=ee.2.2.2
 letI bi:=ab.2.2.2
 letI cw:=bi.2
 letI ef:=cw.2
 (ncs' dz.2.1.1 ay.1 ay.2.1 cd.1 ea.1 ea.2.1 ea.2.2.1 q.1 dd.1 eb.1 eb.2.1 eb.2.2.1 ah.1 ah.2.1 bs.1 cv.1 ec.1 ec.2.1 ec.2.2.1 c.1 ex.1 ex.2.1 ex.2.2.1 av.1 av.2.1 ce.1 ed.1 ed.2.1 ed.2.2.1 l.1 de.1 ee.1 ee.2.1 ee.2.2.1 ab.1 ab.2.1 ab.2.2.1 bi.1 cw.1 ef.1 ef.2.1 ef.2.2.1 ef.2.2.2.1).bind fun y6=>letI az:=y6.2.1.2.2.2
 letI cf:=az.2.2
 letI eg:=cf.2
 letI s:=eg.2.2.2
 letI ey:=s.2
 letI ao:=ey.2.2.2
 letI bt:=ao.2.2
 letI cx:=bt.2
 letI eh:=cx.2
 letI e:=eh.2.2.2
 letI ez:=e.2
 letI aw:=ez.2.2.2
 letI cg:=aw.2.2
 letI ei:=cg.2
 letI n:=ei.2.2.2
 letI df:=n.2
 letI ej:=df.2
 letI ai:=ej.2.2.2
 letI bu:=ai.2.2
 letI cy:=bu.2
 letI ek:=cy.2
 (ncl' y6.2.1.1 y6.2.1.2.1 y6.2.1.2.2.1 az.1 az.2.1 cf.1 eg.1 eg.2.1 eg.2.2.1 s.1 ey.1 ey.2.1 ey.2.2.1 ao.1 ao.2.1 bt.1 cx.1 eh.1 eh.2.1 eh.2.2.1 e.1 ez.1 ez.2.1 ez.2.2.1 aw.1 aw.2.1 cg.1 ei.1 ei.2.1 ei.2.2.1 n.1 df.1 ej.1 ej.2.1 ej.2.2.1 ai.1 ai.2.1 bu.1 cy.1 ek.1 ek.2.1 ek.2.2.1 ek.2.2.2.1).bind fun y7=>letI ev:=y7.2.1
 letI ba:=ev.2.2.2
 letI ch:=ba.2.2
 letI el:=ch.2
 letI u:=el.2.2.2
 letI fa:=u.2
 letI ap:=fa.2.2.2
 letI bv:=ap.2.2
 letI cz:=bv.2
 letI em:=cz.2
 letI d:=em.2.2.2
 letI fb:=d.2
 letI ax:=fb.2.2.2
 letI ci:=ax.2.2
 letI eo:=ci.2
 letI m:=eo.2.2.2
 letI fc:=m.2
 letI ad:=fc.2.2.2
 letI bj:=ad.2.2.2
 letI da:=bj.2
 letI ep:=da.2
 Option.bind (bif (ad.1==g) then Option.bind ((nb5' ev.1 ev.2.1 ev.2.2.1 ba.1 ba.2.1 ch.1 el.1 el.2.1 el.2.2.1 u.1 fa.1 fa.2.1 fa.2.2.1 ap.1 ap.2.1 bv.1 cz.1 em.1 em.2.1 em.2.2.1 d.1 fb.1 fb.2.1 fb.2.2.1 ax.1 ax.2.1 ci.1 eo.1 eo.2.1 eo.2.2.1 m.1 fc.1 fc.2.1 fc.2.2.1 ad.1 ad.2.1 ad.2.2.1 bj.1 da.1 ep.1 ep.2.1 ep.2.2.1 ep.2.2.2.1).bind fun y8=>(match y8 with
 | .inl y9=>
 some (an,(dy.1,dz.1,y9.2.1,()))
 | .inr y9=>
 some (an,(dy.1,dz.1,y9.2.1,())))) fun y10=>some (an,(y10.2.1,y10.2.2.1,y10.2.2.2.1,())) else some (an,(dy.1,dz.1,ev,()))) fun y11=>letI ar:=y11.2.2.2.1
 letI bl:=ar.2.2
 letI ck:=bl.2
 letI dg:=ck.2
 letI o:=dg.2.2.2
 letI db:=o.2
 letI dh:=db.2
 letI ae:=dh.2.2.2
 letI bm:=ae.2.2
 letI cl:=bm.2
 letI di:=cl.2
 letI a:=di.2.2.2
 letI eq:=a.2
 letI ak:=eq.2.2.2
 letI bn:=ak.2.2
 letI cm:=bn.2
 letI dj:=cm.2
 letI h:=dj.2.2.2
 letI er:=h.2
 letI w:=er.2.2.2
 letI bk:=w.2.2.2
 letI cn:=bk.2
 letI dk:=cn.2
 Option.bind (bif (w.1==g) then (ncm' ar.1 ar.2.1 bl.1 ck.1 dg.1 dg.2.1 dg.2.2.1 o.1 db.1 dh.1 dh.2.1 dh.2.2.1 ae.1 ae.2.1 bm.1 cl.1 di.1 di.2.1 di.2.2.1 a.1 eq.1 eq.2.1 eq.2.2.1 ak.1 ak.2.1 bn.1 cm.1 dj.1 dj.2.1 dj.2.2.1 h.1 er.1 er.2.1 er.2.2.1 w.1 w.2.1 w.2.2.1 bk.1 cn.1 dk.1 dk.2.1 dk.2.2.1 dk.2.2.2.1).bind fun y12=>letI bb:=y12.2.2.1
 letI bp:=bb.2.2
 letI cp:=bp.2
 letI dp:=cp.2
 letI r:=dp.2.2.2
 letI dc:=r.2
 letI dq:=dc.2
 letI af:=dq.2.2.2
 letI bq:=af.2.2
 letI cq:=bq.2
 letI dr:=cq.2
 letI b:=dr.2.2.2
 letI es:=b.2
 letI al:=es.2.2.2
 letI br:=al.2.2
 letI cr:=br.2
 letI ds:=cr.2
 letI j:=ds.2.2.2
 letI et:=j.2
 letI aa:=et.2.2.2
 letI dl:=y12.2.1
 letI dm:=dl.2
 letI aj:=dm.2.2.2
 letI bh:=aa.2.2
 letI bo:=aj.2.2
 letI cb:=bh.2
 letI co:=bo.2
 letI cs:=cb.2
 letI dn:=co.2
 letI dt:=cs.2
 bif (aa.1==g) then (nb8' dl.1 dm.1 dm.2.1 dm.2.2.1 aj.1 aj.2.1 bo.1 co.1 dn.1 dn.2.1 dn.2.2.1 dn.2.2.2.1 bb.1 bb.2.1 bp.1 cp.1 dp.1 dp.2.1 dp.2.2.1 r.1 dc.1 dq.1 dq.2.1 dq.2.2.1 af.1 af.2.1 bq.1 cq.1 dr.1 dr.2.1 dr.2.2.1 b.1 es.1 es.2.1 es.2.2.1 al.1 al.2.1 br.1 cr.1 ds.1 ds.2.1 ds.2.2.1 j.1 et.1 et.2.1 et.2.2.1 aa.1 aa.2.1 bh.1 cb.1 cs.1 dt.1 dt.2.1 dt.2.2.1 dt.2.2.2.1).bind fun y13=>letI v:=y13.2.1.2.2.2.2.2.2.2.2
 letI cj:=v.2.2
 letI du:=cj.2
 letI f:=du.2.2.2
 letI eu:=f.2
 letI au:=eu.2.2.2
 letI cc:=au.2
 letI ct:=cc.2
 letI dv:=ct.2
 letI k:=dv.2.2.2.2.2.2.2.2.2.2.2.2.2.2
 letI bw:=k.2.2
 letI cu:=bw.2
 letI dw:=cu.2
 some (Sum.inr (((),(),g,()),((v.1,v.2.1,cj.1,du.1,du.2.1,du.2.2.1,f.1,eu.1,eu.2.1,eu.2.2.1,au.1,cc.1,ct.1,dv.1,dv.2.1,dv.2.2.1,()),(k.1,k.2.1,bw.1,cu.1,dw.1,dw.2.1,dw.2.2.1,dw.2.2.2.1,()),()))) else some (Sum.inl (an,(y11.2.1,y11.2.2.1,bb,()))) else some (Sum.inl (an,(y11.2.1,y11.2.2.1,ar,())))) fun y14=>(match y14 with
 | .inl y15=>
 letI ag:=y15.2.2.2.1.2.2.2.2.2.2.2.2.2.2.2.2
 some (((),(),ag.2.2.2.2.2.2.2.2.2.2.2.2.2.2.2.2.2.2.2.2.2.2.1,()),((([]:aq),([]:am),([]:am),([]:bx),ag.1,ag.2.1,ag.2.2.1,([]:bd),([]:be),([]:bf),([]:bg),([]:aq),([]:bz),bc),(g,g,g,g,false,false,g,([]:ca),()),()))
 | .inr y15=>
 some (((),(),y15.1.2.2.1,()),(y15.2.1,y15.2.2.1,()))) else none else none else none else none
noncomputable def nwj' (p0:List ByteArray) (out:List Outputs) (i p1 p2 p3 p4:Int) (p5 p6 p7:Nat) (p8:List Car) (p9:List Int) (p10 p11:List Bool) (p12:List Entry) (p13 p14:ByteArray) (p15:Int) (p16:List Debounced) (p17:List Belief) (p18:List NewCar) (p19:List Loaded) (p20:List Int) (p21:List Calls) (p22 p23 p24:Int) (p25:List Int) (p26 p27:List Bool) (p28:List Entry) (p29 p30:ByteArray) (p31:Int) (p32:List Debounced) (p33:List Belief) (p34:List NewCar) (p35:List Loaded) (p36:List Int) (p37:List Calls) (p38 p39 p40:Int):Option (Sum (T'117×T'118) ((T'119×(T'38×T'38×Unit)) ⊕ (T'116×(T'38×Unit)))):=
 letI b:=(p25,p26,p27,p28,p29,p30,p31,p32,p33,p34,p35,p36,p37,p38,p39,p40,())
 letI c:=(0:Int)
 bif (decide (i < ((List.length p0:Nat):Int))) then bif (inB i (List.length p0)) then (npr' p1 p2 p3 p4 p5 p6 p7 p8 p9 p10 p11 p12 p13 p14 p15 p16 p17 p18 p19 p20 p21 p22 p23 p24 (List.getD p0 (Int.toNat i) (ByteArray.mk (Array.mk []))) (1048576:Int)).bind fun y1=>bif (y1.1.2.2.1 != c) then some (Sum.inr (Sum.inr (((),([]:List Outputs),y1.1.2.2.1,()),((([]:List Int),([]:List Bool),([]:List Bool),([]:List Entry),(ByteArray.mk (Array.mk [])),(ByteArray.mk (Array.mk [])),c,([]:List Debounced),([]:List Belief),([]:List NewCar),([]:List Loaded),([]:List Int),([]:List Calls),c,c,c,()),())))) else Option.bind (some ((p0,(),(),(),out,i,(),()),((p1,p2,p3,p4,p5,p6,p7,p8,()),y1.2.1,b,y1.2.2.1,()))) fun y2=>letI a:=y2.2.2.2.2.1.2
 letI d:=a.2.2
 letI e:=y2.1.2.2.2.2
 letI f:=d.2
 let z0:List ( Outputs ):=[(Outputs.mk y2.2.2.2.2.1.1 a.1 a.2.1 d.1 f.1 f.2.1 f.2.2.1 f.2.2.2.1)]
 bif (Nat.ble ((List.length e.1) + (List.length z0)) 2147483648) then some (Sum.inl ((y2.1.1,(),(),(),(e.1++z0),(IntKind.i64.wrap (e.2.1 + (1:Int))),()),(y2.2.1,y2.2.2.1,y2.2.2.2.1,()))) else none else none else some (Sum.inr (Sum.inl (((),(),out,()),((p9,p10,p11,p12,p13,p14,p15,p16,p17,p18,p19,p20,p21,p22,p23,p24,()),b,()))))
noncomputable def nri':(T'117×T'118)→Option ((T'119×(T'38×T'38×Unit)) ⊕ (T'116×(T'38×Unit))):=iter (fun x=>letI e:=x.2.2; letI h:=e.2.1.2; letI a:=h.2.2.2.2; letI g:=e.1.2.2; letI b:=g.2.2.2.2; letI c:=a.2.2.2.2; letI d:=b.2.2.2.2; letI f:=x.2.1.2.2; letI j:=c.2.2; letI k:=f.2.2; letI l:=d.2.2; nwj' x.1.1 x.1.2.2.2.2.1 x.1.2.2.2.2.2.1 x.2.1.1 x.2.1.2.1 f.1 f.2.1 k.1 k.2.1 k.2.2.1 k.2.2.2.1 e.1.1 e.1.2.1 g.1 g.2.1 g.2.2.1 g.2.2.2.1 b.1 b.2.1 b.2.2.1 b.2.2.2.1 d.1 d.2.1 l.1 l.2.1 l.2.2.1 l.2.2.2.1 e.2.1.1 h.1 h.2.1 h.2.2.1 h.2.2.2.1 a.1 a.2.1 a.2.2.1 a.2.2.2.1 c.1 c.2.1 j.1 j.2.1 j.2.2.1 j.2.2.2.1 j.2.2.2.2.1) fuel
noncomputable def nkx' (p0 p1 p2 p3:Int) (p4 p5 p6:Nat) (p7:List Car) (p8:List Int) (p9 p10:List Bool) (p11:List Entry) (p12 p13:ByteArray) (p14:Int) (p15:List Debounced) (p16:List Belief) (p17:List NewCar) (p18:List Loaded) (p19:List Int) (p20:List Calls) (p21 p22 p23:Int) (p24:List ByteArray):Option (T'116×(T'38×Unit)):=
 letI a:=(0:Int)
 letI b:=List Bool
 letI c:=List Int
 letI d:=(a,a,a,())
 letI e:=List Outputs
 letI f:=List Entry
 letI g:=List Debounced
 letI h:=List Belief
 letI j:=List NewCar
 letI k:=List Loaded
 letI l:=List Calls
 (nft' p0 p1 p2 p3 p4 p5 p6 p7 p8 p9 p10 p11 p12 p13 p14 p15 p16 p17 p18 p19 p20 p21 p22 p23).bind fun y1=>bif (! y1.1.1) then some (((),([]:e),(1:Int),()),((([]:c),([]:b),([]:b),([]:f),(ByteArray.mk (Array.mk [])),(ByteArray.mk (Array.mk [])),a,([]:g),([]:h),([]:j),([]:k),([]:c),([]:l),d),())) else bif (decide ((5000:Int) < ((List.length p24:Nat):Int))) then some (((),([]:e),(3:Int),()),((([]:c),([]:b),([]:b),([]:f),(ByteArray.mk (Array.mk [])),(ByteArray.mk (Array.mk [])),a,([]:g),([]:h),([]:j),([]:k),([]:c),([]:l),d),())) else (nri' ((p24,(),(),(),([]:e),a,()),((p0,p1,p2,p3,p4,p5,p6,p7,()),(p8,p9,p10,p11,p12,p13,p14,p15,p16,p17,p18,p19,p20,p21,p22,p23,()),(([]:c),([]:b),([]:b),([]:f),(ByteArray.mk (Array.mk [])),(ByteArray.mk (Array.mk [])),a,([]:g),([]:h),([]:j),([]:k),([]:c),([]:l),d),()))).bind fun y2=>(match y2 with
 | .inl y3=>
 some (((),y3.1.2.2.1,a,()),(y3.2.1,()))
 | .inr y3=>
 some (((),y3.1.2.1,y3.1.2.2.1,()),(y3.2.1,())))
noncomputable def no8' (p0 p1 p2:Int) (p3:Bool):Option ((Bool×Unit)×Unit):=
 Option.bind (bif ((p1==(0:Int))&&((p2==(0:Int))&&true)) then some ((true,()),()) else bif (! p3) then bif (p0==(0:Int)) then some ((true,()),()) else some (((p0==(1:Int)),()),()) else some ((false,()),())) fun y1=>some ((y1.1.1,()),())
noncomputable def ngf' (p0 to:Int) (l:List T2_int) (i:Int):Option (Sum (T'120×Unit) ((Unit×Unit) ⊕ ((Bool×Unit)×Unit))):=
 bif (decide (i < ((List.length l:Nat):Int))) then bif (inB i (List.length l)) then let z0:T2_int:=(List.getD l (Int.toNat i) (T2_int.mk (0:Int) (0:Int)))
 bif ((z0.f0==p0)&&((z0.f1==to)&&true)) then some (Sum.inr (Sum.inr ((true,()),()))) else some (Sum.inl ((p0,to,l,(IntKind.i64.wrap (i + (1:Int))),()),())) else none else some (Sum.inr (Sum.inl ((),())))
noncomputable def nqh':(T'120×Unit)→Option ((Unit×Unit) ⊕ ((Bool×Unit)×Unit)):=iter (fun x=>ngf' x.1.1 x.1.2.1 x.1.2.2.1 x.1.2.2.2.1) fuel
noncomputable def nmg' (p0 to:Int):Option ((Bool×Unit)×Unit):=
 letI a:=(2:Int)
 letI b:=(0:Int)
 (nqh' ((p0,to,[(T2_int.mk b (1:Int)),(T2_int.mk (1:Int) b),(T2_int.mk (1:Int) a),(T2_int.mk a b),(T2_int.mk a (3:Int)),(T2_int.mk (3:Int) a),(T2_int.mk (3:Int) (4:Int)),(T2_int.mk (4:Int) a)],b,()),())).bind fun y1=>(match y1 with
 | .inl y2=>
 some ((false,()),())
 | .inr y2=>
 some ((y2.1.1,()),()))
noncomputable def ndx' (p0 p1 p2:Bool) (p3 i p4 p5 p6 p7:Int) (p8 p9:Bool) (p10:Int) (p11:List CarOutput) (p12 p13 p14 p15:Int) (p16 p17:Bool) (p18:Int) (p19:List CarOutput) (p20 p21:Int):Option (Sum (T'121×T'122) ((T'123×T'122) ⊕ ((Int×Unit)×Unit))):=
 letI ab:=(p12,p13,p14,p15,p16,p17,p18,p19,())
 letI ai:=(p4,p5,p6,p7,p8,p9,p10,p11,())
 letI c:=(((),(),(),p0,p1,p2,p3,()),(ai,ab,(p20,p21,()),()))
 letI d:=(0:Int)
 letI q:=(CarOutput.mk d d false d d false d d false)
 letI ao:=(1:Int)
 letI aw:=((),())
 bif (decide (i < ((List.length p19:Nat):Int))) then bif (decide (i < ((List.length p11:Nat):Int))) then bif (inB i (List.length p19)) then let z0:CarOutput:=(List.getD p19 (Int.toNat i) q)
 letI aj:=z0.H1
 letI an:=z0.T1
 letI av:=z0.R0
 letI ay:=z0.T0
 (nhc' p20 p21 an aj).bind fun y1=>bif (! ((y1.2.1.1==d)&&((y1.2.1.2.1==d)&&true))) then some (Sum.inr (Sum.inr ((ao,()),()))) else (nbw' p20 p21 an aj).bind fun y2=>letI a:=(ai,ab,y2.2.1,(ay,av,z0.D1,an,aj,z0.O3,z0.D2,z0.W0,z0.P3,()),())
 Option.bind (bif p0 then some (((),(),(),true,p1,p2,p3,i,aw),a) else (no8' z0.W0 ay av z0.D1).bind fun y3=>some (((),(),(),(! y3.1.1),p1,p2,p3,i,aw),a)) fun y4=>letI j:=y4.1.2.2.2
 letI ax:=j.2
 letI n:=(ax.2.1,ax.2.2.1,ax.2.2.2.1,aw)
 letI r:=(y4.2.1,y4.2.2.1,y4.2.2.2.1,y4.2.2.2.2.1,())
 letI aq:=y4.2.2.2.2.1.2.2.2.2.2.2
 Option.bind (bif ax.1 then some (((),(),(),j.1,true,n),r) else (nd4' aq.2.1 aq.1).bind fun y5=>some (((),(),(),j.1,(! y5.1.1),n),r)) fun y6=>letI f:=y6.1.2.2.2
 letI k:=f.2.2
 letI s:=(y6.2.1,y6.2.2.1,y6.2.2.2.1,y6.2.2.2.2.1,())
 letI af:=k.2
 letI ak:=af.2.1
 letI al:=y6.2.2.2.2.1.2.2.2.2.2.2.2.1
 letI ar:=y6.2.1.2.2.2.2.2.2.2.1
 Option.bind (bif (inB ak (List.length ar)) then let z1:CarOutput:=(List.getD ar (Int.toNat ak) q)
 Option.bind (bif (z1.W0 != al) then (nmg' z1.W0 al).bind fun y7=>some (((),(),(),f.1,f.2.1,k.1,af.1,ak,(),(! y7.1.1),()),s) else some (((),(),(),f.1,f.2.1,k.1,af.1,ak,(),false,()),s)) fun y8=>letI g:=y8.1.2.2.2
 letI u:=(y8.2.1,y8.2.2.1,y8.2.2.2.1,y8.2.2.2.2.1,())
 letI v:=g.2
 letI ae:=v.2.2
 letI am:=(ae.1,ae.2.1,aw)
 bif ae.2.2.2.1 then some (((),(),(),g.1,v.1,true,am),u) else some (((),(),(),g.1,v.1,v.2.1,am),u) else none) fun y9=>letI h:=y9.1.2.2.2
 letI w:=h.2
 letI ag:=w.2
 letI au:=ag.2
 letI ah:=(y9.2.1,y9.2.2.1,y9.2.2.2.1,())
 letI b:=(((),(),(),h.1,w.1,ag.1,au.1,au.2.1,true,()),ah)
 letI m:=y9.2.2.2.2.1.2.2.2.2.2.2.2.1
 Option.bind (bif (m==ao) then some b else bif (m==(2:Int)) then some b else some (((),(),(),h.1,w.1,ag.1,au.1,au.2.1,(m==(3:Int)),()),ah)) fun y10=>letI e:=y10.1.2.2.2
 letI l:=e.2
 letI aa:=l.2
 letI ap:=aa.2
 letI o:=((IntKind.i64.wrap (ap.2.1 + ao)),())
 letI ad:=(y10.2.1,y10.2.2.1,y10.2.2.2.1,())
 bif ap.2.2.1 then some (Sum.inl (((),(),(),e.1,l.1,aa.1,(IntKind.i64.wrap (ap.1 + ao)),o),ad)) else some (Sum.inl (((),(),(),e.1,l.1,aa.1,ap.1,o),ad)) else none else some (Sum.inr (Sum.inl c)) else some (Sum.inr (Sum.inl c))
noncomputable def nh3':(T'121×T'122)→Option ((T'123×T'122) ⊕ ((Int×Unit)×Unit)):=iter (fun x=>letI a:=x.2.2.1.2.2; letI b:=x.2.1.2.2; letI c:=x.1.2.2.2; letI d:=b.2.2; letI e:=a.2.2; ndx' c.1 c.2.1 c.2.2.1 c.2.2.2.1 c.2.2.2.2.1 x.2.1.1 x.2.1.2.1 b.1 b.2.1 d.1 d.2.1 d.2.2.1 d.2.2.2.1 x.2.2.1.1 x.2.2.1.2.1 a.1 a.2.1 e.1 e.2.1 e.2.2.1 e.2.2.2.1 x.2.2.2.1.1 x.2.2.2.1.2.1) fuel
noncomputable def nc4' (p0 p1 p2 p3:Int) (p4 p5 p6:Nat) (p7:List Car) (p8 p9 p10 p11:Int) (p12 p13:Bool) (p14:Int) (p15:List CarOutput) (p16 p17 p18 p19:Int) (p20 p21:Bool) (p22:Int) (p23:List CarOutput):Option ((Int×Unit)×Unit):=
 letI b:=(0:Int)
 letI j:=(b,())
 letI a:=((p8,p9,p10,p11,p12,p13,p14,p15,()),(p16,p17,p18,p19,p20,p21,p22,p23,()),(b,j),())
 letI h:=((List.length p7:Nat):Int)
 Option.bind (bif (((List.length p15:Nat):Int) != h) then some (((),(),(),false,false,true,j),a) else some (((),(),(),false,false,(((List.length p23:Nat):Int) != h),j),a)) fun y1=>letI k:=y1.1.2.2.2
 (nh3' (((),(),(),k.1,k.2.1,k.2.2.1,k.2.2.2.1,j),(y1.2.1,y1.2.2.1,y1.2.2.2.1,()))).bind fun y2=>(match y2 with
 | .inl y3=>
 letI f:=y3.2
 letI l:=f.2
 letI c:=l.1.2
 letI d:=y3.1.2.2.2
 letI e:=c.2
 letI g:=f.1
 letI m:=d.2
 letI n:=m.2.2.1
 letI o:=e.2
 (ncn' g.1 g.2.1 l.1.1 c.1).bind fun y4=>bif d.1 then some (((2:Int),()),()) else bif m.1 then some (((3:Int),()),()) else bif m.2.1 then some (((4:Int),()),()) else (nhc' g.1 g.2.1 l.2.1.1 l.2.1.2.1).bind fun y5=>(ncn' e.1 o.1 y5.2.1.1 y5.2.1.2.1).bind fun y6=>bif (! ((y6.2.1.1==b)&&((y6.2.1.2.1==b)&&true))) then some (((6:Int),()),()) else bif (! ((y4.2.1.1==e.1)&&((y4.2.1.2.1==o.1)&&true))) then some (((5:Int),()),()) else Option.bind (bif o.2.1 then bif (! ((g.1==l.1.1)&&((g.2.1==c.1)&&true))) then some ((n,true,()),()) else some ((n,(! ((e.1==b)&&((o.1==b)&&true))),()),()) else some ((n,false,()),())) fun y7=>bif y7.1.2.1 then some (((7:Int),()),()) else bif (decide ((1:Int) < y7.1.1)) then some (((8:Int),()),()) else some (j,())
 | .inr y3=>
 some ((y3.1.1,()),()))
noncomputable def njn' (p0 p1 p2 p3:Int) (p4 p5 p6:Nat) (p7:List Car):Option ((Unit×Unit)×(T'2×Unit)):=
 letI a:=(0:Int)
 let z0:Int:=((List.length p7:Nat):Int)
 bif (((decide (a≤z0))&&(decide (z0≤z0)))&&(decide (z0≤(2147483648:Int)))) then some (((),()),((a,a,a,a,false,false,a,(List.replicate (Int.toNat z0) (CarOutput.mk a a false a a false a a false)),()),())) else none
noncomputable def nq6' (i p0 p1 p2 p3:Int) (p4 p5:Bool) (p6:Int) (p7:List CarOutput) (p8 p9 p10 p11:Int) (p12 p13:Bool) (p14:Int) (p15:List CarOutput):Option (Sum (T'25×(T'2×T'2×Unit)) ((Unit×Unit) ⊕ ((Bool×Unit)×Unit))):=
 letI a:=(0:Int)
 letI b:=(CarOutput.mk a a false a a false a a false)
 bif (decide (i < ((List.length p7:Nat):Int))) then bif (inB i (List.length p7)) then let z0:CarOutput:=(List.getD p7 (Int.toNat i) b)
 bif (inB i (List.length p15)) then let z1:CarOutput:=(List.getD p15 (Int.toNat i) b)
 bif (! ((z0.T0==z1.T0)&&((z0.R0==z1.R0)&&((z0.D1==z1.D1)&&((z0.T1==z1.T1)&&((z0.H1==z1.H1)&&((z0.O3==z1.O3)&&((z0.D2==z1.D2)&&((z0.W0==z1.W0)&&((z0.P3==z1.P3)&&true)))))))))) then some (Sum.inr (Sum.inr ((false,()),()))) else some (Sum.inl (((),(),(IntKind.i64.wrap (i + (1:Int))),()),((p0,p1,p2,p3,p4,p5,p6,p7,()),(p8,p9,p10,p11,p12,p13,p14,p15,()),()))) else none else none else some (Sum.inr (Sum.inl ((),())))
noncomputable def nle':(T'25×(T'2×T'2×Unit))→Option ((Unit×Unit) ⊕ ((Bool×Unit)×Unit)):=iter (fun x=>letI a:=x.2.2.1.2.2; letI b:=x.2.1.2.2; letI c:=b.2.2; letI d:=a.2.2; nq6' x.1.2.2.1 x.2.1.1 x.2.1.2.1 b.1 b.2.1 c.1 c.2.1 c.2.2.1 c.2.2.2.1 x.2.2.1.1 x.2.2.1.2.1 a.1 a.2.1 d.1 d.2.1 d.2.2.1 d.2.2.2.1) fuel
noncomputable def nff' (p0 p1 p2 p3:Int) (p4 p5:Bool) (p6:Int) (p7:List CarOutput) (p8 p9 p10 p11:Int) (p12 p13:Bool) (p14:Int) (p15:List CarOutput):Option ((Bool×Unit)×Unit):=
 letI a:=((false,()),())
 bif (! ((p0==p8)&&((p1==p9)&&true))) then some a else bif (! ((p2==p10)&&((p3==p11)&&true))) then some a else bif (! (p4==p12)) then some a else bif (! (p5==p13)) then some a else bif (p6 != p14) then some a else bif (((List.length p7:Nat):Int) != ((List.length p15:Nat):Int)) then some a else (nle' (((),(),(0:Int),()),((p0,p1,p2,p3,p4,p5,p6,p7,()),(p8,p9,p10,p11,p12,p13,p14,p15,()),()))).bind fun y1=>(match y1 with
 | .inl y2=>
 some ((true,()),())
 | .inr y2=>
 some ((y2.1.1,()),()))
noncomputable def noz' (out:List Outputs) (i p0 p1 p2 p3 p4 p5 p6:Int) (p7 p8 p9:Nat) (p10:List Car):Option (Sum (T'124×T'125) ((Unit×Unit) ⊕ ((Bool×Unit)×Unit))):=
 letI b:=(p3,p4,p5,p6,p7,p8,p9,p10,())
 letI c:=(0:Int)
 letI d:=((),(),out,i,(),())
 letI l:=Outputs.mk c c c c false false c
 letI m:=(p0,p1,p2,())
 letI r:=(1:Int)
 letI s:=(IntKind.bits IntKind.u32)
 letI al:=List.length out
 letI ao:=(2:Int)
 bif (decide (i < ((al:Nat):Int))) then bif (inB i (al)) then let z0:Outputs:=(List.getD out (Int.toNat i) (l []))
 letI h:=z0.A1
 letI j:=z0.B1
 letI o:=z0.I1
 letI q:=z0.X0
 letI aa:=z0.C2
 letI ae:=z0.K0
 letI ah:=z0.D3
 bif (inB i (al)) then let z1:Outputs:=(List.getD out (Int.toNat i) (l []))
 bif (Nat.ble ((List.length ([]:List CarOutput)) + (List.length z1.A0)) 2147483648) then let z2:List ( CarOutput ):=(([]:List CarOutput)++z1.A0)
 letI au:=(ae,aa,z2,())
 letI f:=(q,ah,au)
 letI ab:=(d,(m,b,(o,h,j,f),()))
 let z3:Int:=((List.length p10:Nat):Int)
 bif (z3 != c) then let z4:Int:=(Int.tmod i z3)
 bif (inB z4 (List.length z2)) then let z5:Nat:=(Int.toNat z4)
 letI a:=(List.getD z2 z5 (CarOutput.mk c c false c c false c c false))
 Option.bind (let z6:Int:=(Int.tmod (IntKind.i64.wrap (i + (IntKind.i64.wrap p0))) (10:Int))
 bif (z6==r) then let z7:CarOutput:=a
 some (d,(m,b,(o,h,j,q,ah,ae,aa,(List.set z2 z5 (CarOutput.mk z7.T0 z7.R0 z7.D1 r ao z7.O3 z7.D2 z7.W0 z7.P3)),()),())) else bif (z6==ao) then let z8:CarOutput:=a
 some (d,(m,b,(o,h,j,q,ah,ae,aa,(List.set z2 z5 (CarOutput.mk r z8.R0 z8.D1 z8.T1 z8.H1 z8.O3 z8.D2 z8.W0 z8.P3)),()),())) else bif (z6==(3:Int)) then let z9:CarOutput:=a
 some (d,(m,b,(o,h,j,q,ah,ae,aa,(List.set z2 z5 (CarOutput.mk z9.T0 z9.R0 (! a.D1) z9.T1 z9.H1 z9.O3 z9.D2 z9.W0 z9.P3)),()),())) else bif (z6==(4:Int)) then let z10:CarOutput:=a
 some (d,(m,b,(o,h,j,q,ah,ae,aa,(List.set z2 z5 (CarOutput.mk z10.T0 z10.R0 z10.D1 z10.T1 z10.H1 z10.O3 (3:Int) z10.W0 z10.P3)),()),())) else bif (z6==(5:Int)) then let z11:CarOutput:=a
 some (d,(m,b,(o,h,j,q,ah,ae,aa,(List.set z2 z5 (CarOutput.mk z11.T0 z11.R0 z11.D1 z11.T1 z11.H1 z11.O3 z11.D2 (Int.tmod i (5:Int)) z11.P3)),()),())) else bif (z6==(6:Int)) then some (d,(m,b,(o,h,(IntKind.u32.wrap (stk j r (BitVec.toNat ((BitVec.ofInt s j) ^^^ (BitVec.ofInt s r))))),f),())) else bif (z6==(7:Int)) then some (d,(m,b,(o,(IntKind.u32.wrap (stk h ao (BitVec.toNat ((BitVec.ofInt s h) ^^^ (BitVec.ofInt s ao))))),j,f),())) else bif (z6==(8:Int)) then some (d,(m,b,(o,h,j,q,(! ah),au),())) else bif (z6==(9:Int)) then Option.bind (some ab) fun y1=>letI aw:=y1.2.2.2.1
 letI n:=aw.2.2
 letI ad:=n.2.2
 letI am:=ad.2
 letI an:=(List.length am.2.2.1)
 bif (decide (r≤((an:Nat):Int))) then some (((),(),y1.1.2.2.1,y1.1.2.2.2.1,(),()),(y1.2.1,y1.2.2.1,(aw.1,aw.2.1,n.1,n.2.1,ad.1,am.1,am.2.1,(List.drop 1 (List.take an am.2.2.1)),()),())) else none else some ab) fun y2=>letI e:=y2.2.2
 letI ag:=e.2.1
 letI g:=ag.2.2
 letI ai:=e.1
 letI k:=ai.2.2
 letI u:=k.2.2
 letI v:=g.2.2
 letI w:=y2.1.2.2
 letI af:=(IntKind.i64.wrap (w.2.1 - r))
 letI aj:=u.2
 letI ak:=v.2
 letI ap:=w.1
 letI aq:=aj.2
 letI ar:=ak.2
 letI av:=(List.length ap)
 let z12:Int:=af
 bif (inB z12 av) then let z13:Outputs:=(List.getD ap (Int.toNat z12) (l []))
 (nbb' ai.1 ai.2.1 k.1 k.2.1 u.1 aj.1 aq.1 aq.2.1 z13.I1 z13.A1 z13.B1 z13.X0 z13.D3 z13.K0 z13.C2 z13.A0 ag.1 ag.2.1 g.1 g.2.1 v.1 ak.1 ar.1 ar.2.1).bind fun y3=>let z14:Int:=af
 bif (inB z14 av) then let z15:Outputs:=(List.getD ap (Int.toNat z14) (l []))
 (nc4' ai.1 ai.2.1 k.1 k.2.1 u.1 aj.1 aq.1 aq.2.1 z15.I1 z15.A1 z15.B1 z15.X0 z15.D3 z15.K0 z15.C2 z15.A0 ag.1 ag.2.1 g.1 g.2.1 v.1 ak.1 ar.1 ar.2.1).bind fun y4=>bif (y3.1.1 != y4.1.1) then some (Sum.inr (Sum.inr ((false,()),()))) else some (Sum.inl (((),(),ap,(IntKind.i64.wrap (w.2.1 + r)),()),(y2.2.1,ai,()))) else none else none else none else none else none else none else none else some (Sum.inr (Sum.inl ((),())))
noncomputable def nee':(T'124×T'125)→Option ((Unit×Unit) ⊕ ((Bool×Unit)×Unit)):=iter (fun x=>letI a:=x.2.2.1.2.2; letI b:=a.2.2; noz' x.1.2.2.1 x.1.2.2.2.1 x.2.1.1 x.2.1.2.1 x.2.1.2.2.1 x.2.2.1.1 x.2.2.1.2.1 a.1 a.2.1 b.1 b.2.1 b.2.2.1 b.2.2.2.1) fuel
noncomputable def F_l30_AuditSees (p0 p1 p2:Int) (l:List Int) (p3 p4 p5 p6:Int) (p7 p8:Bool) (p9:Int) (p10:List CarOutput) (p11 p12 p13 p14:Int) (p15 p16:Bool) (p17:Int) (p18:List CarOutput):Option ((Bool×Unit)×Unit):=
 (njl' p3 p4 p5 p6 p7 p8 p9 p10).bind fun y1=>bif (! y1.1.1) then (ng8').bind fun y2=>some ((y2.1.1,()),()) else (njl' p11 p12 p13 p14 p15 p16 p17 p18).bind fun y3=>bif (! y3.1.1) then (ng8').bind fun y4=>some ((y4.1.1,()),()) else (nga' p0 p1 p2).bind fun y5=>Option.bind (some ((l,(),(),(),()),((p0,p1,p2,()),(p3,p4,p5,p6,p7,p8,p9,p10,p11,p12,p13,p14,p15,p16,p17,p18,()),y5.2.1,()))) fun y6=>letI m:=y6.2.2.2.1
 letI v:=m.2.2
 letI au:=v.2
 letI ax:=au.2
 (njt' m.1 m.2.1 v.1 au.1 ax.1 ax.2.1 ax.2.2.1 ax.2.2.2.1).bind fun y7=>Option.bind (some ((y6.1.1,(),(),(),(),()),(y6.2.1,y6.2.2.1,m,y7.2.1,()))) fun y8=>letI a:=y8.2.2
 letI g:=a.2
 letI k:=g.1
 letI b:=k.2.2
 letI j:=a.1.2
 letI u:=j.2
 letI ae:=u.2
 letI ao:=ae.2
 letI c:=ao.2.2
 letI ad:=g.2.1
 letI an:=ad.2
 letI ay:=an.2
 letI d:=ay.2.2.2
 letI e:=b.2.2
 letI af:=c.2
 letI ap:=af.2
 letI f:=ap.2.2
 letI h:=e.2
 letI bb:=d.2
 letI n:=bb.2.2.2
 letI o:=h.2
 letI q:=f.2.2
 letI w:=k.2.1
 letI aa:=b.2.1
 letI ab:=o.2.1
 letI ag:=n.2.2
 letI ah:=k.1
 letI ai:=b.1
 letI aj:=e.1
 letI ak:=h.1
 letI al:=o.1
 letI am:=q.2
 letI az:=ag.2
 letI ba:=am.2
 (nf7' ah w ai aa aj ak al ab y8.1.1 (40:Int)).bind fun y9=>(nkx' ah w ai aa aj ak al ab ad.1 an.1 ay.1 ay.2.1 ay.2.2.1 d.1 bb.1 bb.2.1 bb.2.2.1 n.1 n.2.1 ag.1 az.1 az.2.1 az.2.2.1 az.2.2.2.1 y9.1.1).bind fun y10=>(nbb' ah w ai aa aj ak al ab a.1.1 j.1 u.1 ae.1 ao.1 ao.2.1 c.1 af.1 ap.1 ap.2.1 f.1 f.2.1 q.1 am.1 ba.1 ba.2.1).bind fun y11=>(nc4' ah w ai aa aj ak al ab a.1.1 j.1 u.1 ae.1 ao.1 ao.2.1 c.1 af.1 ap.1 ap.2.1 f.1 f.2.1 q.1 am.1 ba.1 ba.2.1).bind fun y12=>bif (y11.1.1 != y12.1.1) then some ((false,()),()) else (ncb' ah w ai aa aj ak al ab).bind fun y13=>letI r:=y13.2.1.2.2
 letI aq:=r.2
 letI av:=aq.2
 (njn' ah w ai aa aj ak al ab).bind fun y14=>letI s:=y14.2.1.2.2
 letI ar:=s.2
 letI aw:=ar.2
 (nff' y13.2.1.1 y13.2.1.2.1 r.1 aq.1 av.1 av.2.1 av.2.2.1 av.2.2.2.1 y14.2.1.1 y14.2.1.2.1 s.1 ar.1 aw.1 aw.2.1 aw.2.2.1 aw.2.2.2.1).bind fun y15=>bif (! y15.1.1) then some ((false,()),()) else (nee' (((),(),y10.1.2.1,(1:Int),()),(y8.2.1,k,()))).bind fun y16=>(match y16 with
 | .inl y17=>
 (ng8').bind fun y18=>some ((y18.1.1,()),())
 | .inr y17=>
 some ((y17.1.1,()),()))
noncomputable def n13' (l:List Outputs) (i p0 p1 p2 p3:Int) (p4 p5 p6:Nat) (p7:List Car) (p8 p9 p10 p11:Int) (p12 p13:Bool) (p14:Int) (p15:List CarOutput):Option (Sum (T'126×(T'0×T'2×Unit)) ((Unit×Unit) ⊕ ((Int×Int×Unit)×Unit))):=
 letI a:=(0:Int)
 letI b:=Outputs.mk a a a a false false a
 letI c:=List.length l
 bif (decide (i < ((c:Nat):Int))) then bif (inB i (c)) then let z0:Outputs:=(List.getD l (Int.toNat i) (b []))
 (nc4' p0 p1 p2 p3 p4 p5 p6 p7 p8 p9 p10 p11 p12 p13 p14 p15 z0.I1 z0.A1 z0.B1 z0.X0 z0.D3 z0.K0 z0.C2 z0.A0).bind fun y1=>bif (y1.1.1 != a) then some (Sum.inr (Sum.inr ((i,y1.1.1,()),()))) else bif (inB i (c)) then let z1:Outputs:=(List.getD l (Int.toNat i) (b []))
 some (Sum.inl ((l,(),(),(IntKind.i64.wrap (i + (1:Int))),()),((p0,p1,p2,p3,p4,p5,p6,p7,()),(z1.I1,z1.A1,z1.B1,z1.X0,z1.D3,z1.K0,z1.C2,z1.A0,()),()))) else none else none else some (Sum.inr (Sum.inl ((),())))
noncomputable def nov':(T'126×(T'0×T'2×Unit))→Option ((Unit×Unit) ⊕ ((Int×Int×Unit)×Unit)):=iter (fun x=>letI a:=x.2.2.1.2.2; letI b:=x.2.1.2.2; letI c:=b.2.2; letI d:=a.2.2; n13' x.1.1 x.1.2.2.2.1 x.2.1.1 x.2.1.2.1 b.1 b.2.1 c.1 c.2.1 c.2.2.1 c.2.2.2.1 x.2.2.1.1 x.2.2.1.2.1 a.1 a.2.1 d.1 d.2.1 d.2.2.1 d.2.2.2.1) fuel
noncomputable def n5e' (p0 p1 p2 p3:Int) (p4 p5 p6:Nat) (p7:List Car) (p8 p9 p10 p11:Int) (p12 p13:Bool) (p14:Int) (p15:List CarOutput) (l:List Outputs):Option ((Int×Int×Unit)×Unit):=
 (nov' ((l,(),(),(0:Int),()),((p0,p1,p2,p3,p4,p5,p6,p7,()),(p8,p9,p10,p11,p12,p13,p14,p15,()),()))).bind fun y1=>
 (match y1 with
 | .inl y2=>
 some (((-1:Int),(0:Int),()),())
 | .inr y2=>
 some ((y2.1.1,y2.1.2.1,()),()))
end Go.Ovl
