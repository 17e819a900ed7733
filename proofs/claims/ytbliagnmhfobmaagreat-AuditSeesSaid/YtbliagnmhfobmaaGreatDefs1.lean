/- What each function of the program comes to: part 1. -/
import Derived.Test.YtbliagnmhfobmaaGreatTy
namespace Go.Ovl
open Go Go.Ab
set_option maxRecDepth 100000
@[reducible] def T'0:Type:=(Int×Int×Int×Int×Nat×Nat×Nat×List Car×Unit)
@[reducible] def T'1:Type:=(Int×Int×Unit×Unit×Int×Unit)
@[reducible] def T'2:Type:=(Int×Int×Int×Int×Bool×Bool×Int×List CarOutput×Unit)
@[reducible] def T'3:Type:=((Int×Int×Unit)×Unit)
@[reducible] def T'4:Type:=(Unit×Unit×Bool×List CarOutput×Int×Int×Unit)
@[reducible] def T'5:Type:=((Int×Int×Unit)×(Int×Int×Unit)×Unit)
@[reducible] def T'6:Type:=(Unit×Unit×Bool×Unit)
@[reducible] def T'7:Type:=(List CarOutput×Int×Int×Unit)
@[reducible] def T'8:Type:=(List CarOutput×List CarOutput×Int×Int×Unit)
@[reducible] def T'9:Type:=(Int×List CarOutput×Int×Int×Unit)
@[reducible] def T'10:Type:=(Unit×Unit×List Outputs×Int×Int×Unit)
@[reducible] def T'11:Type:=(Int×Unit×Unit×Int×Unit)
@[reducible] def T'12:Type:=(Int×Unit×Unit×Unit)
@[reducible] def T'13:Type:=(Unit×Unit×Unit×Int×Unit)
@[reducible] def T'14:Type:=((Int×Int×Int×Unit)×T'0×T'0×Unit)
@[reducible] def T'15:Type:=(Unit×Unit×List Int×Int×Unit)
@[reducible] def T'16:Type:=(Int×Int×Int×Int×Int×Int×Int×Int×Int×Unit)
@[reducible] def T'17:Type:=(Unit×Bool×Int×Unit)
@[reducible] def T'18:Type:=(List Int×List Bool×List Bool×List Entry×Unit)
@[reducible] def T'19:Type:=(ByteArray×Int×Int×Unit)
@[reducible] def T'20:Type:=(ByteArray×Int×Int×Int×Unit)
@[reducible] def T'21:Type:=(Int×Int×Int×Int×Int×Unit)
@[reducible] def T'22:Type:=(List Record×Int×Unit)
@[reducible] def T'23:Type:=(ByteArray×Unit×List Record×Int×Unit)
@[reducible] def T'24:Type:=(Unit×Unit×Int×Int×Unit)
@[reducible] def T'25:Type:=(Unit×Unit×Int×Unit)
@[reducible] def T'26:Type:=(Int×Int×Unit×Int×Unit)
@[reducible] def T'27:Type:=(List Entry×Unit×List Entry×Bool×Int×Unit)
@[reducible] def T'28:Type:=(Int×Int×Int×Int×Bool×Unit)
@[reducible] def T'29:Type:=(Unit×List Entry×Bool×Unit)
@[reducible] def T'30:Type:=(Unit×Unit×Unit×List Record×Int×Unit)
@[reducible] def T'31:Type:=(T'0×T'18×T'18×Unit)
@[reducible] def T'32:Type:=(ByteArray×ByteArray×Int×Unit)
@[reducible] def T'33:Type:=(Unit×List Record×Int×Unit)
@[reducible] def T'34:Type:=(Unit×List Record×Unit)
@[reducible] def T'35:Type:=(List Record×Unit×ByteArray×Int×Unit)
@[reducible] def T'36:Type:=(Int×ByteArray×Int×Unit×Unit×Int×Unit)
@[reducible] def T'37:Type:=(Int×Int×Int×List Duty×Int×Bool×Unit)
@[reducible] def T'38:Type:=(List Int×List Bool×List Bool×List Entry×ByteArray×ByteArray×Int×List Debounced×List Belief×List NewCar×List Loaded×List Int×List Calls×Int×Int×Int×Unit)
@[reducible] def T'39:Type:=(Unit×Unit×Unit×Int×Unit×Int×Unit)
@[reducible] def T'40:Type:=(T'0×T'18×T'38×T'38×Unit)
@[reducible] def T'41:Type:=(Unit×Unit×Unit×Unit×Unit)
@[reducible] def T'42:Type:=(Unit×Unit×Unit×Unit×Int×Unit)
@[reducible] def T'43:Type:=(Int×Int×Int×Int×List CarInput×Unit)
@[reducible] def T'44:Type:=(Unit×Unit×Unit×Int×List CarInput×Int×Unit)
@[reducible] def T'45:Type:=(T'0×T'43×T'43×Unit)
@[reducible] def T'46:Type:=(Unit×Unit×List CarInput×Unit)
@[reducible] def T'47:Type:=(Int×Int×Int×Int×Int×Int×Unit)
@[reducible] def T'48:Type:=(T'0×T'47×T'43×T'43×Unit)
@[reducible] def T'49:Type:=(Unit×Unit×Unit×Unit)
@[reducible] def T'50:Type:=(T'0×(Int×Int×Unit)×(Int×Int×Unit)×Unit)
@[reducible] def T'51:Type:=(Int×Int×List Int×Int×Unit)
@[reducible] def T'52:Type:=(List Bool×Int×Int×Unit)
@[reducible] def T'53:Type:=(Unit×ByteArray×Int×Unit)
@[reducible] def T'54:Type:=(List Int×Int×Unit×List ByteArray×Int×Unit)
@[reducible] def T'55:Type:=(List Int×Int×Unit×List ByteArray×Int×Unit×ByteArray×Int×Unit)
@[reducible] def T'56:Type:=(List Int×Unit×Int×Unit)
@[reducible] def T'57:Type:=(List Int×Unit×Unit)
@[reducible] def T'58:Type:=(Int×Bool×Bool×Bool×Bool×Int×Int×Int×Int×Int×Int×Int×Int×Int×Int×Int×Int×Int×Int×Int×Int×Int×Int×Int×Int×Int×Int×Int×Int×Int×Int×Int×Int×Int×Int×Int×Int×Int×Int×Int×Int×Unit)
@[reducible] def T'59:Type:=(ByteArray×Int×Int×Int×Int×Unit)
@[reducible] def T'60:Type:=(ByteArray×Unit×Unit×Unit×Int×Unit)
@[reducible] def T'61:Type:=(ByteArray×Unit×Unit×Unit×Unit)
@[reducible] def T'62:Type:=(Int×Bool×Bool×Bool×Bool×Unit)
@[reducible] def T'63:Type:=(Int×Unit×Unit×Unit×Int×Unit)
@[reducible] def T'64:Type:=(T'58×T'62×T'58×Unit)
@[reducible] def T'65:Type:=(Int×Int×Int×Int×Nat×Nat×Nat×List Car×List Int×List Bool×List Bool×List Entry×ByteArray×ByteArray×Int×List Debounced×List Belief×List NewCar×List Loaded×List Int×List Calls×Int×Int×Int×Int×Int×Int×Int×List CarInput×Bool×List Calls×List Int×List Int×Int×Int×Int×Int×Int×Int×Bool×Bool×Int×List CarOutput×Unit)
@[reducible] def T'66:Type:=((Int×Int×Int×Unit)×Unit)
@[reducible] def T'67:Type:=(Int×Unit×Unit×Unit×Unit×List Duty×Bool×Int×Unit)
@[reducible] def T'68:Type:=(T'0×T'37×(Int×Int×Unit)×T'37×Unit)
@[reducible] def T'69:Type:=(Unit×Unit×List Duty×Bool×Unit)
@[reducible] def T'70:Type:=(Unit×List View×Int×Unit)
@[reducible] def T'71:Type:=(List View×Int×Unit×Unit×Unit×Int×Unit)
@[reducible] def T'72:Type:=(T'18×(Int×Int×Unit)×(Int×Int×Unit)×Unit)
@[reducible] def T'73:Type:=(Unit×Int×Bool×Unit)
@[reducible] def T'74:Type:=(Int×Int×Int×Int×Int×Bool×Int×Int×Int×Int×Int×Int×Int×Bool×Unit)
@[reducible] def T'75:Type:=(Bool×Bool×Bool×Bool×Bool×Int×Unit)
@[reducible] def T'76:Type:=(Int×Int×Int×Bool×Int×Unit)
@[reducible] def T'77:Type:=(r27_ticker×List Bool×Int×Unit)
@[reducible] def T'78:Type:=(List Bool×Unit×List Record×Int×Unit)
@[reducible] def T'79:Type:=(Unit×List Bool×List Bool×Int×Unit)
@[reducible] def T'80:Type:=(Bool×Bool×Bool×Bool×Int×Int×Int×Int×Int×Int×Int×Int×Unit)
@[reducible] def T'81:Type:=(T'38×T'80×T'80×Unit)
@[reducible] def T'82:Type:=(List Calls×List Bool×Int×Int×Unit)
@[reducible] def T'83:Type:=(List View×List Calls×Unit×Unit×Unit×Int×Unit)
@[reducible] def T'84:Type:=(T'0×T'82×T'82×Unit)
@[reducible] def T'85:Type:=(List View×Unit×Unit×List Record×Int×Unit)
@[reducible] def T'86:Type:=(List View×Unit×Unit×List Record×Int×Unit×Int×Unit)
@[reducible] def T'87:Type:=(T'0×T'18×T'28×Unit)
@[reducible] def T'88:Type:=(List Record×Unit×Unit×Unit×Int×Unit)
@[reducible] def T'89:Type:=(List Int×Unit×Unit×List Int×Int×Unit)
@[reducible] def T'90:Type:=(List Record×List Int×List Bool×List Bool×List Entry×List Int×List Calls×List Bool×Int×Int×Int×Int×Unit)
@[reducible] def T'91:Type:=(Unit×List Entry×Int×Unit)
@[reducible] def T'92:Type:=(Unit×List Entry×Int×Int×Unit)
@[reducible] def T'93:Type:=(Int×Int×Int×Int×Int×Unit×Int×Int×Int×Unit)
@[reducible] def T'94:Type:=(Int×Unit×Int×Int×Unit)
@[reducible] def T'95:Type:=(Int×Unit×Int×Int×Int×Unit)
@[reducible] def T'96:Type:=(List View×Int×Int×Int×Unit×Int×Int×Unit)
@[reducible] def T'97:Type:=(List Record×List Int×Int×Unit)
@[reducible] def T'98:Type:=(List Int×List View×Unit×Unit×List Record×List Int×Int×Unit)
@[reducible] def T'99:Type:=(List Record×List Int×Unit)
@[reducible] def T'100:Type:=(List View×Unit×Unit×Unit×Unit×List Entry×Int×Unit)
@[reducible] def T'101:Type:=(T'0×T'18×T'90×T'90×Unit)
@[reducible] def T'102:Type:=(List View×Unit×Unit×Unit×Unit)
@[reducible] def T'103:Type:=(T'0×T'90×T'90×Unit)
@[reducible] def T'104:Type:=(Unit×Unit×List View×Int×Unit)
@[reducible] def T'105:Type:=(Unit×Unit×List View×Unit)
@[reducible] def T'106:Type:=(List Entry×Unit×Unit×Int×Unit)
@[reducible] def T'107:Type:=(Unit×Unit×Unit×List Entry×List Duty×Int×Unit)
@[reducible] def T'108:Type:=(T'37×(Int×Int×Unit)×T'37×Unit)
@[reducible] def T'109:Type:=(Unit×Unit×List Duty×Unit)
@[reducible] def T'110:Type:=(Unit×Unit×Unit×List Entry×List Duty×Int×Int×Int×Int×Int×Unit)
@[reducible] def T'111:Type:=(Unit×Unit×Unit×List Entry×List Duty×Int×Int×Int×Int×Unit)
@[reducible] def T'112:Type:=((Int×Int×Bool×Unit)×Unit)
@[reducible] def T'113:Type:=(Int×Unit×Unit×Unit×Unit×Int×Unit)
@[reducible] def T'114:Type:=(T'0×T'37×(Int×Int×Bool×Unit)×(Int×Int×Bool×Unit)×Unit)
@[reducible] def T'115:Type:=((Int×Int×Bool×Unit)×(Int×Int×Bool×Unit)×Unit)
@[reducible] def T'116:Type:=(Unit×List Outputs×Int×Unit)
@[reducible] def T'117:Type:=(List ByteArray×Unit×Unit×Unit×List Outputs×Int×Unit)
@[reducible] def T'118:Type:=(T'0×T'38×T'38×Unit)
@[reducible] def T'119:Type:=(Unit×Unit×List Outputs×Unit)
@[reducible] def T'120:Type:=(Int×Int×List T2_int×Int×Unit)
@[reducible] def T'121:Type:=(Unit×Unit×Unit×Bool×Bool×Bool×Int×Int×Unit)
@[reducible] def T'122:Type:=(T'2×T'2×(Int×Int×Unit)×Unit)
@[reducible] def T'123:Type:=(Unit×Unit×Unit×Bool×Bool×Bool×Int×Unit)
@[reducible] def T'124:Type:=(Unit×Unit×List Outputs×Int×Unit)
@[reducible] def T'125:Type:=((Int×Int×Int×Unit)×T'0×Unit)
@[reducible] def T'126:Type:=(List Outputs×Unit×Unit×Int×Unit)
@[reducible] def T'127:Type:=(T'0×T'2×List Outputs×Unit)
noncomputable def njl' (p0 p1 p2 p3:Int) (p4 p5:Bool) (p6:Int) (p7:List CarOutput):Option ((Bool×Unit)×Unit):=
 some (((decide (((List.length p7:Nat):Int)≤(12:Int))),()),())
noncomputable def neo' (p0 p1 i p2 p3 p4 p5:Int) (p6 p7 p8:Nat) (p9:List Car) (p10 p11 p12 p13:Int) (p14 p15 p16:Nat) (p17:List Car):Option (Sum (T'1×(T'0×T'0×Unit)) ((Unit×Unit×Unit)×(T'0×T'0×Unit))):=
 letI a:=(p2,p3,p4,p5,p6,p7,p8,p9,())
 bif (decide (i < p1)) then bif (p0 != (0:Int)) then let z0:List ( Car ):=[(Car.mk (100:Int) (2:Int) (6:Int) (5:Int) (4:Int) (2:Int) (3:Int) (10:Int) (Int.tmod i p0))]
 bif (Nat.ble ((List.length p17) + (List.length z0)) 2147483648) then some (Sum.inl ((p0,p1,(),(),(IntKind.i64.wrap (i + (1:Int))),()),(a,(p10,p11,p12,p13,p14,p15,p16,(p17++z0),()),()))) else none else none else some (Sum.inr (((),(),()),(a,(p10,p11,p12,p13,p14,p15,p16,p17,()),())))
noncomputable def ngm':(T'1×(T'0×T'0×Unit))→Option ((Unit×Unit×Unit)×(T'0×T'0×Unit)):=iter (fun x=>letI a:=x.2.2.1.2.2; letI b:=x.2.1.2.2; letI c:=b.2.2; letI d:=a.2.2; neo' x.1.1 x.1.2.1 x.1.2.2.2.2.1 x.2.1.1 x.2.1.2.1 b.1 b.2.1 c.1 c.2.1 c.2.2.1 c.2.2.2.1 x.2.2.1.1 x.2.2.1.2.1 a.1 a.2.1 d.1 d.2.1 d.2.2.1 d.2.2.2.1) fuel
noncomputable def nif' (p0 p1:Int):Option ((Unit×Unit)×(T'0×Unit)):=
 letI a:=(0:Int)
 (ngm' ((p0,p1,(),(),a,()),((a,a,a,a,0,0,0,([]:List Car),()),(p0,(1:Int),(4000:Int),(30:Int),4591870180066957722,4605380978949069210,4607632778762754458,([]:List Car),()),()))).bind fun y1=>some (((),()),(y1.2.2.1,()))
noncomputable def nmq' (n p0:Int):Option ((Unit×Unit)×(T'0×Unit)):=
 (nif' (IntKind.i64.wrap ((2:Int) + (IntKind.i64.wrap (Int.tmod n (7:Int))))) (IntKind.i64.wrap ((1:Int) + (IntKind.i64.wrap (Int.tmod (IntKind.u8.wrap (Int.tdiv n (7:Int))) (3:Int)))))).bind fun y1=>letI a:=y1.2.1.2.2.2
 letI b:=a.2
 letI c:=b.2
 some (((),()),((y1.2.1.1,y1.2.1.2.1,(IntKind.i64.wrap ((IntKind.i64.wrap ((IntKind.i64.wrap ((18:Int) * ((List.length c.2.2.1:Nat):Int))) + (24:Int))) + (IntKind.i64.wrap p0))),a.1,b.1,c.1,c.2.1,c.2.2.1,()),()))
noncomputable def ncb' (p0 p1 p2 p3:Int) (p4 p5 p6:Nat) (p7:List Car):Option ((Unit×Unit)×(T'2×Unit)):=
 letI a:=(0:Int)
 let z0:Int:=((List.length p7:Nat):Int)
 bif (((decide (a≤z0))&&(decide (z0≤z0)))&&(decide (z0≤(2147483648:Int)))) then some (((),()),((a,a,a,a,false,false,a,(List.replicate (Int.toNat z0) (CarOutput.mk a a false a a false a a false)),()),())) else none
noncomputable def nf9' (p0 p1 p2 p3:Int):Option ((Unit×Unit)×T'3):=
 letI a:=(IntKind.bits IntKind.u32)
 some (((),()),(((IntKind.u32.wrap (stk p0 p2 (BitVec.toNat ((BitVec.ofInt a p0) &&& (BitVec.ofInt a p2))))),(IntKind.u32.wrap (stk p1 p3 (BitVec.toNat ((BitVec.ofInt a p1) &&& (BitVec.ofInt a p3))))),()),()))
noncomputable def nj5' (p0 p1 p2 p3:Int):Option ((Unit×Unit)×T'3):=
 letI a:=(IntKind.bits IntKind.u32)
 some (((),()),(((IntKind.u32.wrap (stk p0 p2 (BitVec.toNat ((BitVec.ofInt a p0) ||| (BitVec.ofInt a p2))))),(IntKind.u32.wrap (stk p1 p3 (BitVec.toNat ((BitVec.ofInt a p1) ||| (BitVec.ofInt a p3))))),()),()))
noncomputable def nck' (p0:Bool) (s8:List CarOutput) (s9 s10 p1 p2 p3 p4:Int):Option (Sum (T'4×T'5) (T'6×T'5)):=
 letI b:=(0:Int)
 bif (decide (s10 < s9)) then bif (inB s10 (List.length s8)) then let z0:CarOutput:=(List.getD s8 (Int.toNat s10) (CarOutput.mk b b false b b false b b false))
 letI a:=((p1,p2,()),(p3,p4,()),(z0.T0,z0.R0,z0.D1,z0.T1,z0.H1,z0.O3,z0.D2,z0.W0,z0.P3,()),())
 Option.bind (bif p0 then some (((),(),true,(),s8,s9,s10,()),a) else (nf9' p3 p4 z0.T1 z0.H1).bind fun y1=>some (((),(),(! ((y1.2.1.1==b)&&((y1.2.1.2.1==b)&&true))),(),s8,s9,s10,()),a)) fun y2=>letI c:=y2.1.2.2.2.2
 (nj5' y2.2.2.1.1 y2.2.2.1.2.1 y2.2.2.2.1.2.2.2.1 y2.2.2.2.1.2.2.2.2.1).bind fun y3=>some (Sum.inl (((),(),y2.1.2.2.1,c.1,c.2.1,(IntKind.i64.wrap (c.2.2.1 + (1:Int))),()),(y2.2.1,y3.2.1,()))) else none else some (Sum.inr (((),(),p0,()),((p1,p2,()),(p3,p4,()),())))
noncomputable def niq':(T'4×T'5)→Option (T'6×T'5):=iter (fun x=>letI a:=x.1.2.2; nck' a.1 a.2.1 a.2.2.1 a.2.2.2.1 x.2.1.1 x.2.1.2.1 x.2.2.1.1 x.2.2.1.2.1) fuel
noncomputable def ngu' (l:List CarOutput):Option ((Unit×Bool×Unit)×T'3):=
 letI a:=(0:Int)
 (niq' (((),(),false,l,((List.length l:Nat):Int),a,()),((a,a,()),(a,a,()),()))).bind fun y1=>some (((),y1.1.2.2.1,()),(y1.2.2.1,()))
noncomputable def neb' (p0 p1 p2 p3:Int):Option ((Unit×Unit)×T'3):=
 letI a:=(IntKind.bits IntKind.u32)
 some (((),()),(((IntKind.u32.wrap (stk p0 p2 (BitVec.toNat ((BitVec.ofInt a p0) &&& (~~~ (BitVec.ofInt a p2)))))),(IntKind.u32.wrap (stk p1 p3 (BitVec.toNat ((BitVec.ofInt a p1) &&& (~~~ (BitVec.ofInt a p3)))))),()),()))
noncomputable def niu' (p0:Int):Option ((Bool×Unit)×Unit):=
 Option.bind (bif (p0==(0:Int)) then some ((true,()),()) else some (((p0==(1:Int)),()),())) fun y1=>some ((y1.1.1,()),())
noncomputable def nke' (p0 p1 p2:Int) (p3:Bool):Option ((Bool×Unit)×Unit):=
 Option.bind (bif ((p1==(0:Int))&&((p2==(0:Int))&&true)) then some ((true,()),()) else bif (! p3) then (niu' p0).bind fun y1=>some ((y1.1.1,()),()) else some ((false,()),())) fun y2=>some ((y2.1.1,()),())
noncomputable def nd0' (s5:List CarOutput) (s6 s7:Int):Option (Sum (T'7×Unit) ((Unit×Unit) ⊕ ((Bool×Unit)×Unit))):=
 letI a:=(0:Int)
 bif (decide (s7 < s6)) then bif (inB s7 (List.length s5)) then let z0:CarOutput:=(List.getD s5 (Int.toNat s7) (CarOutput.mk a a false a a false a a false))
 (nke' z0.W0 z0.T0 z0.R0 z0.D1).bind fun y1=>bif (! y1.1.1) then some (Sum.inr (Sum.inr ((false,()),()))) else some (Sum.inl ((s5,s6,(IntKind.i64.wrap (s7 + (1:Int))),()),())) else none else some (Sum.inr (Sum.inl ((),())))
noncomputable def nl3':(T'7×Unit)→Option ((Unit×Unit) ⊕ ((Bool×Unit)×Unit)):=iter (fun x=>nd0' x.1.1 x.1.2.1 x.1.2.2.1) fuel
noncomputable def nkb' (l:List CarOutput):Option ((Bool×Unit)×Unit):=
 (nl3' ((l,((List.length l:Nat):Int),(0:Int),()),())).bind fun y1=>(match y1 with
 | .inl y2=>
 some ((true,()),())
 | .inr y2=>
 some ((y2.1.1,()),()))
noncomputable def nha' (p0 p1:Int):Option ((Bool×Unit)×Unit):=
 Option.bind (bif (p1==(0:Int)) then some ((true,()),()) else bif (p0==(3:Int)) then some ((true,()),()) else some (((p0==(4:Int)),()),())) fun y1=>some ((y1.1.1,()),())
noncomputable def ncj' (s5:List CarOutput) (s6 s7:Int):Option (Sum (T'7×Unit) ((Unit×Unit) ⊕ ((Bool×Unit)×Unit))):=
 letI a:=(0:Int)
 bif (decide (s7 < s6)) then bif (inB s7 (List.length s5)) then let z0:CarOutput:=(List.getD s5 (Int.toNat s7) (CarOutput.mk a a false a a false a a false))
 (nha' z0.W0 z0.D2).bind fun y1=>bif (! y1.1.1) then some (Sum.inr (Sum.inr ((false,()),()))) else some (Sum.inl ((s5,s6,(IntKind.i64.wrap (s7 + (1:Int))),()),())) else none else some (Sum.inr (Sum.inl ((),())))
noncomputable def nil':(T'7×Unit)→Option ((Unit×Unit) ⊕ ((Bool×Unit)×Unit)):=iter (fun x=>ncj' x.1.1 x.1.2.1 x.1.2.2.1) fuel
noncomputable def ng2' (l:List CarOutput):Option ((Bool×Unit)×Unit):=
 (nil' ((l,((List.length l:Nat):Int),(0:Int),()),())).bind fun y1=>(match y1 with
 | .inl y2=>
 some ((true,()),())
 | .inr y2=>
 some ((y2.1.1,()),()))
noncomputable def np3' (p0 to:Int):Option ((Bool×Unit)×Unit):=
 twoF edgeB p0 to
noncomputable def ndu' (p0 s7:List CarOutput) (s8 s9:Int):Option (Sum (T'8×Unit) ((Unit×Unit) ⊕ ((Bool×Unit)×Unit))):=
 letI b:=(0:Int)
 letI a:=(CarOutput.mk b b false b b false b b false)
 letI c:=(List.getD p0 (Int.toNat s9) a).W0
 letI d:=(inB s9 (List.length p0))
 bif (decide (s9 < s8)) then bif (inB s9 (List.length s7)) then let z0:CarOutput:=(List.getD s7 (Int.toNat s9) a)
 Option.bind (bif d then bif (z0.W0 != c) then bif d then (np3' c z0.W0).bind fun y1=>some ((p0,s7,s8,s9,(! y1.1.1),()),()) else none else some ((p0,s7,s8,s9,false,()),()) else none) fun y2=>bif y2.1.2.2.2.2.1 then some (Sum.inr (Sum.inr ((false,()),()))) else some (Sum.inl ((y2.1.1,y2.1.2.1,y2.1.2.2.1,(IntKind.i64.wrap (y2.1.2.2.2.1 + (1:Int))),()),())) else none else some (Sum.inr (Sum.inl ((),())))
noncomputable def nk6':(T'8×Unit)→Option ((Unit×Unit) ⊕ ((Bool×Unit)×Unit)):=iter (fun x=>ndu' x.1.1 x.1.2.1 x.1.2.2.1 x.1.2.2.2.1) fuel
noncomputable def njy' (p0 l:List CarOutput):Option ((Bool×Unit)×Unit):=
 (nk6' ((p0,l,((List.length l:Nat):Int),(0:Int),()),())).bind fun y1=>(match y1 with
 | .inl y2=>
 some ((true,()),())
 | .inr y2=>
 some ((y2.1.1,()),()))
noncomputable def nbp' (p0 p1:Int):Option ((Bool×Unit)×Unit):=
 some ((((p0==(0:Int))&&((p1==(0:Int))&&true)),()),())
noncomputable def ncy' (n:Int) (s6:List CarOutput) (s7 s8:Int):Option (Sum (T'9×Unit) ((Int×Unit)×Unit)):=
 letI b:=(0:Int)
 letI c:=((n,s6,s7,s8,true,()),())
 bif (decide (s8 < s7)) then bif (inB s8 (List.length s6)) then let z0:CarOutput:=(List.getD s6 (Int.toNat s8) (CarOutput.mk b b false b b false b b false))
 Option.bind (bif (z0.W0==(1:Int)) then some c else bif (z0.W0==(2:Int)) then some c else some ((n,s6,s7,s8,(z0.W0==(3:Int)),()),())) fun y1=>letI a:=(y1.1.2.1,y1.1.2.2.1,(IntKind.i64.wrap (y1.1.2.2.2.1 + (1:Int))),())
 bif y1.1.2.2.2.2.1 then some (Sum.inl (((IntKind.i64.wrap (y1.1.1 + (1:Int))),a),())) else some (Sum.inl ((y1.1.1,a),())) else none else some (Sum.inr ((n,()),()))
noncomputable def njb':(T'9×Unit)→Option ((Int×Unit)×Unit):=iter (fun x=>ncy' x.1.1 x.1.2.1 x.1.2.2.1 x.1.2.2.2.1) fuel
noncomputable def nfo' (l:List CarOutput):Option ((Int×Unit)×Unit):=
 (njb' (((0:Int),l,((List.length l:Nat):Int),(0:Int),()),())).bind fun y1=>some ((y1.1.1,()),())
noncomputable def nbb' (p0 p1 p2 p3:Int) (p4 p5 p6:Nat) (p7:List Car) (p8 p9 p10 p11:Int) (p12 p13:Bool) (p14:Int) (p15:List CarOutput) (p16 p17 p18 p19:Int) (p20 p21:Bool) (p22:Int) (p23:List CarOutput):Option ((Int×Unit)×Unit):=
 letI a:=((p16,p17,p18,p19,p20,p21,p22,p23,()),())
 letI b:=(((4:Int),()),())
 letI c:=((List.length p15:Nat):Int)
 letI d:=((List.length p23:Nat):Int)
 letI e:=(((6:Int),()),())
 letI f:=(((5:Int),()),())
 let z0:Int:=c
 let z1:Int:=d
 let z2:Int:=(bif (decide (z1 < z0)) then z1 else z0)
 bif ((decide ((0:Int)≤z2))&&(decide (z2≤(((List.length p23):Nat):Int)))) then let z3:List ( CarOutput ):=(List.drop 0 (List.take (Int.toNat z2) p23))
 (ngu' z3).bind fun y1=>(neb' p8 p9 p16 p17).bind fun y2=>bif y1.1.2.1 then some (((1:Int),()),()) else (nkb' z3).bind fun y3=>bif (! y3.1.1) then some (((2:Int),()),()) else (ng2' z3).bind fun y4=>bif (! y4.1.1) then some (((3:Int),()),()) else (njy' p15 z3).bind fun y5=>bif (! y5.1.1) then some b else bif (c != z2) then some b else bif (d != z2) then some b else bif (((List.length p7:Nat):Int) != z2) then some b else (neb' p18 p19 p8 p9).bind fun y6=>(nbp' y6.2.1.1 y6.2.1.2.1).bind fun y7=>bif (! y7.1.1) then some e else (neb' p18 p19 y1.2.1.1 y1.2.1.2.1).bind fun y8=>(nbp' y8.2.1.1 y8.2.1.2.1).bind fun y9=>bif (! y9.1.1) then some e else (neb' y2.2.1.1 y2.2.1.2.1 p18 p19).bind fun y10=>(nbp' y10.2.1.1 y10.2.1.2.1).bind fun y11=>bif (! y11.1.1) then some f else (nf9' p16 p17 p18 p19).bind fun y12=>(nf9' p8 p9 y12.2.1.1 y12.2.1.2.1).bind fun y13=>(nbp' y13.2.1.1 y13.2.1.2.1).bind fun y14=>bif (! y14.1.1) then some f else Option.bind (bif p20 then bif (! ((p16==p8)&&((p17==p9)&&true))) then some (((),true,()),a) else (nbp' p18 p19).bind fun y15=>some (((),(! y15.1.1),()),a) else some (((),false,()),a)) fun y16=>bif y16.1.2.1 then some (((7:Int),()),()) else (nfo' y16.2.1.2.2.2.2.2.2.2.1).bind fun y17=>bif (decide ((1:Int) < y17.1.1)) then some (((8:Int),()),()) else some (((0:Int),()),()) else none
noncomputable def nx2' (s11:List Outputs) (s12 s13 p0 p1 p2 p3:Int) (p4 p5 p6:Nat) (p7:List Car) (p8 p9 p10 p11:Int) (p12 p13:Bool) (p14:Int) (p15:List CarOutput):Option (Sum (T'10×(T'0×T'2×Unit)) ((Unit×Unit) ⊕ ((Int×Int×Unit)×Unit))):=
 letI a:=(0:Int)
 bif (decide (s13 < s12)) then bif (inB s13 (List.length s11)) then let z0:Outputs:=(List.getD s11 (Int.toNat s13) (Outputs.mk a a a a false false a []))
 (nbb' p0 p1 p2 p3 p4 p5 p6 p7 p8 p9 p10 p11 p12 p13 p14 p15 z0.I1 z0.A1 z0.B1 z0.X0 z0.D3 z0.K0 z0.C2 z0.A0).bind fun y1=>bif (y1.1.1 != a) then some (Sum.inr (Sum.inr ((s13,y1.1.1,()),()))) else some (Sum.inl (((),(),s11,s12,(IntKind.i64.wrap (s13 + (1:Int))),()),((p0,p1,p2,p3,p4,p5,p6,p7,()),(z0.I1,z0.A1,z0.B1,z0.X0,z0.D3,z0.K0,z0.C2,z0.A0,()),()))) else none else some (Sum.inr (Sum.inl ((),())))
noncomputable def nly':(T'10×(T'0×T'2×Unit))→Option ((Unit×Unit) ⊕ ((Int×Int×Unit)×Unit)):=iter (fun x=>letI a:=x.2.2.1.2.2; letI b:=x.2.1.2.2; letI c:=b.2.2; letI d:=a.2.2; nx2' x.1.2.2.1 x.1.2.2.2.1 x.1.2.2.2.2.1 x.2.1.1 x.2.1.2.1 b.1 b.2.1 c.1 c.2.1 c.2.2.1 c.2.2.2.1 x.2.2.1.1 x.2.2.1.2.1 a.1 a.2.1 d.1 d.2.1 d.2.2.1 d.2.2.2.1) fuel
noncomputable def nor' (p0 p1 p2 p3:Int) (p4 p5 p6:Nat) (p7:List Car) (p8 p9 p10 p11:Int) (p12 p13:Bool) (p14:Int) (p15:List CarOutput) (l:List Outputs):Option ((Int×Int×Unit)×Unit):=
 (nly' (((),(),l,((List.length l:Nat):Int),(0:Int),()),((p0,p1,p2,p3,p4,p5,p6,p7,()),(p8,p9,p10,p11,p12,p13,p14,p15,()),()))).bind fun y1=>
 (match y1 with
 | .inl y2=>
 some (((-1:Int),(0:Int),()),())
 | .inr y2=>
 some ((y2.1.1,y2.1.2.1,()),()))
noncomputable def ng8' :Option ((Bool×Unit)×Unit):=
 (nmq' (9:Int) (90:Int)).bind fun y1=>
 (ncb' y1.2.1.1 y1.2.1.2.1 y1.2.1.2.2.1 y1.2.1.2.2.2.1 y1.2.1.2.2.2.2.1 y1.2.1.2.2.2.2.2.1 y1.2.1.2.2.2.2.2.2.1 y1.2.1.2.2.2.2.2.2.2.1).bind fun y2=>
 bif (((List.length y2.2.1.2.2.2.2.2.2.2.1:Nat):Int) != (2:Int)) then
 some ((false,()),())
 else
 (ncb' y1.2.1.1 y1.2.1.2.1 y1.2.1.2.2.1 y1.2.1.2.2.2.1 y1.2.1.2.2.2.2.1 y1.2.1.2.2.2.2.2.1 y1.2.1.2.2.2.2.2.2.1 y1.2.1.2.2.2.2.2.2.2.1).bind fun y3=>
 bif (inB (1:Int) (List.length y3.2.1.2.2.2.2.2.2.2.1)) then
 let z0:Nat:=(Int.toNat (1:Int))
 let z1:CarOutput:=(List.getD y3.2.1.2.2.2.2.2.2.2.1 z0 (CarOutput.mk (0:Int) (0:Int) false (0:Int) (0:Int) false (0:Int) (0:Int) false))
 (ncb' y1.2.1.1 y1.2.1.2.1 y1.2.1.2.2.1 y1.2.1.2.2.2.1 y1.2.1.2.2.2.2.1 y1.2.1.2.2.2.2.2.1 y1.2.1.2.2.2.2.2.2.1 y1.2.1.2.2.2.2.2.2.2.1).bind fun y4=>
 bif (inB (0:Int) (List.length y4.2.1.2.2.2.2.2.2.2.1)) then
 let z2:Nat:=(Int.toNat (0:Int))
 let z3:CarOutput:=(List.getD y4.2.1.2.2.2.2.2.2.2.1 z2 (CarOutput.mk (0:Int) (0:Int) false (0:Int) (0:Int) false (0:Int) (0:Int) false))
 let z4:List CarOutput:=(List.set y4.2.1.2.2.2.2.2.2.2.1 z2 (CarOutput.mk z3.T0 z3.R0 z3.D1 (1:Int) (0:Int) z3.O3 z3.D2 z3.W0 z3.P3))
 bif (inB (1:Int) (List.length z4)) then
 let z5:Nat:=(Int.toNat (1:Int))
 let z6:CarOutput:=(List.getD z4 z5 (CarOutput.mk (0:Int) (0:Int) false (0:Int) (0:Int) false (0:Int) (0:Int) false))
 Option.bind (some (((),(),(),(),()),(y1.2.1,y2.2.1,(y3.2.1.1,y3.2.1.2.1,y3.2.1.2.2.1,y3.2.1.2.2.2.1,y3.2.1.2.2.2.2.1,y3.2.1.2.2.2.2.2.1,y3.2.1.2.2.2.2.2.2.1,(List.set y3.2.1.2.2.2.2.2.2.2.1 z0 (CarOutput.mk z1.T0 z1.R0 z1.D1 z1.T1 z1.H1 z1.O3 z1.D2 (4:Int) z1.P3)),()),(y4.2.1.1,y4.2.1.2.1,y4.2.1.2.2.1,y4.2.1.2.2.2.1,y4.2.1.2.2.2.2.1,y4.2.1.2.2.2.2.2.1,y4.2.1.2.2.2.2.2.2.1,(List.set z4 z5 (CarOutput.mk z6.T0 z6.R0 z6.D1 (3:Int) (0:Int) z6.O3 z6.D2 z6.W0 z6.P3)),()),()))) fun y5=>
 (nor' y5.2.1.1 y5.2.1.2.1 y5.2.1.2.2.1 y5.2.1.2.2.2.1 y5.2.1.2.2.2.2.1 y5.2.1.2.2.2.2.2.1 y5.2.1.2.2.2.2.2.2.1 y5.2.1.2.2.2.2.2.2.2.1 y5.2.2.1.1 y5.2.2.1.2.1 y5.2.2.1.2.2.1 y5.2.2.1.2.2.2.1 y5.2.2.1.2.2.2.2.1 y5.2.2.1.2.2.2.2.2.1 y5.2.2.1.2.2.2.2.2.2.1 y5.2.2.1.2.2.2.2.2.2.2.1 [(Outputs.mk y5.2.2.1.1 y5.2.2.1.2.1 y5.2.2.1.2.2.1 y5.2.2.1.2.2.2.1 y5.2.2.1.2.2.2.2.1 y5.2.2.1.2.2.2.2.2.1 y5.2.2.1.2.2.2.2.2.2.1 y5.2.2.1.2.2.2.2.2.2.2.1),(Outputs.mk y5.2.2.2.1.1 y5.2.2.2.1.2.1 y5.2.2.2.1.2.2.1 y5.2.2.2.1.2.2.2.1 y5.2.2.2.1.2.2.2.2.1 y5.2.2.2.1.2.2.2.2.2.1 y5.2.2.2.1.2.2.2.2.2.2.1 y5.2.2.2.1.2.2.2.2.2.2.2.1)]).bind fun y6=>
 Option.bind ((nbb' y5.2.1.1 y5.2.1.2.1 y5.2.1.2.2.1 y5.2.1.2.2.2.1 y5.2.1.2.2.2.2.1 y5.2.1.2.2.2.2.2.1 y5.2.1.2.2.2.2.2.2.1 y5.2.1.2.2.2.2.2.2.2.1 y5.2.2.1.1 y5.2.2.1.2.1 y5.2.2.1.2.2.1 y5.2.2.1.2.2.2.1 y5.2.2.1.2.2.2.2.1 y5.2.2.1.2.2.2.2.2.1 y5.2.2.1.2.2.2.2.2.2.1 y5.2.2.1.2.2.2.2.2.2.2.1 y5.2.2.2.1.1 y5.2.2.2.1.2.1 y5.2.2.2.1.2.2.1 y5.2.2.2.1.2.2.2.1 y5.2.2.2.1.2.2.2.2.1 y5.2.2.2.1.2.2.2.2.2.1 y5.2.2.2.1.2.2.2.2.2.2.1 y5.2.2.2.1.2.2.2.2.2.2.2.1).bind fun y7=>
 bif (y7.1.1==(4:Int)) then
 (nbb' y5.2.1.1 y5.2.1.2.1 y5.2.1.2.2.1 y5.2.1.2.2.2.1 y5.2.1.2.2.2.2.1 y5.2.1.2.2.2.2.2.1 y5.2.1.2.2.2.2.2.2.1 y5.2.1.2.2.2.2.2.2.2.1 y5.2.2.1.1 y5.2.2.1.2.1 y5.2.2.1.2.2.1 y5.2.2.1.2.2.2.1 y5.2.2.1.2.2.2.2.1 y5.2.2.1.2.2.2.2.2.1 y5.2.2.1.2.2.2.2.2.2.1 y5.2.2.1.2.2.2.2.2.2.2.1 y5.2.2.2.2.1.1 y5.2.2.2.2.1.2.1 y5.2.2.2.2.1.2.2.1 y5.2.2.2.2.1.2.2.2.1 y5.2.2.2.2.1.2.2.2.2.1 y5.2.2.2.2.1.2.2.2.2.2.1 y5.2.2.2.2.1.2.2.2.2.2.2.1 y5.2.2.2.2.1.2.2.2.2.2.2.2.1).bind fun y8=>
 bif (y8.1.1==(1:Int)) then
 bif (y6.1.1==(1:Int)) then
 bif (y6.1.2.1==(4:Int)) then
 (nbb' y5.2.1.1 y5.2.1.2.1 y5.2.1.2.2.1 y5.2.1.2.2.2.1 y5.2.1.2.2.2.2.1 y5.2.1.2.2.2.2.2.1 y5.2.1.2.2.2.2.2.2.1 y5.2.1.2.2.2.2.2.2.2.1 y5.2.2.1.1 y5.2.2.1.2.1 y5.2.2.1.2.2.1 y5.2.2.1.2.2.2.1 y5.2.2.1.2.2.2.2.1 y5.2.2.1.2.2.2.2.2.1 y5.2.2.1.2.2.2.2.2.2.1 y5.2.2.1.2.2.2.2.2.2.2.1 y5.2.2.1.1 y5.2.2.1.2.1 y5.2.2.1.2.2.1 y5.2.2.1.2.2.2.1 y5.2.2.1.2.2.2.2.1 y5.2.2.1.2.2.2.2.2.1 y5.2.2.1.2.2.2.2.2.2.1 y5.2.2.1.2.2.2.2.2.2.2.1).bind fun y9=>
 some (((y9.1.1==(0:Int)),()),())
 else
 some ((false,()),())
 else
 some ((false,()),())
 else
 some ((false,()),())
 else
 some ((false,()),())) fun y10=>
 some ((y10.1.1,()),())
 else
 none
 else
 none
 else
 none
noncomputable def nc9' (t i p0 p1 p2 p3:Int) (p4 p5 p6:Nat) (p7:List Car) (p8 p9 p10 p11:Int) (p12 p13 p14:Nat) (p15:List Car):Option (Sum (T'11×(T'0×T'0×Unit)) (T'12×(T'0×T'0×Unit))):=
 letI b:=(0:Int)
 letI a:=(Car.mk b b b b b b b b b)
 letI c:=(p0,p1,p2,p3,p4,p5,p6,p7,())
 letI d:=(1:Int)
 letI e:=(3:Int)
 bif (decide (i < ((List.length p15:Nat):Int))) then bif (inB i (List.length p15)) then let z0:Nat:=(Int.toNat i)
 let z1:Car:=(List.getD p15 z0 a)
 let z2:List ( Car ):=(List.set p15 z0 (Car.mk z1.S1 z1.C3 z1.G3 z1.O2 (IntKind.i64.wrap (d + (IntKind.i64.wrap (Int.tmod t e)))) z1.V2 z1.U2 z1.L3 z1.Q3))
 let z3:Car:=(List.getD z2 z0 a)
 let z4:List ( Car ):=(List.set z2 z0 (Car.mk z3.S1 z3.C3 z3.G3 z3.O2 z3.M3 (IntKind.i64.wrap (d + (IntKind.i64.wrap (Int.tmod (IntKind.u8.wrap (Int.tdiv t e)) e)))) z3.U2 z3.L3 z3.Q3))
 let z5:Car:=(List.getD z4 z0 a)
 let z6:List ( Car ):=(List.set z4 z0 (Car.mk z5.S1 z5.C3 z5.G3 z5.O2 z5.M3 z5.V2 (IntKind.i64.wrap (d + (IntKind.i64.wrap (Int.tmod (IntKind.u8.wrap (Int.tdiv t (9:Int))) e)))) z5.L3 z5.Q3))
 letI f:=(List.getD z6 z0 a)
 let z7:Car:=f
 let z8:List ( Car ):=(List.set z6 z0 (Car.mk z7.S1 z7.C3 z7.G3 z7.O2 z7.M3 z7.V2 z7.U2 (IntKind.i64.wrap (f.U2 + (IntKind.i64.wrap (Int.tmod (IntKind.u8.wrap (Int.tdiv t (27:Int))) (5:Int))))) z7.Q3))
 bif (p8 != b) then let z9:Car:=(List.getD z8 z0 a)
 some (Sum.inl ((t,(),(),(IntKind.i64.wrap (i + d)),()),(c,(p8,p9,p10,p11,p12,p13,p14,(List.set z8 z0 (Car.mk z9.S1 z9.C3 z9.G3 z9.O2 z9.M3 z9.V2 z9.U2 z9.L3 (Int.tmod (IntKind.i64.wrap (i + (IntKind.i64.wrap t))) p8))),()),()))) else none else none else some (Sum.inr ((t,(),(),()),(c,(p8,p9,p10,p11,p12,p13,p14,p15,()),())))
noncomputable def ng3':(T'11×(T'0×T'0×Unit))→Option (T'12×(T'0×T'0×Unit)):=iter (fun x=>letI a:=x.2.2.1.2.2; letI b:=x.2.1.2.2; letI c:=b.2.2; letI d:=a.2.2; nc9' x.1.1 x.1.2.2.2.1 x.2.1.1 x.2.1.2.1 b.1 b.2.1 c.1 c.2.1 c.2.2.1 c.2.2.2.1 x.2.2.1.1 x.2.2.1.2.1 a.1 a.2.1 d.1 d.2.1 d.2.2.1 d.2.2.2.1) fuel
noncomputable def niy' (n t:Int):Option ((Unit×Unit)×(T'0×Unit)):=
 letI b:=(0:Int)
 (nif' (IntKind.i64.wrap ((2:Int) + (IntKind.i64.wrap (Int.tmod n (5:Int))))) (IntKind.i64.wrap ((1:Int) + (IntKind.i64.wrap (Int.tmod (IntKind.u8.wrap (Int.tdiv n (5:Int))) (3:Int)))))).bind fun y1=>(ng3' ((t,(),(),b,()),((b,b,b,b,0,0,0,([]:List Car),()),y1.2.1,()))).bind fun y2=>letI a:=y2.2.2.1.2
 letI c:=a.2.2.2
 some (((),()),((y2.2.2.1.1,a.1,a.2.1,(IntKind.i64.wrap ((1:Int) + (IntKind.i64.wrap (Int.tmod y2.1.1 (7:Int))))),c.1,c.2.1,c.2.2.1,c.2.2.2.1,()),()))
noncomputable def ndd' (t i p0 p1 p2 p3:Int) (p4 p5 p6:Nat) (p7:List Car) (p8 p9 p10 p11:Int) (p12 p13 p14:Nat) (p15:List Car):Option (Sum (T'11×(T'0×T'0×Unit)) ((Unit×Unit×Unit)×(T'0×T'0×Unit))):=
 letI a:=(0:Int)
 letI b:=(p0,p1,p2,p3,p4,p5,p6,p7,())
 bif (decide (i < ((List.length p15:Nat):Int))) then bif (inB i (List.length p15)) then let z0:Nat:=(Int.toNat i)
 let z1:Car:=(List.getD p15 z0 (Car.mk a a a a a a a a a))
 some (Sum.inl ((t,(),(),(IntKind.i64.wrap (i + (1:Int))),()),(b,(p8,p9,p10,p11,p12,p13,p14,(List.set p15 z0 (Car.mk (IntKind.i64.wrap ((1:Int) + (IntKind.i64.wrap (Int.tmod t (16:Int))))) z1.C3 z1.G3 z1.O2 z1.M3 z1.V2 z1.U2 z1.L3 z1.Q3)),()),()))) else none else some (Sum.inr (((),(),()),(b,(p8,p9,p10,p11,p12,p13,p14,p15,()),())))
noncomputable def ng0':(T'11×(T'0×T'0×Unit))→Option ((Unit×Unit×Unit)×(T'0×T'0×Unit)):=iter (fun x=>letI a:=x.2.2.1.2.2; letI b:=x.2.1.2.2; letI c:=b.2.2; letI d:=a.2.2; ndd' x.1.1 x.1.2.2.2.1 x.2.1.1 x.2.1.2.1 b.1 b.2.1 c.1 c.2.1 c.2.2.1 c.2.2.2.1 x.2.2.1.1 x.2.2.1.2.1 a.1 a.2.1 d.1 d.2.1 d.2.2.1 d.2.2.2.1) fuel
noncomputable def ni4' (n t:Int):Option ((Unit×Unit)×(T'0×Unit)):=
 letI a:=(0:Int)
 (niy' n t).bind fun y1=>(ng0' ((t,(),(),a,()),((a,a,a,a,0,0,0,([]:List Car),()),y1.2.1,()))).bind fun y2=>some (((),()),(y2.2.2.1,()))
noncomputable def nde' (i p0 p1 p2 p3 p4 p5 p6:Int) (p7 p8 p9:Nat) (p10:List Car) (p11 p12 p13 p14:Int) (p15 p16 p17:Nat) (p18:List Car):Option (Sum (T'13×T'14) ((Unit×Unit×Unit)×(T'0×T'0×Unit))):=
 letI a:=(0:Int)
 letI b:=(Car.mk a a a a a a a a a)
 letI c:=(p3,p4,p5,p6,p7,p8,p9,p10,())
 bif (decide (i < ((List.length p18:Nat):Int))) then bif (inB i (List.length p18)) then let z0:Nat:=(Int.toNat i)
 let z1:Car:=(List.getD p18 z0 b)
 let z2:List ( Car ):=(List.set p18 z0 (Car.mk z1.S1 z1.C3 (IntKind.i64.wrap ((1:Int) + (IntKind.i64.wrap (Int.tmod p2 (4:Int))))) z1.O2 z1.M3 z1.V2 z1.U2 z1.L3 z1.Q3))
 bif (inB i (List.length z2)) then let z3:Nat:=(Int.toNat i)
 let z4:Car:=(List.getD z2 z3 b)
 some (Sum.inl (((),(),(),(IntKind.i64.wrap (i + (1:Int))),()),((p0,p1,p2,()),c,(p11,p12,p13,p14,p15,p16,p17,(List.set z2 z3 (Car.mk z4.S1 z4.C3 z4.G3 (IntKind.i64.wrap (Int.tmod p1 (5:Int))) z4.M3 z4.V2 z4.U2 z4.L3 z4.Q3)),()),()))) else none else none else some (Sum.inr (((),(),()),(c,(p11,p12,p13,p14,p15,p16,p17,p18,()),())))
noncomputable def new':(T'13×T'14)→Option ((Unit×Unit×Unit)×(T'0×T'0×Unit)):=iter (fun x=>letI a:=x.2.2; letI b:=a.2.1.2.2; letI c:=a.1.2.2; letI d:=c.2.2; letI e:=b.2.2; nde' x.1.2.2.2.1 x.2.1.1 x.2.1.2.1 x.2.1.2.2.1 a.1.1 a.1.2.1 c.1 c.2.1 d.1 d.2.1 d.2.2.1 d.2.2.2.1 a.2.1.1 a.2.1.2.1 b.1 b.2.1 e.1 e.2.1 e.2.2.1 e.2.2.2.1) fuel
noncomputable def nga' (p0 p1 p2:Int):Option ((Unit×Unit)×(T'0×Unit)):=
 letI b:=(0:Int)
 (ni4' p0 p1).bind fun y1=>letI a:=y1.2.1.2.2.2
 letI c:=a.2
 letI d:=c.2
 (new' (((),(),(),b,()),((p0,p1,p2,()),(b,b,b,b,0,0,0,([]:List Car),()),(y1.2.1.1,(IntKind.i64.wrap ((1:Int) + (IntKind.i64.wrap (Int.tmod p2 (3:Int))))),(IntKind.i64.wrap ((IntKind.i64.wrap ((IntKind.i64.wrap ((18:Int) * ((List.length d.2.2.1:Nat):Int))) + (24:Int))) + (IntKind.i64.wrap ((6:Int) * (IntKind.i64.wrap (IntKind.u8.wrap (Int.tdiv p2 (3:Int)))))))),a.1,c.1,d.1,d.2.1,d.2.2.1,()),()))).bind fun y2=>some (((),()),(y2.2.2.1,()))
noncomputable def ned' (n lo hi:Int):Option ((Bool×Unit)×Unit):=
 Option.bind (bif (decide (lo≤n)) then some (((decide (n≤hi)),()),()) else some ((false,()),())) fun y1=>some ((y1.1.1,()),())
noncomputable def nc3' (l:List Int) (i p0 p1 p2 p3:Int) (p4 p5 p6:Nat) (p7:List Car) (p8 p9 p10 p11 p12 p13 p14 p15 p16:Int):Option (Sum (T'15×(T'0×T'16×Unit)) (((Unit×Unit×Unit)×(T'0×T'16×Unit)) ⊕ ((Bool×Unit)×Unit))):=
 letI a:=((p0,p1,p2,p3,p4,p5,p6,p7,()),(p8,p9,p10,p11,p12,p13,p14,p15,p16,()),())
 bif (decide (i < (7:Int))) then bif (inB i (List.length l)) then (ned' (List.getD l (Int.toNat i) (0:Int)) (1:Int) (10000:Int)).bind fun y1=>bif (! y1.1.1) then some (Sum.inr (Sum.inr ((false,()),()))) else some (Sum.inl (((),(),l,(IntKind.i64.wrap (i + (1:Int))),()),a)) else none else some (Sum.inr (Sum.inl (((),(),()),a)))
noncomputable def nj4':(T'15×(T'0×T'16×Unit))→Option (((Unit×Unit×Unit)×(T'0×T'16×Unit)) ⊕ ((Bool×Unit)×Unit)):=iter (fun x=>letI a:=x.2.2.1.2.2; letI b:=x.2.1.2.2; letI c:=a.2.2; letI d:=b.2.2; nc3' x.1.2.2.1 x.1.2.2.2.1 x.2.1.1 x.2.1.2.1 b.1 b.2.1 d.1 d.2.1 d.2.2.1 d.2.2.2.1 x.2.2.1.1 x.2.2.1.2.1 a.1 a.2.1 c.1 c.2.1 c.2.2.1 c.2.2.2.1 c.2.2.2.2.1) fuel
noncomputable def nns' (p0 p1 p2 p3:Int) (p4 p5 p6:Nat) (p7:List Car) (p8 p9 p10 p11 p12 p13 p14 p15 p16:Int):Option ((Bool×Unit)×Unit):=
 letI b:=((false,()),())
 bif (decide (p11 < (0:Int))) then some b else bif (decide ((10000:Int) < p11)) then some b else (nj4' (((),(),[p8,p9,p10,p12,p13,p14,p15,(IntKind.i64.wrap (p11 + (1:Int)))],(0:Int),()),((p0,p1,p2,p3,p4,p5,p6,p7,()),(p8,p9,p10,p11,p12,p13,p14,p15,p16,()),()))).bind fun y1=>(match y1 with
 | .inl y2=>
 letI a:=y2.2.2.1.2.2.2.2.2.2
 Option.bind (bif (decide (a.1≤a.2.1)) then (ned' a.2.2.1 (0:Int) (IntKind.i64.wrap (y2.2.1.1 - (1:Int)))).bind fun y3=>some ((y3.1.1,()),()) else some b) fun y4=>some ((y4.1.1,()),())
 | .inr y2=>
 some ((y2.1.1,()),()))
noncomputable def nfa' (ok:Bool) (i p0 p1 p2 p3:Int) (p4 p5 p6:Nat) (p7:List Car):Option (Sum (T'17×(T'0×Unit)) ((Unit×Bool×Unit)×(T'0×Unit))):=
 letI a:=(0:Int)
 letI b:=((p0,p1,p2,p3,p4,p5,p6,p7,()),())
 bif (decide (i < ((List.length p7:Nat):Int))) then Option.bind (bif ok then bif (inB i (List.length p7)) then let z0:Car:=(List.getD p7 (Int.toNat i) (Car.mk a a a a a a a a a))
 (nns' p0 p1 p2 p3 p4 p5 p6 p7 z0.S1 z0.C3 z0.G3 z0.O2 z0.M3 z0.V2 z0.U2 z0.L3 z0.Q3).bind fun y1=>some (((),y1.1.1,i,()),b) else none else some (((),false,i,()),b)) fun y2=>some (Sum.inl (((),y2.1.2.1,(IntKind.i64.wrap (y2.1.2.2.1 + (1:Int))),()),(y2.2.1,()))) else some (Sum.inr (((),ok,()),b))
noncomputable def nkc':(T'17×(T'0×Unit))→Option ((Unit×Bool×Unit)×(T'0×Unit)):=iter (fun x=>letI a:=x.2.1.2.2; letI b:=a.2.2; nfa' x.1.2.1 x.1.2.2.1 x.2.1.1 x.2.1.2.1 a.1 a.2.1 b.1 b.2.1 b.2.2.1 b.2.2.2.1) fuel
noncomputable def n3' (p0 p1 p2 p3:Int) (p4 p5 p6:Nat) (p7:List Car):Option ((Int×Unit)×Unit):=
 letI a:=(FloatKind.format FloatKind.f64).order
 letI c:=(((13:Int),()),())
 letI e:=((p0,p1,p2,p3,p4,p5,p6,p7,()),())
 (ned' p0 (2:Int) (32:Int)).bind fun y1=>bif (! y1.1.1) then some (((10:Int),()),()) else (ned' ((List.length p7:Nat):Int) (1:Int) (8:Int)).bind fun y2=>bif (! y2.1.1) then some (((11:Int),()),()) else Option.bind ((ned' p1 (1:Int) (16:Int)).bind fun y3=>bif y3.1.1 then (ned' p3 (1:Int) (10000:Int)).bind fun y4=>some (((),y4.1.1,()),e) else some (((),false,()),e)) fun y5=>(nkc' (((),y5.1.2.1,(0:Int),()),(y5.2.1,()))).bind fun y6=>letI b:=y6.2.1.2.2.2.2
 letI f:=b.2
 letI d:=(a f.2.1 9218868437227405311)
 bif (! y6.1.2.1) then some (((12:Int),()),()) else bif ((a 0 b.1)==some Ordering.lt) then bif ((a b.1 f.1)==some Ordering.lt) then bif ((a f.1 f.2.1)==some Ordering.lt) then bif (! (d==some Ordering.lt||d==some Ordering.eq)) then some c else (ned' y6.2.1.2.2.1 (IntKind.i64.wrap ((IntKind.i64.wrap ((18:Int) * ((List.length f.2.2.1:Nat):Int))) + (24:Int))) (65536:Int)).bind fun y7=>bif (! y7.1.1) then some (((14:Int),()),()) else some (((0:Int),()),()) else some c else some c else some c
noncomputable def nc2' (p0:Int) (p1 p2:ByteArray) (p3:Int):Option ((Bool×Unit)×Unit):=
 letI a:=((false,()),())
 Option.bind (bif (decide ((1:Int)≤p0)) then bif (decide (p0≤(65536:Int))) then bif (decide (((ByteArray.size p1:Nat):Int)≤p0)) then bif (decide (((ByteArray.size p2:Nat):Int)≤p0)) then bif (p3==(0:Int)) then some ((true,()),()) else some (((p3==(1:Int)),()),()) else some a else some a else some a else some a) fun y1=>some ((y1.1.1,()),())
noncomputable def nm5' (p0 p1 p2 p3:Int) (p4 p5 p6:Nat) (p7:List Car) (p8 p9:ByteArray) (p10 p11:Int):Option ((Bool×Unit)×Unit):=
 Option.bind ((n3' p0 p1 p2 p3 p4 p5 p6 p7).bind fun y1=>bif (y1.1.1==(0:Int)) then (nc2' p2 p8 p9 p10).bind fun y2=>bif y2.1.1 then some (((decide ((0:Int)≤p11)),()),()) else some ((false,()),()) else some ((false,()),())) fun y3=>some ((y3.1.1,()),())
noncomputable def njw' (p0 p1 p2 p3:Int) (p4 p5 p6:Nat) (p7:List Car):Option ((Unit×Unit)×(T'18×Unit)):=
 (n3' p0 p1 p2 p3 p4 p5 p6 p7).bind fun y1=>bif (y1.1.1 != (0:Int)) then some (((),()),((([]:List Int),([]:List Bool),([]:List Bool),([]:List Entry),()),())) else let z0:Int:=((List.length p7:Nat):Int)
 letI a:=(((decide ((0:Int)≤z0))&&(decide (z0≤z0)))&&(decide (z0≤(2147483648:Int))))
 letI b:=(List.replicate (Int.toNat z0) false)
 bif a then bif a then bif a then some (((),()),(((List.replicate (Int.toNat z0) (0:Int)),b,b,([]:List Entry),()),())) else none else none else none
noncomputable def nhn' (p0 p1:ByteArray) (p2:Int):Option ((ByteArray×Unit)×Unit):=
 bif (p2==(1:Int)) then some ((p1,()),()) else some ((p0,()),())
noncomputable def nlb' (s:ByteArray) (r i k:Int):Option (Sum (T'20×Unit) (T'19×Unit)):=
 letI a:=(i,(IntKind.i64.wrap (k + (1:Int))),())
 letI b:=(IntKind.bits IntKind.i64)
 bif (decide (k < (8:Int))) then let z0:Int:=(Int.tmod (IntKind.i64.wrap (r * (2:Int))) (256:Int))
 bif (decide ((128:Int)≤r)) then some (Sum.inl ((s,(IntKind.i64.wrap (stk z0 (7:Int) (BitVec.toNat ((BitVec.ofInt b z0) ^^^ (BitVec.ofInt b (7:Int)))))),a),())) else some (Sum.inl ((s,z0,a),())) else some (Sum.inr ((s,r,i,()),()))
noncomputable def nll':(T'20×Unit)→Option (T'19×Unit):=iter (fun x=>nlb' x.1.1 x.1.2.1 x.1.2.2.1 x.1.2.2.2.1) fuel
noncomputable def nf3' (s:ByteArray) (r i:Int):Option (Sum (T'19×Unit) ((Int×Unit)×Unit)):=
 letI a:=(IntKind.bits IntKind.i64)
 bif (decide (i < ((ByteArray.size s:Nat):Int))) then bif (inB i (ByteArray.size s)) then let z0:Int:=(IntKind.i64.wrap (nbj' s (Int.toNat i)))
 (nll' ((s,(IntKind.i64.wrap (stk r z0 (BitVec.toNat ((BitVec.ofInt a r) ^^^ (BitVec.ofInt a z0))))),i,(0:Int),()),())).bind fun y1=>some (Sum.inl ((y1.1.1,y1.1.2.1,(IntKind.i64.wrap (y1.1.2.2.1 + (1:Int))),()),())) else none else some (Sum.inr ((r,()),()))
noncomputable def nk2':(T'19×Unit)→Option ((Int×Unit)×Unit):=iter (fun x=>nf3' x.1.1 x.1.2.1 x.1.2.2.1) fuel
noncomputable def nl0' (s:ByteArray):Option ((Int×Unit)×Unit):=
 (nk2' ((s,(0:Int),(0:Int),()),())).bind fun y1=>some (((IntKind.u8.wrap y1.1.1),()),())
noncomputable def ncq' (p0 p1 p2 p3:Int) (p4 p5 p6:Nat) (p7:List Car) (p8 dir:Int):Option ((Bool×Unit)×Unit):=
 letI a:=(ned' p8 (1:Int) (IntKind.i64.wrap (p0 - (1:Int))))
 letI b:=((false,()),())
 letI c:=(dir==(2:Int))
 (n3' p0 p1 p2 p3 p4 p5 p6 p7).bind fun y1=>bif (y1.1.1 != (0:Int)) then some b else Option.bind (bif (dir==(1:Int)) then (ned' p8 (0:Int) (IntKind.i64.wrap (p0 - (2:Int)))).bind fun y2=>bif y2.1.1 then some ((true,()),()) else bif c then a.bind fun y3=>some ((y3.1.1,()),()) else some b else bif c then a.bind fun y4=>some ((y4.1.1,()),()) else some b) fun y5=>some ((y5.1.1,()),())
noncomputable def nkm' (n lo hi:Int):Option ((Bool×Unit)×Unit):=
 Option.bind (bif (decide (lo≤n)) then some (((decide (n≤hi)),()),()) else some ((false,()),())) fun y1=>some ((y1.1.1,()),())
noncomputable def nfz' (p0 p1 p2 p3:Int) (p4 p5 p6:Nat) (p7:List Car) (p8 p9 p10 p11 p12:Int):Option ((Bool×Unit)×Unit):=
 letI a:=((false,()),())
 letI c:=((p0,p1,p2,p3,p4,p5,p6,p7,()),(p8,p9,p10,p11,p12,()),())
 letI d:=(0:Int)
 letI j:=(1:Int)
 (n3' p0 p1 p2 p3 p4 p5 p6 p7).bind fun y1=>bif (y1.1.1 != d) then some a else (ncq' p0 p1 p2 p3 p4 p5 p6 p7 p9 p10).bind fun y2=>letI k:=(((),(),y2.1.1,false,()),c)
 Option.bind ((nkm' p11 d (IntKind.i64.wrap (((List.length p7:Nat):Int) - j))).bind fun y3=>bif y3.1.1 then bif (p9==d) then some (((),(),y2.1.1,(p10==d),()),c) else some k else some k) fun y4=>letI b:=y4.2.2.1.2.2.2
 letI e:=y4.2.2.1.1
 letI f:=(((b.2.1==d),()),())
 letI g:=nkm' b.2.1 d
 letI h:=y4.1.2.2
 letI l:=h.1
 letI m:=b.1
 bif (e==j) then Option.bind (bif l then bif (m==d) then some f else some a else some a) fun y5=>some ((y5.1.1,()),()) else bif (e==(2:Int)) then Option.bind (bif l then bif (m==d) then some f else some a else some a) fun y6=>some ((y6.1.1,()),()) else bif (e==(3:Int)) then Option.bind (bif l then (nkm' m (- 2:Int) (IntKind.i64.wrap (((List.length y4.2.1.2.2.2.2.2.2.2.1:Nat):Int) - j))).bind fun y7=>bif y7.1.1 then some f else some a else some a) fun y8=>some ((y8.1.1,()),()) else bif (e==(4:Int)) then Option.bind (bif h.2.1 then (g (4:Int)).bind fun y9=>some ((y9.1.1,()),()) else some a) fun y10=>some ((y10.1.1,()),()) else bif (e==(5:Int)) then Option.bind (bif h.2.1 then (g j).bind fun y11=>some ((y11.1.1,()),()) else some a) fun y12=>some ((y12.1.1,()),()) else bif (e==(6:Int)) then Option.bind (bif h.2.1 then (g j).bind fun y13=>some ((y13.1.1,()),()) else some a) fun y14=>some ((y14.1.1,()),()) else bif (e==(7:Int)) then Option.bind (bif l then (nkm' m d j).bind fun y15=>bif y15.1.1 then (g (255:Int)).bind fun y16=>some ((y16.1.1,()),()) else some a else some a) fun y17=>some ((y17.1.1,()),()) else some a
noncomputable def nk3' (p0 p1 p2 p3:Int) (p4 p5 p6:Nat) (p7:List Car) (s:ByteArray):Option ((Unit×Int×Unit)×(T'21×Unit)):=
 letI a:=(0:Int)
 letI b:=((a,a,a,a,a,()),())
 letI c:=(ByteArray.size s)
 letI d:=nbj' s
 letI e:=(5:Int)
 (n3' p0 p1 p2 p3 p4 p5 p6 p7).bind fun y1=>bif (y1.1.1 != a) then some (((),(1:Int),()),b) else bif (((ByteArray.size s:Nat):Int) != (6:Int)) then some (((),(4:Int),()),b) else bif (decide (e≤((c:Nat):Int))) then (nl0' (ByteArray.extract s 0 5)).bind fun y2=>bif (inB e c) then bif (y2.1.1 != (d (Int.toNat e))) then some (((),e,()),b) else bif (inB a c) then let z0:Int:=(IntKind.i64.wrap (d (Int.toNat a)))
 bif (inB (1:Int) c) then let z1:Int:=(IntKind.i64.wrap (d (Int.toNat (1:Int))))
 bif (inB (2:Int) c) then let z2:Int:=(IntKind.i64.wrap (d (Int.toNat (2:Int))))
 bif (inB (3:Int) c) then let z3:Int:=(IntKind.i64.wrap ((IntKind.i64.wrap (d (Int.toNat (3:Int)))) - (2:Int)))
 bif (inB (4:Int) c) then let z4:Int:=(IntKind.i64.wrap (d (Int.toNat (4:Int))))
 (nfz' p0 p1 p2 p3 p4 p5 p6 p7 z0 z1 z2 z3 z4).bind fun y3=>bif (! y3.1.1) then some (((),(9:Int),()),b) else some (((),a,()),((z0,z1,z2,z3,z4,()),())) else none else none else none else none else none else none else none
noncomputable def ndq' (s:ByteArray) (out:List Record) (n p0 p1 p2 p3:Int) (p4 p5 p6:Nat) (p7:List Car):Option (Sum (T'23×(T'0×Unit)) (T'22×Unit)):=
 letI a:=(IntKind.i64.wrap (n + (6:Int)))
 bif (decide (a≤((ByteArray.size s:Nat):Int))) then let z0:Int:=a
 bif ((decide ((0:Int)≤z0))&&(decide (z0≤(((ByteArray.size s):Nat):Int)))) then bif ((decide ((0:Int)≤n))&&(decide (n≤(((Int.toNat z0):Nat):Int)))) then (nk3' p0 p1 p2 p3 p4 p5 p6 p7 (ByteArray.extract s (Int.toNat n) (Int.toNat z0))).bind fun y1=>letI b:=y1.2.1.2
 bif (y1.1.2.1 != (0:Int)) then some (Sum.inr ((out,n,()),())) else let z1:List ( Record ):=[(Record.mk y1.2.1.1 b.1 b.2.1 b.2.2.1 b.2.2.2.1)]
 bif (Nat.ble ((List.length out) + (List.length z1)) 2147483648) then some (Sum.inl ((s,(),(out++z1),a,()),((p0,p1,p2,p3,p4,p5,p6,p7,()),()))) else none else none else none else some (Sum.inr ((out,n,()),()))
noncomputable def nk9':(T'23×(T'0×Unit))→Option (T'22×Unit):=iter (fun x=>letI a:=x.2.1.2.2; letI b:=a.2.2; ndq' x.1.1 x.1.2.2.1 x.1.2.2.2.1 x.2.1.1 x.2.1.2.1 a.1 a.2.1 b.1 b.2.1 b.2.2.1 b.2.2.2.1) fuel
noncomputable def npp' (p0 p1 p2 p3:Int) (p4 p5 p6:Nat) (p7:List Car) (s:ByteArray):Option (T'22×Unit):=
 (nk9' ((s,(),([]:List Record),(0:Int),()),((p0,p1,p2,p3,p4,p5,p6,p7,()),()))).bind fun y1=>some ((y1.1.1,y1.1.2.1,()),())
noncomputable def nlf' (p0 p1 p2 p3:Int) (p4:Bool) (p5 p6 p7 p8:Int) (p9:Bool):Option ((Bool×Unit)×Unit):=
 Option.bind (bif (decide (p0 < p5)) then some ((true,()),()) else bif (p0==p5) then some (((decide (p1 < p6)),()),()) else some ((false,()),())) fun y1=>some ((y1.1.1,()),())
noncomputable def ncr' (n i p0 p1 p2 p3:Int) (p4 p5 p6:Nat) (p7:List Car) (p8:List Int) (p9 p10:List Bool) (p11:List Entry):Option (Sum (T'24×(T'0×T'18×Unit)) ((Unit×Unit) ⊕ ((Bool×Unit)×Unit))):=
 letI a:=((p0,p1,p2,p3,p4,p5,p6,p7,()),(p8,p9,p10,p11,()),())
 letI b:=(((),(),n,i,true,()),a)
 letI c:=(0:Int)
 letI d:=(Entry.mk c c c c false)
 letI e:=List.length p11
 bif (decide (i < ((e:Nat):Int))) then bif (inB i (e)) then let z0:Entry:=(List.getD p11 (Int.toNat i) d)
 Option.bind ((ncq' p0 p1 p2 p3 p4 p5 p6 p7 z0.C0 z0.G0).bind fun y1=>bif (! y1.1.1) then some b else bif (decide (z0.O0 < (- 2:Int))) then some b else bif (decide (n≤z0.O0)) then some b else bif (decide (z0.V0 < c)) then some b else bif (decide ((255:Int) < z0.V0)) then some b else bif (decide (c < i)) then let z1:Int:=(IntKind.i64.wrap (i - (1:Int)))
 bif (inB z1 (e)) then let z2:Entry:=(List.getD p11 (Int.toNat z1) d)
 (nlf' z2.C0 z2.G0 z2.O0 z2.V0 z2.Q1 z0.C0 z0.G0 z0.O0 z0.V0 z0.Q1).bind fun y2=>some (((),(),n,i,(! y2.1.1),()),a) else none else some (((),(),n,i,false,()),a)) fun y3=>bif y3.1.2.2.2.2.1 then some (Sum.inr (Sum.inr ((false,()),()))) else some (Sum.inl (((),(),y3.1.2.2.1,(IntKind.i64.wrap (y3.1.2.2.2.1 + (1:Int))),()),(y3.2.1,y3.2.2.1,()))) else none else some (Sum.inr (Sum.inl ((),())))
noncomputable def nh6':(T'24×(T'0×T'18×Unit))→Option ((Unit×Unit) ⊕ ((Bool×Unit)×Unit)):=iter (fun x=>letI a:=x.2.1.2.2; letI b:=a.2.2; letI c:=x.2.2.1; ncr' x.1.2.2.1 x.1.2.2.2.1 x.2.1.1 x.2.1.2.1 a.1 a.2.1 b.1 b.2.1 b.2.2.1 b.2.2.2.1 c.1 c.2.1 c.2.2.1 c.2.2.2.1) fuel
noncomputable def nd1' (n i p0 p1 p2 p3:Int) (p4 p5 p6:Nat) (p7:List Car) (p8:List Int) (p9 p10:List Bool) (p11:List Entry):Option (Sum (T'24×(T'0×T'18×Unit)) ((T'25×(T'0×T'18×Unit)) ⊕ ((Bool×Unit)×Unit))):=
 letI a:=((p0,p1,p2,p3,p4,p5,p6,p7,()),(p8,p9,p10,p11,()),())
 letI b:=(List.getD p8 (Int.toNat i) (0:Int))
 letI c:=(inB i (List.length p8))
 bif (decide (i < n)) then bif c then bif (decide (b < (0:Int))) then some (Sum.inr (Sum.inr ((false,()),()))) else bif c then bif (decide ((4:Int) < b)) then some (Sum.inr (Sum.inr ((false,()),()))) else some (Sum.inl (((),(),n,(IntKind.i64.wrap (i + (1:Int))),()),a)) else none else none else some (Sum.inr (Sum.inl (((),(),n,()),a)))
noncomputable def nh7':(T'24×(T'0×T'18×Unit))→Option ((T'25×(T'0×T'18×Unit)) ⊕ ((Bool×Unit)×Unit)):=iter (fun x=>letI a:=x.2.1.2.2; letI b:=a.2.2; letI c:=x.2.2.1; nd1' x.1.2.2.1 x.1.2.2.2.1 x.2.1.1 x.2.1.2.1 a.1 a.2.1 b.1 b.2.1 b.2.2.1 b.2.2.2.1 c.1 c.2.1 c.2.2.1 c.2.2.2.1) fuel
noncomputable def n7' (p0 p1 p2 p3:Int) (p4 p5 p6:Nat) (p7:List Car) (p8:List Int) (p9 p10:List Bool) (p11:List Entry):Option ((Bool×Unit)×Unit):=
 letI a:=((false,()),())
 let z0:Int:=((List.length p7:Nat):Int)
 (n3' p0 p1 p2 p3 p4 p5 p6 p7).bind fun y1=>bif (y1.1.1 != (0:Int)) then some a else bif (((List.length p8:Nat):Int) != z0) then some a else bif (((List.length p9:Nat):Int) != z0) then some a else bif (((List.length p10:Nat):Int) != z0) then some a else (nh7' (((),(),z0,(0:Int),()),((p0,p1,p2,p3,p4,p5,p6,p7,()),(p8,p9,p10,p11,()),()))).bind fun y2=>(match y2 with
 | .inl y3=>
 (nh6' (((),(),y3.1.2.2.1,(0:Int),()),(y3.2.1,y3.2.2.1,()))).bind fun y4=>(match y4 with
 | .inl y5=>
 some ((true,()),())
 | .inr y5=>
 some ((y5.1.1,()),()))
 | .inr y3=>
 some ((y3.1.1,()),()))
noncomputable def ngd' (p0 dir i:Int) (p1:List Int) (p2 p3:List Bool) (p4:List Entry):Option (Sum (T'26×(T'18×Unit)) ((Unit×Unit) ⊕ ((Int×Unit)×Unit))):=
 letI c:=(0:Int)
 letI a:=(List.getD p4 (Int.toNat i) (Entry.mk c c c c false))
 letI b:=List.length p4
 letI d:=((p1,p2,p3,p4,()),())
 bif (decide (i < ((b:Nat):Int))) then Option.bind (bif (inB i (b)) then bif (a.C0==p0) then bif (inB i (b)) then some ((p0,dir,(),i,(a.G0==dir),()),d) else none else some ((p0,dir,(),i,false,()),d) else none) fun y1=>letI e:=y1.1.2.2.2
 bif e.2.1 then some (Sum.inr (Sum.inr ((e.1,()),()))) else some (Sum.inl ((y1.1.1,y1.1.2.1,(),(IntKind.i64.wrap (e.1 + (1:Int))),()),(y1.2.1,()))) else some (Sum.inr (Sum.inl ((),())))
noncomputable def nlu':(T'26×(T'18×Unit))→Option ((Unit×Unit) ⊕ ((Int×Unit)×Unit)):=iter (fun x=>ngd' x.1.1 x.1.2.1 x.1.2.2.2.1 x.2.1.1 x.2.1.2.1 x.2.1.2.2.1 x.2.1.2.2.2.1) fuel
noncomputable def nfi' (p0:List Int) (p1 p2:List Bool) (p3:List Entry) (p4 dir:Int):Option ((Int×Unit)×Unit):=
 (nlu' ((p4,dir,(),(0:Int),()),((p0,p1,p2,p3,()),()))).bind fun y1=>
 (match y1 with
 | .inl y2=>
 some (((-1:Int),()),())
 | .inr y2=>
 some ((y2.1.1,()),()))
noncomputable def ndv' (l out:List Entry) (p0:Bool) (i p1 p2 p3 p4:Int) (p5:Bool):Option (Sum (T'27×(T'28×Unit)) (T'29×(T'28×Unit))):=
 letI a:=(0:Int)
 letI b:=((p1,p2,p3,p4,p5,()),())
 letI f:=(Entry.mk a a a a false)
 bif (decide (i < ((List.length l:Nat):Int))) then Option.bind (Option.bind (bif (! p0) then bif (inB i (List.length l)) then let z0:Entry:=(List.getD l (Int.toNat i) f)
 (nlf' p1 p2 p3 p4 p5 z0.C0 z0.G0 z0.O0 z0.V0 z0.Q1).bind fun y1=>some ((l,(),out,p0,i,y1.1.1,()),b) else none else some ((l,(),out,p0,i,false,()),b)) fun y2=>letI c:=y2.1.2.2
 letI e:=y2.2.1
 letI h:=c.2
 letI j:=e.2
 bif h.2.2.1 then let z1:List ( Entry ):=[(Entry.mk e.1 j.1 j.2.1 j.2.2.1 j.2.2.2.1)]
 bif (Nat.ble ((List.length c.1) + (List.length z1)) 2147483648) then some ((y2.1.1,(),(c.1++z1),true,h.2.1,()),(e,())) else none else some ((y2.1.1,(),c.1,h.1,h.2.1,()),(e,()))) fun y3=>letI d:=y3.1.2.2
 letI g:=d.2.2.1
 bif (inB g (List.length y3.1.1)) then let z2:Entry:=(List.getD y3.1.1 (Int.toNat g) f)
 let z3:List ( Entry ):=[(Entry.mk z2.C0 z2.G0 z2.O0 z2.V0 z2.Q1)]
 bif (Nat.ble ((List.length d.1) + (List.length z3)) 2147483648) then some (Sum.inl ((y3.1.1,(),(d.1++z3),d.2.1,(IntKind.i64.wrap (g + (1:Int))),()),(y3.2.1,()))) else none else none else some (Sum.inr (((),out,p0,()),b))
noncomputable def nh4':(T'27×(T'28×Unit))→Option (T'29×(T'28×Unit)):=iter (fun x=>letI a:=x.2.1.2; ndv' x.1.1 x.1.2.2.1 x.1.2.2.2.1 x.1.2.2.2.2.1 x.2.1.1 a.1 a.2.1 a.2.2.1 a.2.2.2.1) fuel
noncomputable def nj1' (l:List Entry) (p0 p1 p2 p3:Int) (p4:Bool):Option ((List Entry×Unit)×Unit):=
 (nh4' ((l,(),([]:List Entry),false,(0:Int),()),((p0,p1,p2,p3,p4,()),()))).bind fun y1=>letI a:=y1.2.1.2
 bif (! y1.1.2.2.1) then let z0:List ( Entry ):=[(Entry.mk y1.2.1.1 a.1 a.2.1 a.2.2.1 a.2.2.2.1)]
 bif (Nat.ble ((List.length y1.1.2.1) + (List.length z0)) 2147483648) then some (((y1.1.2.1++z0),()),()) else none else some ((y1.1.2.1,()),())
noncomputable def nhw' (p0 p1 p2 p3:Int) (p4 p5 p6:Nat) (p7:List Car) (p8:List Int) (p9 p10:List Bool) (p11:List Entry) (p12 p13 p14 p15 p16:Int):Option ((Unit×Int×Unit)×(T'18×Unit)):=
 letI a:=(0:Int)
 letI b:=List Bool
 letI d:=((),a,())
 letI g:=List Entry
 letI j:=(Entry.mk a a a a false)
 letI m:=(1:Int)
 letI n:=List Int
 letI r:=(Int.toNat p15)
 letI aa:=(p12,p13,p14,p15,p16,())
 (n7' p0 p1 p2 p3 p4 p5 p6 p7 p8 p9 p10 p11).bind fun y1=>bif (! y1.1.1) then some (((),m,()),((([]:n),([]:b),([]:b),([]:g),()),())) else (nfz' p0 p1 p2 p3 p4 p5 p6 p7 p12 p13 p14 p15 p16).bind fun y2=>bif (! y2.1.1) then some (((),m,()),((([]:n),([]:b),([]:b),([]:g),()),())) else bif (Nat.ble ((List.length ([]:n)) + (List.length p8)) 2147483648) then let z0:List ( Int ):=(([]:n)++p8)
 bif (Nat.ble ((List.length ([]:b)) + (List.length p9)) 2147483648) then let z1:List ( Bool ):=(([]:b)++p9)
 bif (Nat.ble ((List.length ([]:b)) + (List.length p10)) 2147483648) then let z2:List ( Bool ):=(([]:b)++p10)
 bif (Nat.ble ((List.length ([]:g)) + (List.length p11)) 2147483648) then let z3:List ( Entry ):=(([]:g)++p11)
 letI u:=(z2,z3,())
 letI ae:=(z1,u)
 (nfi' z0 z1 z2 z3 p13 p14).bind fun y3=>bif (p12==(4:Int)) then bif (inB p15 (List.length z0)) then some (d,(((List.set z0 r p16),ae),())) else none else bif (p12==(5:Int)) then bif (inB p15 (List.length z1)) then some (d,((z0,(List.set z1 r (p16==m)),u),())) else none else bif (p12==(6:Int)) then bif (inB p15 (List.length z2)) then some (d,((z0,z1,(List.set z2 r (p16==m)),z3,()),())) else none else Option.bind (bif (p12==m) then some (((),(),(),y3.1.1,(decide (y3.1.1 < a)),()),((z0,ae),aa,(([]:n),([]:b),([]:b),([]:g),()),())) else some (((),(),(),y3.1.1,false,()),((z0,ae),aa,(([]:n),([]:b),([]:b),([]:g),()),()))) fun y4=>letI c:=y4.2.1
 letI e:=y4.1.2.2.2.1
 letI f:=c.2
 letI ag:=f.2
 letI h:=ag.2.1
 letI l:=y4.2.2.1
 letI o:=(Int.toNat e)
 letI q:=(inB e (List.length h))
 letI w:=l.2
 letI af:=w.2
 bif y4.1.2.2.2.2.1 then (nj1' h w.1 af.1 (- 1:Int) a false).bind fun y5=>some (d,((c.1,f.1,ag.1,y5.1.1,()),())) else bif (decide (e < a)) then some (d,(c,())) else bif (l.1==(2:Int)) then Option.bind (some (((),(),e,()),(c,y4.2.2.2.1,()))) fun y6=>letI s:=y6.2.1.2
 letI ad:=s.2.2.1
 letI k:=(List.length ad)
 letI v:=y6.1.2.2.1
 letI ab:=((k:Nat):Int)
 bif ((decide (a≤v))&&(decide (v≤ab))) then let z4:List ( Entry ):=(List.drop 0 (List.take (Int.toNat v) ad))
 bif (Nat.ble ((List.length ([]:g)) + (List.length z4)) 2147483648) then let z5:List ( Entry ):=(([]:g)++z4)
 let z6:Int:=(IntKind.i64.wrap (v + m))
 bif ((decide (a≤z6))&&(decide (z6≤ab))) then let z7:List ( Entry ):=(List.drop (Int.toNat z6) (List.take k ad))
 bif (Nat.ble ((List.length z5) + (List.length z7)) 2147483648) then some (d,((y6.2.1.1,s.1,s.2.1,(z5++z7),()),())) else none else none else none else none else bif (l.1==(3:Int)) then bif q then let z8:Nat:=o
 let z9:Entry:=(List.getD h z8 j)
 some (d,((c.1,f.1,ag.1,(List.set h z8 (Entry.mk z9.C0 z9.G0 af.2.1 z9.V0 z9.Q1)),()),())) else none else bif (l.1==(7:Int)) then bif q then let z10:Nat:=o
 let z11:Entry:=(List.getD h z10 j)
 let z12:List ( Entry ):=(List.set h z10 (Entry.mk z11.C0 z11.G0 z11.O0 af.2.2.1 z11.Q1))
 bif (inB e (List.length z12)) then let z13:Nat:=o
 let z14:Entry:=(List.getD z12 z13 j)
 some (d,((c.1,f.1,ag.1,(List.set z12 z13 (Entry.mk z14.C0 z14.G0 z14.O0 z14.V0 (af.2.1==m))),()),())) else none else none else some (d,(c,())) else none else none else none else none
noncomputable def nem' (l:List Record) (i p0 p1 p2 p3:Int) (p4 p5 p6:Nat) (p7:List Car) (p8:List Int) (p9 p10:List Bool) (p11:List Entry) (p12:List Int) (p13 p14:List Bool) (p15:List Entry):Option (Sum (T'30×T'31) ((Unit×Unit×Unit)×(T'18×T'18×Unit))):=
 letI a:=(0:Int)
 letI b:=(p8,p9,p10,p11,())
 bif (decide (i < ((List.length l:Nat):Int))) then bif (inB i (List.length l)) then let z0:Record:=(List.getD l (Int.toNat i) (Record.mk a a a a a))
 (nhw' p0 p1 p2 p3 p4 p5 p6 p7 p12 p13 p14 p15 z0.U0 z0.C0 z0.G0 z0.O0 z0.U1).bind fun y1=>some (Sum.inl (((),(),(),l,(IntKind.i64.wrap (i + (1:Int))),()),((p0,p1,p2,p3,p4,p5,p6,p7,()),b,y1.2.1,()))) else none else some (Sum.inr (((),(),()),(b,(p12,p13,p14,p15,()),())))
noncomputable def nix':(T'30×T'31)→Option ((Unit×Unit×Unit)×(T'18×T'18×Unit)):=iter (fun x=>letI a:=x.2.1.2.2; letI b:=x.2.2; letI c:=a.2.2; letI d:=b.2.1; nem' x.1.2.2.2.1 x.1.2.2.2.2.1 x.2.1.1 x.2.1.2.1 a.1 a.2.1 c.1 c.2.1 c.2.2.1 c.2.2.2.1 b.1.1 b.1.2.1 b.1.2.2.1 b.1.2.2.2.1 d.1 d.2.1 d.2.2.1 d.2.2.2.1) fuel
noncomputable def nlq' (p0 p1 p2 p3:Int) (p4 p5 p6:Nat) (p7:List Car) (p8 p9:ByteArray) (p10:Int):Option ((Unit×Unit)×(T'18×Unit)):=
 (njw' p0 p1 p2 p3 p4 p5 p6 p7).bind fun y1=>(nhn' p8 p9 p10).bind fun y2=>(npp' p0 p1 p2 p3 p4 p5 p6 p7 y2.1.1).bind fun y3=>(nix' (((),(),(),y3.1.1,(0:Int),()),((p0,p1,p2,p3,p4,p5,p6,p7,()),(([]:List Int),([]:List Bool),([]:List Bool),([]:List Entry),()),y1.2.1,()))).bind fun y4=>some (((),()),(y4.2.2.1,()))
noncomputable def nh0' (p0:Int) (p1 p2:ByteArray) (p3 p4 p5:Int):Option ((Int×Unit)×Unit):=
 letI a:=(((decide (p5 < (0:Int))),()),())
 (nc2' p0 p1 p2 p3).bind fun y1=>bif (! y1.1.1) then some (((1:Int),()),()) else Option.bind (bif (p4 != (0:Int)) then bif (p4 != (1:Int)) then some ((true,()),()) else some a else some a) fun y2=>bif y2.1.1 then some (((2:Int),()),()) else some (((0:Int),()),())
noncomputable def nnr' (p0:Int) (p1 p2:ByteArray) (p3 p4 p5:Int):Option ((Unit×Int×Int×Unit)×(T'32×Unit)):=
 letI a:=(0:Int)
 (nh0' p0 p1 p2 p3 p4 p5).bind fun y1=>bif (y1.1.1 != a) then some (((),a,y1.1.1,()),(((ByteArray.mk (Array.mk [])),(ByteArray.mk (Array.mk [])),a,()),())) else bif (p5==a) then some (((),a,(8:Int),()),((p1,p2,p3,()),())) else bif (inB p4 2) then let z0:Nat:=(Int.toNat p4)
 some (((),(IntKind.i64.wrap (p5 - (1:Int))),a,()),(((bif (Nat.beq z0 0) then (ByteArray.mk (Array.mk [])) else p1),(bif (Nat.beq z0 1) then (ByteArray.mk (Array.mk [])) else p2),p3,()),())) else none
noncomputable def nkv' (b:Bool):Option ((Int×Unit)×Unit):=
 bif b then some (((1:Int),()),()) else some (((0:Int),()),())
noncomputable def ndh' (out:List Record) (i:Int) (p0:List Int) (p1 p2:List Bool) (p3:List Entry):Option (Sum (T'33×(T'18×Unit)) ((List Record×Unit)×Unit)):=
 letI a:=(0:Int)
 bif (decide (i < ((List.length p3:Nat):Int))) then bif (inB i (List.length p3)) then let z0:Entry:=(List.getD p3 (Int.toNat i) (Entry.mk a a a a false))
 (nkv' z0.Q1).bind fun y1=>let z1:List ( Record ):=[(Record.mk (1:Int) z0.C0 z0.G0 a a),(Record.mk (3:Int) z0.C0 z0.G0 z0.O0 a),(Record.mk (7:Int) z0.C0 z0.G0 y1.1.1 z0.V0)]
 bif (Nat.ble ((List.length out) + (List.length z1)) 2147483648) then some (Sum.inl (((),(out++z1),(IntKind.i64.wrap (i + (1:Int))),()),((p0,p1,p2,p3,()),()))) else none else none else some (Sum.inr ((out,()),()))
noncomputable def ngv':(T'33×(T'18×Unit))→Option ((List Record×Unit)×Unit):=iter (fun x=>ndh' x.1.2.1 x.1.2.2.1 x.2.1.1 x.2.1.2.1 x.2.1.2.2.1 x.2.1.2.2.2.1) fuel
noncomputable def ndb' (out:List Record) (i:Int) (p0:List Int) (p1 p2:List Bool) (p3:List Entry):Option (Sum (T'33×(T'18×Unit)) (T'34×(T'18×Unit))):=
 letI a:=(0:Int)
 letI b:=(Int.toNat i)
 letI c:=((p0,p1,p2,p3,()),())
 bif (decide (i < ((List.length p0:Nat):Int))) then bif (inB i (List.length p0)) then bif (inB i (List.length p1)) then (nkv' (List.getD p1 b false)).bind fun y1=>bif (inB i (List.length p2)) then (nkv' (List.getD p2 b false)).bind fun y2=>let z0:List ( Record ):=[(Record.mk (4:Int) a a i (List.getD p0 b a)),(Record.mk (5:Int) a a i y1.1.1),(Record.mk (6:Int) a a i y2.1.1)]
 bif (Nat.ble ((List.length out) + (List.length z0)) 2147483648) then some (Sum.inl (((),(out++z0),(IntKind.i64.wrap (i + (1:Int))),()),c)) else none else none else none else none else some (Sum.inr (((),out,()),c))
noncomputable def ngz':(T'33×(T'18×Unit))→Option (T'34×(T'18×Unit)):=iter (fun x=>ndb' x.1.2.1 x.1.2.2.1 x.2.1.1 x.2.1.2.1 x.2.1.2.2.1 x.2.1.2.2.2.1) fuel
noncomputable def ni2' (p0 p1 p2 p3:Int) (p4 p5 p6:Nat) (p7:List Car) (p8:List Int) (p9 p10:List Bool) (p11:List Entry):Option ((List Record×Unit)×Unit):=
 (n7' p0 p1 p2 p3 p4 p5 p6 p7 p8 p9 p10 p11).bind fun y1=>bif (! y1.1.1) then some ((([]:List Record),()),()) else (ngz' (((),([]:List Record),(0:Int),()),((p8,p9,p10,p11,()),()))).bind fun y2=>(ngv' (((),y2.1.2.1,(0:Int),()),(y2.2.1,()))).bind fun y3=>some ((y3.1.1,()),())
noncomputable def nlm' (p0 p1 p2 p3:Int) (p4 p5 p6:Nat) (p7:List Car) (p8 p9 p10 p11 p12:Int):Option ((ByteArray×Int×Unit)×Unit):=
 (nfz' p0 p1 p2 p3 p4 p5 p6 p7 p8 p9 p10 p11 p12).bind fun y1=>bif (! y1.1.1) then some (((ByteArray.mk (Array.mk [])),(1:Int),()),()) else let z0:ByteArray:=(textU [(IntKind.u8.wrap p8),(IntKind.u8.wrap p9),(IntKind.u8.wrap p10),(IntKind.u8.wrap (IntKind.i64.wrap (p11 + (2:Int)))),(IntKind.u8.wrap p12)])
 (nl0' z0).bind fun y2=>let z1:ByteArray:=(textU [y2.1.1])
 bif (Nat.ble ((ByteArray.size z0) + (ByteArray.size z1)) 4611686018427387904) then some (((z0++z1),(0:Int),()),()) else none
noncomputable def nex' (l:List Record) (s:ByteArray) (i p0 p1 p2 p3:Int) (p4 p5 p6:Nat) (p7:List Car):Option (Sum (T'35×(T'0×Unit)) ((ByteArray×Unit)×Unit)):=
 letI a:=(0:Int)
 bif (decide (i < ((List.length l:Nat):Int))) then bif (inB i (List.length l)) then let z0:Record:=(List.getD l (Int.toNat i) (Record.mk a a a a a))
 (nlm' p0 p1 p2 p3 p4 p5 p6 p7 z0.U0 z0.C0 z0.G0 z0.O0 z0.U1).bind fun y1=>bif (Nat.ble ((ByteArray.size s) + (ByteArray.size y1.1.1)) 4611686018427387904) then some (Sum.inl ((l,(),(s++y1.1.1),(IntKind.i64.wrap (i + (1:Int))),()),((p0,p1,p2,p3,p4,p5,p6,p7,()),()))) else none else none else some (Sum.inr ((s,()),()))
noncomputable def nkd':(T'35×(T'0×Unit))→Option ((ByteArray×Unit)×Unit):=iter (fun x=>letI a:=x.2.1.2.2; letI b:=a.2.2; nex' x.1.1 x.1.2.2.1 x.1.2.2.2.1 x.2.1.1 x.2.1.2.1 a.1 a.2.1 b.1 b.2.1 b.2.2.1 b.2.2.2.1) fuel
noncomputable def njo' (p0 p1 p2 p3:Int) (p4 p5 p6:Nat) (p7:List Car) (l:List Record):Option ((ByteArray×Unit)×Unit):=
 (nkd' ((l,(),(ByteArray.mk (Array.mk [])),(0:Int),()),((p0,p1,p2,p3,p4,p5,p6,p7,()),()))).bind fun y1=>some ((y1.1.1,()),())
noncomputable def nbo' (p0:Int) (p1:ByteArray) (p2 i:Int) (p3 p4:ByteArray) (p5:Int) (p6 p7:ByteArray) (p8:Int):Option (Sum (T'36×(T'32×T'32×Unit)) ((T'12×(T'32×T'32×Unit)) ⊕ ((Unit×Int×Int×Unit)×(T'32×Unit)))):=
 letI a:=(IntKind.i64.wrap (i + (1:Int)))
 letI b:=(0:Int)
 letI c:=((p6,p7,p8,()),())
 bif (decide (i < ((ByteArray.size p1:Nat):Int))) then bif (p2==b) then some (Sum.inr (Sum.inr (((),b,(8:Int),()),((p3,p4,p5,()),())))) else bif (inB p0 2) then let z0:ByteArray:=(List.getD [p3,p4] (Int.toNat p0) (ByteArray.mk (Array.mk [])))
 let z1:Int:=a
 bif ((decide (b≤z1))&&(decide (z1≤(((ByteArray.size p1):Nat):Int)))) then bif ((decide (b≤i))&&(decide (i≤(((Int.toNat z1):Nat):Int)))) then let z2:ByteArray:=(ByteArray.extract p1 (Int.toNat i) (Int.toNat z1))
 bif (Nat.ble ((ByteArray.size z0) + (ByteArray.size z2)) 4611686018427387904) then let z3:ByteArray:=(z0++z2)
 bif (inB p0 2) then let z4:Nat:=(Int.toNat p0)
 some (Sum.inl ((p0,p1,(IntKind.i64.wrap (p2 - (1:Int))),(),(),a,()),(((bif (Nat.beq z4 0) then z3 else p3),(bif (Nat.beq z4 1) then z3 else p4),p5,()),c))) else none else none else none else none else none else some (Sum.inr (Sum.inl ((p2,(),(),()),((p3,p4,p5,()),c))))
noncomputable def nhi':(T'36×(T'32×T'32×Unit))→Option ((T'12×(T'32×T'32×Unit)) ⊕ ((Unit×Int×Int×Unit)×(T'32×Unit))):=iter (fun x=>nbo' x.1.1 x.1.2.1 x.1.2.2.1 x.1.2.2.2.2.2.1 x.2.1.1 x.2.1.2.1 x.2.1.2.2.1 x.2.2.1.1 x.2.2.1.2.1 x.2.2.1.2.2.1) fuel
noncomputable def nju' (p0:Int) (p1 p2:ByteArray) (p3 p4:Int) (p5:ByteArray) (p6:Int):Option ((Unit×Int×Int×Unit)×(T'32×Unit)):=
 letI a:=(0:Int)
 letI b:=(a,())
 (nh0' p0 p1 p2 p3 p4 p6).bind fun y1=>bif (y1.1.1 != a) then some (((),a,y1.1.1,()),(((ByteArray.mk (Array.mk [])),(ByteArray.mk (Array.mk [])),b),())) else bif (inB p4 2) then bif (decide (p0 < (IntKind.i64.wrap (((ByteArray.size (List.getD [p1,p2] (Int.toNat p4) (ByteArray.mk (Array.mk []))):Nat):Int) + ((ByteArray.size p5:Nat):Int))))) then some (((),a,(7:Int),()),(((ByteArray.mk (Array.mk [])),(ByteArray.mk (Array.mk [])),b),())) else (nhi' ((p4,p5,p6,(),(),b),((p1,p2,p3,()),((ByteArray.mk (Array.mk [])),(ByteArray.mk (Array.mk [])),b),()))).bind fun y2=>(match y2 with
 | .inl y3=>
 some (((),y3.1.1,b),(y3.2.1,()))
 | .inr y3=>
 some (((),y3.1.2.1,y3.1.2.2.1,()),(y3.2.1,()))) else none
noncomputable def nk0' (p0:Int) (p1 p2:ByteArray) (p3 p4 p5:Int):Option ((Unit×Int×Int×Unit)×(T'32×Unit)):=
 letI a:=(0:Int)
 (nh0' p0 p1 p2 p3 p4 p5).bind fun y1=>bif (y1.1.1 != a) then some (((),a,y1.1.1,()),(((ByteArray.mk (Array.mk [])),(ByteArray.mk (Array.mk [])),a,()),())) else bif (p5==a) then some (((),a,(8:Int),()),((p1,p2,p3,()),())) else some (((),(IntKind.i64.wrap (p5 - (1:Int))),a,()),((p1,p2,p4,()),()))
noncomputable def nhf' (p0 p1 p2 p3:Int) (p4 p5 p6:Nat) (p7:List Car) (p8 p9:ByteArray) (p10:Int) (p11:List Int) (p12 p13:List Bool) (p14:List Entry) (p15:Int):Option ((Unit×Int×Int×Unit)×(T'32×Unit)):=
 letI a:=(0:Int)
 letI b:=((),a,(1:Int),())
 (nm5' p0 p1 p2 p3 p4 p5 p6 p7 p8 p9 p10 p15).bind fun y1=>bif (! y1.1.1) then some (b,(((ByteArray.mk (Array.mk [])),(ByteArray.mk (Array.mk [])),a,()),())) else (n7' p0 p1 p2 p3 p4 p5 p6 p7 p11 p12 p13 p14).bind fun y2=>bif (! y2.1.1) then some (b,(((ByteArray.mk (Array.mk [])),(ByteArray.mk (Array.mk [])),a,()),())) else let z0:Int:=(IntKind.i64.wrap ((1:Int) - p10))
 (nnr' p2 p8 p9 p10 z0 p15).bind fun y3=>bif (y3.1.2.2.1 != a) then some (((),a,y3.1.2.2.1,()),(y3.2.1,())) else (ni2' p0 p1 p2 p3 p4 p5 p6 p7 p11 p12 p13 p14).bind fun y4=>(njo' p0 p1 p2 p3 p4 p5 p6 p7 y4.1.1).bind fun y5=>(nju' p2 y3.2.1.1 y3.2.1.2.1 y3.2.1.2.2.1 z0 y5.1.1 y3.1.2.1).bind fun y6=>bif (y6.1.2.2.1 != a) then some (((),a,y6.1.2.2.1,()),(y6.2.1,())) else (nk0' p2 y6.2.1.1 y6.2.1.2.1 y6.2.1.2.2.1 z0 y6.1.2.1).bind fun y7=>some (((),y7.1.2.1,y7.1.2.2.1,()),(y7.2.1,()))
noncomputable def njv' (p0 p1 p2 p3:Int) (p4 p5 p6:Nat) (p7:List Car) (p8 p9:ByteArray) (p10 p11:Int):Option (T'24×(T'32×T'18×Unit)):=
 letI a:=(0:Int)
 letI b:=List Bool
 (nm5' p0 p1 p2 p3 p4 p5 p6 p7 p8 p9 p10 p11).bind fun y1=>bif (! y1.1.1) then some (((),(),a,(1:Int),()),(((ByteArray.mk (Array.mk [])),(ByteArray.mk (Array.mk [])),a,()),(([]:List Int),([]:b),([]:b),([]:List Entry),()),())) else (nlq' p0 p1 p2 p3 p4 p5 p6 p7 p8 p9 p10).bind fun y2=>letI c:=y2.2.1
 (nhf' p0 p1 p2 p3 p4 p5 p6 p7 p8 p9 p10 c.1 c.2.1 c.2.2.1 c.2.2.2.1 p11).bind fun y3=>bif (y3.1.2.2.1 != a) then some (((),(),a,y3.1.2.2.1,()),(y3.2.1,(([]:List Int),([]:b),([]:b),([]:List Entry),()),())) else some (((),(),y3.1.2.1,a,()),(y3.2.1,c,()))
noncomputable def ni8' (p0 p1 p2 p3:Int) (p4 p5 p6:Nat) (p7:List Car) (p8:List Int) (p9 p10:List Bool) (p11:List Entry):Option ((Bool×Unit)×Unit):=
 Option.bind ((n7' p0 p1 p2 p3 p4 p5 p6 p7 p8 p9 p10 p11).bind fun y1=>bif y1.1.1 then some (((decide ((IntKind.i64.wrap ((IntKind.i64.wrap ((18:Int) * (IntKind.i64.wrap (((List.length p7:Nat):Int) + ((List.length p11:Nat):Int))))) + (6:Int)))≤p2)),()),()) else some ((false,()),())) fun y2=>some ((y2.1.1,()),())
noncomputable def nfr' :Option ((Unit×Unit)×(T'37×Unit)):=
 some (((),()),(((-1:Int),(0:Int),(0:Int),([]:List Duty),(0:Int),false,()),()))
noncomputable def ne9' (i p0 p1 p2 p3:Int) (p4 p5 p6:Nat) (p7:List Car) (p8:List Int) (p9 p10:List Bool) (p11:List Entry) (p12:List Int) (p13 p14:List Bool) (p15:List Entry) (p16 p17:ByteArray) (p18:Int) (p19:List Debounced) (p20:List Belief) (p21:List NewCar) (p22:List Loaded) (p23:List Int) (p24:List Calls) (p25 p26 p27:Int) (p28:List Int) (p29 p30:List Bool) (p31:List Entry) (p32 p33:ByteArray) (p34:Int) (p35:List Debounced) (p36:List Belief) (p37:List NewCar) (p38:List Loaded) (p39:List Int) (p40:List Calls) (p41 p42 p43:Int):Option (Sum (T'42×T'40) ((Unit×Unit×Unit)×(T'38×T'38×Unit))):=
 letI a:=((p12,p13,p14,p15,p16,p17,p18,p19,p20,p21,p22,p23,p24,p25,p26,p27,()),(p28,p29,p30,p31,p32,p33,p34,p35,p36,p37,p38,p39,p40,p41,p42,p43,()),())
 letI c:=(0:Int)
 letI f:=((p0,p1,p2,p3,p4,p5,p6,p7,()),(p8,p9,p10,p11,()),a)
 bif (decide (i < ((List.length p11:Nat):Int))) then Option.bind (bif (inB i (List.length p11)) then let z0:Entry:=(List.getD p11 (Int.toNat i) (Entry.mk c c c c false))
 bif (decide (c≤z0.O0)) then bif (inB z0.O0 (List.length p7)) then some (((),(),(),(),i,(List.getD p7 (Int.toNat z0.O0) (Car.mk c c c c c c c c c)).S1,()),f) else none else some (((),(),(),(),i,c,()),f) else none) fun y1=>letI e:=y1.2.2.2.2.1
 letI h:=e.2
 letI j:=h.2
 letI b:=j.2.2.2
 letI k:=b.2
 letI d:=k.2.2.2
 letI g:=d.2.2
 letI l:=g.2
 let z1:List ( Int ):=[y1.1.2.2.2.2.2.1]
 bif (Nat.ble ((List.length g.1) + (List.length z1)) 2147483648) then some (Sum.inl (((),(),(),(),(IntKind.i64.wrap (y1.1.2.2.2.2.1 + (1:Int))),()),(y1.2.1,y1.2.2.1,y1.2.2.2.1,(e.1,h.1,j.1,j.2.1,j.2.2.1,b.1,k.1,k.2.1,k.2.2.1,d.1,d.2.1,(g.1++z1),l.1,l.2.1,l.2.2.1,l.2.2.2.1,()),()))) else none else some (Sum.inr (((),(),()),a))
noncomputable def nhh':(T'42×T'40)→Option ((Unit×Unit×Unit)×(T'38×T'38×Unit)):=iter (fun x=>letI c:=x.2.2.2; letI g:=c.2.1.2; letI a:=g.2.2.2.2; letI h:=c.1.2; letI b:=h.2.2.2.2; letI d:=b.2.2.2.2; letI e:=a.2.2.2.2; letI f:=x.2.1.2.2; letI j:=d.2.2; letI k:=e.2.2; letI l:=f.2.2; letI m:=x.2.2.1; ne9' x.1.2.2.2.2.1 x.2.1.1 x.2.1.2.1 f.1 f.2.1 l.1 l.2.1 l.2.2.1 l.2.2.2.1 m.1 m.2.1 m.2.2.1 m.2.2.2.1 c.1.1 h.1 h.2.1 h.2.2.1 h.2.2.2.1 b.1 b.2.1 b.2.2.1 b.2.2.2.1 d.1 d.2.1 j.1 j.2.1 j.2.2.1 j.2.2.2.1 j.2.2.2.2.1 c.2.1.1 g.1 g.2.1 g.2.2.1 g.2.2.2.1 a.1 a.2.1 a.2.2.1 a.2.2.2.1 e.1 e.2.1 k.1 k.2.1 k.2.2.1 k.2.2.2.1 k.2.2.2.2.1) fuel
noncomputable def nfe' (n i p0 p1 p2 p3:Int) (p4 p5 p6:Nat) (p7:List Car) (p8:List Int) (p9 p10:List Bool) (p11:List Entry) (p12:List Int) (p13 p14:List Bool) (p15:List Entry) (p16 p17:ByteArray) (p18:Int) (p19:List Debounced) (p20:List Belief) (p21:List NewCar) (p22:List Loaded) (p23:List Int) (p24:List Calls) (p25 p26 p27:Int) (p28:List Int) (p29 p30:List Bool) (p31:List Entry) (p32 p33:ByteArray) (p34:Int) (p35:List Debounced) (p36:List Belief) (p37:List NewCar) (p38:List Loaded) (p39:List Int) (p40:List Calls) (p41 p42 p43:Int):Option (Sum (T'39×T'40) (T'41×T'40)):=
 letI a:=(p12,p13,p14,p15,p16,p17,p18,p19,p20,p21,p22,p23,p24,p25,p26,p27,())
 letI b:=(p37,p38,p39,p40,p41,p42,p43,())
 letI d:=(p0,p1,p2,p3,p4,p5,p6,p7,())
 letI f:=(p8,p9,p10,p11,())
 bif (decide (i < n)) then (nfr').bind fun y1=>letI c:=y1.2.1.2
 letI e:=c.2
 let z0:List ( Belief ):=[(Belief.mk y1.2.1.1 c.1 e.1 e.2.1 e.2.2.1 e.2.2.2.1)]
 bif (Nat.ble ((List.length p36) + (List.length z0)) 2147483648) then some (Sum.inl (((),(),(),n,(),(IntKind.i64.wrap (i + (1:Int))),()),(d,f,a,(p28,p29,p30,p31,p32,p33,p34,p35,(p36++z0),b),()))) else none else some (Sum.inr (((),(),(),(),()),(d,f,a,(p28,p29,p30,p31,p32,p33,p34,p35,p36,b),())))
noncomputable def nhp':(T'39×T'40)→Option (T'41×T'40):=iter (fun x=>letI c:=x.2.2.2; letI g:=c.2.1.2; letI a:=g.2.2.2.2; letI h:=c.1.2; letI b:=h.2.2.2.2; letI d:=b.2.2.2.2; letI e:=a.2.2.2.2; letI f:=x.2.1.2.2; letI j:=d.2.2; letI k:=e.2.2; letI l:=f.2.2; letI m:=x.2.2.1; nfe' x.1.2.2.2.1 x.1.2.2.2.2.2.1 x.2.1.1 x.2.1.2.1 f.1 f.2.1 l.1 l.2.1 l.2.2.1 l.2.2.2.1 m.1 m.2.1 m.2.2.1 m.2.2.2.1 c.1.1 h.1 h.2.1 h.2.2.1 h.2.2.2.1 b.1 b.2.1 b.2.2.1 b.2.2.2.1 d.1 d.2.1 j.1 j.2.1 j.2.2.1 j.2.2.2.1 j.2.2.2.2.1 c.2.1.1 g.1 g.2.1 g.2.2.1 g.2.2.2.1 a.1 a.2.1 a.2.2.1 a.2.2.2.1 e.1 e.2.1 k.1 k.2.1 k.2.2.1 k.2.2.2.1 k.2.2.2.2.1) fuel
noncomputable def nnq' (p0 p1 p2 p3:Int) (p4 p5 p6:Nat) (p7:List Car) (p8:List Int) (p9 p10:List Bool) (p11:List Entry) (p12 p13:ByteArray) (p14:Int):Option ((Unit×Int×Unit)×(T'38×Unit)):=
 letI a:=(0:Int)
 letI c:=List Int
 letI d:=List Bool
 letI h:=(a,())
 letI e:=(a,a,h)
 letI g:=List Belief
 letI j:=List Entry
 letI k:=List Debounced
 letI l:=List NewCar
 letI m:=List Loaded
 letI n:=List Calls
 (ni8' p0 p1 p2 p3 p4 p5 p6 p7 p8 p9 p10 p11).bind fun y1=>bif (! y1.1.1) then some (((),(1:Int),()),((([]:c),([]:d),([]:d),([]:j),(ByteArray.mk (Array.mk [])),(ByteArray.mk (Array.mk [])),a,([]:k),([]:g),([]:l),([]:m),([]:c),([]:n),e),())) else (nc2' p2 p12 p13 p14).bind fun y2=>bif (! y2.1.1) then some (((),(1:Int),()),((([]:c),([]:d),([]:d),([]:j),(ByteArray.mk (Array.mk [])),(ByteArray.mk (Array.mk [])),a,([]:k),([]:g),([]:l),([]:m),([]:c),([]:n),e),())) else let z0:Int:=((List.length p7:Nat):Int)
 letI b:=(((decide (a≤z0))&&(decide (z0≤z0)))&&(decide (z0≤(2147483648:Int))))
 letI f:=(Int.toNat z0)
 bif b then bif b then bif b then bif b then (nhp' (((),(),(),z0,(),h),((p0,p1,p2,p3,p4,p5,p6,p7,()),(p8,p9,p10,p11,()),(([]:c),([]:d),([]:d),([]:j),(ByteArray.mk (Array.mk [])),(ByteArray.mk (Array.mk [])),a,([]:k),([]:g),([]:l),([]:m),([]:c),([]:n),e),(p8,p9,p10,p11,p12,p13,p14,(List.replicate f (Debounced.mk a false false false false a a a a a a a a a a a a a a a a a a a a a a a a a a a a a a a a a a a a)),([]:g),(List.replicate f (NewCar.mk a a a a a false a a a a a a a false)),(List.replicate f (Loaded.mk a)),([]:c),(List.replicate f (Calls.mk a a)),e),()))).bind fun y3=>(nhh' (((),(),(),(),h),(y3.2.1,y3.2.2.1,y3.2.2.2.1,y3.2.2.2.2.1,()))).bind fun y4=>some (((),h),(y4.2.2.1,())) else none else none else none else none
noncomputable def nln' (p0 p1 p2 p3:Int) (p4 p5 p6:Nat) (p7:List Car) (p8 p9:ByteArray) (p10 p11:Int):Option ((Unit×Int×Int×Unit)×(T'38×Unit)):=
 letI a:=(0:Int)
 letI b:=List Bool
 letI c:=List Int
 letI f:=(a,a,a,())
 letI j:=List Entry
 letI k:=List Debounced
 letI l:=List Belief
 letI m:=List NewCar
 letI n:=List Loaded
 letI o:=List Calls
 (njv' p0 p1 p2 p3 p4 p5 p6 p7 p8 p9 p10 p11).bind fun y1=>bif (y1.1.2.2.2.1 != a) then some (((),a,y1.1.2.2.2.1,()),((([]:c),([]:b),([]:b),([]:j),y1.2.1.1,y1.2.1.2.1,y1.2.1.2.2.1,([]:k),([]:l),([]:m),([]:n),([]:c),([]:o),f),())) else Option.bind (some (((),(),(),(),y1.1.2.2.1,()),((p0,p1,p2,p3,p4,p5,p6,p7,()),(([]:c),([]:b),([]:b),([]:j),(ByteArray.mk (Array.mk [])),(ByteArray.mk (Array.mk [])),a,([]:k),([]:l),([]:m),([]:n),([]:c),([]:o),f),y1.2.1,y1.2.2.1,()))) fun y2=>letI d:=y2.2.1.2.2
 letI e:=y2.2.2.2
 letI g:=d.2
 letI h:=e.2.1
 letI q:=g.2
 (nnq' y2.2.1.1 y2.2.1.2.1 d.1 g.1 q.1 q.2.1 q.2.2.1 q.2.2.2.1 h.1 h.2.1 h.2.2.1 h.2.2.2.1 e.1.1 e.1.2.1 e.1.2.2.1).bind fun y3=>bif (y3.1.2.1 != a) then some (((),a,y3.1.2.1,()),((([]:c),([]:b),([]:b),([]:j),(ByteArray.mk (Array.mk [])),(ByteArray.mk (Array.mk [])),a,([]:k),([]:l),([]:m),([]:n),([]:c),([]:o),f),())) else some (((),y2.1.2.2.2.2.1,a,()),(y3.2.1,()))
noncomputable def njt' (p0 p1 p2 p3:Int) (p4 p5 p6:Nat) (p7:List Car):Option ((Unit×Int×Unit)×(T'38×Unit)):=
 (nln' p0 p1 p2 p3 p4 p5 p6 p7 (ByteArray.mk (Array.mk [])) (ByteArray.mk (Array.mk [])) (0:Int) (1048576:Int)).bind fun y1=>some (((),y1.1.2.2.1,()),(y1.2.1,()))
noncomputable def nrx' (p0:Int) (p1:List CarInput) (i p2 p3 p4 p5:Int) (p6 p7 p8:Nat) (p9:List Car) (p10 p11 p12 p13:Int) (p14:List CarInput) (p15 p16 p17 p18:Int) (p19:List CarInput):Option (Sum (T'44×T'45) (T'46×(T'43×T'43×Unit))):=
 letI f:=(0:Int)
 letI a:=(CarInput.mk f false false false false f false f false f 0)
 letI b:=(IntKind.bits IntKind.u32)
 letI c:=((p10,p11,p12,p13,p14,()),(p15,p16,p17,p18,p19,()),())
 letI g:=(BitVec.ofInt b p0)
 bif (decide (i < ((List.length p1:Nat):Int))) then bif (inB i (List.length p1)) then let z0:Nat:=(Int.toNat i)
 letI d:=(List.getD p1 z0 a)
 let z1:CarInput:=d
 letI h:=z1.Z0
 let z2:CarInput:=d
 let z3:CarInput:=d
 let z4:List ( CarInput ):=(List.set p1 z0 (CarInput.mk (IntKind.u32.wrap (stk h p0 (BitVec.toNat ((BitVec.ofInt b h) &&& g)))) z3.V1 z3.L1 z3.M1 z3.F1 z3.R1 z3.L2 z3.Y1 z3.M2 z3.N1 z3.H3))
 let z5:CarInput:=(List.getD z4 z0 a)
 let z6:List ( CarInput ):=(List.set z4 z0 (CarInput.mk z5.Z0 z5.V1 z5.L1 z5.M1 z5.F1 z5.R1 z5.L2 z5.Y1 z5.M2 (IntKind.u32.wrap (stk z2.N1 p0 (BitVec.toNat ((BitVec.ofInt b z2.N1) &&& g)))) z5.H3))
 letI e:=(List.getD z6 z0 a)
 let z7:Int:=(IntKind.u64.wrap p2)
 bif (z7 != f) then let z8:CarInput:=e
 let z9:List ( CarInput ):=(List.set z6 z0 (CarInput.mk z8.Z0 z8.V1 z8.L1 z8.M1 z8.F1 (IntKind.i64.wrap (Int.tmod (IntKind.u64.wrap e.R1) z7)) z8.L2 z8.Y1 z8.M2 z8.N1 z8.H3))
 let z10:CarInput:=(List.getD z9 z0 a)
 some (Sum.inl (((),(),(),p0,(List.set z9 z0 (CarInput.mk z10.Z0 z10.V1 z10.L1 z10.M1 z10.F1 z10.R1 z10.L2 (IntKind.i64.wrap (Int.tmod (IntKind.u64.wrap e.Y1) (3:Int))) z10.M2 z10.N1 z10.H3)),(IntKind.i64.wrap (i + (1:Int))),()),((p2,p3,p4,p5,p6,p7,p8,p9,()),c))) else none else none else some (Sum.inr (((),(),p1,()),c))
noncomputable def nm4':(T'44×T'45)→Option (T'46×(T'43×T'43×Unit)):=iter (fun x=>letI a:=x.2.1.2.2; letI b:=x.2.2; letI c:=b.2.1; letI d:=a.2.2; letI e:=b.1.2; nrx' x.1.2.2.2.1 x.1.2.2.2.2.1 x.1.2.2.2.2.2.1 x.2.1.1 x.2.1.2.1 a.1 a.2.1 d.1 d.2.1 d.2.2.1 d.2.2.2.1 b.1.1 e.1 e.2.1 e.2.2.1 e.2.2.2.1 c.1 c.2.1 c.2.2.1 c.2.2.2.1 c.2.2.2.2.1) fuel
noncomputable def nk4' (p0 p1 p2 p3:Int) (p4 p5 p6:Nat) (p7:List Car) (p8 p9 p10 p11:Int) (p12:List CarInput):Option ((Unit×Unit)×(T'43×Unit)):=
 letI a:=(IntKind.bits IntKind.u32)
 letI b:=(0:Int)
 letI c:=(1:Int)
 letI d:=(p0,p1,p2,p3,p4,p5,p6,p7,())
 let z0:Int:=(IntKind.u64.wrap p0)
 bif (decide (b≤z0)) then let z1:Int:=(IntKind.u32.wrap ((IntKind.u32.wrap (c * ((2:Int) ^ (Min.min (Int.toNat z0) a)))) - c))
 letI e:=(BitVec.ofInt a z1)
 let z2:Int:=(IntKind.u32.wrap (stk p8 z1 (BitVec.toNat ((BitVec.ofInt a p8) &&& e))))
 let z3:Int:=(Int.fdiv z1 ((2:Int) ^ (Min.min (Int.toNat c) a)))
 let z4:Int:=(IntKind.u32.wrap (stk z2 z3 (BitVec.toNat ((BitVec.ofInt a z2) &&& (BitVec.ofInt a z3)))))
 let z5:Int:=(IntKind.u32.wrap (stk p9 z1 (BitVec.toNat ((BitVec.ofInt a p9) &&& e))))
 let z6:Int:=(IntKind.u32.wrap (stk z5 c (BitVec.toNat ((BitVec.ofInt a z5) &&& (~~~ (BitVec.ofInt a c))))))
 let z7:Int:=(IntKind.i64.wrap (Int.tmod (IntKind.u64.wrap p10) (9:Int)))
 let z8:Int:=(IntKind.u64.wrap ((List.length p7:Nat):Int))
 bif (z8 != b) then Option.bind (bif (z7==b) then some (((),(),(),z1,()),(d,(z4,z6,z7,b,p12,()),(b,b,b,b,([]:List CarInput),()),())) else some (((),(),(),z1,()),(d,(z4,z6,z7,(IntKind.i64.wrap (Int.tmod (IntKind.u64.wrap p11) z8)),p12,()),(b,b,b,b,([]:List CarInput),()),()))) fun y1=>let z9:Int:=((List.length y1.2.1.2.2.2.2.2.2.2.1:Nat):Int)
 bif (((decide (b≤z9))&&(decide (z9≤z9)))&&(decide (z9≤(2147483648:Int)))) then (nm4' (((),(),(),y1.1.2.2.2.1,(copyR (List.replicate (Int.toNat z9) (CarInput.mk b false false false false b false b false b 0)) y1.2.2.1.2.2.2.2.1),b,()),(y1.2.1,y1.2.2.1,y1.2.2.2.1,()))).bind fun y2=>some (((),()),((y2.2.1.1,y2.2.1.2.1,y2.2.1.2.2.1,y2.2.1.2.2.2.1,y2.1.2.2.1,()),())) else none else none else none
noncomputable def nr0' (i p0 p1 p2 p3:Int) (p4 p5 p6:Nat) (p7:List Car) (p8 p9 p10 p11 p12 p13 p14 p15 p16 p17:Int) (p18:List CarInput) (p19 p20 p21 p22:Int) (p23:List CarInput):Option (Sum (T'42×T'48) (T'49×T'45)):=
 letI b:=(IntKind.bits IntKind.u8)
 letI c:=(0:Int)
 letI f:=(p0,p1,p2,p3,p4,p5,p6,p7,())
 letI h:=(p14,p15,p16,p17,p18,())
 letI j:=(p19,p20,p21,p22,p23,())
 letI l:=(7:Int)
 letI o:=(p8,p9,p10,p11,p12,p13,())
 letI q:=(3:Int)
 letI r:=(2:Int)
 letI s:=(8:Int)
 letI u:=(1:Int)
 letI aa:=(BitVec.ofInt b l)
 bif (decide (i < ((List.length p7:Nat):Int))) then let z0:Int:=(IntKind.i64.wrap (q + (Int.tmod i q)))
 bif (inB z0 6) then let z1:Int:=(List.getD [p8,p9,p10,p11,p12,p13] (Int.toNat z0) c)
 letI d:=(Int.tmod (IntKind.u8.wrap (Int.tdiv z1 (32:Int))) q)
 letI e:=(Int.tmod (IntKind.u8.wrap (Int.tdiv z1 s)) (4:Int))
 let z2:Int:=(IntKind.i64.wrap (r + (Int.tmod i (4:Int))))
 bif (inB z2 6) then let z3:Int:=(List.getD [p8,p9,p10,p11,p12,p13] (Int.toNat z2) c)
 letI w:=((),(),(),(),i,z3,(),())
 letI ab:=(BitVec.ofInt b z3)
 let z4:Int:=(IntKind.u8.wrap (stk z1 z3 (BitVec.toNat ((BitVec.ofInt b z1) &&& ab))))
 let z5:Int:=(IntKind.u32.wrap (IntKind.u8.wrap (stk z4 l (BitVec.toNat ((BitVec.ofInt b z4) &&& aa)))))
 (arF BinOp.quo FloatKind.f64 (nearF FloatKind.f64 (Int.tmod z3 (16:Int))) 4622945017495814144).bind fun y1=>let z6:Int:=(IntKind.u64.wrap (Int.tmod z1 s))
 bif (decide (c≤z6)) then let z7:Bool:=(e==u)
 let z8:Bool:=(e==r)
 let z9:Bool:=(d==u)
 let z10:Bool:=(d==r)
 letI m:=(z7,z8,z9,z10,c,false,c,false,z5,y1,())
 Option.bind (bif ((Int.tmod z1 (11:Int))==l) then some (w,(f,o,h,j,((IntKind.u32.wrap (IntKind.u8.wrap (stk z3 l (BitVec.toNat (ab &&& aa))))),m),())) else some (w,(f,o,h,j,((IntKind.u32.wrap (u * (r ^ (Min.min (Int.toNat z6) (IntKind.bits IntKind.u32))))),m),()))) fun y2=>letI a:=y2.2.2.2.2
 letI g:=a.2.1.2
 letI k:=y2.1.2.2.2.2.2.1
 letI n:=a.1.2
 letI v:=g.2
 letI ad:=v.2
 letI ae:=n.2
 letI af:=ad.2.2.2.2.2.2
 let z11:List ( CarInput ):=[(CarInput.mk a.2.1.1 g.1 v.1 ad.1 ad.2.1 (IntKind.i64.wrap (Int.tmod k s)) (decide (c < (Int.tmod k (5:Int)))) (IntKind.i64.wrap (Int.tmod (IntKind.u8.wrap (Int.tdiv k s)) q)) ((Int.tmod k l)==c) af.1 af.2.1)]
 bif (Nat.ble ((List.length ae.2.2.1) + (List.length z11)) 2147483648) then some (Sum.inl (((),(),(),(),(IntKind.i64.wrap (y2.1.2.2.2.2.1 + u)),()),(y2.2.1,y2.2.2.1,y2.2.2.2.1,(a.1.1,n.1,ae.1,ae.2.1,(ae.2.2.1++z11),()),()))) else none else none else none else none else some (Sum.inr (((),(),(),()),(f,h,j,())))
noncomputable def nmw':(T'42×T'48)→Option (T'49×T'45):=iter (fun x=>letI a:=x.2.2; letI b:=x.2.1.2.2; letI c:=a.2; letI d:=a.1.2; letI e:=c.2.1; letI f:=b.2.2; letI g:=c.1.2; nr0' x.1.2.2.2.2.1 x.2.1.1 x.2.1.2.1 b.1 b.2.1 f.1 f.2.1 f.2.2.1 f.2.2.2.1 a.1.1 d.1 d.2.1 d.2.2.1 d.2.2.2.1 d.2.2.2.2.1 c.1.1 g.1 g.2.1 g.2.2.1 g.2.2.2.1 e.1 e.2.1 e.2.2.1 e.2.2.2.1 e.2.2.2.2.1) fuel
noncomputable def nk1' (p0 p1 p2 p3:Int) (p4 p5 p6:Nat) (p7:List Car) (p8 p9 p10 p11 p12 p13:Int):Option ((Unit×Unit)×(T'43×Unit)):=
 letI a:=(0:Int)
 letI b:=(IntKind.bits IntKind.u8)
 letI d:=((),(),(),(),())
 letI g:=List CarInput
 letI j:=(p0,p1,p2,p3,p4,p5,p6,p7,())
 letI k:=(p8,p9,p10,p11,p12,p13,())
 Option.bind (bif ((Int.tmod p8 (3:Int))==a) then let z0:Int:=(Int.fdiv p8 ((2:Int) ^ (Min.min (Int.toNat (3:Int)) b)))
 let z1:Int:=(Int.fdiv p9 ((2:Int) ^ (Min.min (Int.toNat (2:Int)) b)))
 some (d,(j,k,(a,a,a,a,([]:g),()),((IntKind.u32.wrap (IntKind.u8.wrap (stk z0 p9 (BitVec.toNat ((BitVec.ofInt b z0) &&& (BitVec.ofInt b p9)))))),(IntKind.u32.wrap (IntKind.u8.wrap (stk z1 p8 (BitVec.toNat ((BitVec.ofInt b z1) &&& (BitVec.ofInt b p8)))))),a,a,([]:g),()),())) else some (d,(j,k,(a,a,a,a,([]:g),()),(a,a,a,a,([]:g),()),()))) fun y1=>letI c:=y1.2.2
 letI h:=c.2
 letI l:=c.1
 letI m:=h.2.1
 Option.bind (bif ((Int.tmod l.2.2.1 (4:Int))==a) then some (d,(y1.2.1,l,h.1,(m.1,m.2.1,(Int.tmod (IntKind.i64.wrap (IntKind.u8.wrap (Int.tdiv l.2.2.1 (4:Int)))) (9:Int)),(IntKind.i64.wrap l.2.2.2.1),m.2.2.2.2.1,()),())) else some (d,(y1.2.1,l,h.1,m,()))) fun y2=>(nmw' (((),(),(),(),a,()),(y2.2.1,y2.2.2.1,y2.2.2.2.1,y2.2.2.2.2.1,()))).bind fun y3=>letI e:=y3.2.1.2.2
 letI f:=y3.2.2.2.1
 letI n:=e.2
 letI o:=n.2
 letI q:=f.2
 (nk4' y3.2.1.1 y3.2.1.2.1 e.1 n.1 o.1 o.2.1 o.2.2.1 o.2.2.2.1 f.1 q.1 q.2.1 q.2.2.1 q.2.2.2.1).bind fun y4=>some (((),()),(y4.2.1,()))
noncomputable def nf8' (f p0 p1 p2 p3:Int) (p4 p5 p6:Nat) (p7:List Car) (p8 p9 p10 p11:Int):Option (Sum (T'13×T'50) ((Unit×Unit×Unit)×T'5)):=
 letI a:=(IntKind.bits IntKind.u32)
 letI h:=(p0,p1,p2,p3,p4,p5,p6,p7,())
 letI j:=((p8,p9,()),(p10,p11,()),())
 letI k:=(1:Int)
 bif (decide (f < (32:Int))) then Option.bind ((ncq' p0 p1 p2 p3 p4 p5 p6 p7 f k).bind fun y1=>bif y1.1.1 then let z0:Int:=(IntKind.u64.wrap f)
 bif (decide ((0:Int)≤z0)) then let z1:Int:=(IntKind.u32.wrap (k * ((2:Int) ^ (Min.min (Int.toNat z0) a))))
 some (((),(),(),f,()),(h,(p8,p9,()),((IntKind.u32.wrap (stk p10 z1 (BitVec.toNat ((BitVec.ofInt a p10) ||| (BitVec.ofInt a z1))))),p11,()),())) else none else some (((),(),(),f,()),(h,j))) fun y2=>letI n:=y2.1.2.2.2.1
 letI b:=((),(),(),(IntKind.i64.wrap (n + k)),())
 letI c:=y2.2
 letI d:=c.1
 letI e:=d.2.2
 letI g:=c.2
 letI l:=e.2
 letI m:=g.2.1
 letI o:=l.2
 (ncq' d.1 d.2.1 e.1 l.1 o.1 o.2.1 o.2.2.1 o.2.2.2.1 n (2:Int)).bind fun y3=>bif y3.1.1 then let z2:Int:=(IntKind.u64.wrap n)
 bif (decide ((0:Int)≤z2)) then let z3:Int:=(IntKind.u32.wrap (k * ((2:Int) ^ (Min.min (Int.toNat z2) a))))
 some (Sum.inl (b,(d,g.1,(m.1,(IntKind.u32.wrap (stk m.2.1 z3 (BitVec.toNat ((BitVec.ofInt a m.2.1) ||| (BitVec.ofInt a z3))))),()),()))) else none else some (Sum.inl (b,(d,g.1,m,()))) else some (Sum.inr (((),(),()),j))
noncomputable def nma':(T'13×T'50)→Option ((Unit×Unit×Unit)×T'5):=iter (fun x=>letI a:=x.2.1.2.2; letI b:=a.2.2; nf8' x.1.2.2.2.1 x.2.1.1 x.2.1.2.1 a.1 a.2.1 b.1 b.2.1 b.2.2.1 b.2.2.2.1 x.2.2.1.1 x.2.2.1.2.1 x.2.2.2.1.1 x.2.2.2.1.2.1) fuel
noncomputable def ng5' (p0 p1 p2 p3:Int) (p4 p5 p6:Nat) (p7:List Car):Option ((Unit×Unit)×T'3):=
 letI a:=(0:Int)
 (nma' (((),(),(),a,()),((p0,p1,p2,p3,p4,p5,p6,p7,()),(a,a,()),(a,a,()),()))).bind fun y1=>some (((),()),(y1.2.2.1,()))
noncomputable def nl7' (p0 p1 p2 p3:Int) (p4 p5 p6:Nat) (p7:List Car) (p8 p9:Int):Option ((Bool×Unit)×Unit):=
 letI a:=(IntKind.bits IntKind.u32)
 (ng5' p0 p1 p2 p3 p4 p5 p6 p7).bind fun y1=>Option.bind (bif ((IntKind.u32.wrap (stk p8 y1.2.1.1 (BitVec.toNat ((BitVec.ofInt a p8) &&& (~~~ (BitVec.ofInt a y1.2.1.1))))))==(0:Int)) then some ((((IntKind.u32.wrap (stk p9 y1.2.1.2.1 (BitVec.toNat ((BitVec.ofInt a p9) &&& (~~~ (BitVec.ofInt a y1.2.1.2.1))))))==(0:Int)),()),()) else some ((false,()),())) fun y2=>some ((y2.1.1,()),())
noncomputable def nkl' (n lo hi:Int):Option ((Bool×Unit)×Unit):=
 Option.bind (bif (decide (lo≤n)) then some (((decide (n≤hi)),()),()) else some ((false,()),())) fun y1=>some ((y1.1.1,()),())
noncomputable def nlj' (p0 p1 p2 p3:Int) (p4 p5 p6:Nat) (p7:List Car) (n:Int):Option ((Bool×Unit)×Unit):=
 let z0:Int:=(IntKind.u64.wrap p0)
 bif (decide ((0:Int)≤z0)) then some ((((Int.fdiv (IntKind.u64.wrap n) ((2:Int) ^ (Min.min (Int.toNat z0) (IntKind.bits IntKind.u64))))==(0:Int)),()),()) else none
noncomputable def ngc' (i p0 p1 p2 p3:Int) (p4 p5 p6:Nat) (p7:List Car) (p8 p9 p10 p11:Int) (p12:List CarInput):Option (Sum (T'25×(T'0×T'43×Unit)) ((Unit×Unit) ⊕ ((Bool×Unit)×Unit))):=
 letI a:=(0:Int)
 letI b:=((false,()),())
 letI c:=nlj' p0 p1 p2 p3 p4 p5 p6 p7
 bif (decide (i < ((List.length p12:Nat):Int))) then bif (inB i (List.length p12)) then let z0:CarInput:=(List.getD p12 (Int.toNat i) (CarInput.mk a false false false false a false a false a 0))
 (c z0.Z0).bind fun y1=>bif (! y1.1.1) then some (Sum.inr (Sum.inr b)) else (c z0.N1).bind fun y2=>bif (! y2.1.1) then some (Sum.inr (Sum.inr b)) else (nkl' z0.R1 a (IntKind.i64.wrap (p0 - (1:Int)))).bind fun y3=>bif (! y3.1.1) then some (Sum.inr (Sum.inr b)) else (nkl' z0.Y1 a (2:Int)).bind fun y4=>bif (! y4.1.1) then some (Sum.inr (Sum.inr b)) else some (Sum.inl (((),(),(IntKind.i64.wrap (i + (1:Int))),()),((p0,p1,p2,p3,p4,p5,p6,p7,()),(p8,p9,p10,p11,p12,()),()))) else none else some (Sum.inr (Sum.inl ((),())))
noncomputable def nib':(T'25×(T'0×T'43×Unit))→Option ((Unit×Unit) ⊕ ((Bool×Unit)×Unit)):=iter (fun x=>letI a:=x.2.1.2.2; letI b:=x.2.2.1; letI c:=a.2.2; ngc' x.1.2.2.1 x.2.1.1 x.2.1.2.1 a.1 a.2.1 c.1 c.2.1 c.2.2.1 c.2.2.2.1 b.1 b.2.1 b.2.2.1 b.2.2.2.1 b.2.2.2.2.1) fuel
noncomputable def no5' (p0 p1 p2 p3:Int) (p4 p5 p6:Nat) (p7:List Car) (p8 p9 p10 p11:Int) (p12:List CarInput):Option ((Bool×Unit)×Unit):=
 letI a:=((p0,p1,p2,p3,p4,p5,p6,p7,()),(p8,p9,p10,p11,p12,()),())
 letI e:=((List.length p7:Nat):Int)
 letI b:=(((),(),(((List.length p12:Nat):Int) != e),()),a)
 letI c:=(((),(),true,()),a)
 letI d:=(0:Int)
 Option.bind ((n3' p0 p1 p2 p3 p4 p5 p6 p7).bind fun y1=>bif (y1.1.1 != d) then some c else (nl7' p0 p1 p2 p3 p4 p5 p6 p7 p8 p9).bind fun y2=>bif (! y2.1.1) then some c else (nkl' p10 d (8:Int)).bind fun y3=>bif (! y3.1.1) then some c else (nkl' p11 d (IntKind.i64.wrap (e - (1:Int)))).bind fun y4=>bif (! y4.1.1) then some c else bif (p10==d) then bif (p11 != d) then some c else some b else some b) fun y5=>bif y5.1.2.2.1 then some ((false,()),()) else (nib' (((),(),d,()),(y5.2.1,y5.2.2.1,()))).bind fun y6=>(match y6 with
 | .inl y7=>
 some ((true,()),())
 | .inr y7=>
 some ((y7.1.1,()),()))
noncomputable def nhv' (n p0:Int) (b:List Int) (i:Int):Option (Sum (T'51×Unit) ((List Int×Unit)×Unit)):=
 bif (decide (i < p0)) then let z0:Int:=(IntKind.u64.wrap (IntKind.i64.wrap ((8:Int) * i)))
 bif (decide ((0:Int)≤z0)) then bif (inB i (List.length b)) then some (Sum.inl ((n,p0,(List.set b (Int.toNat i) (IntKind.u8.wrap (Int.fdiv n ((2:Int) ^ (Min.min (Int.toNat z0) (IntKind.bits IntKind.u64)))))),(IntKind.i64.wrap (i + (1:Int))),()),())) else none else none else some (Sum.inr ((b,()),()))
noncomputable def nnx':(T'51×Unit)→Option ((List Int×Unit)×Unit):=iter (fun x=>nhv' x.1.1 x.1.2.1 x.1.2.2.1 x.1.2.2.2.1) fuel
noncomputable def nbu' (n p0:Int):Option ((ByteArray×Unit)×Unit):=
 bif (((decide ((0:Int)≤p0))&&(decide (p0≤p0)))&&(decide (p0≤(2147483648:Int)))) then (nnx' ((n,p0,(List.replicate (Int.toNat p0) (0:Int)),(0:Int),()),())).bind fun y1=>some (((textU y1.1.1),()),()) else none
noncomputable def nnf' (p0 p1:Int):Option ((ByteArray×Unit)×Unit):=
 (nbu' (IntKind.u64.wrap p0) (4:Int)).bind fun y1=>(nbu' (IntKind.u64.wrap p1) (4:Int)).bind fun y2=>bif (Nat.ble ((ByteArray.size y1.1.1) + (ByteArray.size y2.1.1)) 4611686018427387904) then some (((y1.1.1++y2.1.1),()),()) else none
noncomputable def ngi' (l:List Bool) (n i:Int):Option (Sum (T'52×Unit) ((Int×Unit)×Unit)):=
 letI a:=(IntKind.bits IntKind.u64)
 letI b:=((IntKind.i64.wrap (i + (1:Int))),())
 bif (decide (i < ((List.length l:Nat):Int))) then bif (inB i (List.length l)) then bif (List.getD l (Int.toNat i) false) then let z0:Int:=(IntKind.u64.wrap i)
 bif (decide ((0:Int)≤z0)) then let z1:Int:=(IntKind.u64.wrap ((1:Int) * ((2:Int) ^ (Min.min (Int.toNat z0) a))))
 some (Sum.inl ((l,(IntKind.u64.wrap (stk n z1 (BitVec.toNat ((BitVec.ofInt a n) ||| (BitVec.ofInt a z1))))),b),())) else none else some (Sum.inl ((l,n,b),())) else none else some (Sum.inr ((n,()),()))
noncomputable def nlp':(T'52×Unit)→Option ((Int×Unit)×Unit):=iter (fun x=>ngi' x.1.1 x.1.2.1 x.1.2.2.1) fuel
noncomputable def no3' (l:List Bool):Option ((ByteArray×Unit)×Unit):=
 (nlp' ((l,(0:Int),(0:Int),()),())).bind fun y1=>(nbu' y1.1.1 (1:Int)).bind fun y2=>some ((y2.1.1,()),())
noncomputable def nfg' (s:ByteArray) (r i k:Int):Option (Sum (T'20×Unit) (T'19×Unit)):=
 letI a:=(i,(IntKind.i64.wrap (k + (1:Int))),())
 letI b:=(IntKind.bits IntKind.i64)
 bif (decide (k < (8:Int))) then let z0:Int:=(Int.tmod (IntKind.i64.wrap (r * (2:Int))) (65536:Int))
 bif (decide ((32768:Int)≤r)) then some (Sum.inl ((s,(IntKind.i64.wrap (stk z0 (4129:Int) (BitVec.toNat ((BitVec.ofInt b z0) ^^^ (BitVec.ofInt b (4129:Int)))))),a),())) else some (Sum.inl ((s,z0,a),())) else some (Sum.inr ((s,r,i,()),()))
noncomputable def nj2':(T'20×Unit)→Option (T'19×Unit):=iter (fun x=>nfg' x.1.1 x.1.2.1 x.1.2.2.1 x.1.2.2.2.1) fuel
noncomputable def ne4' (s:ByteArray) (r i:Int):Option (Sum (T'19×Unit) ((Int×Unit)×Unit)):=
 letI a:=(IntKind.bits IntKind.i64)
 bif (decide (i < ((ByteArray.size s:Nat):Int))) then bif (inB i (ByteArray.size s)) then let z0:Int:=(IntKind.i64.wrap ((IntKind.i64.wrap (nbj' s (Int.toNat i))) * (256:Int)))
 (nj2' ((s,(IntKind.i64.wrap (stk r z0 (BitVec.toNat ((BitVec.ofInt a r) ^^^ (BitVec.ofInt a z0))))),i,(0:Int),()),())).bind fun y1=>some (Sum.inl ((y1.1.1,y1.1.2.1,(IntKind.i64.wrap (y1.1.2.2.1 + (1:Int))),()),())) else none else some (Sum.inr ((r,()),()))
noncomputable def nj8':(T'19×Unit)→Option ((Int×Unit)×Unit):=iter (fun x=>ne4' x.1.1 x.1.2.1 x.1.2.2.1) fuel
noncomputable def nnc' (s:ByteArray):Option ((Int×Unit)×Unit):=
 (nj8' ((s,(65535:Int),(0:Int),()),())).bind fun y1=>some (((IntKind.u16.wrap y1.1.1),()),())
noncomputable def nlc' (s:ByteArray):Option ((ByteArray×Unit)×Unit):=
 (nnc' s).bind fun y1=>let z0:ByteArray:=(textU [(IntKind.u8.wrap (IntKind.u16.wrap (Int.tdiv y1.1.1 (256:Int)))),(IntKind.u8.wrap (Int.tmod y1.1.1 (256:Int)))])
 bif (Nat.ble ((ByteArray.size s) + (ByteArray.size z0)) 4611686018427387904) then some (((s++z0),()),()) else none
noncomputable def nir' (s:ByteArray) (i p0 p1 p2 p3:Int) (p4:List CarInput):Option (Sum (T'53×(T'43×Unit)) ((ByteArray×Unit)×Unit)):=
 letI a:=(0:Int)
 bif (decide (i < ((List.length p4:Nat):Int))) then bif (inB i (List.length p4)) then let z0:CarInput:=(List.getD p4 (Int.toNat i) (CarInput.mk a false false false false a false a false a 0))
 (nbu' (IntKind.u64.wrap z0.Z0) (4:Int)).bind fun y1=>bif (Nat.ble ((ByteArray.size s) + (ByteArray.size y1.1.1)) 4611686018427387904) then let z1:ByteArray:=(s++y1.1.1)
 (no3' [z0.V1,z0.L1,z0.M1,z0.F1,z0.L2,z0.M2]).bind fun y2=>bif (Nat.ble ((ByteArray.size z1) + (ByteArray.size y2.1.1)) 4611686018427387904) then let z2:ByteArray:=(z1++y2.1.1)
 (nbu' (IntKind.u64.wrap z0.R1) (1:Int)).bind fun y3=>bif (Nat.ble ((ByteArray.size z2) + (ByteArray.size y3.1.1)) 4611686018427387904) then let z3:ByteArray:=(z2++y3.1.1)
 (nbu' (IntKind.u64.wrap z0.Y1) (1:Int)).bind fun y4=>bif (Nat.ble ((ByteArray.size z3) + (ByteArray.size y4.1.1)) 4611686018427387904) then let z4:ByteArray:=(z3++y4.1.1)
 (nbu' (IntKind.u64.wrap z0.N1) (4:Int)).bind fun y5=>bif (Nat.ble ((ByteArray.size z4) + (ByteArray.size y5.1.1)) 4611686018427387904) then let z5:ByteArray:=(z4++y5.1.1)
 (nbu' ((z0.H3:Nat):Int) (8:Int)).bind fun y6=>bif (Nat.ble ((ByteArray.size z5) + (ByteArray.size y6.1.1)) 4611686018427387904) then some (Sum.inl (((),(z5++y6.1.1),(IntKind.i64.wrap (i + (1:Int))),()),((p0,p1,p2,p3,p4,()),()))) else none else none else none else none else none else none else none else some (Sum.inr ((s,()),()))
noncomputable def nli':(T'53×(T'43×Unit))→Option ((ByteArray×Unit)×Unit):=iter (fun x=>letI a:=x.2.1.2; nir' x.1.2.1 x.1.2.2.1 x.2.1.1 a.1 a.2.1 a.2.2.1 a.2.2.2.1) fuel
noncomputable def nqw' (p0 p1 p2 p3:Int) (p4 p5 p6:Nat) (p7:List Car) (p8 p9 p10 p11:Int) (p12:List CarInput):Option ((ByteArray×Int×Unit)×Unit):=
 letI a:=(1:Int)
 (no5' p0 p1 p2 p3 p4 p5 p6 p7 p8 p9 p10 p11 p12).bind fun y1=>bif (! y1.1.1) then some (((ByteArray.mk (Array.mk [])),a,()),()) else (nbu' (165:Int) a).bind fun y2=>(nbu' (IntKind.u64.wrap ((List.length p7:Nat):Int)) a).bind fun y3=>bif (Nat.ble ((ByteArray.size y2.1.1) + (ByteArray.size y3.1.1)) 4611686018427387904) then let z0:ByteArray:=(y2.1.1++y3.1.1)
 (nnf' p8 p9).bind fun y4=>bif (Nat.ble ((ByteArray.size z0) + (ByteArray.size y4.1.1)) 4611686018427387904) then let z1:ByteArray:=(z0++y4.1.1)
 (nbu' (IntKind.u64.wrap p10) a).bind fun y5=>bif (Nat.ble ((ByteArray.size z1) + (ByteArray.size y5.1.1)) 4611686018427387904) then let z2:ByteArray:=(z1++y5.1.1)
 (nbu' (IntKind.u64.wrap p11) a).bind fun y6=>bif (Nat.ble ((ByteArray.size z2) + (ByteArray.size y6.1.1)) 4611686018427387904) then (nli' (((),(z2++y6.1.1),(0:Int),()),((p8,p9,p10,p11,p12,()),()))).bind fun y7=>(nlc' y7.1.1).bind fun y8=>some ((y8.1.1,(0:Int),()),()) else none else none else none else none
noncomputable def nsf' (l:List Int) (p0:Int) (out:List ByteArray) (i:Int) (s:ByteArray) (k p1 p2 p3 p4:Int) (p5 p6 p7:Nat) (p8:List Car) (p9 p10 p11 p12 p13 p14:Int):Option (Sum (T'55×(T'0×T'47×Unit)) (T'54×(T'0×Unit))):=
 letI a:=(p1,p2,p3,p4,p5,p6,p7,p8,())
 letI b:=((IntKind.i64.wrap (k + (1:Int))),())
 letI c:=(a,(p9,p10,p11,p12,p13,p14,()),())
 letI d:=List.length out
 letI e:=((l,p0,(),out,i,()),(a,()))
 bif (decide (k≤(IntKind.i64.wrap (Int.tmod p14 (4:Int))))) then bif (decide (((d:Nat):Int) < p0)) then bif ((Int.tmod p13 (23:Int))==(5:Int)) then let z0:Int:=(IntKind.i64.wrap (((ByteArray.size s:Nat):Int) - (1:Int)))
 bif ((decide ((0:Int)≤z0))&&(decide (z0≤(((ByteArray.size s):Nat):Int)))) then let z1:ByteArray:=(ByteArray.extract s 0 (Int.toNat z0))
 bif (Nat.ble ((ByteArray.size z1) + (ByteArray.size (ByteArray.mk (Array.mk [63])))) 4611686018427387904) then let z2:ByteArray:=(z1++(ByteArray.mk (Array.mk [63])))
 let z3:List ( ByteArray ):=[z2]
 bif (Nat.ble ((d) + (List.length z3)) 2147483648) then some (Sum.inl ((l,p0,(),(out++z3),i,(),z2,b),c)) else none else none else none else let z4:List ( ByteArray ):=[s]
 bif (Nat.ble ((d) + (List.length z4)) 2147483648) then some (Sum.inl ((l,p0,(),(out++z4),i,(),s,b),c)) else none else some (Sum.inr e) else some (Sum.inr e)
noncomputable def nmu':(T'55×(T'0×T'47×Unit))→Option (T'54×(T'0×Unit)):=iter (fun x=>letI a:=x.2.1.2.2; letI b:=x.2.2.1.2; letI c:=x.1.2.2.2; letI d:=a.2.2; nsf' x.1.1 x.1.2.1 c.1 c.2.1 c.2.2.2.1 c.2.2.2.2.1 x.2.1.1 x.2.1.2.1 a.1 a.2.1 d.1 d.2.1 d.2.2.1 d.2.2.2.1 x.2.2.1.1 b.1 b.2.1 b.2.2.1 b.2.2.2.1 b.2.2.2.2.1) fuel
noncomputable def nsp' (l:List Int) (p0:Int) (out:List ByteArray) (i p1 p2 p3 p4:Int) (p5 p6 p7:Nat) (p8:List Car):Option (Sum (T'54×(T'0×Unit)) ((List ByteArray×Unit)×Unit)):=
 letI a:=(0:Int)
 letI c:=(IntKind.i64.wrap ((6:Int) * i))
 letI d:=List.length l
 bif (decide (c < ((d:Nat):Int))) then bif (decide (((List.length out:Nat):Int) < p0)) then let z0:Int:=c
 bif ((decide (a≤z0))&&(decide (z0≤(((d):Nat):Int)))) then let z1:List ( Int ):=(List.drop (Int.toNat z0) (List.take (d) l))
 letI b:=(List.length z1)
 let z2:Int:=(bif (Nat.blt 0 b) then (List.getD z1 0 a) else a)
 let z3:Int:=(bif (Nat.blt 1 b) then (List.getD z1 1 a) else a)
 let z4:Int:=(bif (Nat.blt 2 b) then (List.getD z1 2 a) else a)
 let z5:Int:=(bif (Nat.blt 3 b) then (List.getD z1 3 a) else a)
 let z6:Int:=(bif (Nat.blt 4 b) then (List.getD z1 4 a) else a)
 let z7:Int:=(bif (Nat.blt 5 b) then (List.getD z1 5 a) else a)
 (nk1' p1 p2 p3 p4 p5 p6 p7 p8 z2 z3 z4 z5 z6 z7).bind fun y1=>letI e:=y1.2.1.2
 (nqw' p1 p2 p3 p4 p5 p6 p7 p8 y1.2.1.1 e.1 e.2.1 e.2.2.1 e.2.2.2.1).bind fun y2=>(nmu' ((l,p0,(),out,i,(),y2.1.1,a,()),((p1,p2,p3,p4,p5,p6,p7,p8,()),(z2,z3,z4,z5,z6,z7,()),()))).bind fun y3=>some (Sum.inl ((y3.1.1,y3.1.2.1,(),y3.1.2.2.2.1,(IntKind.i64.wrap (y3.1.2.2.2.2.1 + (1:Int))),()),(y3.2.1,()))) else none else some (Sum.inr ((out,()),())) else some (Sum.inr ((out,()),()))
noncomputable def nm6':(T'54×(T'0×Unit))→Option ((List ByteArray×Unit)×Unit):=iter (fun x=>letI a:=x.2.1.2.2; letI b:=a.2.2; nsp' x.1.1 x.1.2.1 x.1.2.2.2.1 x.1.2.2.2.2.1 x.2.1.1 x.2.1.2.1 a.1 a.2.1 b.1 b.2.1 b.2.2.1 b.2.2.2.1) fuel
noncomputable def nf7' (p0 p1 p2 p3:Int) (p4 p5 p6:Nat) (p7:List Car) (l:List Int) (p8:Int):Option ((List ByteArray×Unit)×Unit):=
 (nm6' ((l,p8,(),([]:List ByteArray),(0:Int),()),((p0,p1,p2,p3,p4,p5,p6,p7,()),()))).bind fun y1=>some ((y1.1.1,()),())
noncomputable def nbe' (p0:List Int) (i:Int) (p1:List Int) (p2 p3:List Bool) (p4:List Entry):Option (Sum (T'56×(T'18×Unit)) ((T'57×(T'18×Unit)) ⊕ ((Bool×Unit)×Unit))):=
 letI a:=(List.getD p0 (Int.toNat i) (0:Int))
 letI b:=List.length p0
 letI c:=((p1,p2,p3,p4,()),())
 bif (decide (i < ((b:Nat):Int))) then bif (inB i (b)) then bif (decide (a < (0:Int))) then some (Sum.inr (Sum.inr ((false,()),()))) else bif (inB i (b)) then bif (decide ((1000000:Int) < a)) then some (Sum.inr (Sum.inr ((false,()),()))) else some (Sum.inl ((p0,(),(IntKind.i64.wrap (i + (1:Int))),()),c)) else none else none else some (Sum.inr (Sum.inl ((p0,(),()),c)))
noncomputable def net':(T'56×(T'18×Unit))→Option ((T'57×(T'18×Unit)) ⊕ ((Bool×Unit)×Unit)):=iter (fun x=>nbe' x.1.1 x.1.2.2.1 x.2.1.1 x.2.1.2.1 x.2.1.2.2.1 x.2.1.2.2.2.1) fuel
noncomputable def ncg' (p0:List Int) (p1 p2:List Bool) (p3:List Entry) (p4:List Int):Option ((Bool×Unit)×Unit):=
 (net' ((p4,(),(0:Int),()),((p0,p1,p2,p3,()),()))).bind fun y1=>(match y1 with
 | .inl y2=>
 some (((((List.length y2.1.1:Nat):Int)==((List.length y2.2.1.2.2.2.1:Nat):Int)),()),())
 | .inr y2=>
 some ((y2.1.1,()),()))
noncomputable def nhu' (n:Int):Option ((Bool×Unit)×Unit):=
 Option.bind (bif (decide ((0:Int)≤n)) then some (((decide (n≤(1000000:Int))),()),()) else some ((false,()),())) fun y1=>some ((y1.1.1,()),())
noncomputable def ndy' (n i p0:Int) (p1 p2 p3 p4:Bool) (p5 p6 p7 p8 p9 p10 p11 p12 p13 p14 p15 p16 p17 p18 p19 p20 p21 p22 p23 p24 p25 p26 p27 p28 p29 p30 p31 p32 p33 p34 p35 p36 p37 p38 p39 p40:Int):Option (Sum ((Int×Unit×Int×Unit)×(T'58×Unit)) ((Unit×Unit) ⊕ ((Bool×Unit)×Unit))):=
 bif (decide (i < (36:Int))) then bif (inB i 36) then bif (decide ((List.getD [p5,p6,p7,p8,p9,p10,p11,p12,p13,p14,p15,p16,p17,p18,p19,p20,p21,p22,p23,p24,p25,p26,p27,p28,p29,p30,p31,p32,p33,p34,p35,p36,p37,p38,p39,p40] (Int.toNat i) (0:Int)) < (0:Int))) then some (Sum.inr (Sum.inr ((false,()),()))) else bif (inB i 36) then bif (decide (n≤(List.getD [p5,p6,p7,p8,p9,p10,p11,p12,p13,p14,p15,p16,p17,p18,p19,p20,p21,p22,p23,p24,p25,p26,p27,p28,p29,p30,p31,p32,p33,p34,p35,p36,p37,p38,p39,p40] (Int.toNat i) (0:Int)))) then some (Sum.inr (Sum.inr ((false,()),()))) else some (Sum.inl ((n,(),(IntKind.i64.wrap (i + (1:Int))),()),((p0,p1,p2,p3,p4,p5,p6,p7,p8,p9,p10,p11,p12,p13,p14,p15,p16,p17,p18,p19,p20,p21,p22,p23,p24,p25,p26,p27,p28,p29,p30,p31,p32,p33,p34,p35,p36,p37,p38,p39,p40,()),()))) else none else none else some (Sum.inr (Sum.inl ((),())))
noncomputable def nh8':((Int×Unit×Int×Unit)×(T'58×Unit))→Option ((Unit×Unit) ⊕ ((Bool×Unit)×Unit)):=iter (fun x=>letI g:=x.2.1.2.2.2; letI l:=g.2.2; letI c:=l.2.2.2; letI m:=c.2.2; letI d:=m.2.2.2; letI h:=d.2.2; letI a:=h.2.2.2.2; letI f:=a.2.2.2.2; letI j:=f.2.2; letI b:=j.2.2.2.2; letI n:=b.2.2; letI e:=n.2.2.2; letI k:=e.2.2; ndy' x.1.1 x.1.2.2.1 x.2.1.1 x.2.1.2.1 x.2.1.2.2.1 g.1 g.2.1 l.1 l.2.1 l.2.2.1 c.1 c.2.1 m.1 m.2.1 m.2.2.1 d.1 d.2.1 h.1 h.2.1 h.2.2.1 h.2.2.2.1 a.1 a.2.1 a.2.2.1 a.2.2.2.1 f.1 f.2.1 j.1 j.2.1 j.2.2.1 j.2.2.2.1 b.1 b.2.1 n.1 n.2.1 n.2.2.1 e.1 e.2.1 k.1 k.2.1 k.2.2.1 k.2.2.2.1 k.2.2.2.2.1) fuel
noncomputable def nhm' (n p0:Int) (p1 p2 p3 p4:Bool) (p5 p6 p7 p8 p9 p10 p11 p12 p13 p14 p15 p16 p17 p18 p19 p20 p21 p22 p23 p24 p25 p26 p27 p28 p29 p30 p31 p32 p33 p34 p35 p36 p37 p38 p39 p40:Int):Option ((Bool×Unit)×Unit):=
 bif (decide (n < (1:Int))) then some ((false,()),()) else bif (decide ((16:Int) < n)) then some ((false,()),()) else (nh8' ((n,(),(0:Int),()),((p0,p1,p2,p3,p4,p5,p6,p7,p8,p9,p10,p11,p12,p13,p14,p15,p16,p17,p18,p19,p20,p21,p22,p23,p24,p25,p26,p27,p28,p29,p30,p31,p32,p33,p34,p35,p36,p37,p38,p39,p40,()),()))).bind fun y1=>(match y1 with
 | .inl y2=>
 some ((true,()),())
 | .inr y2=>
 some ((y2.1.1,()),()))
noncomputable def ng9' (n lo hi:Int):Option ((Bool×Unit)×Unit):=
 Option.bind (bif (decide (lo≤n)) then some (((decide (n≤hi)),()),()) else some ((false,()),())) fun y1=>some ((y1.1.1,()),())
noncomputable def ndw' (car i p0 p1 p2 p3:Int) (p4 p5 p6:Nat) (p7:List Car) (p8 p9 p10:Int) (p11:List Duty) (p12:Int) (p13:Bool):Option (Sum (T'11×(T'0×T'37×Unit)) ((Unit×Unit) ⊕ ((Bool×Unit)×Unit))):=
 letI a:=(0:Int)
 letI b:=((p0,p1,p2,p3,p4,p5,p6,p7,()),(p8,p9,p10,p11,p12,p13,()),())
 letI c:=List.length p11
 letI d:=(Duty.mk a a a)
 letI e:=(IntKind.i64.wrap (i - (1:Int)))
 letI f:=((false,()),())
 bif (decide (i < ((c:Nat):Int))) then bif (inB i (c)) then let z0:Duty:=(List.getD p11 (Int.toNat i) d)
 (ncq' p0 p1 p2 p3 p4 p5 p6 p7 z0.C0 z0.G0).bind fun y1=>bif (! y1.1.1) then some (Sum.inr (Sum.inr f)) else bif (inB car (List.length p7)) then (ng9' z0.H5 a (List.getD p7 (Int.toNat car) (Car.mk a a a a a a a a a)).S1).bind fun y2=>bif (! y2.1.1) then some (Sum.inr (Sum.inr f)) else Option.bind (bif (decide (a < i)) then let z1:Int:=e
 bif (inB z1 (c)) then let z2:Int:=e
 bif (inB z2 (c)) then some ((car,(),(),i,(decide ((IntKind.i64.wrap ((IntKind.i64.wrap ((4:Int) * z0.C0)) + z0.G0))≤(IntKind.i64.wrap ((IntKind.i64.wrap ((4:Int) * (List.getD p11 (Int.toNat z1) d).C0)) + (List.getD p11 (Int.toNat z2) d).G0)))),()),b) else none else none else some ((car,(),(),i,false,()),b)) fun y3=>bif y3.1.2.2.2.2.1 then some (Sum.inr (Sum.inr f)) else some (Sum.inl ((y3.1.1,(),(),(IntKind.i64.wrap (y3.1.2.2.2.1 + (1:Int))),()),(y3.2.1,y3.2.2.1,()))) else none else none else some (Sum.inr (Sum.inl ((),())))
noncomputable def nh5':(T'11×(T'0×T'37×Unit))→Option ((Unit×Unit) ⊕ ((Bool×Unit)×Unit)):=iter (fun x=>letI a:=x.2.1.2.2; letI b:=x.2.2.1.2; letI c:=a.2.2; ndw' x.1.1 x.1.2.2.2.1 x.2.1.1 x.2.1.2.1 a.1 a.2.1 c.1 c.2.1 c.2.2.1 c.2.2.2.1 x.2.2.1.1 b.1 b.2.1 b.2.2.1 b.2.2.2.1 b.2.2.2.2.1) fuel
noncomputable def nbx' (p0 p1 p2 p3:Int) (p4 p5 p6:Nat) (p7:List Car) (car p8 p9 p10:Int) (p11:List Duty) (p12:Int) (p13:Bool):Option ((Bool×Unit)×Unit):=
 letI a:=((p0,p1,p2,p3,p4,p5,p6,p7,()),(p8,p9,p10,p11,p12,p13,()),())
 letI b:=((car,(),(),true,()),a)
 letI c:=(0:Int)
 Option.bind ((n3' p0 p1 p2 p3 p4 p5 p6 p7).bind fun y1=>bif (y1.1.1 != c) then some b else (ng9' car c (IntKind.i64.wrap (((List.length p7:Nat):Int) - (1:Int)))).bind fun y2=>bif (! y2.1.1) then some b else (ng9' p8 (- 1:Int) (IntKind.i64.wrap (p0 - (1:Int)))).bind fun y3=>bif (! y3.1.1) then some b else (ng9' p9 c (3:Int)).bind fun y4=>bif (! y4.1.1) then some b else (ng9' p10 c (3:Int)).bind fun y5=>bif (! y5.1.1) then some b else (ng9' p12 c (1000000:Int)).bind fun y6=>bif (! y6.1.1) then some b else bif p13 then some ((car,(),(),(decide (c < ((List.length p11:Nat):Int))),()),a) else some ((car,(),(),false,()),a)) fun y7=>bif y7.1.2.2.2.1 then some ((false,()),()) else (nh5' ((y7.1.1,(),(),c,()),(y7.2.1,y7.2.2.1,()))).bind fun y8=>(match y8 with
 | .inl y9=>
 some ((true,()),())
 | .inr y9=>
 some ((y9.1.1,()),()))
noncomputable def nb7' (p0 p1:Int):Option ((Bool×Unit)×Unit):=
 letI a:=((false,()),())
 Option.bind (bif (decide ((0:Int)≤p0)) then bif (decide (p0≤(2:Int))) then bif (decide ((0:Int)≤p1)) then some (((decide (p1≤(7:Int))),()),()) else some a else some a else some a) fun y1=>some ((y1.1.1,()),())
noncomputable def nmy' (n:Int):Option ((Bool×Unit)×Unit):=
 Option.bind (bif (decide ((0:Int)≤n)) then some (((decide (n≤(1000000:Int))),()),()) else some ((false,()),())) fun y1=>some ((y1.1.1,()),())
noncomputable def nd8' (p0 p1 p2:Int) (p3:Bool) (p4:Int):Option ((Bool×Unit)×Unit):=
 letI a:=(0:Int)
 letI b:=((false,()),())
 bif (p0==a) then some ((((p0==a)&&((p1==a)&&((p2==a)&&((p3==false)&&((p4==a)&&true))))),()),()) else Option.bind (bif (decide (a < p0)) then bif (decide (p0≤(3:Int))) then (nmy' p1).bind fun y1=>bif y1.1.1 then (nmy' p2).bind fun y2=>bif y2.1.1 then (nmy' p4).bind fun y3=>some ((y3.1.1,()),()) else some b else some b else some b else some b) fun y4=>some ((y4.1.1,()),())
noncomputable def nfw' (p0 n:Int):Option ((Bool×Unit)×Unit):=
 Option.bind (bif (decide ((0:Int)≤n)) then some (((decide (n < p0)),()),()) else some ((false,()),())) fun y1=>some ((y1.1.1,()),())
noncomputable def ncw' (p0 p1 p2:Int):Option ((Int×Unit)×Unit):=
 bif (p0==(1:Int)) then some (((IntKind.i64.wrap (p2 + (1:Int))),()),()) else some (((IntKind.i64.wrap (p2 - (1:Int))),()),())
noncomputable def nb9' (p0 p1 p2 p3:Int):Option ((Bool×Unit)×Unit):=
 letI a:=((false,()),())
 letI b:=nfw' p0
 bif (decide (p0 < (2:Int))) then some a else bif (decide ((32:Int) < p0)) then some a else bif (decide (p2 < (0:Int))) then some a else bif (decide ((1000000:Int) < p2)) then some a else bif (p1==(0:Int)) then some (((p3==(0:Int)),()),()) else bif (p1==(1:Int)) then Option.bind ((b p3).bind fun y1=>bif y1.1.1 then (ncw' p1 p2 p3).bind fun y2=>(b y2.1.1).bind fun y3=>some ((y3.1.1,()),()) else some a) fun y4=>some ((y4.1.1,()),()) else bif (p1==(2:Int)) then Option.bind ((b p3).bind fun y5=>bif y5.1.1 then (ncw' p1 p2 p3).bind fun y6=>(b y6.1.1).bind fun y7=>some ((y7.1.1,()),()) else some a) fun y8=>some ((y8.1.1,()),()) else some a
noncomputable def nd3' (p0 p1 p2 p3:Int) (p4 p5 p6:Nat) (p7:List Car) (p8 p9 p10 p11 p12:Int) (p13:Bool) (p14 p15 p16 p17 p18 p19 p20:Int) (p21:Bool):Option ((Bool×Unit)×Unit):=
 letI a:=((p0,p1,p2,p3,p4,p5,p6,p7,()),(p8,p9,p10,p11,p12,p13,p14,p15,p16,p17,p18,p19,p20,p21,()),())
 letI b:=(0:Int)
 letI d:=((false,()),())
 letI e:=(((),(),true,()),a)
 (n3' p0 p1 p2 p3 p4 p5 p6 p7).bind fun y1=>bif (y1.1.1 != b) then some d else bif p21 then some ((((p8==b)&&((p9==b)&&((p10==b)&&((p11==b)&&((p12==b)&&((p13==false)&&((p14==b)&&((p15==b)&&((p16==b)&&((p17==b)&&((p18==b)&&((p19==b)&&((p20==b)&&((p21==true)&&true)))))))))))))),()),()) else Option.bind ((nb7' p8 p9).bind fun y2=>bif (! y2.1.1) then some e else (nd8' p10 p11 p12 p13 p14).bind fun y3=>bif (! y3.1.1) then some e else (nb9' p0 p15 p16 p17).bind fun y4=>bif (! y4.1.1) then some e else bif (! ((p10==b)&&((p11==b)&&((p12==b)&&((p13==false)&&((p14==b)&&true)))))) then some (((),(),(! ((p15==b)&&((p16==b)&&((p17==b)&&true)))),()),a) else some (((),(),false,()),a)) fun y5=>letI c:=y5.2.2.1.2.2.2.2.2.2.2.2.2.2
 letI f:=c.2
 bif y5.1.2.2.1 then some d else Option.bind (let z0:Int:=(IntKind.u64.wrap y5.2.1.1)
 bif (decide (b≤z0)) then bif ((Int.fdiv (IntKind.u64.wrap c.1) ((2:Int) ^ (Min.min (Int.toNat z0) (IntKind.bits IntKind.u64))))==b) then bif (decide (b≤f.1)) then bif (decide (f.1≤(2:Int))) then bif (decide (b≤f.2.1)) then some (((decide (f.2.1≤(1000000:Int))),()),()) else some d else some d else some d else some d else none) fun y6=>some ((y6.1.1,()),())
noncomputable def ncz' (n i p0 p1 p2 p3:Int) (p4 p5 p6:Nat) (p7:List Car) (p8:List Int) (p9 p10:List Bool) (p11:List Entry) (p12 p13:ByteArray) (p14:Int) (p15:List Debounced) (p16:List Belief) (p17:List NewCar) (p18:List Loaded) (p19:List Int) (p20:List Calls) (p21 p22 p23:Int):Option (Sum (T'24×(T'0×T'38×Unit)) ((Unit×Unit) ⊕ ((Bool×Unit)×Unit))):=
 letI a:=(0:Int)
 letI b:=((false,()),())
 letI c:=(Int.toNat i)
 letI d:=(List.getD p18 c (Loaded.mk a)).F5
 letI e:=(inB i (List.length p18))
 bif (decide (i < n)) then bif (inB i (List.length p15)) then let z0:Debounced:=(List.getD p15 c (Debounced.mk a false false false false a a a a a a a a a a a a a a a a a a a a a a a a a a a a a a a a a a a a))
 (nhm' p1 z0.Z0 z0.V1 z0.L1 z0.M1 z0.F1 z0.U4 z0.V4 z0.X4 z0.Y4 z0.Z4 z0.A5 z0.B5 z0.C5 z0.D5 z0.E5 z0.R3 z0.T3 z0.U3 z0.V3 z0.X3 z0.Y3 z0.Z3 z0.A4 z0.B4 z0.C4 z0.D4 z0.E4 z0.F4 z0.G4 z0.H4 z0.I4 z0.J4 z0.K4 z0.L4 z0.M4 z0.N4 z0.O4 z0.P4 z0.Q4 z0.R4 z0.S4).bind fun y1=>bif (! y1.1.1) then some (Sum.inr (Sum.inr b)) else bif (inB i (List.length p16)) then let z1:Belief:=(List.getD p16 c (Belief.mk a a a [] a false))
 (nbx' p0 p1 p2 p3 p4 p5 p6 p7 i z1.C0 z1.G0 z1.Z2 z1.M0 z1.R2 z1.Y2).bind fun y2=>bif (! y2.1.1) then some (Sum.inr (Sum.inr b)) else bif (inB i (List.length p17)) then let z2:NewCar:=(List.getD p17 c (NewCar.mk a a a a a false a a a a a a a false))
 (nd3' p0 p1 p2 p3 p4 p5 p6 p7 z2.K2 z2.B2 z2.O1 z2.N2 z2.G2 z2.P2 z2.H2 z2.G1 z2.X1 z2.E1 z2.N1 z2.K3 z2.T4 z2.N3).bind fun y3=>bif (! y3.1.1) then some (Sum.inr (Sum.inr b)) else bif e then bif (decide (d < a)) then some (Sum.inr (Sum.inr b)) else bif e then bif (decide ((4:Int) < d)) then some (Sum.inr (Sum.inr b)) else some (Sum.inl (((),(),n,(IntKind.i64.wrap (i + (1:Int))),()),((p0,p1,p2,p3,p4,p5,p6,p7,()),(p8,p9,p10,p11,p12,p13,p14,p15,p16,p17,p18,p19,p20,p21,p22,p23,()),()))) else none else none else none else none else none else some (Sum.inr (Sum.inl ((),())))
noncomputable def nf1':(T'24×(T'0×T'38×Unit))→Option ((Unit×Unit) ⊕ ((Bool×Unit)×Unit)):=iter (fun x=>letI d:=x.2.2.1.2; letI f:=d.2.2; letI a:=f.2.2.2; letI b:=a.2.2.2.2; letI c:=x.2.1.2.2; letI e:=c.2.2; letI g:=b.2.2; ncz' x.1.2.2.1 x.1.2.2.2.1 x.2.1.1 x.2.1.2.1 c.1 c.2.1 e.1 e.2.1 e.2.2.1 e.2.2.2.1 x.2.2.1.1 d.1 d.2.1 f.1 f.2.1 f.2.2.1 a.1 a.2.1 a.2.2.1 a.2.2.2.1 b.1 b.2.1 g.1 g.2.1 g.2.2.1 g.2.2.2.1) fuel
noncomputable def nft' (p0 p1 p2 p3:Int) (p4 p5 p6:Nat) (p7:List Car) (p8:List Int) (p9 p10:List Bool) (p11:List Entry) (p12 p13:ByteArray) (p14:Int) (p15:List Debounced) (p16:List Belief) (p17:List NewCar) (p18:List Loaded) (p19:List Int) (p20:List Calls) (p21 p22 p23:Int):Option ((Bool×Unit)×Unit):=
 letI a:=((false,()),())
 let z0:Int:=((List.length p7:Nat):Int)
 (n3' p0 p1 p2 p3 p4 p5 p6 p7).bind fun y1=>bif (y1.1.1 != (0:Int)) then some a else (ni8' p0 p1 p2 p3 p4 p5 p6 p7 p8 p9 p10 p11).bind fun y2=>bif (! y2.1.1) then some a else (nc2' p2 p12 p13 p14).bind fun y3=>bif (! y3.1.1) then some a else bif (((List.length p15:Nat):Int) != z0) then some a else bif (((List.length p16:Nat):Int) != z0) then some a else bif (((List.length p17:Nat):Int) != z0) then some a else bif (((List.length p18:Nat):Int) != z0) then some a else bif (((List.length p20:Nat):Int) != z0) then some a else (ncg' p8 p9 p10 p11 p19).bind fun y4=>bif (! y4.1.1) then some a else (nhu' p21).bind fun y5=>bif (! y5.1.1) then some a else (nhu' p22).bind fun y6=>bif (! y6.1.1) then some a else (nhu' p23).bind fun y7=>bif (! y7.1.1) then some a else (nf1' (((),(),z0,(0:Int),()),((p0,p1,p2,p3,p4,p5,p6,p7,()),(p8,p9,p10,p11,p12,p13,p14,p15,p16,p17,p18,p19,p20,p21,p22,p23,()),()))).bind fun y8=>(match y8 with
 | .inl y9=>
 some ((true,()),())
 | .inr y9=>
 some ((y9.1.1,()),()))
noncomputable def npa' (p0 p1 p2 p3:Int) (p4 p5 p6:Nat) (p7:List Car):Option ((Int×Int×Unit)×Unit):=
 letI a:=(IntKind.i64.wrap ((19:Int) * ((List.length p7:Nat):Int)))
 (n3' p0 p1 p2 p3 p4 p5 p6 p7).bind fun y1=>bif (y1.1.1 != (0:Int)) then some (((0:Int),(0:Int),()),()) else some (((IntKind.i64.wrap ((14:Int) + a)),(IntKind.i64.wrap ((23:Int) + a)),()),())
noncomputable def no1' (s:ByteArray):Option ((ByteArray×Int×Unit)×Unit):=
 letI a:=((ByteArray.size s:Nat):Int)
 bif (decide (a < (2:Int))) then some (((ByteArray.mk (Array.mk [])),(4:Int),()),()) else let z0:Int:=(IntKind.i64.wrap (a - (2:Int)))
 bif ((decide ((0:Int)≤z0))&&(decide (z0≤(((ByteArray.size s):Nat):Int)))) then let z1:ByteArray:=(ByteArray.extract s 0 (Int.toNat z0))
 (nlc' z1).bind fun y1=>bif (eqB y1.1.1 s) then some ((z1,(0:Int),()),()) else some (((ByteArray.mk (Array.mk [])),(5:Int),()),()) else none
noncomputable def no9' (p0 p1 p2 p3:Int) (p4 p5 p6:Nat) (p7:List Car) (s:ByteArray) (p8 p9:Int):Option ((Int×Unit)×Unit):=
 letI a:=ByteArray.size s
 letI b:=(((30:Int),()),())
 (n3' p0 p1 p2 p3 p4 p5 p6 p7).bind fun y1=>bif (y1.1.1 != (0:Int)) then some (((1:Int),()),()) else bif (((a:Nat):Int) != p8) then some (((4:Int),()),()) else bif (inB (0:Int) (a)) then bif ((IntKind.i64.wrap (nbj' s (Int.toNat (0:Int)))) != p9) then some b else bif (inB (1:Int) (a)) then bif ((IntKind.i64.wrap (nbj' s (Int.toNat (1:Int)))) != ((List.length p7:Nat):Int)) then some b else (no1' s).bind fun y2=>some ((y2.1.2.1,()),()) else none else none
noncomputable def nez' (s:ByteArray) (p0 p1 n i:Int):Option (Sum (T'59×Unit) ((Int×Unit)×Unit)):=
 letI a:=(IntKind.bits IntKind.u64)
 bif (decide (i < p1)) then let z0:Int:=(IntKind.i64.wrap (p0 + i))
 bif (inB z0 (ByteArray.size s)) then let z1:Int:=(IntKind.u64.wrap (IntKind.i64.wrap ((8:Int) * i)))
 bif (decide ((0:Int)≤z1)) then let z2:Int:=(IntKind.u64.wrap ((IntKind.u64.wrap (nbj' s (Int.toNat z0))) * ((2:Int) ^ (Min.min (Int.toNat z1) a))))
 some (Sum.inl ((s,p0,p1,(IntKind.u64.wrap (stk n z2 (BitVec.toNat ((BitVec.ofInt a n) ||| (BitVec.ofInt a z2))))),(IntKind.i64.wrap (i + (1:Int))),()),())) else none else none else some (Sum.inr ((n,()),()))
noncomputable def nki':(T'59×Unit)→Option ((Int×Unit)×Unit):=iter (fun x=>nez' x.1.1 x.1.2.1 x.1.2.2.1 x.1.2.2.2.1 x.1.2.2.2.2.1) fuel
noncomputable def nej' (s:ByteArray) (p0 p1:Int):Option ((Int×Unit)×Unit):=
 (nki' ((s,p0,p1,(0:Int),(0:Int),()),())).bind fun y1=>some ((y1.1.1,()),())
noncomputable def npd' (s:ByteArray) (p0:Int):Option ((Unit×Unit)×T'3):=
 (nej' s p0 (4:Int)).bind fun y1=>(nej' s (IntKind.i64.wrap (p0 + (4:Int))) (4:Int)).bind fun y2=>some (((),()),(((IntKind.u32.wrap y1.1.1),(IntKind.u32.wrap y2.1.1),()),()))
noncomputable def nrh' (s:ByteArray) (p0 k:Int):Option ((Bool×Unit)×Unit):=
 letI a:=(IntKind.bits IntKind.u8)
 bif (inB p0 (ByteArray.size s)) then let z0:Int:=(IntKind.u64.wrap k)
 bif (decide ((0:Int)≤z0)) then let z1:Int:=(Int.fdiv (nbj' s (Int.toNat p0)) ((2:Int) ^ (Min.min (Int.toNat z0) a)))
 some ((((IntKind.u8.wrap (stk z1 (1:Int) (BitVec.toNat ((BitVec.ofInt a z1) &&& (BitVec.ofInt a (1:Int))))))==(1:Int)),()),()) else none else none
noncomputable def neq' (s:ByteArray) (i p0 p1 p2 p3:Int) (p4 p5 p6:Nat) (p7:List Car) (p8 p9 p10 p11:Int) (p12:List CarInput) (p13 p14 p15 p16:Int) (p17:List CarInput):Option (Sum (T'60×T'45) (T'61×T'45)):=
 letI b:=(p0,p1,p2,p3,p4,p5,p6,p7,())
 letI c:=(4:Int)
 letI d:=(p8,p9,p10,p11,p12,())
 bif (decide (i < ((List.length p7:Nat):Int))) then let z0:Int:=(IntKind.i64.wrap ((12:Int) + (IntKind.i64.wrap ((19:Int) * i))))
 letI a:=nrh' s (IntKind.i64.wrap (z0 + c))
 (nej' s z0 c).bind fun y1=>(a (0:Int)).bind fun y2=>(a (1:Int)).bind fun y3=>(a (2:Int)).bind fun y4=>(a (3:Int)).bind fun y5=>let z1:Int:=(IntKind.i64.wrap (z0 + (5:Int)))
 bif (inB z1 (ByteArray.size s)) then (a c).bind fun y6=>let z2:Int:=(IntKind.i64.wrap (z0 + (6:Int)))
 bif (inB z2 (ByteArray.size s)) then (a (5:Int)).bind fun y7=>(nej' s (IntKind.i64.wrap (z0 + (7:Int))) c).bind fun y8=>(nej' s (IntKind.i64.wrap (z0 + (11:Int))) (8:Int)).bind fun y9=>let z3:List ( CarInput ):=[(CarInput.mk (IntKind.u32.wrap y1.1.1) y2.1.1 y3.1.1 y4.1.1 y5.1.1 (IntKind.i64.wrap (nbj' s (Int.toNat z1))) y6.1.1 (IntKind.i64.wrap (nbj' s (Int.toNat z2))) y7.1.1 (IntKind.u32.wrap y8.1.1) (Int.toNat y9.1.1))]
 bif (Nat.ble ((List.length p17) + (List.length z3)) 2147483648) then some (Sum.inl ((s,(),(),(),(IntKind.i64.wrap (i + (1:Int))),()),(b,d,(p13,p14,p15,p16,(p17++z3),()),()))) else none else none else none else some (Sum.inr ((s,(),(),(),()),(b,d,(p13,p14,p15,p16,p17,()),())))
noncomputable def ni9':(T'60×T'45)→Option (T'61×T'45):=iter (fun x=>letI a:=x.2.1.2.2; letI b:=x.2.2; letI c:=b.2.1; letI d:=a.2.2; letI e:=b.1.2; neq' x.1.1 x.1.2.2.2.2.1 x.2.1.1 x.2.1.2.1 a.1 a.2.1 d.1 d.2.1 d.2.2.1 d.2.2.2.1 b.1.1 e.1 e.2.1 e.2.2.1 e.2.2.2.1 c.1 c.2.1 c.2.2.1 c.2.2.2.1 c.2.2.2.2.1) fuel
noncomputable def nlv' (p0 p1 p2 p3:Int) (p4 p5 p6:Nat) (p7:List Car) (s:ByteArray):Option ((Unit×Int×Unit)×(T'43×Unit)):=
 letI a:=(0:Int)
 letI d:=List CarInput
 letI h:=((),(31:Int),())
 (npa' p0 p1 p2 p3 p4 p5 p6 p7).bind fun y1=>(no9' p0 p1 p2 p3 p4 p5 p6 p7 s y1.1.1 (165:Int)).bind fun y2=>bif (y2.1.1 != a) then some (((),y2.1.1,()),((a,a,a,a,([]:d),()),())) else (npd' s (2:Int)).bind fun y3=>bif (inB (10:Int) (ByteArray.size s)) then bif (inB (11:Int) (ByteArray.size s)) then (ni9' ((s,(),(),(),a,()),((p0,p1,p2,p3,p4,p5,p6,p7,()),(a,a,a,a,([]:d),()),(y3.2.1.1,y3.2.1.2.1,(IntKind.i64.wrap (nbj' s (Int.toNat (10:Int)))),(IntKind.i64.wrap (nbj' s (Int.toNat (11:Int)))),([]:d),()),()))).bind fun y4=>letI b:=y4.2.1.2.2
 letI c:=y4.2.2.2.1
 letI e:=b.2
 letI f:=e.2
 letI g:=c.2
 (nqw' y4.2.1.1 y4.2.1.2.1 b.1 e.1 f.1 f.2.1 f.2.2.1 f.2.2.2.1 c.1 g.1 g.2.1 g.2.2.1 g.2.2.2.1).bind fun y5=>bif (y5.1.2.1 != a) then some (h,((a,a,a,a,([]:d),()),())) else bif (! (eqB y5.1.1 y4.1.1)) then some (h,((a,a,a,a,([]:d),()),())) else some (((),a,()),(c,())) else none else none
noncomputable def ngx' (n:Int):Option ((Int×Unit)×Unit):=
 let z0:Int:=(IntKind.i64.wrap (n + (1:Int)))
 some (((bif (decide ((1000000:Int) < z0)) then (1000000:Int) else z0),()),())
noncomputable def nof' (p0:Int) (p1 p2 p3 p4:Bool) (i:Int):Option ((Bool×Unit)×Unit):=
 letI a:=(IntKind.bits IntKind.u32)
 bif (decide (i < (0:Int))) then some ((false,()),()) else bif (decide ((35:Int) < i)) then some ((false,()),()) else bif (decide (i < (32:Int))) then let z0:Int:=(IntKind.u64.wrap i)
 bif (decide ((0:Int)≤z0)) then let z1:Int:=(Int.fdiv p0 ((2:Int) ^ (Min.min (Int.toNat z0) a)))
 some ((((IntKind.u32.wrap (stk z1 (1:Int) (BitVec.toNat ((BitVec.ofInt a z1) &&& (BitVec.ofInt a (1:Int))))))==(1:Int)),()),()) else none else let z2:List ( Bool ):=[p1,p2,p3,p4]
 let z3:Int:=(IntKind.i64.wrap (i - (32:Int)))
 bif (inB z3 (List.length z2)) then some (((List.getD z2 (Int.toNat z3) false),()),()) else none
noncomputable def nqy' (p0:Int) (p1 p2 p3 p4:Bool) (i:Int) (p5:Bool):Option ((Unit×Unit)×(T'62×Unit)):=
 letI j:=(0:Int)
 letI a:=((p0,p1,p2,p3,p4,()),(j,false,false,false,false,()),())
 letI c:=(IntKind.bits IntKind.u32)
 letI g:=((),())
 letI l:=((),(),false,())
 letI s:=(32:Int)
 Option.bind (bif (decide (j≤i)) then bif (decide (i < s)) then some ((i,p5,(),(),p5,()),a) else some ((i,p5,l),a) else some ((i,p5,l),a)) fun y1=>letI h:=y1.2.1
 letI q:=y1.1
 letI r:=q.1
 letI u:=h.2
 letI v:=(h,y1.2.2.1,())
 bif q.2.2.2.2.1 then let z0:Int:=(IntKind.u64.wrap r)
 bif (decide (j≤z0)) then let z1:Int:=(IntKind.u32.wrap ((1:Int) * ((2:Int) ^ (Min.min (Int.toNat z0) c))))
 some (g,(((IntKind.u32.wrap (stk h.1 z1 (BitVec.toNat ((BitVec.ofInt c h.1) ||| (BitVec.ofInt c z1))))),u.1,u.2.1,u.2.2.1,u.2.2.2.1,()),())) else none else Option.bind (bif (decide (j≤r)) then some ((r,q.2.1,(),(),(decide (r < s)),()),v) else some ((r,q.2.1,l),v)) fun y2=>letI b:=y2.2.1
 letI d:=b.2
 letI e:=d.2
 letI ad:=e.2
 letI f:=(ad.1,ad.2.1,())
 letI k:=b.1
 letI m:=y2.1
 letI n:=m.2
 letI o:=m.1
 letI w:=d.1
 letI aa:=e.1
 letI ab:=n.1
 bif n.2.2.2.1 then let z2:Int:=(IntKind.u64.wrap o)
 bif (decide (j≤z2)) then let z3:Int:=(IntKind.u32.wrap ((1:Int) * ((2:Int) ^ (Min.min (Int.toNat z2) c))))
 some (g,(((IntKind.u32.wrap (stk k z3 (BitVec.toNat ((BitVec.ofInt c k) &&& (~~~ (BitVec.ofInt c z3)))))),w,aa,f),())) else none else bif (o==s) then some (g,((k,ab,aa,f),())) else bif (o==(33:Int)) then some (g,((k,w,ab,f),())) else bif (o==(34:Int)) then some (g,((k,w,aa,ab,ad.2.1,()),())) else bif (o==(35:Int)) then some (g,((k,w,aa,ad.1,ab,()),())) else some (g,(b,()))
noncomputable def nuy' (n i p0:Int) (p1 p2 p3 p4:Bool) (p5 p6 p7 p8 p9 p10 p11 p12 p13 p14 p15 p16 p17 p18 p19 p20 p21 p22 p23 p24 p25 p26 p27 p28 p29 p30 p31 p32 p33 p34 p35 p36 p37 p38 p39 p40 p41:Int) (p42 p43 p44 p45:Bool) (p46:Int) (p47 p48 p49 p50:Bool) (p51 p52 p53 p54 p55 p56 p57 p58 p59 p60 p61 p62 p63 p64 p65 p66 p67 p68 p69 p70 p71 p72 p73 p74 p75 p76 p77 p78 p79 p80 p81 p82 p83 p84 p85 p86:Int):Option (Sum (T'63×T'64) ((Unit×Unit×Unit)×(T'58×T'58×Unit))):=
 letI a:=(0:Int)
 letI b:=((p46,p47,p48,p49,p50,p51,p52,p53,p54,p55,p56,p57,p58,p59,p60,p61,p62,p63,p64,p65,p66,p67,p68,p69,p70,p71,p72,p73,p74,p75,p76,p77,p78,p79,p80,p81,p82,p83,p84,p85,p86,()),())
 letI c:=(n,(),(),(),(IntKind.i64.wrap (i + (1:Int))),())
 letI d:=((p41,p42,p43,p44,p45,()),b)
 letI e:=(Int.toNat i)
 letI f:=(inB i 36)
 bif (decide (i < (36:Int))) then (nof' p41 p42 p43 p44 p45 i).bind fun y1=>(nof' p0 p1 p2 p3 p4 i).bind fun y2=>bif (y1.1.1==y2.1.1) then bif f then let z0:Nat:=e
 some (Sum.inl (c,((p0,p1,p2,p3,p4,(bif (Nat.beq z0 0) then a else p5),(bif (Nat.beq z0 1) then a else p6),(bif (Nat.beq z0 2) then a else p7),(bif (Nat.beq z0 3) then a else p8),(bif (Nat.beq z0 4) then a else p9),(bif (Nat.beq z0 5) then a else p10),(bif (Nat.beq z0 6) then a else p11),(bif (Nat.beq z0 7) then a else p12),(bif (Nat.beq z0 8) then a else p13),(bif (Nat.beq z0 9) then a else p14),(bif (Nat.beq z0 10) then a else p15),(bif (Nat.beq z0 11) then a else p16),(bif (Nat.beq z0 12) then a else p17),(bif (Nat.beq z0 13) then a else p18),(bif (Nat.beq z0 14) then a else p19),(bif (Nat.beq z0 15) then a else p20),(bif (Nat.beq z0 16) then a else p21),(bif (Nat.beq z0 17) then a else p22),(bif (Nat.beq z0 18) then a else p23),(bif (Nat.beq z0 19) then a else p24),(bif (Nat.beq z0 20) then a else p25),(bif (Nat.beq z0 21) then a else p26),(bif (Nat.beq z0 22) then a else p27),(bif (Nat.beq z0 23) then a else p28),(bif (Nat.beq z0 24) then a else p29),(bif (Nat.beq z0 25) then a else p30),(bif (Nat.beq z0 26) then a else p31),(bif (Nat.beq z0 27) then a else p32),(bif (Nat.beq z0 28) then a else p33),(bif (Nat.beq z0 29) then a else p34),(bif (Nat.beq z0 30) then a else p35),(bif (Nat.beq z0 31) then a else p36),(bif (Nat.beq z0 32) then a else p37),(bif (Nat.beq z0 33) then a else p38),(bif (Nat.beq z0 34) then a else p39),(bif (Nat.beq z0 35) then a else p40),()),d))) else none else bif f then bif ((IntKind.i64.wrap ((List.getD [p5,p6,p7,p8,p9,p10,p11,p12,p13,p14,p15,p16,p17,p18,p19,p20,p21,p22,p23,p24,p25,p26,p27,p28,p29,p30,p31,p32,p33,p34,p35,p36,p37,p38,p39,p40] e a) + (1:Int)))==n) then (nqy' p0 p1 p2 p3 p4 i y1.1.1).bind fun y3=>letI g:=y3.2.1.2
 bif f then let z1:Nat:=e
 some (Sum.inl (c,((y3.2.1.1,g.1,g.2.1,g.2.2.1,g.2.2.2.1,(bif (Nat.beq z1 0) then a else p5),(bif (Nat.beq z1 1) then a else p6),(bif (Nat.beq z1 2) then a else p7),(bif (Nat.beq z1 3) then a else p8),(bif (Nat.beq z1 4) then a else p9),(bif (Nat.beq z1 5) then a else p10),(bif (Nat.beq z1 6) then a else p11),(bif (Nat.beq z1 7) then a else p12),(bif (Nat.beq z1 8) then a else p13),(bif (Nat.beq z1 9) then a else p14),(bif (Nat.beq z1 10) then a else p15),(bif (Nat.beq z1 11) then a else p16),(bif (Nat.beq z1 12) then a else p17),(bif (Nat.beq z1 13) then a else p18),(bif (Nat.beq z1 14) then a else p19),(bif (Nat.beq z1 15) then a else p20),(bif (Nat.beq z1 16) then a else p21),(bif (Nat.beq z1 17) then a else p22),(bif (Nat.beq z1 18) then a else p23),(bif (Nat.beq z1 19) then a else p24),(bif (Nat.beq z1 20) then a else p25),(bif (Nat.beq z1 21) then a else p26),(bif (Nat.beq z1 22) then a else p27),(bif (Nat.beq z1 23) then a else p28),(bif (Nat.beq z1 24) then a else p29),(bif (Nat.beq z1 25) then a else p30),(bif (Nat.beq z1 26) then a else p31),(bif (Nat.beq z1 27) then a else p32),(bif (Nat.beq z1 28) then a else p33),(bif (Nat.beq z1 29) then a else p34),(bif (Nat.beq z1 30) then a else p35),(bif (Nat.beq z1 31) then a else p36),(bif (Nat.beq z1 32) then a else p37),(bif (Nat.beq z1 33) then a else p38),(bif (Nat.beq z1 34) then a else p39),(bif (Nat.beq z1 35) then a else p40),()),d))) else none else bif f then let z2:Int:=(IntKind.i64.wrap ((List.getD [p5,p6,p7,p8,p9,p10,p11,p12,p13,p14,p15,p16,p17,p18,p19,p20,p21,p22,p23,p24,p25,p26,p27,p28,p29,p30,p31,p32,p33,p34,p35,p36,p37,p38,p39,p40] e a) + (1:Int)))
 bif f then let z3:Nat:=e
 some (Sum.inl (c,((p0,p1,p2,p3,p4,(bif (Nat.beq z3 0) then z2 else p5),(bif (Nat.beq z3 1) then z2 else p6),(bif (Nat.beq z3 2) then z2 else p7),(bif (Nat.beq z3 3) then z2 else p8),(bif (Nat.beq z3 4) then z2 else p9),(bif (Nat.beq z3 5) then z2 else p10),(bif (Nat.beq z3 6) then z2 else p11),(bif (Nat.beq z3 7) then z2 else p12),(bif (Nat.beq z3 8) then z2 else p13),(bif (Nat.beq z3 9) then z2 else p14),(bif (Nat.beq z3 10) then z2 else p15),(bif (Nat.beq z3 11) then z2 else p16),(bif (Nat.beq z3 12) then z2 else p17),(bif (Nat.beq z3 13) then z2 else p18),(bif (Nat.beq z3 14) then z2 else p19),(bif (Nat.beq z3 15) then z2 else p20),(bif (Nat.beq z3 16) then z2 else p21),(bif (Nat.beq z3 17) then z2 else p22),(bif (Nat.beq z3 18) then z2 else p23),(bif (Nat.beq z3 19) then z2 else p24),(bif (Nat.beq z3 20) then z2 else p25),(bif (Nat.beq z3 21) then z2 else p26),(bif (Nat.beq z3 22) then z2 else p27),(bif (Nat.beq z3 23) then z2 else p28),(bif (Nat.beq z3 24) then z2 else p29),(bif (Nat.beq z3 25) then z2 else p30),(bif (Nat.beq z3 26) then z2 else p31),(bif (Nat.beq z3 27) then z2 else p32),(bif (Nat.beq z3 28) then z2 else p33),(bif (Nat.beq z3 29) then z2 else p34),(bif (Nat.beq z3 30) then z2 else p35),(bif (Nat.beq z3 31) then z2 else p36),(bif (Nat.beq z3 32) then z2 else p37),(bif (Nat.beq z3 33) then z2 else p38),(bif (Nat.beq z3 34) then z2 else p39),(bif (Nat.beq z3 35) then z2 else p40),()),d))) else none else none else none else some (Sum.inr (((),(),()),((p0,p1,p2,p3,p4,p5,p6,p7,p8,p9,p10,p11,p12,p13,p14,p15,p16,p17,p18,p19,p20,p21,p22,p23,p24,p25,p26,p27,p28,p29,p30,p31,p32,p33,p34,p35,p36,p37,p38,p39,p40,()),b)))
noncomputable def nqi':(T'63×T'64)→Option ((Unit×Unit×Unit)×(T'58×T'58×Unit)):=iter (fun x=>letI v:=x.2.2; letI m:=v.2.1.2; letI w:=m.2.2; letI e:=w.2.2.2.2; letI ah:=e.2.2; letI k:=ah.2.2.2; letI aa:=k.2.2; letI a:=aa.2.2.2.2; letI o:=x.2.1.2.2.2; letI ad:=o.2.2; letI f:=ad.2.2.2; letI ae:=f.2.2; letI h:=ae.2.2.2; letI r:=h.2.2; letI b:=r.2.2.2.2; letI n:=a.2.2.2.2; letI ab:=n.2.2; letI c:=ab.2.2.2.2; letI l:=b.2.2.2.2; letI s:=l.2.2; letI d:=s.2.2.2.2; letI ai:=c.2.2; letI g:=ai.2.2.2; letI af:=d.2.2; letI j:=af.2.2.2; letI q:=g.2.2.2; letI u:=j.2.2; letI ag:=v.1.2; nuy' x.1.1 x.1.2.2.2.2.1 x.2.1.1 x.2.1.2.1 x.2.1.2.2.1 o.1 o.2.1 ad.1 ad.2.1 ad.2.2.1 f.1 f.2.1 ae.1 ae.2.1 ae.2.2.1 h.1 h.2.1 r.1 r.2.1 r.2.2.1 r.2.2.2.1 b.1 b.2.1 b.2.2.1 b.2.2.2.1 l.1 l.2.1 s.1 s.2.1 s.2.2.1 s.2.2.2.1 d.1 d.2.1 af.1 af.2.1 af.2.2.1 j.1 j.2.1 u.1 u.2.1 u.2.2.1 u.2.2.2.1 u.2.2.2.2.1 v.1.1 ag.1 ag.2.1 ag.2.2.1 ag.2.2.2.1 v.2.1.1 m.1 m.2.1 w.1 w.2.1 w.2.2.1 w.2.2.2.1 e.1 e.2.1 ah.1 ah.2.1 ah.2.2.1 k.1 k.2.1 aa.1 aa.2.1 aa.2.2.1 aa.2.2.2.1 a.1 a.2.1 a.2.2.1 a.2.2.2.1 n.1 n.2.1 ab.1 ab.2.1 ab.2.2.1 ab.2.2.2.1 c.1 c.2.1 ai.1 ai.2.1 ai.2.2.1 g.1 g.2.1 g.2.2.1 q.1 q.2.1 q.2.2.1 q.2.2.2.1 q.2.2.2.2.1) fuel
noncomputable def nps' (n p0:Int) (p1 p2 p3 p4:Bool) (p5 p6 p7 p8 p9 p10 p11 p12 p13 p14 p15 p16 p17 p18 p19 p20 p21 p22 p23 p24 p25 p26 p27 p28 p29 p30 p31 p32 p33 p34 p35 p36 p37 p38 p39 p40 p41:Int) (p42 p43 p44 p45:Bool):Option ((Unit×Int×Unit)×(T'58×Unit)):=
 letI a:=(0:Int)
 letI b:=((a,false,false,false,false,a,a,a,a,a,a,a,a,a,a,a,a,a,a,a,a,a,a,a,a,a,a,a,a,a,a,a,a,a,a,a,a,a,a,a,a,()),())
 (nhm' n p0 p1 p2 p3 p4 p5 p6 p7 p8 p9 p10 p11 p12 p13 p14 p15 p16 p17 p18 p19 p20 p21 p22 p23 p24 p25 p26 p27 p28 p29 p30 p31 p32 p33 p34 p35 p36 p37 p38 p39 p40).bind fun y1=>bif (! y1.1.1) then some (((),(1:Int),()),b) else (nqi' ((n,(),(),(),a,()),((p0,p1,p2,p3,p4,p5,p6,p7,p8,p9,p10,p11,p12,p13,p14,p15,p16,p17,p18,p19,p20,p21,p22,p23,p24,p25,p26,p27,p28,p29,p30,p31,p32,p33,p34,p35,p36,p37,p38,p39,p40,()),(p41,p42,p43,p44,p45,()),b))).bind fun y2=>some (((),a,()),(y2.2.1,()))
noncomputable def nny' (p0 p1 p2 p3:Int) (p4 p5 p6:Nat) (p7:List Car) (x_1:Nat):Option ((Int×Unit)×Unit):=
 letI a:=(FloatKind.format FloatKind.f64).order
 letI b:=(((0:Int),()),())
 letI c:=a x_1
 (n3' p0 p1 p2 p3 p4 p5 p6 p7).bind fun y1=>bif (y1.1.1 != (0:Int)) then some b else bif ((c x_1) != some Ordering.eq) then some b else bif ((c 0)==some Ordering.lt) then some b else bif ((c p4)==some Ordering.lt) then some (((1:Int),()),()) else bif ((c p5)==some Ordering.lt) then some (((2:Int),()),()) else bif ((c p6)==some Ordering.lt) then some (((3:Int),()),()) else some (((4:Int),()),())
noncomputable def no4' (p0 p1 p2 p3:Int) (p4 p5 p6:Nat) (p7:List Car) (p8:Int) (x_1:Nat):Option ((Unit×Unit)×((Int×Unit)×Unit)):=
 letI j:=(((0:Int),()),())
 letI a:=((p0,p1,p2,p3,p4,p5,p6,p7,()),(p8,()),j)
 letI f:=(FloatKind.format FloatKind.f64).order
 letI g:=arF BinOp.sub FloatKind.f64
 letI h:=((),())
 (nny' p0 p1 p2 p3 p4 p5 p6 p7 x_1).bind fun y1=>letI d:=((x_1,(),(),(),y1.1.1,false,()),a)
 bif (y1.1.1==(0:Int)) then some (h,j) else Option.bind (bif (p8==(3:Int)) then bif (decide (y1.1.1 < (3:Int))) then (g p5 4589168020290535424).bind fun y2=>some ((x_1,(),(),(),y1.1.1,(! ((f x_1 y2)==some Ordering.lt)),()),a) else some d else some d) fun y3=>letI k:=y3.2.2.1.1
 letI b:=((k,()),(y3.2.2.2.1.1,()),())
 letI c:=y3.1.2.2.2.2
 letI e:=(((),(),c.1,false,()),b)
 bif c.2.1 then some (h,((k,()),())) else Option.bind (bif (k==(4:Int)) then bif (decide (c.1 < (4:Int))) then (g y3.2.1.2.2.2.2.2.2.1 4589168020290535424).bind fun y4=>some (((),(),c.1,(! ((f y3.1.1 y4)==some Ordering.lt)),()),b) else some e else some e) fun y5=>bif y5.1.2.2.2.1 then some (h,((y5.2.1.1,()),())) else some (h,((y5.1.2.2.1,()),()))
end Go.Ovl
