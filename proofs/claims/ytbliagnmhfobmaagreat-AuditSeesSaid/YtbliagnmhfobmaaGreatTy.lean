/- The records of the program. -/
import Derived.Test.YtbliagnmhfobmaaGreatAbE
import Derived.Test.YtbliagnmhfobmaaGreatAbH
namespace Go.Ovl
open Go Go.Ab
def textU (l:List Int):ByteArray:=⟨(l.map fun n=>UInt8.ofNat n.toNat).toArray⟩
structure CarOutput where
 T0:Int
 R0:Int
 D1:Bool
 T1:Int
 H1:Int
 O3:Bool
 D2:Int
 W0:Int
 P3:Bool
structure Car where
 S1:Int
 C3:Int
 G3:Int
 O2:Int
 M3:Int
 V2:Int
 U2:Int
 L3:Int
 Q3:Int
structure Entry where
 C0:Int
 G0:Int
 O0:Int
 V0:Int
 Q1:Bool
structure Debounced where
 Z0:Int
 V1:Bool
 L1:Bool
 M1:Bool
 F1:Bool
 U4:Int
 V4:Int
 X4:Int
 Y4:Int
 Z4:Int
 A5:Int
 B5:Int
 C5:Int
 D5:Int
 E5:Int
 R3:Int
 T3:Int
 U3:Int
 V3:Int
 X3:Int
 Y3:Int
 Z3:Int
 A4:Int
 B4:Int
 C4:Int
 D4:Int
 E4:Int
 F4:Int
 G4:Int
 H4:Int
 I4:Int
 J4:Int
 K4:Int
 L4:Int
 M4:Int
 N4:Int
 O4:Int
 P4:Int
 Q4:Int
 R4:Int
 S4:Int
structure Duty where
 C0:Int
 G0:Int
 H5:Int
structure Belief where
 C0:Int
 G0:Int
 Z2:Int
 M0:List Duty
 R2:Int
 Y2:Bool
structure NewCar where
 K2:Int
 B2:Int
 O1:Int
 N2:Int
 G2:Int
 P2:Bool
 H2:Int
 G1:Int
 X1:Int
 E1:Int
 N1:Int
 K3:Int
 T4:Int
 N3:Bool
structure Loaded where
 F5:Int
structure Calls where
 Up:Int
 G5:Int
structure Outputs where
 I1:Int
 A1:Int
 B1:Int
 X0:Int
 D3:Bool
 K0:Bool
 C2:Int
 A0:List CarOutput
structure CarInput where
 Z0:Int
 V1:Bool
 L1:Bool
 M1:Bool
 F1:Bool
 R1:Int
 L2:Bool
 Y1:Int
 M2:Bool
 N1:Int
 H3:Nat
structure Record where
 U0:Int
 C0:Int
 G0:Int
 O0:Int
 U1:Int
structure T2_int where
 f0:Int
 f1:Int
structure View where
 J2:Bool
 E3:Bool
 F3:Bool
 J3:Bool
 C0:Int
 G0:Int
 H3:Int
 A3:Int
 T2:Int
 X2:Int
 I2:Int
 Z1:Int
structure r27_ticker where
 b_Floors:Int
 b_Debounce:Int
 b_Room:Int
 b_Park:Int
 b_Empty:Nat
 b_Full:Nat
 b_Over:Nat
 b_Cars:List Car
 m_Image_Phases:List Int
 m_Image_Flags:List Bool
 m_Image_Leaving:List Bool
 m_Image_Entries:List Entry
 m_Store_Halves_0:ByteArray
 m_Store_Halves_1:ByteArray
 m_Store_Select:Int
 m_Contacts:List Debounced
 m_Beliefs:List Belief
 m_Cars:List NewCar
 m_Loads:List Loaded
 m_Expect:List Int
 m_Lit:List Calls
 m_Tick:Int
 m_Faults:Int
 m_Refused:Int
 x_Press_Up:Int
 x_Press_Down:Int
 x_Command_Kind:Int
 x_Command_Car:Int
 x_Cars:List CarInput
 good:Bool
 shows:List Calls
 was:List Int
 cmds:List Int
 budget:Int
 e:Int
 out_Lamps_Up:Int
 out_Lamps_Down:Int
 out_Served_Up:Int
 out_Served_Down:Int
 out_Bad:Bool
 out_Full:Bool
 out_Status:Int
 out_Cars:List CarOutput
end Go.Ovl
