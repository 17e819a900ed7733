import Derived.Test.YtdcogldfolpijaaGreatDoorAbC
import Derived.Test.YtdcogldfolpijaaGreatDoorAbH
set_option linter.all false
namespace Go.Ovl
open Go Go.Ab
def JL(l:List Int):ByteArray:=⟨(l.map λn=>UInt8.ofNat n.toNat).toArray⟩
structure Car where
 G0:Int
 S0:Int
 U0:Int
 O0:Int
 W0:Int
 J0:Int
 H0:Int
 T0:Int
 E1:Int
structure Event where
 K0:Int
 D0:Int
 E0:Int
 Q0:Int
 N:Int
structure Entry where
 D0:Int
 E0:Int
 Q0:Int
 B2:Int
 C2:Bool
structure Debounced where
 C1:Int
 Q1:Bool
 G1:Bool
 H1:Bool
 D1:Bool
 M4:Int
 N4:Int
 O4:Int
 P4:Int
 Q4:Int
 R4:Int
 S4:Int
 T4:Int
 U4:Int
 V4:Int
 I3:Int
 J3:Int
 K3:Int
 L3:Int
 M3:Int
 N3:Int
 O3:Int
 Q3:Int
 R3:Int
 T3:Int
 U3:Int
 V3:Int
 X3:Int
 Y3:Int
 Z3:Int
 A4:Int
 B4:Int
 C4:Int
 D4:Int
 E4:Int
 F4:Int
 G4:Int
 H4:Int
 I4:Int
 J4:Int
 K4:Int
structure Duty where
 D0:Int
 E0:Int
 L4:Int
structure Belief where
 D0:Int
 E0:Int
 T1:Int
 I2:List Duty
 Q2:Int
 U2:Bool
structure NewCar where
 J2:Int
 R1:Int
 D2:Int
 K2:Int
 E2:Int
 G2:Bool
 V1:Int
 I1:Int
 X1:Int
 S1:Int
 N2:Int
 A3:Int
 D3:Int
 Y2:Bool
structure Loaded where
 E3:Int
structure Calls where
 Up:Int
 W4:Int
structure Relay where
 F3:Int
 D0:Int
 E0:Int
 B3:Int
 T1:Int
 X4:Int
 Z2:Int
 R2:Int
 Q0:Int
structure Rig where
 D0:Int
 C3:Int
 Y4:Int
 T1:Int
 Z4:Int
 G3:Int
structure Line where
 C5:Int
 A5:ByteArray
structure script_form where
 words:ByteArray
 event_Kind:Int
 event_Floor:Int
 event_Dir:Int
 event_Car:Int
 event_N:Int
structure CarOutput where
 V0:Int
 R0:Int
 Y0:Bool
 F1:Int
 Z0:Int
 V2:Bool
 L2:Int
 Y1:Int
 X2:Bool
structure CarInput where
 C1:Int
 Q1:Bool
 G1:Bool
 H1:Bool
 D1:Bool
 J1:Int
 K1:Bool
 M1:Int
 L1:Bool
 N2:Int
 M2:Nat
structure Record where
 K0:Int
 D0:Int
 E0:Int
 Q0:Int
 H3:Int
structure View where
 O2:Bool
 H2:Bool
 U1:Bool
 T2:Bool
 D0:Int
 E0:Int
 M2:Int
 Z1:Int
 N1:Int
 O1:Int
 B1:Int
 X0:Int
structure newcar_control where
 b_Floors:Int
 b_Debounce:Int
 b_Room:Int
 b_Park:Int
 b_Empty:Nat
 b_Full:Nat
 b_Over:Nat
 b_Cars:List Car
 car:Int
 s_Sweep_Dir:Int
 s_Sweep_Opened:Int
 s_Door_Stage:Int
 s_Door_Time:Int
 s_Door_Since:Int
 s_Door_Nudge:Bool
 s_Door_Cycles:Int
 s_Motion_Command:Int
 s_Motion_Time:Int
 s_Motion_Floor:Int
 s_Calls:Int
 s_Shown:Int
 s_Idle:Int
 s_Fault:Bool
 fb_Floor:Int
 fb_Level:Bool
 fb_Door:Int
 fb_Block:Bool
 command:Int
structure machine_ticker where
 b_Floors:Int
 b_Debounce:Int
 b_Room:Int
 b_Park:Int
 b_Empty:Nat
 b_Full:Nat
 b_Over:Nat
 b_Cars:List Car
 m_Image_Phases:List Int
 m_Image_Flags:List Bool
 m_Image_Leaving:List Bool
 m_Image_Entries:List Entry
 m_Store_Halves_0:ByteArray
 m_Store_Halves_1:ByteArray
 m_Store_Select:Int
 m_Contacts:List Debounced
 m_Beliefs:List Belief
 m_Cars:List NewCar
 m_Loads:List Loaded
 m_Expect:List Int
 m_Lit:List Calls
 m_Tick:Int
 m_Faults:Int
 m_Refused:Int
 x_Press_Up:Int
 x_Press_Down:Int
 x_Command_Kind:Int
 x_Command_Car:Int
 x_Cars:List CarInput
 good:Bool
 budget:Int
 failed:Int
 legacy:List Bool
 shows:List Calls
 reset:List Bool
 out_Lamps_Up:Int
 out_Lamps_Down:Int
 out_Served_Up:Int
 out_Served_Down:Int
 out_Bad:Bool
 out_Full:Bool
 out_Status:Int
 out_Cars:List CarOutput
structure Outputs where
 D5:Int
 E5:Int
 F5:Int
 G5:Int
 H5:Bool
 M0:Bool
 I5:Int
 C0:List CarOutput
end Go.Ovl
