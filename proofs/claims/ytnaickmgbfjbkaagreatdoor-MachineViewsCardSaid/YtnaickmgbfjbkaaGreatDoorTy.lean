import Derived.Test.YtnaickmgbfjbkaaGreatDoorAbC
import Derived.Test.YtnaickmgbfjbkaaGreatDoorAbH
set_option linter.all false
namespace Go.Ovl
open Go Go.Ab
def KF(l:List Int):ByteArray:=⟨(l.map λn=>UInt8.ofNat n.toNat).toArray⟩
structure Feedback where
 C0:Int
 L5:Bool
 K2:Int
 P5:Bool
structure Car where
 T1:Int
 A3:Int
 E3:Int
 P2:Int
 M4:Int
 Y2:Int
 U2:Int
 G3:Int
 C5:Int
structure Entry where
 C0:Int
 G0:Int
 U0:Int
 X0:Int
 N1:Bool
structure Debounced where
 Y0:Int
 B2:Bool
 L1:Bool
 M1:Bool
 F1:Bool
 R4:Int
 S4:Int
 T4:Int
 U4:Int
 V4:Int
 W4:Int
 X4:Int
 Y4:Int
 Z4:Int
 A5:Int
 I3:Int
 J3:Int
 K3:Int
 L3:Int
 M3:Int
 N3:Int
 O3:Int
 P3:Int
 R3:Int
 T3:Int
 U3:Int
 V3:Int
 X3:Int
 Y3:Int
 Z3:Int
 A4:Int
 B4:Int
 C4:Int
 D4:Int
 E4:Int
 F4:Int
 G4:Int
 H4:Int
 I4:Int
 J4:Int
 K4:Int
structure Duty where
 C0:Int
 G0:Int
 I5:Int
structure Belief where
 C0:Int
 G0:Int
 K2:Int
 K0:List Duty
 M2:Int
 V2:Bool
structure NewCar where
 R1:Int
 H1:Int
 C1:Int
 V1:Int
 O1:Int
 Z1:Bool
 P1:Int
 V0:Int
 Z0:Int
 S0:Int
 I1:Int
 R2:Int
 L4:Int
 F3:Bool
structure Loaded where
 F5:Int
structure Calls where
 Up:Int
 H5:Int
structure CarInput where
 Y0:Int
 B2:Bool
 L1:Bool
 M1:Bool
 F1:Bool
 S1:Int
 E2:Bool
 U1:Int
 G2:Bool
 I1:Int
 X2:Nat
structure View where
 O2:Bool
 L2:Bool
 N2:Bool
 B3:Bool
 C0:Int
 G0:Int
 X2:Int
 I2:Int
 X1:Int
 D2:Int
 G1:Int
 D1:Int
structure CarOutput where
 Z2:Int
 T2:Int
 N4:Bool
 D5:Int
 O4:Int
 M5:Bool
 J5:Int
 K5:Int
 N5:Bool
structure Outputs where
 E5:Int
 P4:Int
 B5:Int
 H3:Int
 O5:Bool
 N0:Bool
 G5:Int
 B0:List CarOutput
structure Record where
 B1:Int
 C0:Int
 G0:Int
 U0:Int
 H2:Int
structure r27_ticker where
 b_Floors:Int
 b_Debounce:Int
 b_Room:Int
 b_Park:Int
 b_Empty:Nat
 b_Full:Nat
 b_Over:Nat
 b_Cars:List Car
 m_Image_Phases:List Int
 m_Image_Flags:List Bool
 m_Image_Leaving:List Bool
 m_Image_Entries:List Entry
 m_Store_Halves_0:ByteArray
 m_Store_Halves_1:ByteArray
 m_Store_Select:Int
 m_Contacts:List Debounced
 m_Beliefs:List Belief
 m_Cars:List NewCar
 m_Loads:List Loaded
 m_Expect:List Int
 m_Lit:List Calls
 m_Tick:Int
 m_Faults:Int
 m_Refused:Int
 x_Press_Up:Int
 x_Press_Down:Int
 x_Command_Kind:Int
 x_Command_Car:Int
 x_Cars:List CarInput
 good:Bool
 shows:List Calls
 was:List Int
 cmds:List Int
 budget:Int
 e:Int
 out_Lamps_Up:Int
 out_Lamps_Down:Int
 out_Served_Up:Int
 out_Served_Down:Int
 out_Bad:Bool
 out_Full:Bool
 out_Status:Int
 out_Cars:List CarOutput
structure newcar_control where
 b_Floors:Int
 b_Debounce:Int
 b_Room:Int
 b_Park:Int
 b_Empty:Nat
 b_Full:Nat
 b_Over:Nat
 b_Cars:List Car
 car:Int
 s_Sweep_Dir:Int
 s_Sweep_Opened:Int
 s_Door_Stage:Int
 s_Door_Time:Int
 s_Door_Since:Int
 s_Door_Nudge:Bool
 s_Door_Cycles:Int
 s_Motion_Command:Int
 s_Motion_Time:Int
 s_Motion_Floor:Int
 s_Calls:Int
 s_Shown:Int
 s_Idle:Int
 s_Fault:Bool
 fb_Floor:Int
 fb_Level:Bool
 fb_Door:Int
 fb_Block:Bool
 command:Int
structure machine_ticker where
 b_Floors:Int
 b_Debounce:Int
 b_Room:Int
 b_Park:Int
 b_Empty:Nat
 b_Full:Nat
 b_Over:Nat
 b_Cars:List Car
 m_Image_Phases:List Int
 m_Image_Flags:List Bool
 m_Image_Leaving:List Bool
 m_Image_Entries:List Entry
 m_Store_Halves_0:ByteArray
 m_Store_Halves_1:ByteArray
 m_Store_Select:Int
 m_Contacts:List Debounced
 m_Beliefs:List Belief
 m_Cars:List NewCar
 m_Loads:List Loaded
 m_Expect:List Int
 m_Lit:List Calls
 m_Tick:Int
 m_Faults:Int
 m_Refused:Int
 x_Press_Up:Int
 x_Press_Down:Int
 x_Command_Kind:Int
 x_Command_Car:Int
 x_Cars:List CarInput
 good:Bool
 budget:Int
 failed:Int
 legacy:List Bool
 shows:List Calls
 reset:List Bool
 out_Lamps_Up:Int
 out_Lamps_Down:Int
 out_Served_Up:Int
 out_Served_Down:Int
 out_Bad:Bool
 out_Full:Bool
 out_Status:Int
 out_Cars:List CarOutput
end Go.Ovl
