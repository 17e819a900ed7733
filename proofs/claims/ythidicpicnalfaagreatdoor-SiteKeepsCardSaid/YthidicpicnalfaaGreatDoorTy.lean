import Derived.Test.YthidicpicnalfaaGreatDoorAbC
import Derived.Test.YthidicpicnalfaaGreatDoorAbH
set_option linter.all false
namespace Go.Ovl
open Go Go.Ab
def FC(l:List Int):ByteArray:=⟨(l.map λn=>UInt8.ofNat n.toNat).toArray⟩
structure Car where
 K1:Int
 N3:Int
 T3:Int
 B3:Int
 V1:Int
 B1:Int
 F1:Int
 P3:Int
 H4:Int
structure Entry where
 D0:Int
 H0:Int
 X0:Int
 B2:Int
 Y2:Bool
structure Debounced where
 H1:Int
 T2:Bool
 G2:Bool
 H2:Bool
 U1:Bool
 R5:Int
 S5:Int
 T5:Int
 U5:Int
 V5:Int
 W5:Int
 X5:Int
 Y5:Int
 Z5:Int
 A6:Int
 N4:Int
 O4:Int
 P4:Int
 R4:Int
 S4:Int
 T4:Int
 U4:Int
 V4:Int
 W4:Int
 X4:Int
 Y4:Int
 Z4:Int
 A5:Int
 B5:Int
 C5:Int
 E5:Int
 F5:Int
 G5:Int
 H5:Int
 I5:Int
 J5:Int
 K5:Int
 L5:Int
 M5:Int
 N5:Int
 O5:Int
structure Duty where
 D0:Int
 H0:Int
 U3:Int
structure Belief where
 D0:Int
 H0:Int
 Y0:Int
 V0:List Duty
 I3:Int
 Y3:Bool
structure NewCar where
 X1:Int
 L1:Int
 U0:Int
 I1:Int
 J1:Int
 N1:Bool
 G1:Int
 N0:Int
 W0:Int
 S0:Int
 N2:Int
 D3:Int
 O3:Int
 K2:Bool
structure Loaded where
 B6:Int
structure Calls where
 Up:Int
 C4:Int
structure Relay where
 R1:Int
 D0:Int
 H0:Int
 I2:Int
 Y0:Int
 M2:Int
 P1:Int
 D1:Int
 X0:Int
structure Rig where
 D0:Int
 R2:Int
 Y1:Int
 Y0:Int
 Z3:Int
 G3:Int
structure CarOutput where
 M1:Int
 E1:Int
 C3:Bool
 E3:Int
 X2:Int
 P5:Bool
 T1:Int
 V2:Int
 K4:Bool
structure CarInput where
 H1:Int
 T2:Bool
 G2:Bool
 H2:Bool
 U1:Bool
 D2:Int
 J2:Bool
 Z1:Int
 A3:Bool
 N2:Int
 D4:Nat
structure Record where
 C1:Int
 D0:Int
 H0:Int
 X0:Int
 P2:Int
structure View where
 B4:Bool
 R3:Bool
 V3:Bool
 G4:Bool
 D0:Int
 H0:Int
 D4:Int
 A4:Int
 J3:Int
 H3:Int
 L2:Int
 E2:Int
structure newcar_control where
 b_Floors:Int
 b_Debounce:Int
 b_Room:Int
 b_Park:Int
 b_Empty:Nat
 b_Full:Nat
 b_Over:Nat
 b_Cars:List Car
 car:Int
 s_Sweep_Dir:Int
 s_Sweep_Opened:Int
 s_Door_Stage:Int
 s_Door_Time:Int
 s_Door_Since:Int
 s_Door_Nudge:Bool
 s_Door_Cycles:Int
 s_Motion_Command:Int
 s_Motion_Time:Int
 s_Motion_Floor:Int
 s_Calls:Int
 s_Shown:Int
 s_Idle:Int
 s_Fault:Bool
 fb_Floor:Int
 fb_Level:Bool
 fb_Door:Int
 fb_Block:Bool
 command:Int
structure machine_ticker where
 b_Floors:Int
 b_Debounce:Int
 b_Room:Int
 b_Park:Int
 b_Empty:Nat
 b_Full:Nat
 b_Over:Nat
 b_Cars:List Car
 m_Image_Phases:List Int
 m_Image_Flags:List Bool
 m_Image_Leaving:List Bool
 m_Image_Entries:List Entry
 m_Store_Halves_0:ByteArray
 m_Store_Halves_1:ByteArray
 m_Store_Select:Int
 m_Contacts:List Debounced
 m_Beliefs:List Belief
 m_Cars:List NewCar
 m_Loads:List Loaded
 m_Expect:List Int
 m_Lit:List Calls
 m_Tick:Int
 m_Faults:Int
 m_Refused:Int
 x_Press_Up:Int
 x_Press_Down:Int
 x_Command_Kind:Int
 x_Command_Car:Int
 x_Cars:List CarInput
 good:Bool
 budget:Int
 failed:Int
 legacy:List Bool
 shows:List Calls
 reset:List Bool
 out_Lamps_Up:Int
 out_Lamps_Down:Int
 out_Served_Up:Int
 out_Served_Down:Int
 out_Bad:Bool
 out_Full:Bool
 out_Status:Int
 out_Cars:List CarOutput
structure Outputs where
 E6:Int
 C6:Int
 L4:Int
 I4:Int
 F6:Bool
 M0:Bool
 D6:Int
 A0:List CarOutput
end Go.Ovl
