import Derived.Test.YtefkhaccplcieaaGreatDoorAbE
import Derived.Test.YtefkhaccplcieaaGreatDoorAbH
set_option linter.all false
namespace Go.Ovl
open Go Go.Ab
def Hu(l:List Int):ByteArray:=⟨(l.map λn=>UInt8.ofNat n.toNat).toArray⟩
structure Car where
 I1:Int
 L3:Int
 Q3:Int
 K2:Int
 T3:Int
 N2:Int
 M2:Int
 U3:Int
 D4:Int
structure Entry where
 D0:Int
 I0:Int
 R0:Int
 Z0:Int
 R1:Bool
structure Debounced where
 V0:Int
 I2:Bool
 T1:Bool
 U1:Bool
 D1:Bool
 H5:Int
 I5:Int
 K5:Int
 L5:Int
 M5:Int
 N5:Int
 O5:Int
 Q5:Int
 R5:Int
 S5:Int
 F4:Int
 G4:Int
 H4:Int
 I4:Int
 J4:Int
 K4:Int
 L4:Int
 M4:Int
 N4:Int
 O4:Int
 P4:Int
 Q4:Int
 R4:Int
 S4:Int
 T4:Int
 U4:Int
 V4:Int
 X4:Int
 Y4:Int
 Z4:Int
 A5:Int
 B5:Int
 C5:Int
 E5:Int
 F5:Int
 G5:Int
structure Duty where
 D0:Int
 I0:Int
 E4:Int
structure Belief where
 D0:Int
 I0:Int
 F3:Int
 W0:List Duty
 Z2:Int
 R3:Bool
structure NewCar where
 V1:Int
 F1:Int
 Y0:Int
 N1:Int
 H1:Int
 K1:Bool
 E1:Int
 T0:Int
 X0:Int
 S0:Int
 E2:Int
 A3:Int
 O3:Int
 E3:Bool
structure Loaded where
 V5:Int
structure Calls where
 Up:Int
 X3:Int
structure CarOutput where
 G1:Int
 C1:Int
 X1:Bool
 J2:Int
 Z1:Int
 B4:Bool
 V2:Int
 G2:Int
 C4:Bool
structure CarInput where
 V0:Int
 I2:Bool
 T1:Bool
 U1:Bool
 D1:Bool
 M1:Int
 Y1:Bool
 L1:Int
 H2:Bool
 E2:Int
 I3:Nat
structure Outputs where
 Y3:Int
 N3:Int
 X2:Int
 L2:Int
 X5:Bool
 L0:Bool
 U5:Int
 B0:List CarOutput
structure Record where
 Q0:Int
 D0:Int
 I0:Int
 R0:Int
 S1:Int
structure View where
 B3:Bool
 D3:Bool
 G3:Bool
 V3:Bool
 D0:Int
 I0:Int
 I3:Int
 J3:Int
 T2:Int
 Q2:Int
 D2:Int
 Q1:Int
structure newcar_control where
 b_Floors:Int
 b_Debounce:Int
 b_Room:Int
 b_Park:Int
 b_Empty:Nat
 b_Full:Nat
 b_Over:Nat
 b_Cars:List Car
 car:Int
 s_Sweep_Dir:Int
 s_Sweep_Opened:Int
 s_Door_Stage:Int
 s_Door_Time:Int
 s_Door_Since:Int
 s_Door_Nudge:Bool
 s_Door_Cycles:Int
 s_Motion_Command:Int
 s_Motion_Time:Int
 s_Motion_Floor:Int
 s_Calls:Int
 s_Shown:Int
 s_Idle:Int
 s_Fault:Bool
 fb_Floor:Int
 fb_Level:Bool
 fb_Door:Int
 fb_Block:Bool
 command:Int
structure machine_ticker where
 b_Floors:Int
 b_Debounce:Int
 b_Room:Int
 b_Park:Int
 b_Empty:Nat
 b_Full:Nat
 b_Over:Nat
 b_Cars:List Car
 m_Image_Phases:List Int
 m_Image_Flags:List Bool
 m_Image_Leaving:List Bool
 m_Image_Entries:List Entry
 m_Store_Halves_0:ByteArray
 m_Store_Halves_1:ByteArray
 m_Store_Select:Int
 m_Contacts:List Debounced
 m_Beliefs:List Belief
 m_Cars:List NewCar
 m_Loads:List Loaded
 m_Expect:List Int
 m_Lit:List Calls
 m_Tick:Int
 m_Faults:Int
 m_Refused:Int
 x_Press_Up:Int
 x_Press_Down:Int
 x_Command_Kind:Int
 x_Command_Car:Int
 x_Cars:List CarInput
 good:Bool
 budget:Int
 failed:Int
 legacy:List Bool
 shows:List Calls
 reset:List Bool
 out_Lamps_Up:Int
 out_Lamps_Down:Int
 out_Served_Up:Int
 out_Served_Down:Int
 out_Bad:Bool
 out_Full:Bool
 out_Status:Int
 out_Cars:List CarOutput
end Go.Ovl
