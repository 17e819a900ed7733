import Derived.Test.YtgjkjlidboolgaaGreatDoorAbC
import Derived.Test.YtgjkjlidboolgaaGreatDoorAbH
set_option linter.all false
namespace Go.Ovl
open Go Go.Ab
def EF(l:List Int):ByteArray:=⟨(l.map λn=>UInt8.ofNat n.toNat).toArray⟩
structure Car where
 C1:Int
 C3:Int
 H3:Int
 J2:Int
 T2:Int
 J1:Int
 Q1:Int
 E3:Int
 D4:Int
structure Entry where
 D0:Int
 H0:Int
 R0:Int
 D1:Int
 D2:Bool
structure Debounced where
 H1:Int
 V2:Bool
 K2:Bool
 L2:Bool
 U1:Bool
 T5:Int
 U5:Int
 V5:Int
 X5:Int
 Y5:Int
 Z5:Int
 A6:Int
 B6:Int
 C6:Int
 D6:Int
 P4:Int
 Q4:Int
 R4:Int
 S4:Int
 T4:Int
 U4:Int
 V4:Int
 X4:Int
 Y4:Int
 Z4:Int
 A5:Int
 B5:Int
 C5:Int
 E5:Int
 F5:Int
 G5:Int
 H5:Int
 I5:Int
 K5:Int
 L5:Int
 M5:Int
 N5:Int
 O5:Int
 Q5:Int
 R5:Int
 S5:Int
structure Duty where
 D0:Int
 H0:Int
 N4:Int
structure Belief where
 D0:Int
 H0:Int
 G1:Int
 V0:List Duty
 I3:Int
 Z3:Bool
structure NewCar where
 T1:Int
 F1:Int
 X0:Int
 M1:Int
 I1:Int
 L1:Bool
 E1:Int
 T0:Int
 W0:Int
 S0:Int
 M2:Int
 J3:Int
 Y3:Int
 Q3:Bool
structure Loaded where
 F6:Int
structure Calls where
 Up:Int
 B4:Int
structure Relay where
 V3:Int
 D0:Int
 H0:Int
 D3:Int
 G1:Int
 F4:Int
 N2:Int
 B2:Int
 R0:Int
structure Rig where
 D0:Int
 X2:Int
 I4:Int
 G1:Int
 O4:Int
 E4:Int
structure CarOutput where
 B1:Int
 Y0:Int
 R1:Bool
 I2:Int
 S1:Int
 J4:Bool
 G2:Int
 V1:Int
 L4:Bool
structure CarInput where
 H1:Int
 V2:Bool
 K2:Bool
 L2:Bool
 U1:Bool
 H2:Int
 Q2:Bool
 E2:Int
 Z2:Bool
 M2:Int
 A4:Nat
structure Outputs where
 G4:Int
 X3:Int
 F3:Int
 R2:Int
 G6:Bool
 L0:Bool
 M4:Int
 B0:List CarOutput
structure Record where
 Q0:Int
 D0:Int
 H0:Int
 R0:Int
 X1:Int
structure View where
 L3:Bool
 O3:Bool
 R3:Bool
 C4:Bool
 D0:Int
 H0:Int
 A4:Int
 U3:Int
 B3:Int
 Y2:Int
 Z1:Int
 N1:Int
structure newcar_control where
 b_Floors:Int
 b_Debounce:Int
 b_Room:Int
 b_Park:Int
 b_Empty:Nat
 b_Full:Nat
 b_Over:Nat
 b_Cars:List Car
 car:Int
 s_Sweep_Dir:Int
 s_Sweep_Opened:Int
 s_Door_Stage:Int
 s_Door_Time:Int
 s_Door_Since:Int
 s_Door_Nudge:Bool
 s_Door_Cycles:Int
 s_Motion_Command:Int
 s_Motion_Time:Int
 s_Motion_Floor:Int
 s_Calls:Int
 s_Shown:Int
 s_Idle:Int
 s_Fault:Bool
 fb_Floor:Int
 fb_Level:Bool
 fb_Door:Int
 fb_Block:Bool
 command:Int
structure machine_ticker where
 b_Floors:Int
 b_Debounce:Int
 b_Room:Int
 b_Park:Int
 b_Empty:Nat
 b_Full:Nat
 b_Over:Nat
 b_Cars:List Car
 m_Image_Phases:List Int
 m_Image_Flags:List Bool
 m_Image_Leaving:List Bool
 m_Image_Entries:List Entry
 m_Store_Halves_0:ByteArray
 m_Store_Halves_1:ByteArray
 m_Store_Select:Int
 m_Contacts:List Debounced
 m_Beliefs:List Belief
 m_Cars:List NewCar
 m_Loads:List Loaded
 m_Expect:List Int
 m_Lit:List Calls
 m_Tick:Int
 m_Faults:Int
 m_Refused:Int
 x_Press_Up:Int
 x_Press_Down:Int
 x_Command_Kind:Int
 x_Command_Car:Int
 x_Cars:List CarInput
 good:Bool
 budget:Int
 failed:Int
 legacy:List Bool
 shows:List Calls
 reset:List Bool
 out_Lamps_Up:Int
 out_Lamps_Down:Int
 out_Served_Up:Int
 out_Served_Down:Int
 out_Bad:Bool
 out_Full:Bool
 out_Status:Int
 out_Cars:List CarOutput
end Go.Ovl
