import Derived.Test.YtnfjkodplikhjaaGreatDoorAbC
import Derived.Test.YtnfjkodplikhjaaGreatDoorAbH
set_option linter.all false
namespace Go.Ovl
open Go Go.Ab
def EW(l:List Int):ByteArray:=⟨(l.map λn=>UInt8.ofNat n.toNat).toArray⟩
structure Car where
 D1:Int
 O3:Int
 T3:Int
 L2:Int
 F3:Int
 U1:Int
 V1:Int
 R3:Int
 I4:Int
structure Event where
 R0:Int
 D0:Int
 I0:Int
 S0:Int
 N:Int
structure Entry where
 D0:Int
 I0:Int
 S0:Int
 H1:Int
 Z1:Bool
structure Debounced where
 C1:Int
 X2:Bool
 D2:Bool
 E2:Bool
 R1:Bool
 R5:Int
 S5:Int
 T5:Int
 U5:Int
 V5:Int
 W5:Int
 X5:Int
 Y5:Int
 Z5:Int
 A6:Int
 K4:Int
 L4:Int
 M4:Int
 N4:Int
 O4:Int
 P4:Int
 R4:Int
 S4:Int
 T4:Int
 U4:Int
 V4:Int
 W4:Int
 X4:Int
 Y4:Int
 Z4:Int
 A5:Int
 B5:Int
 C5:Int
 E5:Int
 F5:Int
 G5:Int
 H5:Int
 I5:Int
 J5:Int
 K5:Int
 L5:Int
structure Duty where
 D0:Int
 I0:Int
 P5:Int
structure Belief where
 D0:Int
 I0:Int
 G1:Int
 B1:List Duty
 G3:Int
 A4:Bool
structure NewCar where
 S1:Int
 E1:Int
 X0:Int
 L1:Int
 I1:Int
 K1:Bool
 F1:Int
 U0:Int
 Z0:Int
 V0:Int
 I2:Int
 H3:Int
 V3:Int
 J3:Bool
structure Loaded where
 E6:Int
structure Calls where
 Up:Int
 D4:Int
structure Relay where
 X3:Int
 D0:Int
 I0:Int
 D3:Int
 G1:Int
 N5:Int
 N2:Int
 B2:Int
 S0:Int
structure Rig where
 D0:Int
 B3:Int
 M5:Int
 G1:Int
 B6:Int
 G4:Int
structure Line where
 B4:Int
 J6:ByteArray
structure CarOutput where
 T1:Int
 M1:Int
 J2:Bool
 Y2:Int
 G2:Int
 C6:Bool
 R2:Int
 Y3:Int
 D6:Bool
structure CarInput where
 C1:Int
 X2:Bool
 D2:Bool
 E2:Bool
 R1:Bool
 H2:Int
 T2:Bool
 Y1:Int
 C3:Bool
 I2:Int
 C4:Nat
structure script_form where
 words:ByteArray
 event_Kind:Int
 event_Floor:Int
 event_Dir:Int
 event_Car:Int
 event_N:Int
structure Record where
 R0:Int
 D0:Int
 I0:Int
 S0:Int
 M2:Int
structure View where
 Z3:Bool
 L3:Bool
 N3:Bool
 E4:Bool
 D0:Int
 I0:Int
 C4:Int
 U3:Int
 A3:Int
 Z2:Int
 X1:Int
 N1:Int
structure newcar_control where
 b_Floors:Int
 b_Debounce:Int
 b_Room:Int
 b_Park:Int
 b_Empty:Nat
 b_Full:Nat
 b_Over:Nat
 b_Cars:List Car
 car:Int
 s_Sweep_Dir:Int
 s_Sweep_Opened:Int
 s_Door_Stage:Int
 s_Door_Time:Int
 s_Door_Since:Int
 s_Door_Nudge:Bool
 s_Door_Cycles:Int
 s_Motion_Command:Int
 s_Motion_Time:Int
 s_Motion_Floor:Int
 s_Calls:Int
 s_Shown:Int
 s_Idle:Int
 s_Fault:Bool
 fb_Floor:Int
 fb_Level:Bool
 fb_Door:Int
 fb_Block:Bool
 command:Int
structure machine_ticker where
 b_Floors:Int
 b_Debounce:Int
 b_Room:Int
 b_Park:Int
 b_Empty:Nat
 b_Full:Nat
 b_Over:Nat
 b_Cars:List Car
 m_Image_Phases:List Int
 m_Image_Flags:List Bool
 m_Image_Leaving:List Bool
 m_Image_Entries:List Entry
 m_Store_Halves_0:ByteArray
 m_Store_Halves_1:ByteArray
 m_Store_Select:Int
 m_Contacts:List Debounced
 m_Beliefs:List Belief
 m_Cars:List NewCar
 m_Loads:List Loaded
 m_Expect:List Int
 m_Lit:List Calls
 m_Tick:Int
 m_Faults:Int
 m_Refused:Int
 x_Press_Up:Int
 x_Press_Down:Int
 x_Command_Kind:Int
 x_Command_Car:Int
 x_Cars:List CarInput
 good:Bool
 budget:Int
 failed:Int
 legacy:List Bool
 shows:List Calls
 reset:List Bool
 out_Lamps_Up:Int
 out_Lamps_Down:Int
 out_Served_Up:Int
 out_Served_Down:Int
 out_Bad:Bool
 out_Full:Bool
 out_Status:Int
 out_Cars:List CarOutput
structure Outputs where
 I6:Int
 H6:Int
 O5:Int
 H4:Int
 K6:Bool
 N0:Bool
 G6:Int
 B0:List CarOutput
end Go.Ovl
