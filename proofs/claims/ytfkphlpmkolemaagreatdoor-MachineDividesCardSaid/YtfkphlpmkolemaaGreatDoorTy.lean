/- The records of the program. -/
import Derived.Test.YtfkphlpmkolemaaGreatDoorAbE
import Derived.Test.YtfkphlpmkolemaaGreatDoorAbH
set_option linter.all false
namespace Go.Ovl
open Go Go.Ab
def GU(l:List Int):ByteArray:=⟨(l.map λn=>UInt8.ofNat n.toNat).toArray⟩
structure Car where
 G1:Int
 I3:Int
 N3:Int
 I2:Int
 Q3:Int
 N2:Int
 K2:Int
 R3:Int
 M5:Int
structure Entry where
 E0:Int
 J0:Int
 S0:Int
 B1:Int
 S1:Bool
structure Debounced where
 V0:Int
 X1:Bool
 L1:Bool
 M1:Bool
 E1:Bool
 Z4:Int
 A5:Int
 B5:Int
 C5:Int
 E5:Int
 F5:Int
 G5:Int
 H5:Int
 I5:Int
 K5:Int
 X3:Int
 Y3:Int
 Z3:Int
 A4:Int
 B4:Int
 C4:Int
 D4:Int
 E4:Int
 F4:Int
 G4:Int
 H4:Int
 I4:Int
 J4:Int
 K4:Int
 L4:Int
 M4:Int
 N4:Int
 O4:Int
 P4:Int
 Q4:Int
 R4:Int
 S4:Int
 T4:Int
 U4:Int
 V4:Int
 W4:Int
structure Duty where
 E0:Int
 J0:Int
 N5:Int
structure Belief where
 E0:Int
 J0:Int
 A3:Int
 T0:List Duty
 L2:Int
 G3:Bool
structure NewCar where
 R1:Int
 C1:Int
 Z0:Int
 I1:Int
 F1:Int
 H1:Bool
 D1:Int
 R0:Int
 X0:Int
 Q0:Int
 V1:Int
 Y2:Int
 H3:Int
 Z2:Bool
structure Loaded where
 T5:Int
structure Calls where
 Up:Int
 T3:Int
structure CarOutput where
 U1:Int
 K1:Int
 J2:Bool
 T2:Int
 H2:Int
 Q5:Bool
 O3:Int
 L5:Int
 R5:Bool
structure Outputs where
 O5:Int
 Y4:Int
 E3:Int
 X2:Int
 V5:Bool
 M0:Bool
 U5:Int
 B0:List CarOutput
structure CarInput where
 V0:Int
 X1:Bool
 L1:Bool
 M1:Bool
 E1:Bool
 N1:Int
 B2:Bool
 T1:Int
 D2:Bool
 V1:Int
 D3:Nat
structure Record where
 U0:Int
 E0:Int
 J0:Int
 S0:Int
 E2:Int
structure View where
 J3:Bool
 B3:Bool
 C3:Bool
 U3:Bool
 E0:Int
 J0:Int
 D3:Int
 F3:Int
 V2:Int
 R2:Int
 Y1:Int
 Q1:Int
structure newcar_control where
 b_Floors:Int
 b_Debounce:Int
 b_Room:Int
 b_Park:Int
 b_Empty:Nat
 b_Full:Nat
 b_Over:Nat
 b_Cars:List Car
 car:Int
 s_Sweep_Dir:Int
 s_Sweep_Opened:Int
 s_Door_Stage:Int
 s_Door_Time:Int
 s_Door_Since:Int
 s_Door_Nudge:Bool
 s_Door_Cycles:Int
 s_Motion_Command:Int
 s_Motion_Time:Int
 s_Motion_Floor:Int
 s_Calls:Int
 s_Shown:Int
 s_Idle:Int
 s_Fault:Bool
 fb_Floor:Int
 fb_Level:Bool
 fb_Door:Int
 fb_Block:Bool
 command:Int
structure machine_ticker where
 b_Floors:Int
 b_Debounce:Int
 b_Room:Int
 b_Park:Int
 b_Empty:Nat
 b_Full:Nat
 b_Over:Nat
 b_Cars:List Car
 m_Image_Phases:List Int
 m_Image_Flags:List Bool
 m_Image_Leaving:List Bool
 m_Image_Entries:List Entry
 m_Store_Halves_0:ByteArray
 m_Store_Halves_1:ByteArray
 m_Store_Select:Int
 m_Contacts:List Debounced
 m_Beliefs:List Belief
 m_Cars:List NewCar
 m_Loads:List Loaded
 m_Expect:List Int
 m_Lit:List Calls
 m_Tick:Int
 m_Faults:Int
 m_Refused:Int
 x_Press_Up:Int
 x_Press_Down:Int
 x_Command_Kind:Int
 x_Command_Car:Int
 x_Cars:List CarInput
 good:Bool
 budget:Int
 failed:Int
 legacy:List Bool
 shows:List Calls
 reset:List Bool
 out_Lamps_Up:Int
 out_Lamps_Down:Int
 out_Served_Up:Int
 out_Served_Down:Int
 out_Bad:Bool
 out_Full:Bool
 out_Status:Int
 out_Cars:List CarOutput
end Go.Ovl
