import Derived.Test.YtphhlndnankhiaaGreatDoorAbE
import Derived.Test.YtphhlndnankhiaaGreatDoorAbH
set_option linter.all false
namespace Go.Ovl
open Go Go.Ab
def Hh(l:List Int):ByteArray:=⟨(l.map λn=>UInt8.ofNat n.toNat).toArray⟩
structure Car where
 I1:Int
 O3:Int
 T3:Int
 M2:Int
 X3:Int
 V2:Int
 T2:Int
 Y3:Int
 E4:Int
structure Entry where
 D0:Int
 I0:Int
 T0:Int
 Z0:Int
 B2:Bool
structure Debounced where
 V0:Int
 J2:Bool
 S1:Bool
 T1:Bool
 D1:Bool
 I5:Int
 K5:Int
 L5:Int
 M5:Int
 N5:Int
 O5:Int
 Q5:Int
 R5:Int
 S5:Int
 T5:Int
 G4:Int
 H4:Int
 I4:Int
 J4:Int
 K4:Int
 L4:Int
 M4:Int
 N4:Int
 O4:Int
 P4:Int
 Q4:Int
 R4:Int
 S4:Int
 T4:Int
 U4:Int
 V4:Int
 W4:Int
 X4:Int
 Y4:Int
 Z4:Int
 A5:Int
 B5:Int
 C5:Int
 E5:Int
 F5:Int
 G5:Int
structure Duty where
 D0:Int
 I0:Int
 F4:Int
structure Belief where
 D0:Int
 I0:Int
 F3:Int
 W0:List Duty
 B3:Int
 V3:Bool
structure NewCar where
 V1:Int
 F1:Int
 Y0:Int
 Q1:Int
 H1:Int
 L1:Bool
 E1:Int
 S0:Int
 X0:Int
 Q0:Int
 D2:Int
 C3:Int
 R3:Int
 E3:Bool
structure Loaded where
 V5:Int
structure Calls where
 Up:Int
 N3:Int
structure CarOutput where
 J1:Int
 C1:Int
 U1:Bool
 N2:Int
 K2:Int
 A4:Bool
 H2:Int
 U3:Int
 C4:Bool
structure Outputs where
 Q2:Int
 G2:Int
 X1:Int
 G1:Int
 H5:Bool
 L0:Bool
 R2:Int
 B0:List CarOutput
structure CarInput where
 V0:Int
 J2:Bool
 S1:Bool
 T1:Bool
 D1:Bool
 N1:Int
 Y1:Bool
 M1:Int
 I2:Bool
 D2:Int
 J3:Nat
structure Record where
 R0:Int
 D0:Int
 I0:Int
 T0:Int
 L2:Int
structure View where
 Q3:Bool
 A3:Bool
 G3:Bool
 Z3:Bool
 D0:Int
 I0:Int
 J3:Int
 L3:Int
 Z2:Int
 X2:Int
 Z1:Int
 R1:Int
structure newcar_control where
 b_Floors:Int
 b_Debounce:Int
 b_Room:Int
 b_Park:Int
 b_Empty:Nat
 b_Full:Nat
 b_Over:Nat
 b_Cars:List Car
 car:Int
 s_Sweep_Dir:Int
 s_Sweep_Opened:Int
 s_Door_Stage:Int
 s_Door_Time:Int
 s_Door_Since:Int
 s_Door_Nudge:Bool
 s_Door_Cycles:Int
 s_Motion_Command:Int
 s_Motion_Time:Int
 s_Motion_Floor:Int
 s_Calls:Int
 s_Shown:Int
 s_Idle:Int
 s_Fault:Bool
 fb_Floor:Int
 fb_Level:Bool
 fb_Door:Int
 fb_Block:Bool
 command:Int
structure machine_ticker where
 b_Floors:Int
 b_Debounce:Int
 b_Room:Int
 b_Park:Int
 b_Empty:Nat
 b_Full:Nat
 b_Over:Nat
 b_Cars:List Car
 m_Image_Phases:List Int
 m_Image_Flags:List Bool
 m_Image_Leaving:List Bool
 m_Image_Entries:List Entry
 m_Store_Halves_0:ByteArray
 m_Store_Halves_1:ByteArray
 m_Store_Select:Int
 m_Contacts:List Debounced
 m_Beliefs:List Belief
 m_Cars:List NewCar
 m_Loads:List Loaded
 m_Expect:List Int
 m_Lit:List Calls
 m_Tick:Int
 m_Faults:Int
 m_Refused:Int
 x_Press_Up:Int
 x_Press_Down:Int
 x_Command_Kind:Int
 x_Command_Car:Int
 x_Cars:List CarInput
 good:Bool
 budget:Int
 failed:Int
 legacy:List Bool
 shows:List Calls
 reset:List Bool
 out_Lamps_Up:Int
 out_Lamps_Down:Int
 out_Served_Up:Int
 out_Served_Down:Int
 out_Bad:Bool
 out_Full:Bool
 out_Status:Int
 out_Cars:List CarOutput
end Go.Ovl
