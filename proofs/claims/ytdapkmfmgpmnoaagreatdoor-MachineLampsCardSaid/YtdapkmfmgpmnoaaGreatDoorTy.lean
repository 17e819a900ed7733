/- The records of the program. -/
import Derived.Test.YtdapkmfmgpmnoaaGreatDoorAbE
import Derived.Test.YtdapkmfmgpmnoaaGreatDoorAbH
set_option linter.all false
namespace Go.Ovl
open Go Go.Ab
def Hg(l:List Int):ByteArray:=⟨(l.map λn=>UInt8.ofNat n.toNat).toArray⟩
structure Car where
 I1:Int
 G3:Int
 J3:Int
 I2:Int
 O3:Int
 L2:Int
 K2:Int
 Q3:Int
 A4:Int
structure Entry where
 D0:Int
 I0:Int
 S0:Int
 B1:Int
 B2:Bool
structure Debounced where
 V0:Int
 T1:Bool
 F1:Bool
 G1:Bool
 C1:Bool
 E5:Int
 F5:Int
 G5:Int
 H5:Int
 I5:Int
 K5:Int
 L5:Int
 M5:Int
 N5:Int
 O5:Int
 B4:Int
 C4:Int
 D4:Int
 E4:Int
 F4:Int
 G4:Int
 H4:Int
 I4:Int
 J4:Int
 K4:Int
 L4:Int
 M4:Int
 N4:Int
 O4:Int
 P4:Int
 Q4:Int
 R4:Int
 S4:Int
 T4:Int
 U4:Int
 V4:Int
 W4:Int
 X4:Int
 Y4:Int
 Z4:Int
 A5:Int
structure Duty where
 D0:Int
 I0:Int
 C5:Int
structure Belief where
 D0:Int
 I0:Int
 E3:Int
 U0:List Duty
 V2:Int
 N3:Bool
structure NewCar where
 V1:Int
 E1:Int
 Y0:Int
 N1:Int
 H1:Int
 K1:Bool
 D1:Int
 T0:Int
 X0:Int
 Q0:Int
 Y1:Int
 X2:Int
 I3:Int
 Z2:Bool
structure Loaded where
 T5:Int
structure Calls where
 Up:Int
 R3:Int
structure CarOutput where
 D2:Int
 X1:Int
 N2:Bool
 J2:Int
 E2:Int
 Q5:Bool
 V3:Int
 B5:Int
 S5:Bool
structure CarInput where
 V0:Int
 T1:Bool
 F1:Bool
 G1:Bool
 C1:Bool
 J1:Int
 L1:Bool
 R1:Int
 M1:Bool
 Y1:Int
 C3:Nat
structure Record where
 R0:Int
 D0:Int
 I0:Int
 S0:Int
 G2:Int
structure View where
 H3:Bool
 Y2:Bool
 D3:Bool
 X3:Bool
 D0:Int
 I0:Int
 C3:Int
 F3:Int
 Q2:Int
 M2:Int
 Z1:Int
 Q1:Int
structure newcar_control where
 b_Floors:Int
 b_Debounce:Int
 b_Room:Int
 b_Park:Int
 b_Empty:Nat
 b_Full:Nat
 b_Over:Nat
 b_Cars:List Car
 car:Int
 s_Sweep_Dir:Int
 s_Sweep_Opened:Int
 s_Door_Stage:Int
 s_Door_Time:Int
 s_Door_Since:Int
 s_Door_Nudge:Bool
 s_Door_Cycles:Int
 s_Motion_Command:Int
 s_Motion_Time:Int
 s_Motion_Floor:Int
 s_Calls:Int
 s_Shown:Int
 s_Idle:Int
 s_Fault:Bool
 fb_Floor:Int
 fb_Level:Bool
 fb_Door:Int
 fb_Block:Bool
 command:Int
structure machine_ticker where
 b_Floors:Int
 b_Debounce:Int
 b_Room:Int
 b_Park:Int
 b_Empty:Nat
 b_Full:Nat
 b_Over:Nat
 b_Cars:List Car
 m_Image_Phases:List Int
 m_Image_Flags:List Bool
 m_Image_Leaving:List Bool
 m_Image_Entries:List Entry
 m_Store_Halves_0:ByteArray
 m_Store_Halves_1:ByteArray
 m_Store_Select:Int
 m_Contacts:List Debounced
 m_Beliefs:List Belief
 m_Cars:List NewCar
 m_Loads:List Loaded
 m_Expect:List Int
 m_Lit:List Calls
 m_Tick:Int
 m_Faults:Int
 m_Refused:Int
 x_Press_Up:Int
 x_Press_Down:Int
 x_Command_Kind:Int
 x_Command_Car:Int
 x_Cars:List CarInput
 good:Bool
 budget:Int
 failed:Int
 legacy:List Bool
 shows:List Calls
 reset:List Bool
 out_Lamps_Up:Int
 out_Lamps_Down:Int
 out_Served_Up:Int
 out_Served_Down:Int
 out_Bad:Bool
 out_Full:Bool
 out_Status:Int
 out_Cars:List CarOutput
structure Outputs where
 Z3:Int
 U3:Int
 L3:Int
 A3:Int
 V5:Bool
 L0:Bool
 U5:Int
 B0:List CarOutput
end Go.Ovl
