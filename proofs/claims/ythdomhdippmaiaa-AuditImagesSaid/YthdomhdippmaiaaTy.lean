/- The records of the program. -/
import Derived.Test.YthdomhdippmaiaaAbE
import Derived.Test.YthdomhdippmaiaaAbH
namespace Go.Ovl
open Go Go.Ab
def textU (l : List Int) : ByteArray := ⟨(l.map fun n => UInt8.ofNat n.toNat).toArray⟩
structure Entry where
  Floor : Int
  Dir : Int
  Car : Int
  Moves : Int
  Moved : Bool
structure Car where
  Deadline : Int
  Pulse : Int
  Quiet : Int
  Slack : Int
  Step : Int
  Travel : Int
  Dwell : Int
  Hold : Int
  Home : Int
structure Image where
  Phases : List (Int)
  Flags : List (Bool)
  Leaving : List (Bool)
  Entries : List (Entry)
structure Debounced where
  Contacts_Floors : Int
  Contacts_Up : Bool
  Contacts_Down : Bool
  Contacts_Open : Bool
  Contacts_Closed : Bool
  Count_0 : Int
  Count_1 : Int
  Count_2 : Int
  Count_3 : Int
  Count_4 : Int
  Count_5 : Int
  Count_6 : Int
  Count_7 : Int
  Count_8 : Int
  Count_9 : Int
  Count_10 : Int
  Count_11 : Int
  Count_12 : Int
  Count_13 : Int
  Count_14 : Int
  Count_15 : Int
  Count_16 : Int
  Count_17 : Int
  Count_18 : Int
  Count_19 : Int
  Count_20 : Int
  Count_21 : Int
  Count_22 : Int
  Count_23 : Int
  Count_24 : Int
  Count_25 : Int
  Count_26 : Int
  Count_27 : Int
  Count_28 : Int
  Count_29 : Int
  Count_30 : Int
  Count_31 : Int
  Count_32 : Int
  Count_33 : Int
  Count_34 : Int
  Count_35 : Int
structure Duty where
  Floor : Int
  Dir : Int
  Age : Int
structure Belief where
  Floor : Int
  Dir : Int
  Door : Int
  Duties : List (Duty)
  Still : Int
  Late : Bool
structure NewCar where
  Sweep_Dir : Int
  Sweep_Opened : Int
  Door_Stage : Int
  Door_Time : Int
  Door_Since : Int
  Door_Nudge : Bool
  Door_Cycles : Int
  Motion_Command : Int
  Motion_Time : Int
  Motion_Floor : Int
  Calls : Int
  Shown : Int
  Idle : Int
  Fault : Bool
structure Loaded where
  Class : Int
structure Calls where
  Up : Int
  Down : Int
structure Record where
  Kind : Int
  Floor : Int
  Dir : Int
  Car : Int
  Value : Int
structure CarOutput where
  Coils_Inject_Up : Int
  Coils_Inject_Down : Int
  Coils_CutOut : Bool
  Lantern_Up : Int
  Lantern_Down : Int
  Gong : Bool
  Command : Int
  Phase : Int
  Flag : Bool
structure Outputs where
  Lamps_Up : Int
  Lamps_Down : Int
  Served_Up : Int
  Served_Down : Int
  Bad : Bool
  Full : Bool
  Status : Int
  Cars : List (CarOutput)
end Go.Ovl
