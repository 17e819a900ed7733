/- The types of the program, as a table. -/
import Derived.Test.YthdomhdippmaiaaGreatDoorAbG
import Derived.Test.YthdomhdippmaiaaGreatDoorTy
import Derived.Test.YthdomhdippmaiaaGreatDoorProg
namespace Go.Ovl
open Go Go.Ab Go.Proofs
def tys:List (Nat×TyD):=[(5,⟨Int,0⟩),(100,⟨Car,⟨0,0,0,0,0,0,0,0,0⟩⟩),(3,⟨Int,0⟩),(4,⟨Bool,false⟩),(63,⟨Entry,⟨0,0,0,0,false⟩⟩),(46,⟨View,⟨false,false,false,false,0,0,0,0,0,0,0,0⟩⟩),(26,⟨Calls,⟨0,0⟩⟩),(66,⟨Record,⟨0,0,0,0,0⟩⟩),(163,⟨Unit,()⟩)]
@[reducible] def T:Nat→Type:=TOf tys
def enc3 (x:Int):List (Cv T):=[.sc (.int .i64 x)]
def dec3:List (Cv T)→Option (Int)
 | [.sc (.int .i64 a0)]=>some a0
 | _=>none
theorem n3x' {cs:List (Cv T)} {x:Int} (h:dec3 cs=some x):enc3 x=cs:=by
 unfold dec3 at h
 split at h
 ·simp at h; subst h; rfl
 ·simp at h
def enc4 (x:Bool):List (Cv T):=[.sc (.bool x)]
def dec4:List (Cv T)→Option (Bool)
 | [.sc (.bool a0)]=>some a0
 | _=>none
theorem n3z' {cs:List (Cv T)} {x:Bool} (h:dec4 cs=some x):enc4 x=cs:=by
 unfold dec4 at h
 split at h
 ·simp at h; subst h; rfl
 ·simp at h
def enc5 (x:Int):List (Cv T):=[.sc (.int .u8 x)]
def dec5:List (Cv T)→Option (Int)
 | [.sc (.int .u8 a0)]=>some a0
 | _=>none
theorem n28' {cs:List (Cv T)} {x:Int} (h:dec5 cs=some x):enc5 x=cs:=by
 unfold dec5 at h
 split at h
 ·simp at h; subst h; rfl
 ·simp at h
def enc26 (x:Calls):List (Cv T):=[.sc (.int .u32 x.Up),.sc (.int .u32 x.Down)]
def dec26:List (Cv T)→Option (Calls)
 | [.sc (.int .u32 a0),.sc (.int .u32 a1)]=>some ⟨a0,a1⟩
 | _=>none
theorem n12' {cs:List (Cv T)} {x:Calls} (h:dec26 cs=some x):enc26 x=cs:=by
 unfold dec26 at h
 split at h
 ·simp at h; subst h; rfl
 ·simp at h
def enc46 (x:View):List (Cv T):=[.sc (.bool x.Ready),.sc (.bool x.Serving),.sc (.bool x.Legacy),.sc (.bool x.Lost),.sc (.int .i64 x.Floor),.sc (.int .i64 x.Dir),.sc (.int .i64 x.Load),.sc (.int .u32 x.Shows_Up),.sc (.int .u32 x.Shows_Down),.sc (.int .u32 x.Stops_Car),.sc (.int .u32 x.Stops_Hall_Up),.sc (.int .u32 x.Stops_Hall_Down)]
def dec46:List (Cv T)→Option (View)
 | [.sc (.bool a0),.sc (.bool a1),.sc (.bool a2),.sc (.bool a3),.sc (.int .i64 a4),.sc (.int .i64 a5),.sc (.int .i64 a6),.sc (.int .u32 a7),.sc (.int .u32 a8),.sc (.int .u32 a9),.sc (.int .u32 a10),.sc (.int .u32 a11)]=>some ⟨a0,a1,a2,a3,a4,a5,a6,a7,a8,a9,a10,a11⟩
 | _=>none
theorem n20' {cs:List (Cv T)} {x:View} (h:dec46 cs=some x):enc46 x=cs:=by
 unfold dec46 at h
 split at h
 ·simp at h; subst h; rfl
 ·simp at h
def enc63 (x:Entry):List (Cv T):=[.sc (.int .i64 x.Floor),.sc (.int .i64 x.Dir),.sc (.int .i64 x.Car),.sc (.int .i64 x.Moves),.sc (.bool x.Moved)]
def dec63:List (Cv T)→Option (Entry)
 | [.sc (.int .i64 a0),.sc (.int .i64 a1),.sc (.int .i64 a2),.sc (.int .i64 a3),.sc (.bool a4)]=>some ⟨a0,a1,a2,a3,a4⟩
 | _=>none
theorem n18' {cs:List (Cv T)} {x:Entry} (h:dec63 cs=some x):enc63 x=cs:=by
 unfold dec63 at h
 split at h
 ·simp at h; subst h; rfl
 ·simp at h
def enc66 (x:Record):List (Cv T):=[.sc (.int .i64 x.Kind),.sc (.int .i64 x.Floor),.sc (.int .i64 x.Dir),.sc (.int .i64 x.Car),.sc (.int .i64 x.Value)]
def dec66:List (Cv T)→Option (Record)
 | [.sc (.int .i64 a0),.sc (.int .i64 a1),.sc (.int .i64 a2),.sc (.int .i64 a3),.sc (.int .i64 a4)]=>some ⟨a0,a1,a2,a3,a4⟩
 | _=>none
theorem n17' {cs:List (Cv T)} {x:Record} (h:dec66 cs=some x):enc66 x=cs:=by
 unfold dec66 at h
 split at h
 ·simp at h; subst h; rfl
 ·simp at h
def nzn' (x:Car):List (Cv T):=[.sc (.int .i64 x.Deadline),.sc (.int .i64 x.Pulse),.sc (.int .i64 x.Quiet),.sc (.int .i64 x.Slack),.sc (.int .i64 x.Step),.sc (.int .i64 x.Travel),.sc (.int .i64 x.Dwell),.sc (.int .i64 x.Hold),.sc (.int .i64 x.Home)]
def nud':List (Cv T)→Option (Car)
 | [.sc (.int .i64 a0),.sc (.int .i64 a1),.sc (.int .i64 a2),.sc (.int .i64 a3),.sc (.int .i64 a4),.sc (.int .i64 a5),.sc (.int .i64 a6),.sc (.int .i64 a7),.sc (.int .i64 a8)]=>some ⟨a0,a1,a2,a3,a4,a5,a6,a7,a8⟩
 | _=>none
theorem nzm' {cs:List (Cv T)} {x:Car} (h:nud' cs=some x):nzn' x=cs:=by
 unfold nud' at h
 split at h
 ·simp at h; subst h; rfl
 ·simp at h
def n09' (_:Unit):List (Cv T):=[.sc (.int .u8 0),.sc (.int .u8 1),.sc (.int .u8 28),.sc (.int .u8 2),.sc (.int .u8 29),.sc (.int .u8 14),.sc (.int .u8 24),.sc (.int .u8 3),.sc (.int .u8 30),.sc (.int .u8 22),.sc (.int .u8 20),.sc (.int .u8 15),.sc (.int .u8 25),.sc (.int .u8 17),.sc (.int .u8 4),.sc (.int .u8 8),.sc (.int .u8 31),.sc (.int .u8 27),.sc (.int .u8 13),.sc (.int .u8 23),.sc (.int .u8 21),.sc (.int .u8 19),.sc (.int .u8 16),.sc (.int .u8 7),.sc (.int .u8 26),.sc (.int .u8 12),.sc (.int .u8 18),.sc (.int .u8 6),.sc (.int .u8 11),.sc (.int .u8 5),.sc (.int .u8 10),.sc (.int .u8 9)]
def n02':List (Cv T)→Option Unit:=fun _=>none
theorem nzh' {cs:List (Cv T)} {x:Unit} (h:n02' cs=some x):n09' x=cs:=by cases h
def en3:Ent1 T:=⟨3,⟨.int .i64,1,[(.int .i64 0)],enc3,dec3,true⟩⟩
def en4:Ent1 T:=⟨4,⟨.bool,1,[(.bool false)],enc4,dec4,true⟩⟩
def en5:Ent1 T:=⟨5,⟨.int .u8,1,[(.int .u8 0)],enc5,dec5,true⟩⟩
def en9:Ent1 T:=plain T 9 (.str) 1 [(.string ⟨#[]⟩)]
def en22:Ent1 T:=plain T 22 (.arr 2 5) 2 [(.int .u8 0),(.int .u8 0)]
def en23:Ent1 T:=plain T 23 (.sl 5) 1 [(.slice none 0 0)]
def en24:Ent1 T:=plain T 24 (.int .u32) 1 [(.int .u32 0)]
def en26:Ent1 T:=⟨26,⟨.st [(0,24),(1,24)],2,[(.int .u32 0),(.int .u32 0)],enc26,dec26,true⟩⟩
def en28:Ent1 T:=plain T 28 (.st [(0,22),(2,23),(3,23),(4,26)]) 6 [(.int .u8 0),(.int .u8 0),(.slice none 0 0),(.slice none 0 0),(.int .u32 0),(.int .u32 0)]
def en29:Ent1 T:=plain T 29 (.flt .f64) 1 [(.float .f64 0)]
def en30:Ent1 T:=plain T 30 (.sl 100) 1 [(.slice none 0 0)]
def en32:Ent1 T:=plain T 32 (.st [(0,3),(1,3),(2,3),(3,3),(4,29),(5,29),(6,29),(7,30)]) 8 [(.int .i64 0),(.int .i64 0),(.int .i64 0),(.int .i64 0),(.float .f64 0),(.float .f64 0),(.float .f64 0),(.slice none 0 0)]
def en34:Ent1 T:=plain T 34 (.sl 3) 1 [(.slice none 0 0)]
def en35:Ent1 T:=plain T 35 (.sl 4) 1 [(.slice none 0 0)]
def en36:Ent1 T:=plain T 36 (.sl 63) 1 [(.slice none 0 0)]
def en38:Ent1 T:=plain T 38 (.st [(0,34),(1,35),(2,35),(3,36)]) 4 [(.slice none 0 0),(.slice none 0 0),(.slice none 0 0),(.slice none 0 0)]
def en40:Ent1 T:=plain T 40 (.sl 46) 1 [(.slice none 0 0)]
def en42:Ent1 T:=plain T 42 (.sl 26) 1 [(.slice none 0 0)]
def en44:Ent1 T:=plain T 44 (.st [(0,24),(1,26)]) 3 [(.int .u32 0),(.int .u32 0),(.int .u32 0)]
def en46:Ent1 T:=⟨46,⟨.st [(0,4),(1,4),(2,4),(3,4),(4,3),(5,3),(6,3),(7,26),(9,44)],12,[(.bool false),(.bool false),(.bool false),(.bool false),(.int .i64 0),(.int .i64 0),(.int .i64 0),(.int .u32 0),(.int .u32 0),(.int .u32 0),(.int .u32 0),(.int .u32 0)],enc46,dec46,true⟩⟩
def en47:Ent1 T:=plain T 47 (.sl 66) 1 [(.slice none 0 0)]
def en49:Ent1 T:=plain T 49 (.st [(0,42),(1,35),(2,26)]) 4 [(.slice none 0 0),(.slice none 0 0),(.int .u32 0),(.int .u32 0)]
def en51:Ent1 T:=plain T 51 (.st [(0,47),(1,38),(5,34),(6,49),(10,26)]) 12 [(.slice none 0 0),(.slice none 0 0),(.slice none 0 0),(.slice none 0 0),(.slice none 0 0),(.slice none 0 0),(.slice none 0 0),(.slice none 0 0),(.int .u32 0),(.int .u32 0),(.int .u32 0),(.int .u32 0)]
def en52:Ent1 T:=plain T 52 (.int .i64) 1 [(.int .i64 0)]
def en63:Ent1 T:=⟨63,⟨.st [(0,3),(1,3),(2,3),(3,3),(4,4)],5,[(.int .i64 0),(.int .i64 0),(.int .i64 0),(.int .i64 0),(.bool false)],enc63,dec63,true⟩⟩
def en66:Ent1 T:=⟨66,⟨.st [(0,3),(1,3),(2,3),(3,3),(4,3)],5,[(.int .i64 0),(.int .i64 0),(.int .i64 0),(.int .i64 0),(.int .i64 0)],enc66,dec66,true⟩⟩
def en80:Ent1 T:=plain T 80 (.pt 82) 1 [(.pointer none)]
def en82:Ent1 T:=plain T 82 (.st [(0,51),(12,32)]) 20 [(.slice none 0 0),(.slice none 0 0),(.slice none 0 0),(.slice none 0 0),(.slice none 0 0),(.slice none 0 0),(.slice none 0 0),(.slice none 0 0),(.int .u32 0),(.int .u32 0),(.int .u32 0),(.int .u32 0),(.int .i64 0),(.int .i64 0),(.int .i64 0),(.int .i64 0),(.float .f64 0),(.float .f64 0),(.float .f64 0),(.slice none 0 0)]
def en98:Ent1 T:=plain T 98 (.int .u64) 1 [(.int .u64 0)]
def en100:Ent1 T:=⟨100,⟨.st [(0,3),(1,3),(2,3),(3,3),(4,3),(5,3),(6,3),(7,3),(8,3)],9,[(.int .i64 0),(.int .i64 0),(.int .i64 0),(.int .i64 0),(.int .i64 0),(.int .i64 0),(.int .i64 0),(.int .i64 0),(.int .i64 0)],nzn',nud',true⟩⟩
def en104:Ent1 T:=plain T 104 (.arr 4 5) 4 [(.int .u8 0),(.int .u8 0),(.int .u8 0),(.int .u8 0)]
def en107:Ent1 T:=plain T 107 (.fn) 1 [.nilFunc]
def en109:Ent1 T:=plain T 109 (.fn) 1 [.nilFunc]
def en118:Ent1 T:=plain T 118 (.st [(0,32),(8,40)]) 9 [(.int .i64 0),(.int .i64 0),(.int .i64 0),(.int .i64 0),(.float .f64 0),(.float .f64 0),(.float .f64 0),(.slice none 0 0),(.slice none 0 0)]
def en130:Ent1 T:=plain T 130 (.pt 38) 1 [(.pointer none)]
def en139:Ent1 T:=plain T 139 (.fn) 1 [.nilFunc]
def en150:Ent1 T:=plain T 150 (.arr 2 3) 2 [(.int .i64 0),(.int .i64 0)]
def en163:Ent1 T:=⟨163,⟨.arr 32 5,32,[(.int .u8 0),(.int .u8 0),(.int .u8 0),(.int .u8 0),(.int .u8 0),(.int .u8 0),(.int .u8 0),(.int .u8 0),(.int .u8 0),(.int .u8 0),(.int .u8 0),(.int .u8 0),(.int .u8 0),(.int .u8 0),(.int .u8 0),(.int .u8 0),(.int .u8 0),(.int .u8 0),(.int .u8 0),(.int .u8 0),(.int .u8 0),(.int .u8 0),(.int .u8 0),(.int .u8 0),(.int .u8 0),(.int .u8 0),(.int .u8 0),(.int .u8 0),(.int .u8 0),(.int .u8 0),(.int .u8 0),(.int .u8 0)],n09',n02',true⟩⟩
def ents:List (Ent1 T):=[en3,en4,en5,en9,en22,en23,en24,en26,en28,en29,en30,en32,en34,en35,en36,en38,en40,en42,en44,en46,en47,en49,en51,en52,en63,en66,en80,en82,en98,en100,en104,en107,en109,en118,en130,en139,en150,en163]
def glv:Nat→Option ((t:Nat)×TOf tys t):=fun g=>bif Nat.beq g 0 then some ⟨163,()⟩ else none
def G:Sig:=mkSig tys ents glv
theorem tok3:EntOK Tryz.prog G en3.t en3.e:=⟨(show Tryz.prog.underlying 3=some (.int .i64) by kernel_rfl),fun _=>⟨Tryz.t3,(.int .i64 0),(by kernel_rfl),(by kernel_rfl),(by kernel_rfl),(by kernel_rfl)⟩,fun _=>(by kernel_rfl),fun h=>(by cases h),(by kernel_rfl),(by kernel_rfl),fun x=>Nat.le_of_eq (by kernel_rfl),fun cs x h=>n3x' h,fun x=>(by kernel_rfl),fun _ x=>(by kernel_rfl),fun _ _=>rfl⟩
theorem tok4:EntOK Tryz.prog G en4.t en4.e:=⟨(show Tryz.prog.underlying 4=some .bool by kernel_rfl),fun _=>⟨Tryz.t4,(.bool false),(by kernel_rfl),(by kernel_rfl),(by kernel_rfl),(by kernel_rfl)⟩,fun _=>(by kernel_rfl),fun h=>(by cases h),(by kernel_rfl),(by kernel_rfl),fun x=>Nat.le_of_eq (by kernel_rfl),fun cs x h=>n3z' h,fun x=>(by kernel_rfl),fun _ x=>(by kernel_rfl),fun _ _=>rfl⟩
theorem tok5:EntOK Tryz.prog G en5.t en5.e:=⟨(show Tryz.prog.underlying 5=some (.int .u8) by kernel_rfl),fun _=>⟨Tryz.t5,(.int .u8 0),(by kernel_rfl),(by kernel_rfl),(by kernel_rfl),(by kernel_rfl)⟩,fun _=>(by kernel_rfl),fun h=>(by cases h),(by kernel_rfl),(by kernel_rfl),fun x=>Nat.le_of_eq (by kernel_rfl),fun cs x h=>n28' h,fun x=>(by kernel_rfl),fun _ x=>(by kernel_rfl),fun _ _=>rfl⟩
theorem tok9:EntOK Tryz.prog G en9.t en9.e:=⟨(show Tryz.prog.underlying 9=some .string by kernel_rfl),fun _=>⟨Tryz.t9,(.string ⟨#[]⟩),(by kernel_rfl),(by kernel_rfl),(by kernel_rfl),(by kernel_rfl)⟩,fun _=>(by kernel_rfl),fun h=>(by cases h),(by kernel_rfl),(by kernel_rfl),fun _=>Nat.zero_le _,fun _ _ h=>(by cases h),fun _=>rfl,fun _ _=>rfl,fun _ _=>rfl⟩
theorem tok22:EntOK Tryz.prog G en22.t en22.e:=⟨⟨(by kernel_rfl),(by kernel_rfl)⟩,fun _=>⟨Tryz.t22,(.agg #[(.int .u8 0),(.int .u8 0)]),(by kernel_rfl),(by kernel_rfl),(by kernel_rfl),(by kernel_rfl)⟩,fun _=>(by kernel_rfl),fun h=>(by cases h),(by kernel_rfl),(by kernel_rfl),fun _=>Nat.zero_le _,fun _ _ h=>(by cases h),fun _=>rfl,fun _ _=>rfl,fun _ _=>rfl⟩
theorem tok23:EntOK Tryz.prog G en23.t en23.e:=⟨⟨(by kernel_rfl),(by kernel_rfl),⟨Tryz.t5,(by kernel_rfl),(by kernel_rfl)⟩,fun x=>(by kernel_rfl)⟩,fun _=>⟨Tryz.t23,(.slice none 0 0),(by kernel_rfl),(by kernel_rfl),(by kernel_rfl),(by kernel_rfl)⟩,fun _=>(by kernel_rfl),fun h=>(by cases h),(by kernel_rfl),(by kernel_rfl),fun _=>Nat.zero_le _,fun _ _ h=>(by cases h),fun _=>rfl,fun _ _=>rfl,fun _ _=>rfl⟩
theorem tok24:EntOK Tryz.prog G en24.t en24.e:=⟨(show Tryz.prog.underlying 24=some (.int .u32) by kernel_rfl),fun _=>⟨Tryz.t24,(.int .u32 0),(by kernel_rfl),(by kernel_rfl),(by kernel_rfl),(by kernel_rfl)⟩,fun _=>(by kernel_rfl),fun h=>(by cases h),(by kernel_rfl),(by kernel_rfl),fun _=>Nat.zero_le _,fun _ _ h=>(by cases h),fun _=>rfl,fun _ _=>rfl,fun _ _=>rfl⟩
theorem tok26:EntOK Tryz.prog G en26.t en26.e:=⟨⟨_,Tryz.underlying26,(by kernel_rfl),(by kernel_rfl)⟩,fun _=>⟨Tryz.t26,(.agg #[(.int .u32 0),(.int .u32 0)]),(by kernel_rfl),(by kernel_rfl),(by kernel_rfl),(by kernel_rfl)⟩,fun _=>(by kernel_rfl),fun h=>(by cases h),(by kernel_rfl),(by kernel_rfl),fun x=>Nat.le_of_eq (by kernel_rfl),fun cs x h=>n12' h,fun x=>(by kernel_rfl),fun _ x=>(by kernel_rfl),fun _ _=>rfl⟩
theorem tok28:EntOK Tryz.prog G en28.t en28.e:=⟨⟨_,Tryz.underlying28,(by kernel_rfl),(by kernel_rfl)⟩,fun _=>⟨Tryz.t28,(.agg #[(.int .u8 0),(.int .u8 0),(.slice none 0 0),(.slice none 0 0),(.int .u32 0),(.int .u32 0)]),(by kernel_rfl),(by kernel_rfl),(by kernel_rfl),(by kernel_rfl)⟩,fun _=>(by kernel_rfl),fun h=>(by cases h),(by kernel_rfl),(by kernel_rfl),fun _=>Nat.zero_le _,fun _ _ h=>(by cases h),fun _=>rfl,fun _ _=>rfl,fun _ _=>rfl⟩
theorem tok29:EntOK Tryz.prog G en29.t en29.e:=⟨(show Tryz.prog.underlying 29=some (.float .f64) by kernel_rfl),fun _=>⟨Tryz.t29,(.float .f64 0),(by kernel_rfl),(by kernel_rfl),(by kernel_rfl),(by kernel_rfl)⟩,fun _=>(by kernel_rfl),fun h=>(by cases h),(by kernel_rfl),(by kernel_rfl),fun _=>Nat.zero_le _,fun _ _ h=>(by cases h),fun _=>rfl,fun _ _=>rfl,fun _ _=>rfl⟩
theorem tok30:EntOK Tryz.prog G en30.t en30.e:=⟨⟨(by kernel_rfl),(by kernel_rfl),⟨Tryz.t100,(by kernel_rfl),(by kernel_rfl)⟩,fun x=>(by kernel_rfl)⟩,fun _=>⟨Tryz.t30,(.slice none 0 0),(by kernel_rfl),(by kernel_rfl),(by kernel_rfl),(by kernel_rfl)⟩,fun _=>(by kernel_rfl),fun h=>(by cases h),(by kernel_rfl),(by kernel_rfl),fun _=>Nat.zero_le _,fun _ _ h=>(by cases h),fun _=>rfl,fun _ _=>rfl,fun _ _=>rfl⟩
theorem tok32:EntOK Tryz.prog G en32.t en32.e:=⟨⟨_,Tryz.underlying32,(by kernel_rfl),(by kernel_rfl)⟩,fun _=>⟨Tryz.t32,(.agg #[(.int .i64 0),(.int .i64 0),(.int .i64 0),(.int .i64 0),(.float .f64 0),(.float .f64 0),(.float .f64 0),(.slice none 0 0)]),(by kernel_rfl),(by kernel_rfl),(by kernel_rfl),(by kernel_rfl)⟩,fun _=>(by kernel_rfl),fun h=>(by cases h),(by kernel_rfl),(by kernel_rfl),fun _=>Nat.zero_le _,fun _ _ h=>(by cases h),fun _=>rfl,fun _ _=>rfl,fun _ _=>rfl⟩
theorem tok34:EntOK Tryz.prog G en34.t en34.e:=⟨⟨(by kernel_rfl),(by kernel_rfl),⟨Tryz.t3,(by kernel_rfl),(by kernel_rfl)⟩,fun x=>(by kernel_rfl)⟩,fun _=>⟨Tryz.t34,(.slice none 0 0),(by kernel_rfl),(by kernel_rfl),(by kernel_rfl),(by kernel_rfl)⟩,fun _=>(by kernel_rfl),fun h=>(by cases h),(by kernel_rfl),(by kernel_rfl),fun _=>Nat.zero_le _,fun _ _ h=>(by cases h),fun _=>rfl,fun _ _=>rfl,fun _ _=>rfl⟩
theorem tok35:EntOK Tryz.prog G en35.t en35.e:=⟨⟨(by kernel_rfl),(by kernel_rfl),⟨Tryz.t4,(by kernel_rfl),(by kernel_rfl)⟩,fun x=>(by kernel_rfl)⟩,fun _=>⟨Tryz.t35,(.slice none 0 0),(by kernel_rfl),(by kernel_rfl),(by kernel_rfl),(by kernel_rfl)⟩,fun _=>(by kernel_rfl),fun h=>(by cases h),(by kernel_rfl),(by kernel_rfl),fun _=>Nat.zero_le _,fun _ _ h=>(by cases h),fun _=>rfl,fun _ _=>rfl,fun _ _=>rfl⟩
theorem tok36:EntOK Tryz.prog G en36.t en36.e:=⟨⟨(by kernel_rfl),(by kernel_rfl),⟨Tryz.t63,(by kernel_rfl),(by kernel_rfl)⟩,fun x=>(by kernel_rfl)⟩,fun _=>⟨Tryz.t36,(.slice none 0 0),(by kernel_rfl),(by kernel_rfl),(by kernel_rfl),(by kernel_rfl)⟩,fun _=>(by kernel_rfl),fun h=>(by cases h),(by kernel_rfl),(by kernel_rfl),fun _=>Nat.zero_le _,fun _ _ h=>(by cases h),fun _=>rfl,fun _ _=>rfl,fun _ _=>rfl⟩
theorem tok38:EntOK Tryz.prog G en38.t en38.e:=⟨⟨_,Tryz.underlying38,(by kernel_rfl),(by kernel_rfl)⟩,fun _=>⟨Tryz.t38,(.agg #[(.slice none 0 0),(.slice none 0 0),(.slice none 0 0),(.slice none 0 0)]),(by kernel_rfl),(by kernel_rfl),(by kernel_rfl),(by kernel_rfl)⟩,fun _=>(by kernel_rfl),fun h=>(by cases h),(by kernel_rfl),(by kernel_rfl),fun _=>Nat.zero_le _,fun _ _ h=>(by cases h),fun _=>rfl,fun _ _=>rfl,fun _ _=>rfl⟩
theorem tok40:EntOK Tryz.prog G en40.t en40.e:=⟨⟨(by kernel_rfl),(by kernel_rfl),⟨Tryz.t46,(by kernel_rfl),(by kernel_rfl)⟩,fun x=>(by kernel_rfl)⟩,fun _=>⟨Tryz.t40,(.slice none 0 0),(by kernel_rfl),(by kernel_rfl),(by kernel_rfl),(by kernel_rfl)⟩,fun _=>(by kernel_rfl),fun h=>(by cases h),(by kernel_rfl),(by kernel_rfl),fun _=>Nat.zero_le _,fun _ _ h=>(by cases h),fun _=>rfl,fun _ _=>rfl,fun _ _=>rfl⟩
theorem tok42:EntOK Tryz.prog G en42.t en42.e:=⟨⟨(by kernel_rfl),(by kernel_rfl),⟨Tryz.t26,(by kernel_rfl),(by kernel_rfl)⟩,fun x=>(by kernel_rfl)⟩,fun _=>⟨Tryz.t42,(.slice none 0 0),(by kernel_rfl),(by kernel_rfl),(by kernel_rfl),(by kernel_rfl)⟩,fun _=>(by kernel_rfl),fun h=>(by cases h),(by kernel_rfl),(by kernel_rfl),fun _=>Nat.zero_le _,fun _ _ h=>(by cases h),fun _=>rfl,fun _ _=>rfl,fun _ _=>rfl⟩
theorem tok44:EntOK Tryz.prog G en44.t en44.e:=⟨⟨_,Tryz.underlying44,(by kernel_rfl),(by kernel_rfl)⟩,fun _=>⟨Tryz.t44,(.agg #[(.int .u32 0),(.int .u32 0),(.int .u32 0)]),(by kernel_rfl),(by kernel_rfl),(by kernel_rfl),(by kernel_rfl)⟩,fun _=>(by kernel_rfl),fun h=>(by cases h),(by kernel_rfl),(by kernel_rfl),fun _=>Nat.zero_le _,fun _ _ h=>(by cases h),fun _=>rfl,fun _ _=>rfl,fun _ _=>rfl⟩
theorem tok46:EntOK Tryz.prog G en46.t en46.e:=⟨⟨_,Tryz.underlying46,(by kernel_rfl),(by kernel_rfl)⟩,fun _=>⟨Tryz.t46,(.agg #[(.bool false),(.bool false),(.bool false),(.bool false),(.int .i64 0),(.int .i64 0),(.int .i64 0),(.int .u32 0),(.int .u32 0),(.int .u32 0),(.int .u32 0),(.int .u32 0)]),(by kernel_rfl),(by kernel_rfl),(by kernel_rfl),(by kernel_rfl)⟩,fun _=>(by kernel_rfl),fun h=>(by cases h),(by kernel_rfl),(by kernel_rfl),fun x=>Nat.le_of_eq (by kernel_rfl),fun cs x h=>n20' h,fun x=>(by kernel_rfl),fun _ x=>(by kernel_rfl),fun _ _=>rfl⟩
theorem tok47:EntOK Tryz.prog G en47.t en47.e:=⟨⟨(by kernel_rfl),(by kernel_rfl),⟨Tryz.t66,(by kernel_rfl),(by kernel_rfl)⟩,fun x=>(by kernel_rfl)⟩,fun _=>⟨Tryz.t47,(.slice none 0 0),(by kernel_rfl),(by kernel_rfl),(by kernel_rfl),(by kernel_rfl)⟩,fun _=>(by kernel_rfl),fun h=>(by cases h),(by kernel_rfl),(by kernel_rfl),fun _=>Nat.zero_le _,fun _ _ h=>(by cases h),fun _=>rfl,fun _ _=>rfl,fun _ _=>rfl⟩
theorem tok49:EntOK Tryz.prog G en49.t en49.e:=⟨⟨_,Tryz.underlying49,(by kernel_rfl),(by kernel_rfl)⟩,fun _=>⟨Tryz.t49,(.agg #[(.slice none 0 0),(.slice none 0 0),(.int .u32 0),(.int .u32 0)]),(by kernel_rfl),(by kernel_rfl),(by kernel_rfl),(by kernel_rfl)⟩,fun _=>(by kernel_rfl),fun h=>(by cases h),(by kernel_rfl),(by kernel_rfl),fun _=>Nat.zero_le _,fun _ _ h=>(by cases h),fun _=>rfl,fun _ _=>rfl,fun _ _=>rfl⟩
theorem tok51:EntOK Tryz.prog G en51.t en51.e:=⟨⟨_,Tryz.underlying51,(by kernel_rfl),(by kernel_rfl)⟩,fun _=>⟨Tryz.t51,(.agg #[(.slice none 0 0),(.slice none 0 0),(.slice none 0 0),(.slice none 0 0),(.slice none 0 0),(.slice none 0 0),(.slice none 0 0),(.slice none 0 0),(.int .u32 0),(.int .u32 0),(.int .u32 0),(.int .u32 0)]),(by kernel_rfl),(by kernel_rfl),(by kernel_rfl),(by kernel_rfl)⟩,fun _=>(by kernel_rfl),fun h=>(by cases h),(by kernel_rfl),(by kernel_rfl),fun _=>Nat.zero_le _,fun _ _ h=>(by cases h),fun _=>rfl,fun _ _=>rfl,fun _ _=>rfl⟩
theorem tok52:EntOK Tryz.prog G en52.t en52.e:=⟨(show Tryz.prog.underlying 52=some (.int .i64) by kernel_rfl),fun _=>⟨Tryz.t52,(.int .i64 0),(by kernel_rfl),(by kernel_rfl),(by kernel_rfl),(by kernel_rfl)⟩,fun _=>(by kernel_rfl),fun h=>(by cases h),(by kernel_rfl),(by kernel_rfl),fun _=>Nat.zero_le _,fun _ _ h=>(by cases h),fun _=>rfl,fun _ _=>rfl,fun _ _=>rfl⟩
theorem tok63:EntOK Tryz.prog G en63.t en63.e:=⟨⟨_,Tryz.underlying63,(by kernel_rfl),(by kernel_rfl)⟩,fun _=>⟨Tryz.t63,(.agg #[(.int .i64 0),(.int .i64 0),(.int .i64 0),(.int .i64 0),(.bool false)]),(by kernel_rfl),(by kernel_rfl),(by kernel_rfl),(by kernel_rfl)⟩,fun _=>(by kernel_rfl),fun h=>(by cases h),(by kernel_rfl),(by kernel_rfl),fun x=>Nat.le_of_eq (by kernel_rfl),fun cs x h=>n18' h,fun x=>(by kernel_rfl),fun _ x=>(by kernel_rfl),fun _ _=>rfl⟩
theorem tok66:EntOK Tryz.prog G en66.t en66.e:=⟨⟨_,Tryz.underlying66,(by kernel_rfl),(by kernel_rfl)⟩,fun _=>⟨Tryz.t66,(.agg #[(.int .i64 0),(.int .i64 0),(.int .i64 0),(.int .i64 0),(.int .i64 0)]),(by kernel_rfl),(by kernel_rfl),(by kernel_rfl),(by kernel_rfl)⟩,fun _=>(by kernel_rfl),fun h=>(by cases h),(by kernel_rfl),(by kernel_rfl),fun x=>Nat.le_of_eq (by kernel_rfl),fun cs x h=>n17' h,fun x=>(by kernel_rfl),fun _ x=>(by kernel_rfl),fun _ _=>rfl⟩
theorem tok80:EntOK Tryz.prog G en80.t en80.e:=⟨(show Tryz.prog.underlying 80=some (.pointer 82) by kernel_rfl),fun _=>⟨Tryz.t80,(.pointer none),(by kernel_rfl),(by kernel_rfl),(by kernel_rfl),(by kernel_rfl)⟩,fun _=>(by kernel_rfl),fun h=>(by cases h),(by kernel_rfl),(by kernel_rfl),fun _=>Nat.zero_le _,fun _ _ h=>(by cases h),fun _=>rfl,fun _ _=>rfl,fun _ _=>rfl⟩
theorem tok82:EntOK Tryz.prog G en82.t en82.e:=⟨⟨_,Tryz.underlying82,(by kernel_rfl),(by kernel_rfl)⟩,fun _=>⟨Tryz.t82,(.agg #[(.slice none 0 0),(.slice none 0 0),(.slice none 0 0),(.slice none 0 0),(.slice none 0 0),(.slice none 0 0),(.slice none 0 0),(.slice none 0 0),(.int .u32 0),(.int .u32 0),(.int .u32 0),(.int .u32 0),(.int .i64 0),(.int .i64 0),(.int .i64 0),(.int .i64 0),(.float .f64 0),(.float .f64 0),(.float .f64 0),(.slice none 0 0)]),(by kernel_rfl),(by kernel_rfl),(by kernel_rfl),(by kernel_rfl)⟩,fun _=>(by kernel_rfl),fun h=>(by cases h),(by kernel_rfl),(by kernel_rfl),fun _=>Nat.zero_le _,fun _ _ h=>(by cases h),fun _=>rfl,fun _ _=>rfl,fun _ _=>rfl⟩
theorem tok98:EntOK Tryz.prog G en98.t en98.e:=⟨(show Tryz.prog.underlying 98=some (.int .u64) by kernel_rfl),fun _=>⟨Tryz.t98,(.int .u64 0),(by kernel_rfl),(by kernel_rfl),(by kernel_rfl),(by kernel_rfl)⟩,fun _=>(by kernel_rfl),fun h=>(by cases h),(by kernel_rfl),(by kernel_rfl),fun _=>Nat.zero_le _,fun _ _ h=>(by cases h),fun _=>rfl,fun _ _=>rfl,fun _ _=>rfl⟩
theorem n48':EntOK Tryz.prog G en100.t en100.e:=⟨⟨_,Tryz.underlying100,(by kernel_rfl),(by kernel_rfl)⟩,fun _=>⟨Tryz.t100,(.agg #[(.int .i64 0),(.int .i64 0),(.int .i64 0),(.int .i64 0),(.int .i64 0),(.int .i64 0),(.int .i64 0),(.int .i64 0),(.int .i64 0)]),(by kernel_rfl),(by kernel_rfl),(by kernel_rfl),(by kernel_rfl)⟩,fun _=>(by kernel_rfl),fun h=>(by cases h),(by kernel_rfl),(by kernel_rfl),fun x=>Nat.le_of_eq (by kernel_rfl),fun cs x h=>nzm' h,fun x=>(by kernel_rfl),fun _ x=>(by kernel_rfl),fun _ _=>rfl⟩
theorem n4l':EntOK Tryz.prog G en104.t en104.e:=⟨⟨(by kernel_rfl),(by kernel_rfl)⟩,fun _=>⟨Tryz.t104,(.agg #[(.int .u8 0),(.int .u8 0),(.int .u8 0),(.int .u8 0)]),(by kernel_rfl),(by kernel_rfl),(by kernel_rfl),(by kernel_rfl)⟩,fun _=>(by kernel_rfl),fun h=>(by cases h),(by kernel_rfl),(by kernel_rfl),fun _=>Nat.zero_le _,fun _ _ h=>(by cases h),fun _=>rfl,fun _ _=>rfl,fun _ _=>rfl⟩
theorem n31':EntOK Tryz.prog G en107.t en107.e:=⟨⟨_,_,_,Tryz.underlying107⟩,fun _=>⟨Tryz.t107,.nilFunc,(by kernel_rfl),(by kernel_rfl),(by kernel_rfl),(by kernel_rfl)⟩,fun _=>(by kernel_rfl),fun h=>(by cases h),(by kernel_rfl),(by kernel_rfl),fun _=>Nat.zero_le _,fun _ _ h=>(by cases h),fun _=>rfl,fun _ _=>rfl,fun _ _=>rfl⟩
theorem n4v':EntOK Tryz.prog G en109.t en109.e:=⟨⟨_,_,_,Tryz.underlying109⟩,fun _=>⟨Tryz.t109,.nilFunc,(by kernel_rfl),(by kernel_rfl),(by kernel_rfl),(by kernel_rfl)⟩,fun _=>(by kernel_rfl),fun h=>(by cases h),(by kernel_rfl),(by kernel_rfl),fun _=>Nat.zero_le _,fun _ _ h=>(by cases h),fun _=>rfl,fun _ _=>rfl,fun _ _=>rfl⟩
theorem n4u':EntOK Tryz.prog G en118.t en118.e:=⟨⟨_,Tryz.underlying118,(by kernel_rfl),(by kernel_rfl)⟩,fun _=>⟨Tryz.t118,(.agg #[(.int .i64 0),(.int .i64 0),(.int .i64 0),(.int .i64 0),(.float .f64 0),(.float .f64 0),(.float .f64 0),(.slice none 0 0),(.slice none 0 0)]),(by kernel_rfl),(by kernel_rfl),(by kernel_rfl),(by kernel_rfl)⟩,fun _=>(by kernel_rfl),fun h=>(by cases h),(by kernel_rfl),(by kernel_rfl),fun _=>Nat.zero_le _,fun _ _ h=>(by cases h),fun _=>rfl,fun _ _=>rfl,fun _ _=>rfl⟩
theorem n4q':EntOK Tryz.prog G en130.t en130.e:=⟨(show Tryz.prog.underlying 130=some (.pointer 38) by kernel_rfl),fun _=>⟨Tryz.t130,(.pointer none),(by kernel_rfl),(by kernel_rfl),(by kernel_rfl),(by kernel_rfl)⟩,fun _=>(by kernel_rfl),fun h=>(by cases h),(by kernel_rfl),(by kernel_rfl),fun _=>Nat.zero_le _,fun _ _ h=>(by cases h),fun _=>rfl,fun _ _=>rfl,fun _ _=>rfl⟩
theorem n4i':EntOK Tryz.prog G en139.t en139.e:=⟨⟨_,_,_,Tryz.underlying139⟩,fun _=>⟨Tryz.t139,.nilFunc,(by kernel_rfl),(by kernel_rfl),(by kernel_rfl),(by kernel_rfl)⟩,fun _=>(by kernel_rfl),fun h=>(by cases h),(by kernel_rfl),(by kernel_rfl),fun _=>Nat.zero_le _,fun _ _ h=>(by cases h),fun _=>rfl,fun _ _=>rfl,fun _ _=>rfl⟩
theorem n49':EntOK Tryz.prog G en150.t en150.e:=⟨⟨(by kernel_rfl),(by kernel_rfl)⟩,fun _=>⟨Tryz.t150,(.agg #[(.int .i64 0),(.int .i64 0)]),(by kernel_rfl),(by kernel_rfl),(by kernel_rfl),(by kernel_rfl)⟩,fun _=>(by kernel_rfl),fun h=>(by cases h),(by kernel_rfl),(by kernel_rfl),fun _=>Nat.zero_le _,fun _ _ h=>(by cases h),fun _=>rfl,fun _ _=>rfl,fun _ _=>rfl⟩
theorem n5b':EntOK Tryz.prog G en163.t en163.e:=⟨⟨(by kernel_rfl),(by kernel_rfl)⟩,fun _=>⟨Tryz.t163,(.agg #[(.int .u8 0),(.int .u8 0),(.int .u8 0),(.int .u8 0),(.int .u8 0),(.int .u8 0),(.int .u8 0),(.int .u8 0),(.int .u8 0),(.int .u8 0),(.int .u8 0),(.int .u8 0),(.int .u8 0),(.int .u8 0),(.int .u8 0),(.int .u8 0),(.int .u8 0),(.int .u8 0),(.int .u8 0),(.int .u8 0),(.int .u8 0),(.int .u8 0),(.int .u8 0),(.int .u8 0),(.int .u8 0),(.int .u8 0),(.int .u8 0),(.int .u8 0),(.int .u8 0),(.int .u8 0),(.int .u8 0),(.int .u8 0)]),(by kernel_rfl),(by kernel_rfl),(by kernel_rfl),(by kernel_rfl)⟩,fun _=>(by kernel_rfl),fun h=>(by cases h),(by kernel_rfl),(by kernel_rfl),fun x=>Nat.le_of_eq (by kernel_rfl),fun cs x h=>nzh' h,fun x=>(by kernel_rfl),fun _ x=>(by kernel_rfl),fun _ _=>rfl⟩
theorem sigOK:SigOK Tryz.prog G:=n1y' (List.forall_mem_cons.2 ⟨tok3,List.forall_mem_cons.2 ⟨tok4,List.forall_mem_cons.2 ⟨tok5,List.forall_mem_cons.2 ⟨tok9,List.forall_mem_cons.2 ⟨tok22,List.forall_mem_cons.2 ⟨tok23,List.forall_mem_cons.2 ⟨tok24,List.forall_mem_cons.2 ⟨tok26,List.forall_mem_cons.2 ⟨tok28,List.forall_mem_cons.2 ⟨tok29,List.forall_mem_cons.2 ⟨tok30,List.forall_mem_cons.2 ⟨tok32,List.forall_mem_cons.2 ⟨tok34,List.forall_mem_cons.2 ⟨tok35,List.forall_mem_cons.2 ⟨tok36,List.forall_mem_cons.2 ⟨tok38,List.forall_mem_cons.2 ⟨tok40,List.forall_mem_cons.2 ⟨tok42,List.forall_mem_cons.2 ⟨tok44,List.forall_mem_cons.2 ⟨tok46,List.forall_mem_cons.2 ⟨tok47,List.forall_mem_cons.2 ⟨tok49,List.forall_mem_cons.2 ⟨tok51,List.forall_mem_cons.2 ⟨tok52,List.forall_mem_cons.2 ⟨tok63,List.forall_mem_cons.2 ⟨tok66,List.forall_mem_cons.2 ⟨tok80,List.forall_mem_cons.2 ⟨tok82,List.forall_mem_cons.2 ⟨tok98,List.forall_mem_cons.2 ⟨n48',List.forall_mem_cons.2 ⟨n4l',List.forall_mem_cons.2 ⟨n31',List.forall_mem_cons.2 ⟨n4v',List.forall_mem_cons.2 ⟨n4u',List.forall_mem_cons.2 ⟨n4q',List.forall_mem_cons.2 ⟨n4i',List.forall_mem_cons.2 ⟨n49',List.forall_mem_cons.2 ⟨n5b',(fun _ h=>absurd h (List.not_mem_nil))⟩⟩⟩⟩⟩⟩⟩⟩⟩⟩⟩⟩⟩⟩⟩⟩⟩⟩⟩⟩⟩⟩⟩⟩⟩⟩⟩⟩⟩⟩⟩⟩⟩⟩⟩⟩⟩⟩) nx8'
theorem eqOK:EqOK Tryz.prog G:=n3e' sigOK (nye' (List.forall_mem_cons.2 ⟨ncg' rfl,List.forall_mem_cons.2 ⟨ncg' rfl,List.forall_mem_cons.2 ⟨ncg' rfl,List.forall_mem_cons.2 ⟨ncg' rfl,List.forall_mem_cons.2 ⟨⟨fun _=>(by kernel_rfl),fun h=>(by cases h),fun h=>(by cases h)⟩,List.forall_mem_cons.2 ⟨ncg' rfl,List.forall_mem_cons.2 ⟨ncg' rfl,List.forall_mem_cons.2 ⟨⟨fun _=>(by kernel_rfl),fun _=>(by kernel_rfl),fun _=>(by kernel_rfl)⟩,List.forall_mem_cons.2 ⟨⟨fun _=>(by kernel_rfl),fun _=>(by kernel_rfl),fun _=>(by kernel_rfl)⟩,List.forall_mem_cons.2 ⟨ncg' rfl,List.forall_mem_cons.2 ⟨ncg' rfl,List.forall_mem_cons.2 ⟨⟨fun _=>(by kernel_rfl),fun _=>(by kernel_rfl),fun _=>(by kernel_rfl)⟩,List.forall_mem_cons.2 ⟨ncg' rfl,List.forall_mem_cons.2 ⟨ncg' rfl,List.forall_mem_cons.2 ⟨ncg' rfl,List.forall_mem_cons.2 ⟨⟨fun _=>(by kernel_rfl),fun _=>(by kernel_rfl),fun _=>(by kernel_rfl)⟩,List.forall_mem_cons.2 ⟨ncg' rfl,List.forall_mem_cons.2 ⟨ncg' rfl,List.forall_mem_cons.2 ⟨⟨fun _=>(by kernel_rfl),fun _=>(by kernel_rfl),fun _=>(by kernel_rfl)⟩,List.forall_mem_cons.2 ⟨⟨fun _=>(by kernel_rfl),fun _=>(by kernel_rfl),fun _=>(by kernel_rfl)⟩,List.forall_mem_cons.2 ⟨ncg' rfl,List.forall_mem_cons.2 ⟨⟨fun _=>(by kernel_rfl),fun _=>(by kernel_rfl),fun _=>(by kernel_rfl)⟩,List.forall_mem_cons.2 ⟨⟨fun _=>(by kernel_rfl),fun _=>(by kernel_rfl),fun _=>(by kernel_rfl)⟩,List.forall_mem_cons.2 ⟨ncg' rfl,List.forall_mem_cons.2 ⟨⟨fun _=>(by kernel_rfl),fun _=>(by kernel_rfl),fun _=>(by kernel_rfl)⟩,List.forall_mem_cons.2 ⟨⟨fun _=>(by kernel_rfl),fun _=>(by kernel_rfl),fun _=>(by kernel_rfl)⟩,List.forall_mem_cons.2 ⟨ncg' rfl,List.forall_mem_cons.2 ⟨⟨fun _=>(by kernel_rfl),fun _=>(by kernel_rfl),fun _=>(by kernel_rfl)⟩,List.forall_mem_cons.2 ⟨ncg' rfl,List.forall_mem_cons.2 ⟨⟨fun _=>(by kernel_rfl),fun _=>(by kernel_rfl),fun _=>(by kernel_rfl)⟩,List.forall_mem_cons.2 ⟨⟨fun _=>(by kernel_rfl),fun h=>(by cases h),fun h=>(by cases h)⟩,List.forall_mem_cons.2 ⟨ncg' rfl,List.forall_mem_cons.2 ⟨ncg' rfl,List.forall_mem_cons.2 ⟨⟨fun _=>(by kernel_rfl),fun _=>(by kernel_rfl),fun _=>(by kernel_rfl)⟩,List.forall_mem_cons.2 ⟨ncg' rfl,List.forall_mem_cons.2 ⟨ncg' rfl,List.forall_mem_cons.2 ⟨⟨fun _=>(by kernel_rfl),fun h=>(by cases h),fun h=>(by cases h)⟩,List.forall_mem_cons.2 ⟨⟨fun _=>(by kernel_rfl),fun h=>(by cases h),fun h=>(by cases h)⟩,(fun _ h=>absurd h (List.not_mem_nil))⟩⟩⟩⟩⟩⟩⟩⟩⟩⟩⟩⟩⟩⟩⟩⟩⟩⟩⟩⟩⟩⟩⟩⟩⟩⟩⟩⟩⟩⟩⟩⟩⟩⟩⟩⟩⟩⟩))
theorem decOK:DecOK G:=n2i' (List.forall_mem_cons.2 ⟨nbd' rfl,List.forall_mem_cons.2 ⟨nbd' rfl,List.forall_mem_cons.2 ⟨nbd' rfl,List.forall_mem_cons.2 ⟨nbd' rfl,List.forall_mem_cons.2 ⟨nbd' rfl,List.forall_mem_cons.2 ⟨nhx' (s:=[.int .u8]) (by kernel_rfl) fun x=>⟨x.1,by kernel_rfl⟩,List.forall_mem_cons.2 ⟨nbd' rfl,List.forall_mem_cons.2 ⟨nbd' rfl,List.forall_mem_cons.2 ⟨nbd' rfl,List.forall_mem_cons.2 ⟨nbd' rfl,List.forall_mem_cons.2 ⟨nhx' (s:=[.int .i64,.int .i64,.int .i64,.int .i64,.int .i64,.int .i64,.int .i64,.int .i64,.int .i64]) (by kernel_rfl) fun x=>⟨⟨x.1,x.2.1,x.2.2.1,x.2.2.2.1,x.2.2.2.2.1,x.2.2.2.2.2.1,x.2.2.2.2.2.2.1,x.2.2.2.2.2.2.2.1,x.2.2.2.2.2.2.2.2.1⟩,by kernel_rfl⟩,List.forall_mem_cons.2 ⟨nbd' rfl,List.forall_mem_cons.2 ⟨nhx' (s:=[.int .i64]) (by kernel_rfl) fun x=>⟨x.1,by kernel_rfl⟩,List.forall_mem_cons.2 ⟨nhx' (s:=[.bool]) (by kernel_rfl) fun x=>⟨x.1,by kernel_rfl⟩,List.forall_mem_cons.2 ⟨nhx' (s:=[.int .i64,.int .i64,.int .i64,.int .i64,.bool]) (by kernel_rfl) fun x=>⟨⟨x.1,x.2.1,x.2.2.1,x.2.2.2.1,x.2.2.2.2.1⟩,by kernel_rfl⟩,List.forall_mem_cons.2 ⟨nbd' rfl,List.forall_mem_cons.2 ⟨nhx' (s:=[.bool,.bool,.bool,.bool,.int .i64,.int .i64,.int .i64,.int .u32,.int .u32,.int .u32,.int .u32,.int .u32]) (by kernel_rfl) fun x=>⟨⟨x.1,x.2.1,x.2.2.1,x.2.2.2.1,x.2.2.2.2.1,x.2.2.2.2.2.1,x.2.2.2.2.2.2.1,x.2.2.2.2.2.2.2.1,x.2.2.2.2.2.2.2.2.1,x.2.2.2.2.2.2.2.2.2.1,x.2.2.2.2.2.2.2.2.2.2.1,x.2.2.2.2.2.2.2.2.2.2.2.1⟩,by kernel_rfl⟩,List.forall_mem_cons.2 ⟨nhx' (s:=[.int .u32,.int .u32]) (by kernel_rfl) fun x=>⟨⟨x.1,x.2.1⟩,by kernel_rfl⟩,List.forall_mem_cons.2 ⟨nbd' rfl,List.forall_mem_cons.2 ⟨nbd' rfl,List.forall_mem_cons.2 ⟨nhx' (s:=[.int .i64,.int .i64,.int .i64,.int .i64,.int .i64]) (by kernel_rfl) fun x=>⟨⟨x.1,x.2.1,x.2.2.1,x.2.2.2.1,x.2.2.2.2.1⟩,by kernel_rfl⟩,List.forall_mem_cons.2 ⟨nbd' rfl,List.forall_mem_cons.2 ⟨nbd' rfl,List.forall_mem_cons.2 ⟨nbd' rfl,List.forall_mem_cons.2 ⟨nbd' rfl,List.forall_mem_cons.2 ⟨nbd' rfl,List.forall_mem_cons.2 ⟨nbd' rfl,List.forall_mem_cons.2 ⟨nbd' rfl,List.forall_mem_cons.2 ⟨nbd' rfl,List.forall_mem_cons.2 ⟨nbd' rfl,List.forall_mem_cons.2 ⟨nbd' rfl,List.forall_mem_cons.2 ⟨nbd' rfl,List.forall_mem_cons.2 ⟨nbd' rfl,List.forall_mem_cons.2 ⟨nbd' rfl,List.forall_mem_cons.2 ⟨nbd' rfl,List.forall_mem_cons.2 ⟨nbd' rfl,List.forall_mem_cons.2 ⟨nbd' rfl,List.forall_mem_cons.2 ⟨nbd' rfl,(fun _ h=>absurd h (List.not_mem_nil))⟩⟩⟩⟩⟩⟩⟩⟩⟩⟩⟩⟩⟩⟩⟩⟩⟩⟩⟩⟩⟩⟩⟩⟩⟩⟩⟩⟩⟩⟩⟩⟩⟩⟩⟩⟩⟩⟩)
theorem hmix:Tryz.prog.follows .mixedOrders=true:=by kernel_rfl
end Go.Ovl
