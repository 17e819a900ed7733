/- The types of the program, as a table. -/
import Derived.Test.YticbfghinhhgiaaDoorAbG
import Derived.Test.YticbfghinhhgiaaDoorTy
import Derived.Test.YticbfghinhhgiaaDoorProg
namespace Go.Ovl
open Go Go.Ab Go.Proofs
def tys : List (Nat × TyD) := [(5, ⟨Int, 0⟩), (55, ⟨View, ⟨false, false, false, false, 0, 0, 0, 0, 0, 0, 0, 0⟩⟩), (62, ⟨Car, ⟨0, 0, 0, 0, 0, 0, 0, 0, 0⟩⟩), (3, ⟨Int, 0⟩), (4, ⟨Bool, false⟩), (57, ⟨Entry, ⟨0, 0, 0, 0, false⟩⟩), (72, ⟨Record, ⟨0, 0, 0, 0, 0⟩⟩), (36, ⟨List (Int), []⟩), (113, ⟨Unit, ()⟩)]
@[reducible] def T : Nat → Type := TOf tys
def enc3 (x : Int) : List (Cv T) := [.sc (.int .i64 x)]
def dec3 : List (Cv T) → Option (Int)
  | [.sc (.int .i64 a0)] => some a0
  | _ => none
theorem dec3_ok {cs : List (Cv T)} {x : Int} (h : dec3 cs = some x) : enc3 x = cs := by
  unfold dec3 at h
  split at h
  · simp at h; subst h; rfl
  · simp at h
def enc4 (x : Bool) : List (Cv T) := [.sc (.bool x)]
def dec4 : List (Cv T) → Option (Bool)
  | [.sc (.bool a0)] => some a0
  | _ => none
theorem dec4_ok {cs : List (Cv T)} {x : Bool} (h : dec4 cs = some x) : enc4 x = cs := by
  unfold dec4 at h
  split at h
  · simp at h; subst h; rfl
  · simp at h
def enc5 (x : Int) : List (Cv T) := [.sc (.int .u8 x)]
def dec5 : List (Cv T) → Option (Int)
  | [.sc (.int .u8 a0)] => some a0
  | _ => none
theorem dec5_ok {cs : List (Cv T)} {x : Int} (h : dec5 cs = some x) : enc5 x = cs := by
  unfold dec5 at h
  split at h
  · simp at h; subst h; rfl
  · simp at h
def enc36 (x : List (Int)) : List (Cv T) := [.ro 3 x]
def dec36 : List (Cv T) → Option (List (Int))
  | [.ro ta0 a0] => match castT' T ta0 3 a0 with | some a0 => some a0 | none => none
  | _ => none
theorem dec36_ok {cs : List (Cv T)} {x : List (Int)} (h : dec36 cs = some x) : enc36 x = cs := by
  unfold dec36 at h
  split at h
  · split at h
    · rename_i hq; obtain ⟨rfl, rfl⟩ := castT'_spec hq
      cases h; rfl
    · simp at h
  · simp at h
def enc55 (x : View) : List (Cv T) := [.sc (.bool x.Ready), .sc (.bool x.Serving), .sc (.bool x.Legacy), .sc (.bool x.Lost), .sc (.int .i64 x.Floor), .sc (.int .i64 x.Dir), .sc (.int .i64 x.Load), .sc (.int .u32 x.Shows_Up), .sc (.int .u32 x.Shows_Down), .sc (.int .u32 x.Stops_Car), .sc (.int .u32 x.Stops_Hall_Up), .sc (.int .u32 x.Stops_Hall_Down)]
def dec55 : List (Cv T) → Option (View)
  | [.sc (.bool a0), .sc (.bool a1), .sc (.bool a2), .sc (.bool a3), .sc (.int .i64 a4), .sc (.int .i64 a5), .sc (.int .i64 a6), .sc (.int .u32 a7), .sc (.int .u32 a8), .sc (.int .u32 a9), .sc (.int .u32 a10), .sc (.int .u32 a11)] => some ⟨a0, a1, a2, a3, a4, a5, a6, a7, a8, a9, a10, a11⟩
  | _ => none
theorem dec55_ok {cs : List (Cv T)} {x : View} (h : dec55 cs = some x) : enc55 x = cs := by
  unfold dec55 at h
  split at h
  · simp at h; subst h; rfl
  · simp at h
def enc57 (x : Entry) : List (Cv T) := [.sc (.int .i64 x.Floor), .sc (.int .i64 x.Dir), .sc (.int .i64 x.Car), .sc (.int .i64 x.Moves), .sc (.bool x.Moved)]
def dec57 : List (Cv T) → Option (Entry)
  | [.sc (.int .i64 a0), .sc (.int .i64 a1), .sc (.int .i64 a2), .sc (.int .i64 a3), .sc (.bool a4)] => some ⟨a0, a1, a2, a3, a4⟩
  | _ => none
theorem dec57_ok {cs : List (Cv T)} {x : Entry} (h : dec57 cs = some x) : enc57 x = cs := by
  unfold dec57 at h
  split at h
  · simp at h; subst h; rfl
  · simp at h
def enc62 (x : Car) : List (Cv T) := [.sc (.int .i64 x.Deadline), .sc (.int .i64 x.Pulse), .sc (.int .i64 x.Quiet), .sc (.int .i64 x.Slack), .sc (.int .i64 x.Step), .sc (.int .i64 x.Travel), .sc (.int .i64 x.Dwell), .sc (.int .i64 x.Hold), .sc (.int .i64 x.Home)]
def dec62 : List (Cv T) → Option (Car)
  | [.sc (.int .i64 a0), .sc (.int .i64 a1), .sc (.int .i64 a2), .sc (.int .i64 a3), .sc (.int .i64 a4), .sc (.int .i64 a5), .sc (.int .i64 a6), .sc (.int .i64 a7), .sc (.int .i64 a8)] => some ⟨a0, a1, a2, a3, a4, a5, a6, a7, a8⟩
  | _ => none
theorem dec62_ok {cs : List (Cv T)} {x : Car} (h : dec62 cs = some x) : enc62 x = cs := by
  unfold dec62 at h
  split at h
  · simp at h; subst h; rfl
  · simp at h
def enc72 (x : Record) : List (Cv T) := [.sc (.int .i64 x.Kind), .sc (.int .i64 x.Floor), .sc (.int .i64 x.Dir), .sc (.int .i64 x.Car), .sc (.int .i64 x.Value)]
def dec72 : List (Cv T) → Option (Record)
  | [.sc (.int .i64 a0), .sc (.int .i64 a1), .sc (.int .i64 a2), .sc (.int .i64 a3), .sc (.int .i64 a4)] => some ⟨a0, a1, a2, a3, a4⟩
  | _ => none
theorem dec72_ok {cs : List (Cv T)} {x : Record} (h : dec72 cs = some x) : enc72 x = cs := by
  unfold dec72 at h
  split at h
  · simp at h; subst h; rfl
  · simp at h
def enc113 (_ : Unit) : List (Cv T) := [.sc (.int .u8 0), .sc (.int .u8 1), .sc (.int .u8 28), .sc (.int .u8 2), .sc (.int .u8 29), .sc (.int .u8 14), .sc (.int .u8 24), .sc (.int .u8 3), .sc (.int .u8 30), .sc (.int .u8 22), .sc (.int .u8 20), .sc (.int .u8 15), .sc (.int .u8 25), .sc (.int .u8 17), .sc (.int .u8 4), .sc (.int .u8 8), .sc (.int .u8 31), .sc (.int .u8 27), .sc (.int .u8 13), .sc (.int .u8 23), .sc (.int .u8 21), .sc (.int .u8 19), .sc (.int .u8 16), .sc (.int .u8 7), .sc (.int .u8 26), .sc (.int .u8 12), .sc (.int .u8 18), .sc (.int .u8 6), .sc (.int .u8 11), .sc (.int .u8 5), .sc (.int .u8 10), .sc (.int .u8 9)]
def dec113 : List (Cv T) → Option Unit := fun _ => none
theorem dec113_ok {cs : List (Cv T)} {x : Unit} (h : dec113 cs = some x) : enc113 x = cs := by cases h
def en3 : Ent1 T := ⟨3, ⟨.int .i64, 1, [(.int .i64 0)], enc3, dec3, true⟩⟩
def en4 : Ent1 T := ⟨4, ⟨.bool, 1, [(.bool false)], enc4, dec4, true⟩⟩
def en5 : Ent1 T := ⟨5, ⟨.int .u8, 1, [(.int .u8 0)], enc5, dec5, true⟩⟩
def en9 : Ent1 T := plain T 9 (.str) 1 [(.string ⟨#[]⟩)]
def en22 : Ent1 T := plain T 22 (.sl 5) 1 [(.slice none 0 0)]
def en23 : Ent1 T := plain T 23 (.sl 55) 1 [(.slice none 0 0)]
def en25 : Ent1 T := plain T 25 (.flt .f64) 1 [(.float .f64 0)]
def en26 : Ent1 T := plain T 26 (.sl 62) 1 [(.slice none 0 0)]
def en28 : Ent1 T := plain T 28 (.st [(0, 3), (1, 3), (2, 3), (3, 3), (4, 25), (5, 25), (6, 25), (7, 26)]) 8 [(.int .i64 0), (.int .i64 0), (.int .i64 0), (.int .i64 0), (.float .f64 0), (.float .f64 0), (.float .f64 0), (.slice none 0 0)]
def en33 : Ent1 T := plain T 33 (.arr 2 3) 2 [(.int .i64 0), (.int .i64 0)]
def en36 : Ent1 T := ⟨36, ⟨.sl 3, 1, [(.slice none 0 0)], enc36, dec36, false⟩⟩
def en37 : Ent1 T := plain T 37 (.sl 4) 1 [(.slice none 0 0)]
def en38 : Ent1 T := plain T 38 (.sl 57) 1 [(.slice none 0 0)]
def en40 : Ent1 T := plain T 40 (.st [(0, 36), (1, 37), (2, 37), (3, 38)]) 4 [(.slice none 0 0), (.slice none 0 0), (.slice none 0 0), (.slice none 0 0)]
def en42 : Ent1 T := plain T 42 (.sl 72) 1 [(.slice none 0 0)]
def en43 : Ent1 T := plain T 43 (.int .i64) 1 [(.int .i64 0)]
def en49 : Ent1 T := plain T 49 (.int .u32) 1 [(.int .u32 0)]
def en51 : Ent1 T := plain T 51 (.st [(0, 49), (1, 49)]) 2 [(.int .u32 0), (.int .u32 0)]
def en53 : Ent1 T := plain T 53 (.st [(0, 49), (1, 51)]) 3 [(.int .u32 0), (.int .u32 0), (.int .u32 0)]
def en55 : Ent1 T := ⟨55, ⟨.st [(0, 4), (1, 4), (2, 4), (3, 4), (4, 3), (5, 3), (6, 3), (7, 51), (9, 53)], 12, [(.bool false), (.bool false), (.bool false), (.bool false), (.int .i64 0), (.int .i64 0), (.int .i64 0), (.int .u32 0), (.int .u32 0), (.int .u32 0), (.int .u32 0), (.int .u32 0)], enc55, dec55, true⟩⟩
def en57 : Ent1 T := ⟨57, ⟨.st [(0, 3), (1, 3), (2, 3), (3, 3), (4, 4)], 5, [(.int .i64 0), (.int .i64 0), (.int .i64 0), (.int .i64 0), (.bool false)], enc57, dec57, true⟩⟩
def en62 : Ent1 T := ⟨62, ⟨.st [(0, 3), (1, 3), (2, 3), (3, 3), (4, 3), (5, 3), (6, 3), (7, 3), (8, 3)], 9, [(.int .i64 0), (.int .i64 0), (.int .i64 0), (.int .i64 0), (.int .i64 0), (.int .i64 0), (.int .i64 0), (.int .i64 0), (.int .i64 0)], enc62, dec62, true⟩⟩
def en64 : Ent1 T := plain T 64 (.sl 36) 1 [(.slice none 0 0)]
def en72 : Ent1 T := ⟨72, ⟨.st [(0, 3), (1, 3), (2, 3), (3, 3), (4, 3)], 5, [(.int .i64 0), (.int .i64 0), (.int .i64 0), (.int .i64 0), (.int .i64 0)], enc72, dec72, true⟩⟩
def en74 : Ent1 T := plain T 74 (.arr 4 5) 4 [(.int .u8 0), (.int .u8 0), (.int .u8 0), (.int .u8 0)]
def en75 : Ent1 T := plain T 75 (.int .u64) 1 [(.int .u64 0)]
def en83 : Ent1 T := plain T 83 (.fn) 1 [.nilFunc]
def en85 : Ent1 T := plain T 85 (.st [(0, 28), (8, 23)]) 9 [(.int .i64 0), (.int .i64 0), (.int .i64 0), (.int .i64 0), (.float .f64 0), (.float .f64 0), (.float .f64 0), (.slice none 0 0), (.slice none 0 0)]
def en113 : Ent1 T := ⟨113, ⟨.arr 32 5, 32, [(.int .u8 0), (.int .u8 0), (.int .u8 0), (.int .u8 0), (.int .u8 0), (.int .u8 0), (.int .u8 0), (.int .u8 0), (.int .u8 0), (.int .u8 0), (.int .u8 0), (.int .u8 0), (.int .u8 0), (.int .u8 0), (.int .u8 0), (.int .u8 0), (.int .u8 0), (.int .u8 0), (.int .u8 0), (.int .u8 0), (.int .u8 0), (.int .u8 0), (.int .u8 0), (.int .u8 0), (.int .u8 0), (.int .u8 0), (.int .u8 0), (.int .u8 0), (.int .u8 0), (.int .u8 0), (.int .u8 0), (.int .u8 0)], enc113, dec113, true⟩⟩
def ents : List (Ent1 T) := [en3, en4, en5, en9, en22, en23, en25, en26, en28, en33, en36, en37, en38, en40, en42, en43, en49, en51, en53, en55, en57, en62, en64, en72, en74, en75, en83, en85, en113]
def glv : Nat → Option ((t : Nat) × TOf tys t) := fun g => bif Nat.beq g 0 then some ⟨113, ()⟩ else none
def G : Sig := mkSig tys ents glv
theorem tok3 : EntOK Tryd.prog G en3.t en3.e := ⟨(show Tryd.prog.underlying 3 = some (.int .i64) by kernel_rfl), fun _ => ⟨Tryd.t3, (.int .i64 0), (by kernel_rfl), (by kernel_rfl), (by kernel_rfl), (by kernel_rfl)⟩, fun _ => (by kernel_rfl), fun h => (by cases h), (by kernel_rfl), (by kernel_rfl), fun x => Nat.le_of_eq (by kernel_rfl), fun cs x h => dec3_ok h, fun x => (by kernel_rfl), fun _ x => (by kernel_rfl)⟩
theorem tok4 : EntOK Tryd.prog G en4.t en4.e := ⟨(show Tryd.prog.underlying 4 = some .bool by kernel_rfl), fun _ => ⟨Tryd.t4, (.bool false), (by kernel_rfl), (by kernel_rfl), (by kernel_rfl), (by kernel_rfl)⟩, fun _ => (by kernel_rfl), fun h => (by cases h), (by kernel_rfl), (by kernel_rfl), fun x => Nat.le_of_eq (by kernel_rfl), fun cs x h => dec4_ok h, fun x => (by kernel_rfl), fun _ x => (by kernel_rfl)⟩
theorem tok5 : EntOK Tryd.prog G en5.t en5.e := ⟨(show Tryd.prog.underlying 5 = some (.int .u8) by kernel_rfl), fun _ => ⟨Tryd.t5, (.int .u8 0), (by kernel_rfl), (by kernel_rfl), (by kernel_rfl), (by kernel_rfl)⟩, fun _ => (by kernel_rfl), fun h => (by cases h), (by kernel_rfl), (by kernel_rfl), fun x => Nat.le_of_eq (by kernel_rfl), fun cs x h => dec5_ok h, fun x => (by kernel_rfl), fun _ x => (by kernel_rfl)⟩
theorem tok9 : EntOK Tryd.prog G en9.t en9.e := ⟨(show Tryd.prog.underlying 9 = some .string by kernel_rfl), fun _ => ⟨Tryd.t9, (.string ⟨#[]⟩), (by kernel_rfl), (by kernel_rfl), (by kernel_rfl), (by kernel_rfl)⟩, fun _ => (by kernel_rfl), fun h => (by cases h), (by kernel_rfl), (by kernel_rfl), fun _ => Nat.zero_le _, fun _ _ h => (by cases h), fun _ => rfl, fun _ _ => rfl⟩
theorem tok22 : EntOK Tryd.prog G en22.t en22.e := ⟨⟨(by kernel_rfl), (by kernel_rfl), ⟨Tryd.t5, (by kernel_rfl), (by kernel_rfl)⟩, fun x => (by kernel_rfl)⟩, fun _ => ⟨Tryd.t22, (.slice none 0 0), (by kernel_rfl), (by kernel_rfl), (by kernel_rfl), (by kernel_rfl)⟩, fun _ => (by kernel_rfl), fun h => (by cases h), (by kernel_rfl), (by kernel_rfl), fun _ => Nat.zero_le _, fun _ _ h => (by cases h), fun _ => rfl, fun _ _ => rfl⟩
theorem tok23 : EntOK Tryd.prog G en23.t en23.e := ⟨⟨(by kernel_rfl), (by kernel_rfl), ⟨Tryd.t55, (by kernel_rfl), (by kernel_rfl)⟩, fun x => (by kernel_rfl)⟩, fun _ => ⟨Tryd.t23, (.slice none 0 0), (by kernel_rfl), (by kernel_rfl), (by kernel_rfl), (by kernel_rfl)⟩, fun _ => (by kernel_rfl), fun h => (by cases h), (by kernel_rfl), (by kernel_rfl), fun _ => Nat.zero_le _, fun _ _ h => (by cases h), fun _ => rfl, fun _ _ => rfl⟩
theorem tok25 : EntOK Tryd.prog G en25.t en25.e := ⟨(show Tryd.prog.underlying 25 = some (.float .f64) by kernel_rfl), fun _ => ⟨Tryd.t25, (.float .f64 0), (by kernel_rfl), (by kernel_rfl), (by kernel_rfl), (by kernel_rfl)⟩, fun _ => (by kernel_rfl), fun h => (by cases h), (by kernel_rfl), (by kernel_rfl), fun _ => Nat.zero_le _, fun _ _ h => (by cases h), fun _ => rfl, fun _ _ => rfl⟩
theorem tok26 : EntOK Tryd.prog G en26.t en26.e := ⟨⟨(by kernel_rfl), (by kernel_rfl), ⟨Tryd.t62, (by kernel_rfl), (by kernel_rfl)⟩, fun x => (by kernel_rfl)⟩, fun _ => ⟨Tryd.t26, (.slice none 0 0), (by kernel_rfl), (by kernel_rfl), (by kernel_rfl), (by kernel_rfl)⟩, fun _ => (by kernel_rfl), fun h => (by cases h), (by kernel_rfl), (by kernel_rfl), fun _ => Nat.zero_le _, fun _ _ h => (by cases h), fun _ => rfl, fun _ _ => rfl⟩
theorem tok28 : EntOK Tryd.prog G en28.t en28.e := ⟨⟨_, Tryd.underlying28, (by kernel_rfl), (by kernel_rfl)⟩, fun _ => ⟨Tryd.t28, (.agg #[(.int .i64 0), (.int .i64 0), (.int .i64 0), (.int .i64 0), (.float .f64 0), (.float .f64 0), (.float .f64 0), (.slice none 0 0)]), (by kernel_rfl), (by kernel_rfl), (by kernel_rfl), (by kernel_rfl)⟩, fun _ => (by kernel_rfl), fun h => (by cases h), (by kernel_rfl), (by kernel_rfl), fun _ => Nat.zero_le _, fun _ _ h => (by cases h), fun _ => rfl, fun _ _ => rfl⟩
theorem tok33 : EntOK Tryd.prog G en33.t en33.e := ⟨⟨(by kernel_rfl), (by kernel_rfl)⟩, fun _ => ⟨Tryd.t33, (.agg #[(.int .i64 0), (.int .i64 0)]), (by kernel_rfl), (by kernel_rfl), (by kernel_rfl), (by kernel_rfl)⟩, fun _ => (by kernel_rfl), fun h => (by cases h), (by kernel_rfl), (by kernel_rfl), fun _ => Nat.zero_le _, fun _ _ h => (by cases h), fun _ => rfl, fun _ _ => rfl⟩
theorem tok36 : EntOK Tryd.prog G en36.t en36.e := ⟨⟨(by kernel_rfl), (by kernel_rfl), ⟨Tryd.t3, (by kernel_rfl), (by kernel_rfl)⟩, fun x => (by kernel_rfl)⟩, fun _ => ⟨Tryd.t36, (.slice none 0 0), (by kernel_rfl), (by kernel_rfl), (by kernel_rfl), (by kernel_rfl)⟩, fun _ => (by kernel_rfl), fun h => (by cases h), (by kernel_rfl), (by kernel_rfl), fun x => Nat.le_of_eq (by kernel_rfl), fun cs x h => dec36_ok h, fun x => (by kernel_rfl), fun hf _ => (by cases hf)⟩
theorem tok37 : EntOK Tryd.prog G en37.t en37.e := ⟨⟨(by kernel_rfl), (by kernel_rfl), ⟨Tryd.t4, (by kernel_rfl), (by kernel_rfl)⟩, fun x => (by kernel_rfl)⟩, fun _ => ⟨Tryd.t37, (.slice none 0 0), (by kernel_rfl), (by kernel_rfl), (by kernel_rfl), (by kernel_rfl)⟩, fun _ => (by kernel_rfl), fun h => (by cases h), (by kernel_rfl), (by kernel_rfl), fun _ => Nat.zero_le _, fun _ _ h => (by cases h), fun _ => rfl, fun _ _ => rfl⟩
theorem tok38 : EntOK Tryd.prog G en38.t en38.e := ⟨⟨(by kernel_rfl), (by kernel_rfl), ⟨Tryd.t57, (by kernel_rfl), (by kernel_rfl)⟩, fun x => (by kernel_rfl)⟩, fun _ => ⟨Tryd.t38, (.slice none 0 0), (by kernel_rfl), (by kernel_rfl), (by kernel_rfl), (by kernel_rfl)⟩, fun _ => (by kernel_rfl), fun h => (by cases h), (by kernel_rfl), (by kernel_rfl), fun _ => Nat.zero_le _, fun _ _ h => (by cases h), fun _ => rfl, fun _ _ => rfl⟩
theorem tok40 : EntOK Tryd.prog G en40.t en40.e := ⟨⟨_, Tryd.underlying40, (by kernel_rfl), (by kernel_rfl)⟩, fun _ => ⟨Tryd.t40, (.agg #[(.slice none 0 0), (.slice none 0 0), (.slice none 0 0), (.slice none 0 0)]), (by kernel_rfl), (by kernel_rfl), (by kernel_rfl), (by kernel_rfl)⟩, fun _ => (by kernel_rfl), fun h => (by cases h), (by kernel_rfl), (by kernel_rfl), fun _ => Nat.zero_le _, fun _ _ h => (by cases h), fun _ => rfl, fun _ _ => rfl⟩
theorem tok42 : EntOK Tryd.prog G en42.t en42.e := ⟨⟨(by kernel_rfl), (by kernel_rfl), ⟨Tryd.t72, (by kernel_rfl), (by kernel_rfl)⟩, fun x => (by kernel_rfl)⟩, fun _ => ⟨Tryd.t42, (.slice none 0 0), (by kernel_rfl), (by kernel_rfl), (by kernel_rfl), (by kernel_rfl)⟩, fun _ => (by kernel_rfl), fun h => (by cases h), (by kernel_rfl), (by kernel_rfl), fun _ => Nat.zero_le _, fun _ _ h => (by cases h), fun _ => rfl, fun _ _ => rfl⟩
theorem tok43 : EntOK Tryd.prog G en43.t en43.e := ⟨(show Tryd.prog.underlying 43 = some (.int .i64) by kernel_rfl), fun _ => ⟨Tryd.t43, (.int .i64 0), (by kernel_rfl), (by kernel_rfl), (by kernel_rfl), (by kernel_rfl)⟩, fun _ => (by kernel_rfl), fun h => (by cases h), (by kernel_rfl), (by kernel_rfl), fun _ => Nat.zero_le _, fun _ _ h => (by cases h), fun _ => rfl, fun _ _ => rfl⟩
theorem tok49 : EntOK Tryd.prog G en49.t en49.e := ⟨(show Tryd.prog.underlying 49 = some (.int .u32) by kernel_rfl), fun _ => ⟨Tryd.t49, (.int .u32 0), (by kernel_rfl), (by kernel_rfl), (by kernel_rfl), (by kernel_rfl)⟩, fun _ => (by kernel_rfl), fun h => (by cases h), (by kernel_rfl), (by kernel_rfl), fun _ => Nat.zero_le _, fun _ _ h => (by cases h), fun _ => rfl, fun _ _ => rfl⟩
theorem tok51 : EntOK Tryd.prog G en51.t en51.e := ⟨⟨_, Tryd.underlying51, (by kernel_rfl), (by kernel_rfl)⟩, fun _ => ⟨Tryd.t51, (.agg #[(.int .u32 0), (.int .u32 0)]), (by kernel_rfl), (by kernel_rfl), (by kernel_rfl), (by kernel_rfl)⟩, fun _ => (by kernel_rfl), fun h => (by cases h), (by kernel_rfl), (by kernel_rfl), fun _ => Nat.zero_le _, fun _ _ h => (by cases h), fun _ => rfl, fun _ _ => rfl⟩
theorem tok53 : EntOK Tryd.prog G en53.t en53.e := ⟨⟨_, Tryd.underlying53, (by kernel_rfl), (by kernel_rfl)⟩, fun _ => ⟨Tryd.t53, (.agg #[(.int .u32 0), (.int .u32 0), (.int .u32 0)]), (by kernel_rfl), (by kernel_rfl), (by kernel_rfl), (by kernel_rfl)⟩, fun _ => (by kernel_rfl), fun h => (by cases h), (by kernel_rfl), (by kernel_rfl), fun _ => Nat.zero_le _, fun _ _ h => (by cases h), fun _ => rfl, fun _ _ => rfl⟩
theorem tok55 : EntOK Tryd.prog G en55.t en55.e := ⟨⟨_, Tryd.underlying55, (by kernel_rfl), (by kernel_rfl)⟩, fun _ => ⟨Tryd.t55, (.agg #[(.bool false), (.bool false), (.bool false), (.bool false), (.int .i64 0), (.int .i64 0), (.int .i64 0), (.int .u32 0), (.int .u32 0), (.int .u32 0), (.int .u32 0), (.int .u32 0)]), (by kernel_rfl), (by kernel_rfl), (by kernel_rfl), (by kernel_rfl)⟩, fun _ => (by kernel_rfl), fun h => (by cases h), (by kernel_rfl), (by kernel_rfl), fun x => Nat.le_of_eq (by kernel_rfl), fun cs x h => dec55_ok h, fun x => (by kernel_rfl), fun _ x => (by kernel_rfl)⟩
theorem tok57 : EntOK Tryd.prog G en57.t en57.e := ⟨⟨_, Tryd.underlying57, (by kernel_rfl), (by kernel_rfl)⟩, fun _ => ⟨Tryd.t57, (.agg #[(.int .i64 0), (.int .i64 0), (.int .i64 0), (.int .i64 0), (.bool false)]), (by kernel_rfl), (by kernel_rfl), (by kernel_rfl), (by kernel_rfl)⟩, fun _ => (by kernel_rfl), fun h => (by cases h), (by kernel_rfl), (by kernel_rfl), fun x => Nat.le_of_eq (by kernel_rfl), fun cs x h => dec57_ok h, fun x => (by kernel_rfl), fun _ x => (by kernel_rfl)⟩
theorem tok62 : EntOK Tryd.prog G en62.t en62.e := ⟨⟨_, Tryd.underlying62, (by kernel_rfl), (by kernel_rfl)⟩, fun _ => ⟨Tryd.t62, (.agg #[(.int .i64 0), (.int .i64 0), (.int .i64 0), (.int .i64 0), (.int .i64 0), (.int .i64 0), (.int .i64 0), (.int .i64 0), (.int .i64 0)]), (by kernel_rfl), (by kernel_rfl), (by kernel_rfl), (by kernel_rfl)⟩, fun _ => (by kernel_rfl), fun h => (by cases h), (by kernel_rfl), (by kernel_rfl), fun x => Nat.le_of_eq (by kernel_rfl), fun cs x h => dec62_ok h, fun x => (by kernel_rfl), fun _ x => (by kernel_rfl)⟩
theorem tok64 : EntOK Tryd.prog G en64.t en64.e := ⟨⟨(by kernel_rfl), (by kernel_rfl), ⟨Tryd.t36, (by kernel_rfl), (by kernel_rfl)⟩, fun x => (by kernel_rfl)⟩, fun _ => ⟨Tryd.t64, (.slice none 0 0), (by kernel_rfl), (by kernel_rfl), (by kernel_rfl), (by kernel_rfl)⟩, fun _ => (by kernel_rfl), fun h => (by cases h), (by kernel_rfl), (by kernel_rfl), fun _ => Nat.zero_le _, fun _ _ h => (by cases h), fun _ => rfl, fun _ _ => rfl⟩
theorem tok72 : EntOK Tryd.prog G en72.t en72.e := ⟨⟨_, Tryd.underlying72, (by kernel_rfl), (by kernel_rfl)⟩, fun _ => ⟨Tryd.t72, (.agg #[(.int .i64 0), (.int .i64 0), (.int .i64 0), (.int .i64 0), (.int .i64 0)]), (by kernel_rfl), (by kernel_rfl), (by kernel_rfl), (by kernel_rfl)⟩, fun _ => (by kernel_rfl), fun h => (by cases h), (by kernel_rfl), (by kernel_rfl), fun x => Nat.le_of_eq (by kernel_rfl), fun cs x h => dec72_ok h, fun x => (by kernel_rfl), fun _ x => (by kernel_rfl)⟩
theorem tok74 : EntOK Tryd.prog G en74.t en74.e := ⟨⟨(by kernel_rfl), (by kernel_rfl)⟩, fun _ => ⟨Tryd.t74, (.agg #[(.int .u8 0), (.int .u8 0), (.int .u8 0), (.int .u8 0)]), (by kernel_rfl), (by kernel_rfl), (by kernel_rfl), (by kernel_rfl)⟩, fun _ => (by kernel_rfl), fun h => (by cases h), (by kernel_rfl), (by kernel_rfl), fun _ => Nat.zero_le _, fun _ _ h => (by cases h), fun _ => rfl, fun _ _ => rfl⟩
theorem tok75 : EntOK Tryd.prog G en75.t en75.e := ⟨(show Tryd.prog.underlying 75 = some (.int .u64) by kernel_rfl), fun _ => ⟨Tryd.t75, (.int .u64 0), (by kernel_rfl), (by kernel_rfl), (by kernel_rfl), (by kernel_rfl)⟩, fun _ => (by kernel_rfl), fun h => (by cases h), (by kernel_rfl), (by kernel_rfl), fun _ => Nat.zero_le _, fun _ _ h => (by cases h), fun _ => rfl, fun _ _ => rfl⟩
theorem tok83 : EntOK Tryd.prog G en83.t en83.e := ⟨⟨_, _, _, Tryd.underlying83⟩, fun _ => ⟨Tryd.t83, .nilFunc, (by kernel_rfl), (by kernel_rfl), (by kernel_rfl), (by kernel_rfl)⟩, fun _ => (by kernel_rfl), fun h => (by cases h), (by kernel_rfl), (by kernel_rfl), fun _ => Nat.zero_le _, fun _ _ h => (by cases h), fun _ => rfl, fun _ _ => rfl⟩
theorem tok85 : EntOK Tryd.prog G en85.t en85.e := ⟨⟨_, Tryd.underlying85, (by kernel_rfl), (by kernel_rfl)⟩, fun _ => ⟨Tryd.t85, (.agg #[(.int .i64 0), (.int .i64 0), (.int .i64 0), (.int .i64 0), (.float .f64 0), (.float .f64 0), (.float .f64 0), (.slice none 0 0), (.slice none 0 0)]), (by kernel_rfl), (by kernel_rfl), (by kernel_rfl), (by kernel_rfl)⟩, fun _ => (by kernel_rfl), fun h => (by cases h), (by kernel_rfl), (by kernel_rfl), fun _ => Nat.zero_le _, fun _ _ h => (by cases h), fun _ => rfl, fun _ _ => rfl⟩
theorem tok113 : EntOK Tryd.prog G en113.t en113.e := ⟨⟨(by kernel_rfl), (by kernel_rfl)⟩, fun _ => ⟨Tryd.t113, (.agg #[(.int .u8 0), (.int .u8 0), (.int .u8 0), (.int .u8 0), (.int .u8 0), (.int .u8 0), (.int .u8 0), (.int .u8 0), (.int .u8 0), (.int .u8 0), (.int .u8 0), (.int .u8 0), (.int .u8 0), (.int .u8 0), (.int .u8 0), (.int .u8 0), (.int .u8 0), (.int .u8 0), (.int .u8 0), (.int .u8 0), (.int .u8 0), (.int .u8 0), (.int .u8 0), (.int .u8 0), (.int .u8 0), (.int .u8 0), (.int .u8 0), (.int .u8 0), (.int .u8 0), (.int .u8 0), (.int .u8 0), (.int .u8 0)]), (by kernel_rfl), (by kernel_rfl), (by kernel_rfl), (by kernel_rfl)⟩, fun _ => (by kernel_rfl), fun h => (by cases h), (by kernel_rfl), (by kernel_rfl), fun x => Nat.le_of_eq (by kernel_rfl), fun cs x h => dec113_ok h, fun x => (by kernel_rfl), fun _ x => (by kernel_rfl)⟩
theorem sigOK : SigOK Tryd.prog G := sigOK_of (List.forall_mem_cons.2 ⟨tok3, List.forall_mem_cons.2 ⟨tok4, List.forall_mem_cons.2 ⟨tok5, List.forall_mem_cons.2 ⟨tok9, List.forall_mem_cons.2 ⟨tok22, List.forall_mem_cons.2 ⟨tok23, List.forall_mem_cons.2 ⟨tok25, List.forall_mem_cons.2 ⟨tok26, List.forall_mem_cons.2 ⟨tok28, List.forall_mem_cons.2 ⟨tok33, List.forall_mem_cons.2 ⟨tok36, List.forall_mem_cons.2 ⟨tok37, List.forall_mem_cons.2 ⟨tok38, List.forall_mem_cons.2 ⟨tok40, List.forall_mem_cons.2 ⟨tok42, List.forall_mem_cons.2 ⟨tok43, List.forall_mem_cons.2 ⟨tok49, List.forall_mem_cons.2 ⟨tok51, List.forall_mem_cons.2 ⟨tok53, List.forall_mem_cons.2 ⟨tok55, List.forall_mem_cons.2 ⟨tok57, List.forall_mem_cons.2 ⟨tok62, List.forall_mem_cons.2 ⟨tok64, List.forall_mem_cons.2 ⟨tok72, List.forall_mem_cons.2 ⟨tok74, List.forall_mem_cons.2 ⟨tok75, List.forall_mem_cons.2 ⟨tok83, List.forall_mem_cons.2 ⟨tok85, List.forall_mem_cons.2 ⟨tok113, (fun _ h => absurd h (List.not_mem_nil))⟩⟩⟩⟩⟩⟩⟩⟩⟩⟩⟩⟩⟩⟩⟩⟩⟩⟩⟩⟩⟩⟩⟩⟩⟩⟩⟩⟩⟩)
theorem eqOK : EqOK Tryd.prog G := eqOK_of sigOK (namesOK_of (List.forall_mem_cons.2 ⟨nmE_no rfl, List.forall_mem_cons.2 ⟨nmE_no rfl, List.forall_mem_cons.2 ⟨nmE_no rfl, List.forall_mem_cons.2 ⟨nmE_no rfl, List.forall_mem_cons.2 ⟨nmE_no rfl, List.forall_mem_cons.2 ⟨nmE_no rfl, List.forall_mem_cons.2 ⟨nmE_no rfl, List.forall_mem_cons.2 ⟨nmE_no rfl, List.forall_mem_cons.2 ⟨⟨fun _ => (by kernel_rfl), fun _ => (by kernel_rfl), fun _ => (by kernel_rfl)⟩, List.forall_mem_cons.2 ⟨⟨fun _ => (by kernel_rfl), fun h => (by cases h), fun h => (by cases h)⟩, List.forall_mem_cons.2 ⟨nmE_no rfl, List.forall_mem_cons.2 ⟨nmE_no rfl, List.forall_mem_cons.2 ⟨nmE_no rfl, List.forall_mem_cons.2 ⟨⟨fun _ => (by kernel_rfl), fun _ => (by kernel_rfl), fun _ => (by kernel_rfl)⟩, List.forall_mem_cons.2 ⟨nmE_no rfl, List.forall_mem_cons.2 ⟨nmE_no rfl, List.forall_mem_cons.2 ⟨nmE_no rfl, List.forall_mem_cons.2 ⟨⟨fun _ => (by kernel_rfl), fun _ => (by kernel_rfl), fun _ => (by kernel_rfl)⟩, List.forall_mem_cons.2 ⟨⟨fun _ => (by kernel_rfl), fun _ => (by kernel_rfl), fun _ => (by kernel_rfl)⟩, List.forall_mem_cons.2 ⟨⟨fun _ => (by kernel_rfl), fun _ => (by kernel_rfl), fun _ => (by kernel_rfl)⟩, List.forall_mem_cons.2 ⟨⟨fun _ => (by kernel_rfl), fun _ => (by kernel_rfl), fun _ => (by kernel_rfl)⟩, List.forall_mem_cons.2 ⟨⟨fun _ => (by kernel_rfl), fun _ => (by kernel_rfl), fun _ => (by kernel_rfl)⟩, List.forall_mem_cons.2 ⟨nmE_no rfl, List.forall_mem_cons.2 ⟨⟨fun _ => (by kernel_rfl), fun _ => (by kernel_rfl), fun _ => (by kernel_rfl)⟩, List.forall_mem_cons.2 ⟨⟨fun _ => (by kernel_rfl), fun h => (by cases h), fun h => (by cases h)⟩, List.forall_mem_cons.2 ⟨nmE_no rfl, List.forall_mem_cons.2 ⟨nmE_no rfl, List.forall_mem_cons.2 ⟨⟨fun _ => (by kernel_rfl), fun _ => (by kernel_rfl), fun _ => (by kernel_rfl)⟩, List.forall_mem_cons.2 ⟨⟨fun _ => (by kernel_rfl), fun h => (by cases h), fun h => (by cases h)⟩, (fun _ h => absurd h (List.not_mem_nil))⟩⟩⟩⟩⟩⟩⟩⟩⟩⟩⟩⟩⟩⟩⟩⟩⟩⟩⟩⟩⟩⟩⟩⟩⟩⟩⟩⟩⟩))
theorem decOK : DecOK G := decOK_of (List.forall_mem_cons.2 ⟨decE_no rfl, List.forall_mem_cons.2 ⟨decE_no rfl, List.forall_mem_cons.2 ⟨decE_no rfl, List.forall_mem_cons.2 ⟨decE_no rfl, List.forall_mem_cons.2 ⟨decE_sl (s := [.int .u8]) (by kernel_rfl) fun x => ⟨x.1, by kernel_rfl⟩, List.forall_mem_cons.2 ⟨decE_sl (s := [.bool, .bool, .bool, .bool, .int .i64, .int .i64, .int .i64, .int .u32, .int .u32, .int .u32, .int .u32, .int .u32]) (by kernel_rfl) fun x => ⟨⟨x.1, x.2.1, x.2.2.1, x.2.2.2.1, x.2.2.2.2.1, x.2.2.2.2.2.1, x.2.2.2.2.2.2.1, x.2.2.2.2.2.2.2.1, x.2.2.2.2.2.2.2.2.1, x.2.2.2.2.2.2.2.2.2.1, x.2.2.2.2.2.2.2.2.2.2.1, x.2.2.2.2.2.2.2.2.2.2.2.1⟩, by kernel_rfl⟩, List.forall_mem_cons.2 ⟨decE_no rfl, List.forall_mem_cons.2 ⟨decE_sl (s := [.int .i64, .int .i64, .int .i64, .int .i64, .int .i64, .int .i64, .int .i64, .int .i64, .int .i64]) (by kernel_rfl) fun x => ⟨⟨x.1, x.2.1, x.2.2.1, x.2.2.2.1, x.2.2.2.2.1, x.2.2.2.2.2.1, x.2.2.2.2.2.2.1, x.2.2.2.2.2.2.2.1, x.2.2.2.2.2.2.2.2.1⟩, by kernel_rfl⟩, List.forall_mem_cons.2 ⟨decE_no rfl, List.forall_mem_cons.2 ⟨decE_no rfl, List.forall_mem_cons.2 ⟨decE_sl (s := [.int .i64]) (by kernel_rfl) fun x => ⟨x.1, by kernel_rfl⟩, List.forall_mem_cons.2 ⟨decE_sl (s := [.bool]) (by kernel_rfl) fun x => ⟨x.1, by kernel_rfl⟩, List.forall_mem_cons.2 ⟨decE_sl (s := [.int .i64, .int .i64, .int .i64, .int .i64, .bool]) (by kernel_rfl) fun x => ⟨⟨x.1, x.2.1, x.2.2.1, x.2.2.2.1, x.2.2.2.2.1⟩, by kernel_rfl⟩, List.forall_mem_cons.2 ⟨decE_no rfl, List.forall_mem_cons.2 ⟨decE_sl (s := [.int .i64, .int .i64, .int .i64, .int .i64, .int .i64]) (by kernel_rfl) fun x => ⟨⟨x.1, x.2.1, x.2.2.1, x.2.2.2.1, x.2.2.2.2.1⟩, by kernel_rfl⟩, List.forall_mem_cons.2 ⟨decE_no rfl, List.forall_mem_cons.2 ⟨decE_no rfl, List.forall_mem_cons.2 ⟨decE_no rfl, List.forall_mem_cons.2 ⟨decE_no rfl, List.forall_mem_cons.2 ⟨decE_no rfl, List.forall_mem_cons.2 ⟨decE_no rfl, List.forall_mem_cons.2 ⟨decE_no rfl, List.forall_mem_cons.2 ⟨decE_sl (s := [.ro 3]) (by kernel_rfl) fun x => ⟨x.1, by kernel_rfl⟩, List.forall_mem_cons.2 ⟨decE_no rfl, List.forall_mem_cons.2 ⟨decE_no rfl, List.forall_mem_cons.2 ⟨decE_no rfl, List.forall_mem_cons.2 ⟨decE_no rfl, List.forall_mem_cons.2 ⟨decE_no rfl, List.forall_mem_cons.2 ⟨decE_no rfl, (fun _ h => absurd h (List.not_mem_nil))⟩⟩⟩⟩⟩⟩⟩⟩⟩⟩⟩⟩⟩⟩⟩⟩⟩⟩⟩⟩⟩⟩⟩⟩⟩⟩⟩⟩⟩)
theorem hmix : Tryd.prog.follows .mixedOrders = true := by kernel_rfl
end Go.Ovl
