/- The types of the program, as a table. -/
import Derived.Test.YthdomhdippmaiaaAbG
import Derived.Test.YthdomhdippmaiaaTy
import Derived.Test.YthdomhdippmaiaaProg
namespace Go.Ovl
open Go Go.Ab Go.Proofs
def tys : List (Nat × TyD) := [(5, ⟨Int, 0⟩), (3, ⟨Int, 0⟩), (4, ⟨Bool, false⟩), (98, ⟨Entry, ⟨0, 0, 0, 0, false⟩⟩), (100, ⟨Car, ⟨0, 0, 0, 0, 0, 0, 0, 0, 0⟩⟩), (56, ⟨Record, ⟨0, 0, 0, 0, 0⟩⟩)]
@[reducible] def T : Nat → Type := TOf tys
def enc3 (x : Int) : List (Cv T) := [.sc (.int .i64 x)]
def dec3 : List (Cv T) → Option (Int)
  | [.sc (.int .i64 a0)] => some a0
  | _ => none
theorem dec3_ok {cs : List (Cv T)} {x : Int} (h : dec3 cs = some x) : enc3 x = cs := by
  unfold dec3 at h
  split at h
  · simp at h; subst h; rfl
  · simp at h
def enc4 (x : Bool) : List (Cv T) := [.sc (.bool x)]
def dec4 : List (Cv T) → Option (Bool)
  | [.sc (.bool a0)] => some a0
  | _ => none
theorem dec4_ok {cs : List (Cv T)} {x : Bool} (h : dec4 cs = some x) : enc4 x = cs := by
  unfold dec4 at h
  split at h
  · simp at h; subst h; rfl
  · simp at h
def enc5 (x : Int) : List (Cv T) := [.sc (.int .u8 x)]
def dec5 : List (Cv T) → Option (Int)
  | [.sc (.int .u8 a0)] => some a0
  | _ => none
theorem dec5_ok {cs : List (Cv T)} {x : Int} (h : dec5 cs = some x) : enc5 x = cs := by
  unfold dec5 at h
  split at h
  · simp at h; subst h; rfl
  · simp at h
def enc56 (x : Record) : List (Cv T) := [.sc (.int .i64 x.Kind), .sc (.int .i64 x.Floor), .sc (.int .i64 x.Dir), .sc (.int .i64 x.Car), .sc (.int .i64 x.Value)]
def dec56 : List (Cv T) → Option (Record)
  | [.sc (.int .i64 a0), .sc (.int .i64 a1), .sc (.int .i64 a2), .sc (.int .i64 a3), .sc (.int .i64 a4)] => some ⟨a0, a1, a2, a3, a4⟩
  | _ => none
theorem dec56_ok {cs : List (Cv T)} {x : Record} (h : dec56 cs = some x) : enc56 x = cs := by
  unfold dec56 at h
  split at h
  · simp at h; subst h; rfl
  · simp at h
def enc98 (x : Entry) : List (Cv T) := [.sc (.int .i64 x.Floor), .sc (.int .i64 x.Dir), .sc (.int .i64 x.Car), .sc (.int .i64 x.Moves), .sc (.bool x.Moved)]
def dec98 : List (Cv T) → Option (Entry)
  | [.sc (.int .i64 a0), .sc (.int .i64 a1), .sc (.int .i64 a2), .sc (.int .i64 a3), .sc (.bool a4)] => some ⟨a0, a1, a2, a3, a4⟩
  | _ => none
theorem dec98_ok {cs : List (Cv T)} {x : Entry} (h : dec98 cs = some x) : enc98 x = cs := by
  unfold dec98 at h
  split at h
  · simp at h; subst h; rfl
  · simp at h
def enc100 (x : Car) : List (Cv T) := [.sc (.int .i64 x.Deadline), .sc (.int .i64 x.Pulse), .sc (.int .i64 x.Quiet), .sc (.int .i64 x.Slack), .sc (.int .i64 x.Step), .sc (.int .i64 x.Travel), .sc (.int .i64 x.Dwell), .sc (.int .i64 x.Hold), .sc (.int .i64 x.Home)]
def dec100 : List (Cv T) → Option (Car)
  | [.sc (.int .i64 a0), .sc (.int .i64 a1), .sc (.int .i64 a2), .sc (.int .i64 a3), .sc (.int .i64 a4), .sc (.int .i64 a5), .sc (.int .i64 a6), .sc (.int .i64 a7), .sc (.int .i64 a8)] => some ⟨a0, a1, a2, a3, a4, a5, a6, a7, a8⟩
  | _ => none
theorem dec100_ok {cs : List (Cv T)} {x : Car} (h : dec100 cs = some x) : enc100 x = cs := by
  unfold dec100 at h
  split at h
  · simp at h; subst h; rfl
  · simp at h
def en3 : Ent1 T := ⟨3, ⟨.int .i64, 1, [(.int .i64 0)], enc3, dec3, true⟩⟩
def en4 : Ent1 T := ⟨4, ⟨.bool, 1, [(.bool false)], enc4, dec4, true⟩⟩
def en5 : Ent1 T := ⟨5, ⟨.int .u8, 1, [(.int .u8 0)], enc5, dec5, true⟩⟩
def en9 : Ent1 T := plain T 9 (.str) 1 [(.string ⟨#[]⟩)]
def en23 : Ent1 T := plain T 23 (.sl 5) 1 [(.slice none 0 0)]
def en24 : Ent1 T := plain T 24 (.sl 3) 1 [(.slice none 0 0)]
def en25 : Ent1 T := plain T 25 (.sl 4) 1 [(.slice none 0 0)]
def en26 : Ent1 T := plain T 26 (.sl 98) 1 [(.slice none 0 0)]
def en28 : Ent1 T := plain T 28 (.st [(0, 24), (1, 25), (2, 25), (3, 26)]) 4 [(.slice none 0 0), (.slice none 0 0), (.slice none 0 0), (.slice none 0 0)]
def en30 : Ent1 T := plain T 30 (.flt .f64) 1 [(.float .f64 0)]
def en31 : Ent1 T := plain T 31 (.sl 100) 1 [(.slice none 0 0)]
def en33 : Ent1 T := plain T 33 (.st [(0, 3), (1, 3), (2, 3), (3, 3), (4, 30), (5, 30), (6, 30), (7, 31)]) 8 [(.int .i64 0), (.int .i64 0), (.int .i64 0), (.int .i64 0), (.float .f64 0), (.float .f64 0), (.float .f64 0), (.slice none 0 0)]
def en37 : Ent1 T := plain T 37 (.arr 2 9) 2 [(.string ⟨#[]⟩), (.string ⟨#[]⟩)]
def en39 : Ent1 T := plain T 39 (.st [(0, 37), (2, 3)]) 3 [(.string ⟨#[]⟩), (.string ⟨#[]⟩), (.int .i64 0)]
def en47 : Ent1 T := plain T 47 (.int .i64) 1 [(.int .i64 0)]
def en56 : Ent1 T := ⟨56, ⟨.st [(0, 3), (1, 3), (2, 3), (3, 3), (4, 3)], 5, [(.int .i64 0), (.int .i64 0), (.int .i64 0), (.int .i64 0), (.int .i64 0)], enc56, dec56, true⟩⟩
def en58 : Ent1 T := plain T 58 (.st [(0, 39), (3, 3), (4, 56)]) 9 [(.string ⟨#[]⟩), (.string ⟨#[]⟩), (.int .i64 0), (.int .i64 0), (.int .i64 0), (.int .i64 0), (.int .i64 0), (.int .i64 0), (.int .i64 0)]
def en59 : Ent1 T := plain T 59 (.sl 56) 1 [(.slice none 0 0)]
def en62 : Ent1 T := plain T 62 (.int .u64) 1 [(.int .u64 0)]
def en98 : Ent1 T := ⟨98, ⟨.st [(0, 3), (1, 3), (2, 3), (3, 3), (4, 4)], 5, [(.int .i64 0), (.int .i64 0), (.int .i64 0), (.int .i64 0), (.bool false)], enc98, dec98, true⟩⟩
def en100 : Ent1 T := ⟨100, ⟨.st [(0, 3), (1, 3), (2, 3), (3, 3), (4, 3), (5, 3), (6, 3), (7, 3), (8, 3)], 9, [(.int .i64 0), (.int .i64 0), (.int .i64 0), (.int .i64 0), (.int .i64 0), (.int .i64 0), (.int .i64 0), (.int .i64 0), (.int .i64 0)], enc100, dec100, true⟩⟩
def en131 : Ent1 T := plain T 131 (.pt 133) 1 [(.pointer none)]
def en133 : Ent1 T := plain T 133 (.st [(0, 131), (1, 23)]) 2 [(.pointer none), (.slice none 0 0)]
def en143 : Ent1 T := plain T 143 (.pt 28) 1 [(.pointer none)]
def en162 : Ent1 T := plain T 162 (.fn) 1 [.nilFunc]
def en174 : Ent1 T := plain T 174 (.pt 39) 1 [(.pointer none)]
def en175 : Ent1 T := plain T 175 (.fn) 1 [.nilFunc]
def ents : List (Ent1 T) := [en3, en4, en5, en9, en23, en24, en25, en26, en28, en30, en31, en33, en37, en39, en47, en56, en58, en59, en62, en98, en100, en131, en133, en143, en162, en174, en175]
def G : Sig := mkSig tys ents
theorem tok3 : EntOK Try.prog G en3.t en3.e := ⟨(show Try.prog.underlying 3 = some (.int .i64) by kernel_rfl), fun _ => ⟨Try.t3, (.int .i64 0), (by kernel_rfl), (by kernel_rfl), (by kernel_rfl), (by kernel_rfl)⟩, fun _ => (by kernel_rfl), fun h => (by cases h), (by kernel_rfl), (by kernel_rfl), fun x => Nat.le_of_eq (by kernel_rfl), fun cs x h => dec3_ok h, fun x => (by kernel_rfl), fun _ x => (by kernel_rfl), fun _ _ => rfl⟩
theorem tok4 : EntOK Try.prog G en4.t en4.e := ⟨(show Try.prog.underlying 4 = some .bool by kernel_rfl), fun _ => ⟨Try.t4, (.bool false), (by kernel_rfl), (by kernel_rfl), (by kernel_rfl), (by kernel_rfl)⟩, fun _ => (by kernel_rfl), fun h => (by cases h), (by kernel_rfl), (by kernel_rfl), fun x => Nat.le_of_eq (by kernel_rfl), fun cs x h => dec4_ok h, fun x => (by kernel_rfl), fun _ x => (by kernel_rfl), fun _ _ => rfl⟩
theorem tok5 : EntOK Try.prog G en5.t en5.e := ⟨(show Try.prog.underlying 5 = some (.int .u8) by kernel_rfl), fun _ => ⟨Try.t5, (.int .u8 0), (by kernel_rfl), (by kernel_rfl), (by kernel_rfl), (by kernel_rfl)⟩, fun _ => (by kernel_rfl), fun h => (by cases h), (by kernel_rfl), (by kernel_rfl), fun x => Nat.le_of_eq (by kernel_rfl), fun cs x h => dec5_ok h, fun x => (by kernel_rfl), fun _ x => (by kernel_rfl), fun _ _ => rfl⟩
theorem tok9 : EntOK Try.prog G en9.t en9.e := ⟨(show Try.prog.underlying 9 = some .string by kernel_rfl), fun _ => ⟨Try.t9, (.string ⟨#[]⟩), (by kernel_rfl), (by kernel_rfl), (by kernel_rfl), (by kernel_rfl)⟩, fun _ => (by kernel_rfl), fun h => (by cases h), (by kernel_rfl), (by kernel_rfl), fun _ => Nat.zero_le _, fun _ _ h => (by cases h), fun _ => rfl, fun _ _ => rfl, fun _ _ => rfl⟩
theorem tok23 : EntOK Try.prog G en23.t en23.e := ⟨⟨(by kernel_rfl), (by kernel_rfl), ⟨Try.t5, (by kernel_rfl), (by kernel_rfl)⟩, fun x => (by kernel_rfl)⟩, fun _ => ⟨Try.t23, (.slice none 0 0), (by kernel_rfl), (by kernel_rfl), (by kernel_rfl), (by kernel_rfl)⟩, fun _ => (by kernel_rfl), fun h => (by cases h), (by kernel_rfl), (by kernel_rfl), fun _ => Nat.zero_le _, fun _ _ h => (by cases h), fun _ => rfl, fun _ _ => rfl, fun _ _ => rfl⟩
theorem tok24 : EntOK Try.prog G en24.t en24.e := ⟨⟨(by kernel_rfl), (by kernel_rfl), ⟨Try.t3, (by kernel_rfl), (by kernel_rfl)⟩, fun x => (by kernel_rfl)⟩, fun _ => ⟨Try.t24, (.slice none 0 0), (by kernel_rfl), (by kernel_rfl), (by kernel_rfl), (by kernel_rfl)⟩, fun _ => (by kernel_rfl), fun h => (by cases h), (by kernel_rfl), (by kernel_rfl), fun _ => Nat.zero_le _, fun _ _ h => (by cases h), fun _ => rfl, fun _ _ => rfl, fun _ _ => rfl⟩
theorem tok25 : EntOK Try.prog G en25.t en25.e := ⟨⟨(by kernel_rfl), (by kernel_rfl), ⟨Try.t4, (by kernel_rfl), (by kernel_rfl)⟩, fun x => (by kernel_rfl)⟩, fun _ => ⟨Try.t25, (.slice none 0 0), (by kernel_rfl), (by kernel_rfl), (by kernel_rfl), (by kernel_rfl)⟩, fun _ => (by kernel_rfl), fun h => (by cases h), (by kernel_rfl), (by kernel_rfl), fun _ => Nat.zero_le _, fun _ _ h => (by cases h), fun _ => rfl, fun _ _ => rfl, fun _ _ => rfl⟩
theorem tok26 : EntOK Try.prog G en26.t en26.e := ⟨⟨(by kernel_rfl), (by kernel_rfl), ⟨Try.t98, (by kernel_rfl), (by kernel_rfl)⟩, fun x => (by kernel_rfl)⟩, fun _ => ⟨Try.t26, (.slice none 0 0), (by kernel_rfl), (by kernel_rfl), (by kernel_rfl), (by kernel_rfl)⟩, fun _ => (by kernel_rfl), fun h => (by cases h), (by kernel_rfl), (by kernel_rfl), fun _ => Nat.zero_le _, fun _ _ h => (by cases h), fun _ => rfl, fun _ _ => rfl, fun _ _ => rfl⟩
theorem tok28 : EntOK Try.prog G en28.t en28.e := ⟨⟨_, Try.underlying28, (by kernel_rfl), (by kernel_rfl)⟩, fun _ => ⟨Try.t28, (.agg #[(.slice none 0 0), (.slice none 0 0), (.slice none 0 0), (.slice none 0 0)]), (by kernel_rfl), (by kernel_rfl), (by kernel_rfl), (by kernel_rfl)⟩, fun _ => (by kernel_rfl), fun h => (by cases h), (by kernel_rfl), (by kernel_rfl), fun _ => Nat.zero_le _, fun _ _ h => (by cases h), fun _ => rfl, fun _ _ => rfl, fun _ _ => rfl⟩
theorem tok30 : EntOK Try.prog G en30.t en30.e := ⟨(show Try.prog.underlying 30 = some (.float .f64) by kernel_rfl), fun _ => ⟨Try.t30, (.float .f64 0), (by kernel_rfl), (by kernel_rfl), (by kernel_rfl), (by kernel_rfl)⟩, fun _ => (by kernel_rfl), fun h => (by cases h), (by kernel_rfl), (by kernel_rfl), fun _ => Nat.zero_le _, fun _ _ h => (by cases h), fun _ => rfl, fun _ _ => rfl, fun _ _ => rfl⟩
theorem tok31 : EntOK Try.prog G en31.t en31.e := ⟨⟨(by kernel_rfl), (by kernel_rfl), ⟨Try.t100, (by kernel_rfl), (by kernel_rfl)⟩, fun x => (by kernel_rfl)⟩, fun _ => ⟨Try.t31, (.slice none 0 0), (by kernel_rfl), (by kernel_rfl), (by kernel_rfl), (by kernel_rfl)⟩, fun _ => (by kernel_rfl), fun h => (by cases h), (by kernel_rfl), (by kernel_rfl), fun _ => Nat.zero_le _, fun _ _ h => (by cases h), fun _ => rfl, fun _ _ => rfl, fun _ _ => rfl⟩
theorem tok33 : EntOK Try.prog G en33.t en33.e := ⟨⟨_, Try.underlying33, (by kernel_rfl), (by kernel_rfl)⟩, fun _ => ⟨Try.t33, (.agg #[(.int .i64 0), (.int .i64 0), (.int .i64 0), (.int .i64 0), (.float .f64 0), (.float .f64 0), (.float .f64 0), (.slice none 0 0)]), (by kernel_rfl), (by kernel_rfl), (by kernel_rfl), (by kernel_rfl)⟩, fun _ => (by kernel_rfl), fun h => (by cases h), (by kernel_rfl), (by kernel_rfl), fun _ => Nat.zero_le _, fun _ _ h => (by cases h), fun _ => rfl, fun _ _ => rfl, fun _ _ => rfl⟩
theorem tok37 : EntOK Try.prog G en37.t en37.e := ⟨⟨(by kernel_rfl), (by kernel_rfl)⟩, fun _ => ⟨Try.t37, (.agg #[(.string ⟨#[]⟩), (.string ⟨#[]⟩)]), (by kernel_rfl), (by kernel_rfl), (by kernel_rfl), (by kernel_rfl)⟩, fun _ => (by kernel_rfl), fun h => (by cases h), (by kernel_rfl), (by kernel_rfl), fun _ => Nat.zero_le _, fun _ _ h => (by cases h), fun _ => rfl, fun _ _ => rfl, fun _ _ => rfl⟩
theorem tok39 : EntOK Try.prog G en39.t en39.e := ⟨⟨_, Try.underlying39, (by kernel_rfl), (by kernel_rfl)⟩, fun _ => ⟨Try.t39, (.agg #[(.string ⟨#[]⟩), (.string ⟨#[]⟩), (.int .i64 0)]), (by kernel_rfl), (by kernel_rfl), (by kernel_rfl), (by kernel_rfl)⟩, fun _ => (by kernel_rfl), fun h => (by cases h), (by kernel_rfl), (by kernel_rfl), fun _ => Nat.zero_le _, fun _ _ h => (by cases h), fun _ => rfl, fun _ _ => rfl, fun _ _ => rfl⟩
theorem tok47 : EntOK Try.prog G en47.t en47.e := ⟨(show Try.prog.underlying 47 = some (.int .i64) by kernel_rfl), fun _ => ⟨Try.t47, (.int .i64 0), (by kernel_rfl), (by kernel_rfl), (by kernel_rfl), (by kernel_rfl)⟩, fun _ => (by kernel_rfl), fun h => (by cases h), (by kernel_rfl), (by kernel_rfl), fun _ => Nat.zero_le _, fun _ _ h => (by cases h), fun _ => rfl, fun _ _ => rfl, fun _ _ => rfl⟩
theorem tok56 : EntOK Try.prog G en56.t en56.e := ⟨⟨_, Try.underlying56, (by kernel_rfl), (by kernel_rfl)⟩, fun _ => ⟨Try.t56, (.agg #[(.int .i64 0), (.int .i64 0), (.int .i64 0), (.int .i64 0), (.int .i64 0)]), (by kernel_rfl), (by kernel_rfl), (by kernel_rfl), (by kernel_rfl)⟩, fun _ => (by kernel_rfl), fun h => (by cases h), (by kernel_rfl), (by kernel_rfl), fun x => Nat.le_of_eq (by kernel_rfl), fun cs x h => dec56_ok h, fun x => (by kernel_rfl), fun _ x => (by kernel_rfl), fun _ _ => rfl⟩
theorem tok58 : EntOK Try.prog G en58.t en58.e := ⟨⟨_, Try.underlying58, (by kernel_rfl), (by kernel_rfl)⟩, fun _ => ⟨Try.t58, (.agg #[(.string ⟨#[]⟩), (.string ⟨#[]⟩), (.int .i64 0), (.int .i64 0), (.int .i64 0), (.int .i64 0), (.int .i64 0), (.int .i64 0), (.int .i64 0)]), (by kernel_rfl), (by kernel_rfl), (by kernel_rfl), (by kernel_rfl)⟩, fun _ => (by kernel_rfl), fun h => (by cases h), (by kernel_rfl), (by kernel_rfl), fun _ => Nat.zero_le _, fun _ _ h => (by cases h), fun _ => rfl, fun _ _ => rfl, fun _ _ => rfl⟩
theorem tok59 : EntOK Try.prog G en59.t en59.e := ⟨⟨(by kernel_rfl), (by kernel_rfl), ⟨Try.t56, (by kernel_rfl), (by kernel_rfl)⟩, fun x => (by kernel_rfl)⟩, fun _ => ⟨Try.t59, (.slice none 0 0), (by kernel_rfl), (by kernel_rfl), (by kernel_rfl), (by kernel_rfl)⟩, fun _ => (by kernel_rfl), fun h => (by cases h), (by kernel_rfl), (by kernel_rfl), fun _ => Nat.zero_le _, fun _ _ h => (by cases h), fun _ => rfl, fun _ _ => rfl, fun _ _ => rfl⟩
theorem tok62 : EntOK Try.prog G en62.t en62.e := ⟨(show Try.prog.underlying 62 = some (.int .u64) by kernel_rfl), fun _ => ⟨Try.t62, (.int .u64 0), (by kernel_rfl), (by kernel_rfl), (by kernel_rfl), (by kernel_rfl)⟩, fun _ => (by kernel_rfl), fun h => (by cases h), (by kernel_rfl), (by kernel_rfl), fun _ => Nat.zero_le _, fun _ _ h => (by cases h), fun _ => rfl, fun _ _ => rfl, fun _ _ => rfl⟩
theorem tok98 : EntOK Try.prog G en98.t en98.e := ⟨⟨_, Try.underlying98, (by kernel_rfl), (by kernel_rfl)⟩, fun _ => ⟨Try.t98, (.agg #[(.int .i64 0), (.int .i64 0), (.int .i64 0), (.int .i64 0), (.bool false)]), (by kernel_rfl), (by kernel_rfl), (by kernel_rfl), (by kernel_rfl)⟩, fun _ => (by kernel_rfl), fun h => (by cases h), (by kernel_rfl), (by kernel_rfl), fun x => Nat.le_of_eq (by kernel_rfl), fun cs x h => dec98_ok h, fun x => (by kernel_rfl), fun _ x => (by kernel_rfl), fun _ _ => rfl⟩
theorem tok100 : EntOK Try.prog G en100.t en100.e := ⟨⟨_, Try.underlying100, (by kernel_rfl), (by kernel_rfl)⟩, fun _ => ⟨Try.t100, (.agg #[(.int .i64 0), (.int .i64 0), (.int .i64 0), (.int .i64 0), (.int .i64 0), (.int .i64 0), (.int .i64 0), (.int .i64 0), (.int .i64 0)]), (by kernel_rfl), (by kernel_rfl), (by kernel_rfl), (by kernel_rfl)⟩, fun _ => (by kernel_rfl), fun h => (by cases h), (by kernel_rfl), (by kernel_rfl), fun x => Nat.le_of_eq (by kernel_rfl), fun cs x h => dec100_ok h, fun x => (by kernel_rfl), fun _ x => (by kernel_rfl), fun _ _ => rfl⟩
theorem tok131 : EntOK Try.prog G en131.t en131.e := ⟨(show Try.prog.underlying 131 = some (.pointer 133) by kernel_rfl), fun _ => ⟨Try.t131, (.pointer none), (by kernel_rfl), (by kernel_rfl), (by kernel_rfl), (by kernel_rfl)⟩, fun _ => (by kernel_rfl), fun h => (by cases h), (by kernel_rfl), (by kernel_rfl), fun _ => Nat.zero_le _, fun _ _ h => (by cases h), fun _ => rfl, fun _ _ => rfl, fun _ _ => rfl⟩
theorem tok133 : EntOK Try.prog G en133.t en133.e := ⟨⟨_, Try.underlying133, (by kernel_rfl), (by kernel_rfl)⟩, fun _ => ⟨Try.t133, (.agg #[(.pointer none), (.slice none 0 0)]), (by kernel_rfl), (by kernel_rfl), (by kernel_rfl), (by kernel_rfl)⟩, fun _ => (by kernel_rfl), fun h => (by cases h), (by kernel_rfl), (by kernel_rfl), fun _ => Nat.zero_le _, fun _ _ h => (by cases h), fun _ => rfl, fun _ _ => rfl, fun _ _ => rfl⟩
theorem tok143 : EntOK Try.prog G en143.t en143.e := ⟨(show Try.prog.underlying 143 = some (.pointer 28) by kernel_rfl), fun _ => ⟨Try.t143, (.pointer none), (by kernel_rfl), (by kernel_rfl), (by kernel_rfl), (by kernel_rfl)⟩, fun _ => (by kernel_rfl), fun h => (by cases h), (by kernel_rfl), (by kernel_rfl), fun _ => Nat.zero_le _, fun _ _ h => (by cases h), fun _ => rfl, fun _ _ => rfl, fun _ _ => rfl⟩
theorem tok162 : EntOK Try.prog G en162.t en162.e := ⟨⟨_, _, _, Try.underlying162⟩, fun _ => ⟨Try.t162, .nilFunc, (by kernel_rfl), (by kernel_rfl), (by kernel_rfl), (by kernel_rfl)⟩, fun _ => (by kernel_rfl), fun h => (by cases h), (by kernel_rfl), (by kernel_rfl), fun _ => Nat.zero_le _, fun _ _ h => (by cases h), fun _ => rfl, fun _ _ => rfl, fun _ _ => rfl⟩
theorem tok174 : EntOK Try.prog G en174.t en174.e := ⟨(show Try.prog.underlying 174 = some (.pointer 39) by kernel_rfl), fun _ => ⟨Try.t174, (.pointer none), (by kernel_rfl), (by kernel_rfl), (by kernel_rfl), (by kernel_rfl)⟩, fun _ => (by kernel_rfl), fun h => (by cases h), (by kernel_rfl), (by kernel_rfl), fun _ => Nat.zero_le _, fun _ _ h => (by cases h), fun _ => rfl, fun _ _ => rfl, fun _ _ => rfl⟩
theorem tok175 : EntOK Try.prog G en175.t en175.e := ⟨⟨_, _, _, Try.underlying175⟩, fun _ => ⟨Try.t175, .nilFunc, (by kernel_rfl), (by kernel_rfl), (by kernel_rfl), (by kernel_rfl)⟩, fun _ => (by kernel_rfl), fun h => (by cases h), (by kernel_rfl), (by kernel_rfl), fun _ => Nat.zero_le _, fun _ _ h => (by cases h), fun _ => rfl, fun _ _ => rfl, fun _ _ => rfl⟩
theorem sigOK : SigOK Try.prog G := sigOK_of (List.forall_mem_cons.2 ⟨tok3, List.forall_mem_cons.2 ⟨tok4, List.forall_mem_cons.2 ⟨tok5, List.forall_mem_cons.2 ⟨tok9, List.forall_mem_cons.2 ⟨tok23, List.forall_mem_cons.2 ⟨tok24, List.forall_mem_cons.2 ⟨tok25, List.forall_mem_cons.2 ⟨tok26, List.forall_mem_cons.2 ⟨tok28, List.forall_mem_cons.2 ⟨tok30, List.forall_mem_cons.2 ⟨tok31, List.forall_mem_cons.2 ⟨tok33, List.forall_mem_cons.2 ⟨tok37, List.forall_mem_cons.2 ⟨tok39, List.forall_mem_cons.2 ⟨tok47, List.forall_mem_cons.2 ⟨tok56, List.forall_mem_cons.2 ⟨tok58, List.forall_mem_cons.2 ⟨tok59, List.forall_mem_cons.2 ⟨tok62, List.forall_mem_cons.2 ⟨tok98, List.forall_mem_cons.2 ⟨tok100, List.forall_mem_cons.2 ⟨tok131, List.forall_mem_cons.2 ⟨tok133, List.forall_mem_cons.2 ⟨tok143, List.forall_mem_cons.2 ⟨tok162, List.forall_mem_cons.2 ⟨tok174, List.forall_mem_cons.2 ⟨tok175, (fun _ h => absurd h (List.not_mem_nil))⟩⟩⟩⟩⟩⟩⟩⟩⟩⟩⟩⟩⟩⟩⟩⟩⟩⟩⟩⟩⟩⟩⟩⟩⟩⟩⟩)
theorem eqOK : EqOK Try.prog G := eqOK_of sigOK (namesOK_of (List.forall_mem_cons.2 ⟨nmE_no rfl, List.forall_mem_cons.2 ⟨nmE_no rfl, List.forall_mem_cons.2 ⟨nmE_no rfl, List.forall_mem_cons.2 ⟨nmE_no rfl, List.forall_mem_cons.2 ⟨nmE_no rfl, List.forall_mem_cons.2 ⟨nmE_no rfl, List.forall_mem_cons.2 ⟨nmE_no rfl, List.forall_mem_cons.2 ⟨nmE_no rfl, List.forall_mem_cons.2 ⟨⟨fun _ => (by kernel_rfl), fun _ => (by kernel_rfl), fun _ => (by kernel_rfl)⟩, List.forall_mem_cons.2 ⟨nmE_no rfl, List.forall_mem_cons.2 ⟨nmE_no rfl, List.forall_mem_cons.2 ⟨⟨fun _ => (by kernel_rfl), fun _ => (by kernel_rfl), fun _ => (by kernel_rfl)⟩, List.forall_mem_cons.2 ⟨⟨fun _ => (by kernel_rfl), fun h => (by cases h), fun h => (by cases h)⟩, List.forall_mem_cons.2 ⟨⟨fun _ => (by kernel_rfl), fun _ => (by kernel_rfl), fun _ => (by kernel_rfl)⟩, List.forall_mem_cons.2 ⟨nmE_no rfl, List.forall_mem_cons.2 ⟨⟨fun _ => (by kernel_rfl), fun _ => (by kernel_rfl), fun _ => (by kernel_rfl)⟩, List.forall_mem_cons.2 ⟨⟨fun _ => (by kernel_rfl), fun _ => (by kernel_rfl), fun _ => (by kernel_rfl)⟩, List.forall_mem_cons.2 ⟨nmE_no rfl, List.forall_mem_cons.2 ⟨nmE_no rfl, List.forall_mem_cons.2 ⟨⟨fun _ => (by kernel_rfl), fun _ => (by kernel_rfl), fun _ => (by kernel_rfl)⟩, List.forall_mem_cons.2 ⟨⟨fun _ => (by kernel_rfl), fun _ => (by kernel_rfl), fun _ => (by kernel_rfl)⟩, List.forall_mem_cons.2 ⟨nmE_no rfl, List.forall_mem_cons.2 ⟨⟨fun _ => (by kernel_rfl), fun _ => (by kernel_rfl), fun _ => (by kernel_rfl)⟩, List.forall_mem_cons.2 ⟨nmE_no rfl, List.forall_mem_cons.2 ⟨nmE_no rfl, List.forall_mem_cons.2 ⟨nmE_no rfl, List.forall_mem_cons.2 ⟨nmE_no rfl, (fun _ h => absurd h (List.not_mem_nil))⟩⟩⟩⟩⟩⟩⟩⟩⟩⟩⟩⟩⟩⟩⟩⟩⟩⟩⟩⟩⟩⟩⟩⟩⟩⟩⟩))
theorem decOK : DecOK G := decOK_of (List.forall_mem_cons.2 ⟨decE_no rfl, List.forall_mem_cons.2 ⟨decE_no rfl, List.forall_mem_cons.2 ⟨decE_no rfl, List.forall_mem_cons.2 ⟨decE_no rfl, List.forall_mem_cons.2 ⟨decE_sl (s := [.int .u8]) (by kernel_rfl) fun x => ⟨x.1, by kernel_rfl⟩, List.forall_mem_cons.2 ⟨decE_sl (s := [.int .i64]) (by kernel_rfl) fun x => ⟨x.1, by kernel_rfl⟩, List.forall_mem_cons.2 ⟨decE_sl (s := [.bool]) (by kernel_rfl) fun x => ⟨x.1, by kernel_rfl⟩, List.forall_mem_cons.2 ⟨decE_sl (s := [.int .i64, .int .i64, .int .i64, .int .i64, .bool]) (by kernel_rfl) fun x => ⟨⟨x.1, x.2.1, x.2.2.1, x.2.2.2.1, x.2.2.2.2.1⟩, by kernel_rfl⟩, List.forall_mem_cons.2 ⟨decE_no rfl, List.forall_mem_cons.2 ⟨decE_no rfl, List.forall_mem_cons.2 ⟨decE_sl (s := [.int .i64, .int .i64, .int .i64, .int .i64, .int .i64, .int .i64, .int .i64, .int .i64, .int .i64]) (by kernel_rfl) fun x => ⟨⟨x.1, x.2.1, x.2.2.1, x.2.2.2.1, x.2.2.2.2.1, x.2.2.2.2.2.1, x.2.2.2.2.2.2.1, x.2.2.2.2.2.2.2.1, x.2.2.2.2.2.2.2.2.1⟩, by kernel_rfl⟩, List.forall_mem_cons.2 ⟨decE_no rfl, List.forall_mem_cons.2 ⟨decE_no rfl, List.forall_mem_cons.2 ⟨decE_no rfl, List.forall_mem_cons.2 ⟨decE_no rfl, List.forall_mem_cons.2 ⟨decE_no rfl, List.forall_mem_cons.2 ⟨decE_no rfl, List.forall_mem_cons.2 ⟨decE_sl (s := [.int .i64, .int .i64, .int .i64, .int .i64, .int .i64]) (by kernel_rfl) fun x => ⟨⟨x.1, x.2.1, x.2.2.1, x.2.2.2.1, x.2.2.2.2.1⟩, by kernel_rfl⟩, List.forall_mem_cons.2 ⟨decE_no rfl, List.forall_mem_cons.2 ⟨decE_no rfl, List.forall_mem_cons.2 ⟨decE_no rfl, List.forall_mem_cons.2 ⟨decE_no rfl, List.forall_mem_cons.2 ⟨decE_no rfl, List.forall_mem_cons.2 ⟨decE_no rfl, List.forall_mem_cons.2 ⟨decE_no rfl, List.forall_mem_cons.2 ⟨decE_no rfl, List.forall_mem_cons.2 ⟨decE_no rfl, (fun _ h => absurd h (List.not_mem_nil))⟩⟩⟩⟩⟩⟩⟩⟩⟩⟩⟩⟩⟩⟩⟩⟩⟩⟩⟩⟩⟩⟩⟩⟩⟩⟩⟩)
theorem hmix : Try.prog.follows .mixedOrders = true := by kernel_rfl
end Go.Ovl
