/- The types of the program, as a table. -/
import Derived.Test.YticbfghinhhgiaaAbG
import Derived.Test.YticbfghinhhgiaaTy
import Derived.Test.YticbfghinhhgiaaProg
namespace Go.Ovl
open Go Go.Ab Go.Proofs
def tys : List (Nat × TyD) := [(5, ⟨Int, 0⟩), (3, ⟨Int, 0⟩), (4, ⟨Bool, false⟩), (69, ⟨Entry, ⟨0, 0, 0, 0, false⟩⟩), (100, ⟨Car, ⟨0, 0, 0, 0, 0, 0, 0, 0, 0⟩⟩), (47, ⟨Record, ⟨0, 0, 0, 0, 0⟩⟩)]
@[reducible] def T : Nat → Type := TOf tys
def enc3 (x : Int) : List (Cv T) := [.sc (.int .i64 x)]
def dec3 : List (Cv T) → Option (Int)
  | [.sc (.int .i64 a0)] => some a0
  | _ => none
theorem dec3_ok {cs : List (Cv T)} {x : Int} (h : dec3 cs = some x) : enc3 x = cs := by
  unfold dec3 at h
  split at h
  · simp at h; subst h; rfl
  · simp at h
def enc4 (x : Bool) : List (Cv T) := [.sc (.bool x)]
def dec4 : List (Cv T) → Option (Bool)
  | [.sc (.bool a0)] => some a0
  | _ => none
theorem dec4_ok {cs : List (Cv T)} {x : Bool} (h : dec4 cs = some x) : enc4 x = cs := by
  unfold dec4 at h
  split at h
  · simp at h; subst h; rfl
  · simp at h
def enc5 (x : Int) : List (Cv T) := [.sc (.int .u8 x)]
def dec5 : List (Cv T) → Option (Int)
  | [.sc (.int .u8 a0)] => some a0
  | _ => none
theorem dec5_ok {cs : List (Cv T)} {x : Int} (h : dec5 cs = some x) : enc5 x = cs := by
  unfold dec5 at h
  split at h
  · simp at h; subst h; rfl
  · simp at h
def enc47 (x : Record) : List (Cv T) := [.sc (.int .i64 x.Kind), .sc (.int .i64 x.Floor), .sc (.int .i64 x.Dir), .sc (.int .i64 x.Car), .sc (.int .i64 x.Value)]
def dec47 : List (Cv T) → Option (Record)
  | [.sc (.int .i64 a0), .sc (.int .i64 a1), .sc (.int .i64 a2), .sc (.int .i64 a3), .sc (.int .i64 a4)] => some ⟨a0, a1, a2, a3, a4⟩
  | _ => none
theorem dec47_ok {cs : List (Cv T)} {x : Record} (h : dec47 cs = some x) : enc47 x = cs := by
  unfold dec47 at h
  split at h
  · simp at h; subst h; rfl
  · simp at h
def enc69 (x : Entry) : List (Cv T) := [.sc (.int .i64 x.Floor), .sc (.int .i64 x.Dir), .sc (.int .i64 x.Car), .sc (.int .i64 x.Moves), .sc (.bool x.Moved)]
def dec69 : List (Cv T) → Option (Entry)
  | [.sc (.int .i64 a0), .sc (.int .i64 a1), .sc (.int .i64 a2), .sc (.int .i64 a3), .sc (.bool a4)] => some ⟨a0, a1, a2, a3, a4⟩
  | _ => none
theorem dec69_ok {cs : List (Cv T)} {x : Entry} (h : dec69 cs = some x) : enc69 x = cs := by
  unfold dec69 at h
  split at h
  · simp at h; subst h; rfl
  · simp at h
def enc100 (x : Car) : List (Cv T) := [.sc (.int .i64 x.Deadline), .sc (.int .i64 x.Pulse), .sc (.int .i64 x.Quiet), .sc (.int .i64 x.Slack), .sc (.int .i64 x.Step), .sc (.int .i64 x.Travel), .sc (.int .i64 x.Dwell), .sc (.int .i64 x.Hold), .sc (.int .i64 x.Home)]
def dec100 : List (Cv T) → Option (Car)
  | [.sc (.int .i64 a0), .sc (.int .i64 a1), .sc (.int .i64 a2), .sc (.int .i64 a3), .sc (.int .i64 a4), .sc (.int .i64 a5), .sc (.int .i64 a6), .sc (.int .i64 a7), .sc (.int .i64 a8)] => some ⟨a0, a1, a2, a3, a4, a5, a6, a7, a8⟩
  | _ => none
theorem dec100_ok {cs : List (Cv T)} {x : Car} (h : dec100 cs = some x) : enc100 x = cs := by
  unfold dec100 at h
  split at h
  · simp at h; subst h; rfl
  · simp at h
def en3 : Ent1 T := ⟨3, ⟨.int .i64, 1, [(.int .i64 0)], enc3, dec3, true⟩⟩
def en4 : Ent1 T := ⟨4, ⟨.bool, 1, [(.bool false)], enc4, dec4, true⟩⟩
def en5 : Ent1 T := ⟨5, ⟨.int .u8, 1, [(.int .u8 0)], enc5, dec5, true⟩⟩
def en9 : Ent1 T := plain T 9 (.str) 1 [(.string ⟨#[]⟩)]
def en22 : Ent1 T := plain T 22 (.sl 5) 1 [(.slice none 0 0)]
def en23 : Ent1 T := plain T 23 (.sl 3) 1 [(.slice none 0 0)]
def en24 : Ent1 T := plain T 24 (.sl 4) 1 [(.slice none 0 0)]
def en25 : Ent1 T := plain T 25 (.sl 69) 1 [(.slice none 0 0)]
def en27 : Ent1 T := plain T 27 (.st [(0, 23), (1, 24), (2, 24), (3, 25)]) 4 [(.slice none 0 0), (.slice none 0 0), (.slice none 0 0), (.slice none 0 0)]
def en30 : Ent1 T := plain T 30 (.flt .f64) 1 [(.float .f64 0)]
def en31 : Ent1 T := plain T 31 (.sl 100) 1 [(.slice none 0 0)]
def en33 : Ent1 T := plain T 33 (.st [(0, 3), (1, 3), (2, 3), (3, 3), (4, 30), (5, 30), (6, 30), (7, 31)]) 8 [(.int .i64 0), (.int .i64 0), (.int .i64 0), (.int .i64 0), (.float .f64 0), (.float .f64 0), (.float .f64 0), (.slice none 0 0)]
def en35 : Ent1 T := plain T 35 (.sl 47) 1 [(.slice none 0 0)]
def en43 : Ent1 T := plain T 43 (.int .i64) 1 [(.int .i64 0)]
def en47 : Ent1 T := ⟨47, ⟨.st [(0, 3), (1, 3), (2, 3), (3, 3), (4, 3)], 5, [(.int .i64 0), (.int .i64 0), (.int .i64 0), (.int .i64 0), (.int .i64 0)], enc47, dec47, true⟩⟩
def en51 : Ent1 T := plain T 51 (.arr 2 9) 2 [(.string ⟨#[]⟩), (.string ⟨#[]⟩)]
def en53 : Ent1 T := plain T 53 (.st [(0, 51), (2, 3)]) 3 [(.string ⟨#[]⟩), (.string ⟨#[]⟩), (.int .i64 0)]
def en61 : Ent1 T := plain T 61 (.int .u32) 1 [(.int .u32 0)]
def en63 : Ent1 T := plain T 63 (.st [(0, 61), (1, 61)]) 2 [(.int .u32 0), (.int .u32 0)]
def en69 : Ent1 T := ⟨69, ⟨.st [(0, 3), (1, 3), (2, 3), (3, 3), (4, 4)], 5, [(.int .i64 0), (.int .i64 0), (.int .i64 0), (.int .i64 0), (.bool false)], enc69, dec69, true⟩⟩
def en73 : Ent1 T := plain T 73 (.fn) 1 [.nilFunc]
def en85 : Ent1 T := plain T 85 (.pt 27) 1 [(.pointer none)]
def en97 : Ent1 T := plain T 97 (.int .u64) 1 [(.int .u64 0)]
def en100 : Ent1 T := ⟨100, ⟨.st [(0, 3), (1, 3), (2, 3), (3, 3), (4, 3), (5, 3), (6, 3), (7, 3), (8, 3)], 9, [(.int .i64 0), (.int .i64 0), (.int .i64 0), (.int .i64 0), (.int .i64 0), (.int .i64 0), (.int .i64 0), (.int .i64 0), (.int .i64 0)], enc100, dec100, true⟩⟩
def en116 : Ent1 T := plain T 116 (.pt 118) 1 [(.pointer none)]
def en118 : Ent1 T := plain T 118 (.st [(0, 116), (1, 22)]) 2 [(.pointer none), (.slice none 0 0)]
def en131 : Ent1 T := plain T 131 (.pt 53) 1 [(.pointer none)]
def en132 : Ent1 T := plain T 132 (.fn) 1 [.nilFunc]
def ents : List (Ent1 T) := [en3, en4, en5, en9, en22, en23, en24, en25, en27, en30, en31, en33, en35, en43, en47, en51, en53, en61, en63, en69, en73, en85, en97, en100, en116, en118, en131, en132]
def G : Sig := mkSig tys ents
theorem tok3 : EntOK Try.prog G en3.t en3.e := ⟨(show Try.prog.underlying 3 = some (.int .i64) by kernel_rfl), fun _ => ⟨Try.t3, (.int .i64 0), (by kernel_rfl), (by kernel_rfl), (by kernel_rfl), (by kernel_rfl)⟩, fun _ => (by kernel_rfl), fun h => (by cases h), (by kernel_rfl), (by kernel_rfl), fun x => Nat.le_of_eq (by kernel_rfl), fun cs x h => dec3_ok h, fun x => (by kernel_rfl), fun _ x => (by kernel_rfl), fun _ _ => rfl⟩
theorem tok4 : EntOK Try.prog G en4.t en4.e := ⟨(show Try.prog.underlying 4 = some .bool by kernel_rfl), fun _ => ⟨Try.t4, (.bool false), (by kernel_rfl), (by kernel_rfl), (by kernel_rfl), (by kernel_rfl)⟩, fun _ => (by kernel_rfl), fun h => (by cases h), (by kernel_rfl), (by kernel_rfl), fun x => Nat.le_of_eq (by kernel_rfl), fun cs x h => dec4_ok h, fun x => (by kernel_rfl), fun _ x => (by kernel_rfl), fun _ _ => rfl⟩
theorem tok5 : EntOK Try.prog G en5.t en5.e := ⟨(show Try.prog.underlying 5 = some (.int .u8) by kernel_rfl), fun _ => ⟨Try.t5, (.int .u8 0), (by kernel_rfl), (by kernel_rfl), (by kernel_rfl), (by kernel_rfl)⟩, fun _ => (by kernel_rfl), fun h => (by cases h), (by kernel_rfl), (by kernel_rfl), fun x => Nat.le_of_eq (by kernel_rfl), fun cs x h => dec5_ok h, fun x => (by kernel_rfl), fun _ x => (by kernel_rfl), fun _ _ => rfl⟩
theorem tok9 : EntOK Try.prog G en9.t en9.e := ⟨(show Try.prog.underlying 9 = some .string by kernel_rfl), fun _ => ⟨Try.t9, (.string ⟨#[]⟩), (by kernel_rfl), (by kernel_rfl), (by kernel_rfl), (by kernel_rfl)⟩, fun _ => (by kernel_rfl), fun h => (by cases h), (by kernel_rfl), (by kernel_rfl), fun _ => Nat.zero_le _, fun _ _ h => (by cases h), fun _ => rfl, fun _ _ => rfl, fun _ _ => rfl⟩
theorem tok22 : EntOK Try.prog G en22.t en22.e := ⟨⟨(by kernel_rfl), (by kernel_rfl), ⟨Try.t5, (by kernel_rfl), (by kernel_rfl)⟩, fun x => (by kernel_rfl)⟩, fun _ => ⟨Try.t22, (.slice none 0 0), (by kernel_rfl), (by kernel_rfl), (by kernel_rfl), (by kernel_rfl)⟩, fun _ => (by kernel_rfl), fun h => (by cases h), (by kernel_rfl), (by kernel_rfl), fun _ => Nat.zero_le _, fun _ _ h => (by cases h), fun _ => rfl, fun _ _ => rfl, fun _ _ => rfl⟩
theorem tok23 : EntOK Try.prog G en23.t en23.e := ⟨⟨(by kernel_rfl), (by kernel_rfl), ⟨Try.t3, (by kernel_rfl), (by kernel_rfl)⟩, fun x => (by kernel_rfl)⟩, fun _ => ⟨Try.t23, (.slice none 0 0), (by kernel_rfl), (by kernel_rfl), (by kernel_rfl), (by kernel_rfl)⟩, fun _ => (by kernel_rfl), fun h => (by cases h), (by kernel_rfl), (by kernel_rfl), fun _ => Nat.zero_le _, fun _ _ h => (by cases h), fun _ => rfl, fun _ _ => rfl, fun _ _ => rfl⟩
theorem tok24 : EntOK Try.prog G en24.t en24.e := ⟨⟨(by kernel_rfl), (by kernel_rfl), ⟨Try.t4, (by kernel_rfl), (by kernel_rfl)⟩, fun x => (by kernel_rfl)⟩, fun _ => ⟨Try.t24, (.slice none 0 0), (by kernel_rfl), (by kernel_rfl), (by kernel_rfl), (by kernel_rfl)⟩, fun _ => (by kernel_rfl), fun h => (by cases h), (by kernel_rfl), (by kernel_rfl), fun _ => Nat.zero_le _, fun _ _ h => (by cases h), fun _ => rfl, fun _ _ => rfl, fun _ _ => rfl⟩
theorem tok25 : EntOK Try.prog G en25.t en25.e := ⟨⟨(by kernel_rfl), (by kernel_rfl), ⟨Try.t69, (by kernel_rfl), (by kernel_rfl)⟩, fun x => (by kernel_rfl)⟩, fun _ => ⟨Try.t25, (.slice none 0 0), (by kernel_rfl), (by kernel_rfl), (by kernel_rfl), (by kernel_rfl)⟩, fun _ => (by kernel_rfl), fun h => (by cases h), (by kernel_rfl), (by kernel_rfl), fun _ => Nat.zero_le _, fun _ _ h => (by cases h), fun _ => rfl, fun _ _ => rfl, fun _ _ => rfl⟩
theorem tok27 : EntOK Try.prog G en27.t en27.e := ⟨⟨_, Try.underlying27, (by kernel_rfl), (by kernel_rfl)⟩, fun _ => ⟨Try.t27, (.agg #[(.slice none 0 0), (.slice none 0 0), (.slice none 0 0), (.slice none 0 0)]), (by kernel_rfl), (by kernel_rfl), (by kernel_rfl), (by kernel_rfl)⟩, fun _ => (by kernel_rfl), fun h => (by cases h), (by kernel_rfl), (by kernel_rfl), fun _ => Nat.zero_le _, fun _ _ h => (by cases h), fun _ => rfl, fun _ _ => rfl, fun _ _ => rfl⟩
theorem tok30 : EntOK Try.prog G en30.t en30.e := ⟨(show Try.prog.underlying 30 = some (.float .f64) by kernel_rfl), fun _ => ⟨Try.t30, (.float .f64 0), (by kernel_rfl), (by kernel_rfl), (by kernel_rfl), (by kernel_rfl)⟩, fun _ => (by kernel_rfl), fun h => (by cases h), (by kernel_rfl), (by kernel_rfl), fun _ => Nat.zero_le _, fun _ _ h => (by cases h), fun _ => rfl, fun _ _ => rfl, fun _ _ => rfl⟩
theorem tok31 : EntOK Try.prog G en31.t en31.e := ⟨⟨(by kernel_rfl), (by kernel_rfl), ⟨Try.t100, (by kernel_rfl), (by kernel_rfl)⟩, fun x => (by kernel_rfl)⟩, fun _ => ⟨Try.t31, (.slice none 0 0), (by kernel_rfl), (by kernel_rfl), (by kernel_rfl), (by kernel_rfl)⟩, fun _ => (by kernel_rfl), fun h => (by cases h), (by kernel_rfl), (by kernel_rfl), fun _ => Nat.zero_le _, fun _ _ h => (by cases h), fun _ => rfl, fun _ _ => rfl, fun _ _ => rfl⟩
theorem tok33 : EntOK Try.prog G en33.t en33.e := ⟨⟨_, Try.underlying33, (by kernel_rfl), (by kernel_rfl)⟩, fun _ => ⟨Try.t33, (.agg #[(.int .i64 0), (.int .i64 0), (.int .i64 0), (.int .i64 0), (.float .f64 0), (.float .f64 0), (.float .f64 0), (.slice none 0 0)]), (by kernel_rfl), (by kernel_rfl), (by kernel_rfl), (by kernel_rfl)⟩, fun _ => (by kernel_rfl), fun h => (by cases h), (by kernel_rfl), (by kernel_rfl), fun _ => Nat.zero_le _, fun _ _ h => (by cases h), fun _ => rfl, fun _ _ => rfl, fun _ _ => rfl⟩
theorem tok35 : EntOK Try.prog G en35.t en35.e := ⟨⟨(by kernel_rfl), (by kernel_rfl), ⟨Try.t47, (by kernel_rfl), (by kernel_rfl)⟩, fun x => (by kernel_rfl)⟩, fun _ => ⟨Try.t35, (.slice none 0 0), (by kernel_rfl), (by kernel_rfl), (by kernel_rfl), (by kernel_rfl)⟩, fun _ => (by kernel_rfl), fun h => (by cases h), (by kernel_rfl), (by kernel_rfl), fun _ => Nat.zero_le _, fun _ _ h => (by cases h), fun _ => rfl, fun _ _ => rfl, fun _ _ => rfl⟩
theorem tok43 : EntOK Try.prog G en43.t en43.e := ⟨(show Try.prog.underlying 43 = some (.int .i64) by kernel_rfl), fun _ => ⟨Try.t43, (.int .i64 0), (by kernel_rfl), (by kernel_rfl), (by kernel_rfl), (by kernel_rfl)⟩, fun _ => (by kernel_rfl), fun h => (by cases h), (by kernel_rfl), (by kernel_rfl), fun _ => Nat.zero_le _, fun _ _ h => (by cases h), fun _ => rfl, fun _ _ => rfl, fun _ _ => rfl⟩
theorem tok47 : EntOK Try.prog G en47.t en47.e := ⟨⟨_, Try.underlying47, (by kernel_rfl), (by kernel_rfl)⟩, fun _ => ⟨Try.t47, (.agg #[(.int .i64 0), (.int .i64 0), (.int .i64 0), (.int .i64 0), (.int .i64 0)]), (by kernel_rfl), (by kernel_rfl), (by kernel_rfl), (by kernel_rfl)⟩, fun _ => (by kernel_rfl), fun h => (by cases h), (by kernel_rfl), (by kernel_rfl), fun x => Nat.le_of_eq (by kernel_rfl), fun cs x h => dec47_ok h, fun x => (by kernel_rfl), fun _ x => (by kernel_rfl), fun _ _ => rfl⟩
theorem tok51 : EntOK Try.prog G en51.t en51.e := ⟨⟨(by kernel_rfl), (by kernel_rfl)⟩, fun _ => ⟨Try.t51, (.agg #[(.string ⟨#[]⟩), (.string ⟨#[]⟩)]), (by kernel_rfl), (by kernel_rfl), (by kernel_rfl), (by kernel_rfl)⟩, fun _ => (by kernel_rfl), fun h => (by cases h), (by kernel_rfl), (by kernel_rfl), fun _ => Nat.zero_le _, fun _ _ h => (by cases h), fun _ => rfl, fun _ _ => rfl, fun _ _ => rfl⟩
theorem tok53 : EntOK Try.prog G en53.t en53.e := ⟨⟨_, Try.underlying53, (by kernel_rfl), (by kernel_rfl)⟩, fun _ => ⟨Try.t53, (.agg #[(.string ⟨#[]⟩), (.string ⟨#[]⟩), (.int .i64 0)]), (by kernel_rfl), (by kernel_rfl), (by kernel_rfl), (by kernel_rfl)⟩, fun _ => (by kernel_rfl), fun h => (by cases h), (by kernel_rfl), (by kernel_rfl), fun _ => Nat.zero_le _, fun _ _ h => (by cases h), fun _ => rfl, fun _ _ => rfl, fun _ _ => rfl⟩
theorem tok61 : EntOK Try.prog G en61.t en61.e := ⟨(show Try.prog.underlying 61 = some (.int .u32) by kernel_rfl), fun _ => ⟨Try.t61, (.int .u32 0), (by kernel_rfl), (by kernel_rfl), (by kernel_rfl), (by kernel_rfl)⟩, fun _ => (by kernel_rfl), fun h => (by cases h), (by kernel_rfl), (by kernel_rfl), fun _ => Nat.zero_le _, fun _ _ h => (by cases h), fun _ => rfl, fun _ _ => rfl, fun _ _ => rfl⟩
theorem tok63 : EntOK Try.prog G en63.t en63.e := ⟨⟨_, Try.underlying63, (by kernel_rfl), (by kernel_rfl)⟩, fun _ => ⟨Try.t63, (.agg #[(.int .u32 0), (.int .u32 0)]), (by kernel_rfl), (by kernel_rfl), (by kernel_rfl), (by kernel_rfl)⟩, fun _ => (by kernel_rfl), fun h => (by cases h), (by kernel_rfl), (by kernel_rfl), fun _ => Nat.zero_le _, fun _ _ h => (by cases h), fun _ => rfl, fun _ _ => rfl, fun _ _ => rfl⟩
theorem tok69 : EntOK Try.prog G en69.t en69.e := ⟨⟨_, Try.underlying69, (by kernel_rfl), (by kernel_rfl)⟩, fun _ => ⟨Try.t69, (.agg #[(.int .i64 0), (.int .i64 0), (.int .i64 0), (.int .i64 0), (.bool false)]), (by kernel_rfl), (by kernel_rfl), (by kernel_rfl), (by kernel_rfl)⟩, fun _ => (by kernel_rfl), fun h => (by cases h), (by kernel_rfl), (by kernel_rfl), fun x => Nat.le_of_eq (by kernel_rfl), fun cs x h => dec69_ok h, fun x => (by kernel_rfl), fun _ x => (by kernel_rfl), fun _ _ => rfl⟩
theorem tok73 : EntOK Try.prog G en73.t en73.e := ⟨⟨_, _, _, Try.underlying73⟩, fun _ => ⟨Try.t73, .nilFunc, (by kernel_rfl), (by kernel_rfl), (by kernel_rfl), (by kernel_rfl)⟩, fun _ => (by kernel_rfl), fun h => (by cases h), (by kernel_rfl), (by kernel_rfl), fun _ => Nat.zero_le _, fun _ _ h => (by cases h), fun _ => rfl, fun _ _ => rfl, fun _ _ => rfl⟩
theorem tok85 : EntOK Try.prog G en85.t en85.e := ⟨(show Try.prog.underlying 85 = some (.pointer 27) by kernel_rfl), fun _ => ⟨Try.t85, (.pointer none), (by kernel_rfl), (by kernel_rfl), (by kernel_rfl), (by kernel_rfl)⟩, fun _ => (by kernel_rfl), fun h => (by cases h), (by kernel_rfl), (by kernel_rfl), fun _ => Nat.zero_le _, fun _ _ h => (by cases h), fun _ => rfl, fun _ _ => rfl, fun _ _ => rfl⟩
theorem tok97 : EntOK Try.prog G en97.t en97.e := ⟨(show Try.prog.underlying 97 = some (.int .u64) by kernel_rfl), fun _ => ⟨Try.t97, (.int .u64 0), (by kernel_rfl), (by kernel_rfl), (by kernel_rfl), (by kernel_rfl)⟩, fun _ => (by kernel_rfl), fun h => (by cases h), (by kernel_rfl), (by kernel_rfl), fun _ => Nat.zero_le _, fun _ _ h => (by cases h), fun _ => rfl, fun _ _ => rfl, fun _ _ => rfl⟩
theorem tok100 : EntOK Try.prog G en100.t en100.e := ⟨⟨_, Try.underlying100, (by kernel_rfl), (by kernel_rfl)⟩, fun _ => ⟨Try.t100, (.agg #[(.int .i64 0), (.int .i64 0), (.int .i64 0), (.int .i64 0), (.int .i64 0), (.int .i64 0), (.int .i64 0), (.int .i64 0), (.int .i64 0)]), (by kernel_rfl), (by kernel_rfl), (by kernel_rfl), (by kernel_rfl)⟩, fun _ => (by kernel_rfl), fun h => (by cases h), (by kernel_rfl), (by kernel_rfl), fun x => Nat.le_of_eq (by kernel_rfl), fun cs x h => dec100_ok h, fun x => (by kernel_rfl), fun _ x => (by kernel_rfl), fun _ _ => rfl⟩
theorem tok116 : EntOK Try.prog G en116.t en116.e := ⟨(show Try.prog.underlying 116 = some (.pointer 118) by kernel_rfl), fun _ => ⟨Try.t116, (.pointer none), (by kernel_rfl), (by kernel_rfl), (by kernel_rfl), (by kernel_rfl)⟩, fun _ => (by kernel_rfl), fun h => (by cases h), (by kernel_rfl), (by kernel_rfl), fun _ => Nat.zero_le _, fun _ _ h => (by cases h), fun _ => rfl, fun _ _ => rfl, fun _ _ => rfl⟩
theorem tok118 : EntOK Try.prog G en118.t en118.e := ⟨⟨_, Try.underlying118, (by kernel_rfl), (by kernel_rfl)⟩, fun _ => ⟨Try.t118, (.agg #[(.pointer none), (.slice none 0 0)]), (by kernel_rfl), (by kernel_rfl), (by kernel_rfl), (by kernel_rfl)⟩, fun _ => (by kernel_rfl), fun h => (by cases h), (by kernel_rfl), (by kernel_rfl), fun _ => Nat.zero_le _, fun _ _ h => (by cases h), fun _ => rfl, fun _ _ => rfl, fun _ _ => rfl⟩
theorem tok131 : EntOK Try.prog G en131.t en131.e := ⟨(show Try.prog.underlying 131 = some (.pointer 53) by kernel_rfl), fun _ => ⟨Try.t131, (.pointer none), (by kernel_rfl), (by kernel_rfl), (by kernel_rfl), (by kernel_rfl)⟩, fun _ => (by kernel_rfl), fun h => (by cases h), (by kernel_rfl), (by kernel_rfl), fun _ => Nat.zero_le _, fun _ _ h => (by cases h), fun _ => rfl, fun _ _ => rfl, fun _ _ => rfl⟩
theorem tok132 : EntOK Try.prog G en132.t en132.e := ⟨⟨_, _, _, Try.underlying132⟩, fun _ => ⟨Try.t132, .nilFunc, (by kernel_rfl), (by kernel_rfl), (by kernel_rfl), (by kernel_rfl)⟩, fun _ => (by kernel_rfl), fun h => (by cases h), (by kernel_rfl), (by kernel_rfl), fun _ => Nat.zero_le _, fun _ _ h => (by cases h), fun _ => rfl, fun _ _ => rfl, fun _ _ => rfl⟩
theorem sigOK : SigOK Try.prog G := sigOK_of (List.forall_mem_cons.2 ⟨tok3, List.forall_mem_cons.2 ⟨tok4, List.forall_mem_cons.2 ⟨tok5, List.forall_mem_cons.2 ⟨tok9, List.forall_mem_cons.2 ⟨tok22, List.forall_mem_cons.2 ⟨tok23, List.forall_mem_cons.2 ⟨tok24, List.forall_mem_cons.2 ⟨tok25, List.forall_mem_cons.2 ⟨tok27, List.forall_mem_cons.2 ⟨tok30, List.forall_mem_cons.2 ⟨tok31, List.forall_mem_cons.2 ⟨tok33, List.forall_mem_cons.2 ⟨tok35, List.forall_mem_cons.2 ⟨tok43, List.forall_mem_cons.2 ⟨tok47, List.forall_mem_cons.2 ⟨tok51, List.forall_mem_cons.2 ⟨tok53, List.forall_mem_cons.2 ⟨tok61, List.forall_mem_cons.2 ⟨tok63, List.forall_mem_cons.2 ⟨tok69, List.forall_mem_cons.2 ⟨tok73, List.forall_mem_cons.2 ⟨tok85, List.forall_mem_cons.2 ⟨tok97, List.forall_mem_cons.2 ⟨tok100, List.forall_mem_cons.2 ⟨tok116, List.forall_mem_cons.2 ⟨tok118, List.forall_mem_cons.2 ⟨tok131, List.forall_mem_cons.2 ⟨tok132, (fun _ h => absurd h (List.not_mem_nil))⟩⟩⟩⟩⟩⟩⟩⟩⟩⟩⟩⟩⟩⟩⟩⟩⟩⟩⟩⟩⟩⟩⟩⟩⟩⟩⟩⟩)
theorem eqOK : EqOK Try.prog G := eqOK_of sigOK (namesOK_of (List.forall_mem_cons.2 ⟨nmE_no rfl, List.forall_mem_cons.2 ⟨nmE_no rfl, List.forall_mem_cons.2 ⟨nmE_no rfl, List.forall_mem_cons.2 ⟨nmE_no rfl, List.forall_mem_cons.2 ⟨nmE_no rfl, List.forall_mem_cons.2 ⟨nmE_no rfl, List.forall_mem_cons.2 ⟨nmE_no rfl, List.forall_mem_cons.2 ⟨nmE_no rfl, List.forall_mem_cons.2 ⟨⟨fun _ => (by kernel_rfl), fun _ => (by kernel_rfl), fun _ => (by kernel_rfl)⟩, List.forall_mem_cons.2 ⟨nmE_no rfl, List.forall_mem_cons.2 ⟨nmE_no rfl, List.forall_mem_cons.2 ⟨⟨fun _ => (by kernel_rfl), fun _ => (by kernel_rfl), fun _ => (by kernel_rfl)⟩, List.forall_mem_cons.2 ⟨nmE_no rfl, List.forall_mem_cons.2 ⟨nmE_no rfl, List.forall_mem_cons.2 ⟨⟨fun _ => (by kernel_rfl), fun _ => (by kernel_rfl), fun _ => (by kernel_rfl)⟩, List.forall_mem_cons.2 ⟨⟨fun _ => (by kernel_rfl), fun h => (by cases h), fun h => (by cases h)⟩, List.forall_mem_cons.2 ⟨⟨fun _ => (by kernel_rfl), fun _ => (by kernel_rfl), fun _ => (by kernel_rfl)⟩, List.forall_mem_cons.2 ⟨nmE_no rfl, List.forall_mem_cons.2 ⟨⟨fun _ => (by kernel_rfl), fun _ => (by kernel_rfl), fun _ => (by kernel_rfl)⟩, List.forall_mem_cons.2 ⟨⟨fun _ => (by kernel_rfl), fun _ => (by kernel_rfl), fun _ => (by kernel_rfl)⟩, List.forall_mem_cons.2 ⟨nmE_no rfl, List.forall_mem_cons.2 ⟨nmE_no rfl, List.forall_mem_cons.2 ⟨nmE_no rfl, List.forall_mem_cons.2 ⟨⟨fun _ => (by kernel_rfl), fun _ => (by kernel_rfl), fun _ => (by kernel_rfl)⟩, List.forall_mem_cons.2 ⟨nmE_no rfl, List.forall_mem_cons.2 ⟨⟨fun _ => (by kernel_rfl), fun _ => (by kernel_rfl), fun _ => (by kernel_rfl)⟩, List.forall_mem_cons.2 ⟨nmE_no rfl, List.forall_mem_cons.2 ⟨nmE_no rfl, (fun _ h => absurd h (List.not_mem_nil))⟩⟩⟩⟩⟩⟩⟩⟩⟩⟩⟩⟩⟩⟩⟩⟩⟩⟩⟩⟩⟩⟩⟩⟩⟩⟩⟩⟩))
theorem decOK : DecOK G := decOK_of (List.forall_mem_cons.2 ⟨decE_no rfl, List.forall_mem_cons.2 ⟨decE_no rfl, List.forall_mem_cons.2 ⟨decE_no rfl, List.forall_mem_cons.2 ⟨decE_no rfl, List.forall_mem_cons.2 ⟨decE_sl (s := [.int .u8]) (by kernel_rfl) fun x => ⟨x.1, by kernel_rfl⟩, List.forall_mem_cons.2 ⟨decE_sl (s := [.int .i64]) (by kernel_rfl) fun x => ⟨x.1, by kernel_rfl⟩, List.forall_mem_cons.2 ⟨decE_sl (s := [.bool]) (by kernel_rfl) fun x => ⟨x.1, by kernel_rfl⟩, List.forall_mem_cons.2 ⟨decE_sl (s := [.int .i64, .int .i64, .int .i64, .int .i64, .bool]) (by kernel_rfl) fun x => ⟨⟨x.1, x.2.1, x.2.2.1, x.2.2.2.1, x.2.2.2.2.1⟩, by kernel_rfl⟩, List.forall_mem_cons.2 ⟨decE_no rfl, List.forall_mem_cons.2 ⟨decE_no rfl, List.forall_mem_cons.2 ⟨decE_sl (s := [.int .i64, .int .i64, .int .i64, .int .i64, .int .i64, .int .i64, .int .i64, .int .i64, .int .i64]) (by kernel_rfl) fun x => ⟨⟨x.1, x.2.1, x.2.2.1, x.2.2.2.1, x.2.2.2.2.1, x.2.2.2.2.2.1, x.2.2.2.2.2.2.1, x.2.2.2.2.2.2.2.1, x.2.2.2.2.2.2.2.2.1⟩, by kernel_rfl⟩, List.forall_mem_cons.2 ⟨decE_no rfl, List.forall_mem_cons.2 ⟨decE_sl (s := [.int .i64, .int .i64, .int .i64, .int .i64, .int .i64]) (by kernel_rfl) fun x => ⟨⟨x.1, x.2.1, x.2.2.1, x.2.2.2.1, x.2.2.2.2.1⟩, by kernel_rfl⟩, List.forall_mem_cons.2 ⟨decE_no rfl, List.forall_mem_cons.2 ⟨decE_no rfl, List.forall_mem_cons.2 ⟨decE_no rfl, List.forall_mem_cons.2 ⟨decE_no rfl, List.forall_mem_cons.2 ⟨decE_no rfl, List.forall_mem_cons.2 ⟨decE_no rfl, List.forall_mem_cons.2 ⟨decE_no rfl, List.forall_mem_cons.2 ⟨decE_no rfl, List.forall_mem_cons.2 ⟨decE_no rfl, List.forall_mem_cons.2 ⟨decE_no rfl, List.forall_mem_cons.2 ⟨decE_no rfl, List.forall_mem_cons.2 ⟨decE_no rfl, List.forall_mem_cons.2 ⟨decE_no rfl, List.forall_mem_cons.2 ⟨decE_no rfl, List.forall_mem_cons.2 ⟨decE_no rfl, (fun _ h => absurd h (List.not_mem_nil))⟩⟩⟩⟩⟩⟩⟩⟩⟩⟩⟩⟩⟩⟩⟩⟩⟩⟩⟩⟩⟩⟩⟩⟩⟩⟩⟩⟩)
theorem hmix : Try.prog.follows .mixedOrders = true := by kernel_rfl
end Go.Ovl
