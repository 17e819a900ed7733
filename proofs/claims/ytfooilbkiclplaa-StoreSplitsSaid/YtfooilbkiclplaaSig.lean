/- The types of the program, as a table. -/
import Derived.Test.YtfooilbkiclplaaAb28
import Derived.Test.YtfooilbkiclplaaProg
namespace Go.Proofs.Yt
open Go Go.Ab
structure S48 where
  Floors : Int
  Up : Bool
  Down : Bool
  Open : Bool
  Closed : Bool
def tys : List (Nat × TyD) := [(3, ⟨Int, 0⟩), (9, ⟨ByteArray, ⟨#[]⟩⟩), (5, ⟨Int, 0⟩), (48, ⟨S48, ⟨0, false, false, false, false⟩⟩), (4, ⟨Bool, false⟩)]
@[reducible] def T : Nat → Type := TOf tys
def enc3 (x : Int) : List (Cv T) := [.sc (.int .i64 x)]
def dec3 : List (Cv T) → Option (Int)
  | [.sc (.int .i64 a0)] => some a0
  | _ => none
theorem dec3_ok {cs : List (Cv T)} {x : Int} (h : dec3 cs = some x) : enc3 x = cs := by
  unfold dec3 at h
  split at h
  · simp at h; subst h; rfl
  · simp at h
def enc4 (x : Bool) : List (Cv T) := [.sc (.bool x)]
def dec4 : List (Cv T) → Option (Bool)
  | [.sc (.bool a0)] => some a0
  | _ => none
theorem dec4_ok {cs : List (Cv T)} {x : Bool} (h : dec4 cs = some x) : enc4 x = cs := by
  unfold dec4 at h
  split at h
  · simp at h; subst h; rfl
  · simp at h
def enc5 (x : Int) : List (Cv T) := [.sc (.int .u8 x)]
def dec5 : List (Cv T) → Option (Int)
  | [.sc (.int .u8 a0)] => some a0
  | _ => none
theorem dec5_ok {cs : List (Cv T)} {x : Int} (h : dec5 cs = some x) : enc5 x = cs := by
  unfold dec5 at h
  split at h
  · simp at h; subst h; rfl
  · simp at h
def enc9 (x : ByteArray) : List (Cv T) := [.sc (.string x)]
def dec9 : List (Cv T) → Option (ByteArray)
  | [.sc (.string a0)] => some a0
  | _ => none
theorem dec9_ok {cs : List (Cv T)} {x : ByteArray} (h : dec9 cs = some x) : enc9 x = cs := by
  unfold dec9 at h
  split at h
  · simp at h; subst h; rfl
  · simp at h
def enc48 (x : S48) : List (Cv T) := [.sc (.int .u32 x.Floors), .sc (.bool x.Up), .sc (.bool x.Down), .sc (.bool x.Open), .sc (.bool x.Closed)]
def dec48 : List (Cv T) → Option (S48)
  | [.sc (.int .u32 a0), .sc (.bool a1), .sc (.bool a2), .sc (.bool a3), .sc (.bool a4)] => some ⟨a0, a1, a2, a3, a4⟩
  | _ => none
theorem dec48_ok {cs : List (Cv T)} {x : S48} (h : dec48 cs = some x) : enc48 x = cs := by
  unfold dec48 at h
  split at h
  · simp at h; subst h; rfl
  · simp at h
def en3 : Ent1 T := ⟨3, ⟨.int .i64, 1, [(.int .i64 0)], enc3, dec3, true⟩⟩
def en4 : Ent1 T := ⟨4, ⟨.bool, 1, [(.bool false)], enc4, dec4, true⟩⟩
def en5 : Ent1 T := ⟨5, ⟨.int .u8, 1, [(.int .u8 0)], enc5, dec5, true⟩⟩
def en9 : Ent1 T := ⟨9, ⟨.str, 1, [(.string ⟨#[]⟩)], enc9, dec9, true⟩⟩
def en22 : Ent1 T := plain T 22 (.arr 2 9) 2 [(.string ⟨#[]⟩), (.string ⟨#[]⟩)]
def en24 : Ent1 T := plain T 24 (.st [(0, 22), (2, 3)]) 3 [(.string ⟨#[]⟩), (.string ⟨#[]⟩), (.int .i64 0)]
def en25 : Ent1 T := plain T 25 (.int .u16) 1 [(.int .u16 0)]
def en26 : Ent1 T := plain T 26 (.arr 2 25) 2 [(.int .u16 0), (.int .u16 0)]
def en29 : Ent1 T := plain T 29 (.int .i64) 1 [(.int .i64 0)]
def en34 : Ent1 T := plain T 34 (.st [(0, 3), (1, 3), (2, 3)]) 3 [(.int .i64 0), (.int .i64 0), (.int .i64 0)]
def en35 : Ent1 T := plain T 35 (.int .u64) 1 [(.int .u64 0)]
def en36 : Ent1 T := plain T 36 (.sl 3) 1 [(.slice none 0 0)]
def en41 : Ent1 T := plain T 41 (.arr 3 5) 3 [(.int .u8 0), (.int .u8 0), (.int .u8 0)]
def en43 : Ent1 T := plain T 43 (.sl 9) 1 [(.slice none 0 0)]
def en44 : Ent1 T := plain T 44 (.sl 5) 1 [(.slice none 0 0)]
def en46 : Ent1 T := plain T 46 (.int .u32) 1 [(.int .u32 0)]
def en48 : Ent1 T := ⟨48, ⟨.st [(0, 46), (1, 4), (2, 4), (3, 4), (4, 4)], 5, [(.int .u32 0), (.bool false), (.bool false), (.bool false), (.bool false)], enc48, dec48, true⟩⟩
def en52 : Ent1 T := plain T 52 (.arr 36 3) 36 [(.int .i64 0), (.int .i64 0), (.int .i64 0), (.int .i64 0), (.int .i64 0), (.int .i64 0), (.int .i64 0), (.int .i64 0), (.int .i64 0), (.int .i64 0), (.int .i64 0), (.int .i64 0), (.int .i64 0), (.int .i64 0), (.int .i64 0), (.int .i64 0), (.int .i64 0), (.int .i64 0), (.int .i64 0), (.int .i64 0), (.int .i64 0), (.int .i64 0), (.int .i64 0), (.int .i64 0), (.int .i64 0), (.int .i64 0), (.int .i64 0), (.int .i64 0), (.int .i64 0), (.int .i64 0), (.int .i64 0), (.int .i64 0), (.int .i64 0), (.int .i64 0), (.int .i64 0), (.int .i64 0)]
def en54 : Ent1 T := plain T 54 (.st [(0, 48), (5, 52)]) 41 [(.int .u32 0), (.bool false), (.bool false), (.bool false), (.bool false), (.int .i64 0), (.int .i64 0), (.int .i64 0), (.int .i64 0), (.int .i64 0), (.int .i64 0), (.int .i64 0), (.int .i64 0), (.int .i64 0), (.int .i64 0), (.int .i64 0), (.int .i64 0), (.int .i64 0), (.int .i64 0), (.int .i64 0), (.int .i64 0), (.int .i64 0), (.int .i64 0), (.int .i64 0), (.int .i64 0), (.int .i64 0), (.int .i64 0), (.int .i64 0), (.int .i64 0), (.int .i64 0), (.int .i64 0), (.int .i64 0), (.int .i64 0), (.int .i64 0), (.int .i64 0), (.int .i64 0), (.int .i64 0), (.int .i64 0), (.int .i64 0), (.int .i64 0), (.int .i64 0)]
def en55 : Ent1 T := plain T 55 (.sl 48) 1 [(.slice none 0 0)]
def en69 : Ent1 T := plain T 69 (.pt 24) 1 [(.pointer none)]
def en70 : Ent1 T := plain T 70 (.fn) 1 [.nilFunc]
def en71 : Ent1 T := plain T 71 (.sl 4) 1 [(.slice none 0 0)]
def ents : List (Ent1 T) := [en3, en4, en5, en9, en22, en24, en25, en26, en29, en34, en35, en36, en41, en43, en44, en46, en48, en52, en54, en55, en69, en70, en71]
def G : Sig := mkSig tys ents
theorem ok3 : EntOK Try.prog G en3.t en3.e := ⟨(show Try.prog.underlying 3 = some (.int .i64) by kernel_rfl), fun _ => ⟨Try.t3, (.int .i64 0), (by kernel_rfl), (by kernel_rfl), (by kernel_rfl), (by kernel_rfl)⟩, fun _ => (by kernel_rfl), fun h => (by cases h), (by kernel_rfl), (by kernel_rfl), fun x => Nat.le_of_eq (by kernel_rfl), fun cs x h => dec3_ok h, fun x => (by kernel_rfl), fun _ x => (by kernel_rfl)⟩
theorem ok4 : EntOK Try.prog G en4.t en4.e := ⟨(show Try.prog.underlying 4 = some .bool by kernel_rfl), fun _ => ⟨Try.t4, (.bool false), (by kernel_rfl), (by kernel_rfl), (by kernel_rfl), (by kernel_rfl)⟩, fun _ => (by kernel_rfl), fun h => (by cases h), (by kernel_rfl), (by kernel_rfl), fun x => Nat.le_of_eq (by kernel_rfl), fun cs x h => dec4_ok h, fun x => (by kernel_rfl), fun _ x => (by kernel_rfl)⟩
theorem ok5 : EntOK Try.prog G en5.t en5.e := ⟨(show Try.prog.underlying 5 = some (.int .u8) by kernel_rfl), fun _ => ⟨Try.t5, (.int .u8 0), (by kernel_rfl), (by kernel_rfl), (by kernel_rfl), (by kernel_rfl)⟩, fun _ => (by kernel_rfl), fun h => (by cases h), (by kernel_rfl), (by kernel_rfl), fun x => Nat.le_of_eq (by kernel_rfl), fun cs x h => dec5_ok h, fun x => (by kernel_rfl), fun _ x => (by kernel_rfl)⟩
theorem ok9 : EntOK Try.prog G en9.t en9.e := ⟨(show Try.prog.underlying 9 = some .string by kernel_rfl), fun _ => ⟨Try.t9, (.string ⟨#[]⟩), (by kernel_rfl), (by kernel_rfl), (by kernel_rfl), (by kernel_rfl)⟩, fun _ => (by kernel_rfl), fun h => (by cases h), (by kernel_rfl), (by kernel_rfl), fun x => Nat.le_of_eq (by kernel_rfl), fun cs x h => dec9_ok h, fun x => (by kernel_rfl), fun _ x => (by kernel_rfl)⟩
theorem ok22 : EntOK Try.prog G en22.t en22.e := ⟨⟨(by kernel_rfl), (by kernel_rfl)⟩, fun _ => ⟨Try.t22, (.agg #[(.string ⟨#[]⟩), (.string ⟨#[]⟩)]), (by kernel_rfl), (by kernel_rfl), (by kernel_rfl), (by kernel_rfl)⟩, fun _ => (by kernel_rfl), fun h => (by cases h), (by kernel_rfl), (by kernel_rfl), fun _ => Nat.zero_le _, fun _ _ h => (by cases h), fun _ => rfl, fun _ _ => rfl⟩
theorem ok24 : EntOK Try.prog G en24.t en24.e := ⟨⟨_, Try.underlying24, (by kernel_rfl), (by kernel_rfl)⟩, fun _ => ⟨Try.t24, (.agg #[(.string ⟨#[]⟩), (.string ⟨#[]⟩), (.int .i64 0)]), (by kernel_rfl), (by kernel_rfl), (by kernel_rfl), (by kernel_rfl)⟩, fun _ => (by kernel_rfl), fun h => (by cases h), (by kernel_rfl), (by kernel_rfl), fun _ => Nat.zero_le _, fun _ _ h => (by cases h), fun _ => rfl, fun _ _ => rfl⟩
theorem ok25 : EntOK Try.prog G en25.t en25.e := ⟨(show Try.prog.underlying 25 = some (.int .u16) by kernel_rfl), fun _ => ⟨Try.t25, (.int .u16 0), (by kernel_rfl), (by kernel_rfl), (by kernel_rfl), (by kernel_rfl)⟩, fun _ => (by kernel_rfl), fun h => (by cases h), (by kernel_rfl), (by kernel_rfl), fun _ => Nat.zero_le _, fun _ _ h => (by cases h), fun _ => rfl, fun _ _ => rfl⟩
theorem ok26 : EntOK Try.prog G en26.t en26.e := ⟨⟨(by kernel_rfl), (by kernel_rfl)⟩, fun _ => ⟨Try.t26, (.agg #[(.int .u16 0), (.int .u16 0)]), (by kernel_rfl), (by kernel_rfl), (by kernel_rfl), (by kernel_rfl)⟩, fun _ => (by kernel_rfl), fun h => (by cases h), (by kernel_rfl), (by kernel_rfl), fun _ => Nat.zero_le _, fun _ _ h => (by cases h), fun _ => rfl, fun _ _ => rfl⟩
theorem ok29 : EntOK Try.prog G en29.t en29.e := ⟨(show Try.prog.underlying 29 = some (.int .i64) by kernel_rfl), fun _ => ⟨Try.t29, (.int .i64 0), (by kernel_rfl), (by kernel_rfl), (by kernel_rfl), (by kernel_rfl)⟩, fun _ => (by kernel_rfl), fun h => (by cases h), (by kernel_rfl), (by kernel_rfl), fun _ => Nat.zero_le _, fun _ _ h => (by cases h), fun _ => rfl, fun _ _ => rfl⟩
theorem ok34 : EntOK Try.prog G en34.t en34.e := ⟨⟨_, Try.underlying34, (by kernel_rfl), (by kernel_rfl)⟩, fun _ => ⟨Try.t34, (.agg #[(.int .i64 0), (.int .i64 0), (.int .i64 0)]), (by kernel_rfl), (by kernel_rfl), (by kernel_rfl), (by kernel_rfl)⟩, fun _ => (by kernel_rfl), fun h => (by cases h), (by kernel_rfl), (by kernel_rfl), fun _ => Nat.zero_le _, fun _ _ h => (by cases h), fun _ => rfl, fun _ _ => rfl⟩
theorem ok35 : EntOK Try.prog G en35.t en35.e := ⟨(show Try.prog.underlying 35 = some (.int .u64) by kernel_rfl), fun _ => ⟨Try.t35, (.int .u64 0), (by kernel_rfl), (by kernel_rfl), (by kernel_rfl), (by kernel_rfl)⟩, fun _ => (by kernel_rfl), fun h => (by cases h), (by kernel_rfl), (by kernel_rfl), fun _ => Nat.zero_le _, fun _ _ h => (by cases h), fun _ => rfl, fun _ _ => rfl⟩
theorem ok36 : EntOK Try.prog G en36.t en36.e := ⟨⟨(by kernel_rfl), (by kernel_rfl), ⟨Try.t3, (by kernel_rfl), (by kernel_rfl)⟩, fun x => (by kernel_rfl)⟩, fun _ => ⟨Try.t36, (.slice none 0 0), (by kernel_rfl), (by kernel_rfl), (by kernel_rfl), (by kernel_rfl)⟩, fun _ => (by kernel_rfl), fun h => (by cases h), (by kernel_rfl), (by kernel_rfl), fun _ => Nat.zero_le _, fun _ _ h => (by cases h), fun _ => rfl, fun _ _ => rfl⟩
theorem ok41 : EntOK Try.prog G en41.t en41.e := ⟨⟨(by kernel_rfl), (by kernel_rfl)⟩, fun _ => ⟨Try.t41, (.agg #[(.int .u8 0), (.int .u8 0), (.int .u8 0)]), (by kernel_rfl), (by kernel_rfl), (by kernel_rfl), (by kernel_rfl)⟩, fun _ => (by kernel_rfl), fun h => (by cases h), (by kernel_rfl), (by kernel_rfl), fun _ => Nat.zero_le _, fun _ _ h => (by cases h), fun _ => rfl, fun _ _ => rfl⟩
theorem ok43 : EntOK Try.prog G en43.t en43.e := ⟨⟨(by kernel_rfl), (by kernel_rfl), ⟨Try.t9, (by kernel_rfl), (by kernel_rfl)⟩, fun x => (by kernel_rfl)⟩, fun _ => ⟨Try.t43, (.slice none 0 0), (by kernel_rfl), (by kernel_rfl), (by kernel_rfl), (by kernel_rfl)⟩, fun _ => (by kernel_rfl), fun h => (by cases h), (by kernel_rfl), (by kernel_rfl), fun _ => Nat.zero_le _, fun _ _ h => (by cases h), fun _ => rfl, fun _ _ => rfl⟩
theorem ok44 : EntOK Try.prog G en44.t en44.e := ⟨⟨(by kernel_rfl), (by kernel_rfl), ⟨Try.t5, (by kernel_rfl), (by kernel_rfl)⟩, fun x => (by kernel_rfl)⟩, fun _ => ⟨Try.t44, (.slice none 0 0), (by kernel_rfl), (by kernel_rfl), (by kernel_rfl), (by kernel_rfl)⟩, fun _ => (by kernel_rfl), fun h => (by cases h), (by kernel_rfl), (by kernel_rfl), fun _ => Nat.zero_le _, fun _ _ h => (by cases h), fun _ => rfl, fun _ _ => rfl⟩
theorem ok46 : EntOK Try.prog G en46.t en46.e := ⟨(show Try.prog.underlying 46 = some (.int .u32) by kernel_rfl), fun _ => ⟨Try.t46, (.int .u32 0), (by kernel_rfl), (by kernel_rfl), (by kernel_rfl), (by kernel_rfl)⟩, fun _ => (by kernel_rfl), fun h => (by cases h), (by kernel_rfl), (by kernel_rfl), fun _ => Nat.zero_le _, fun _ _ h => (by cases h), fun _ => rfl, fun _ _ => rfl⟩
theorem ok48 : EntOK Try.prog G en48.t en48.e := ⟨⟨_, Try.underlying48, (by kernel_rfl), (by kernel_rfl)⟩, fun _ => ⟨Try.t48, (.agg #[(.int .u32 0), (.bool false), (.bool false), (.bool false), (.bool false)]), (by kernel_rfl), (by kernel_rfl), (by kernel_rfl), (by kernel_rfl)⟩, fun _ => (by kernel_rfl), fun h => (by cases h), (by kernel_rfl), (by kernel_rfl), fun x => Nat.le_of_eq (by kernel_rfl), fun cs x h => dec48_ok h, fun x => (by kernel_rfl), fun _ x => (by kernel_rfl)⟩
theorem ok52 : EntOK Try.prog G en52.t en52.e := ⟨⟨(by kernel_rfl), (by kernel_rfl)⟩, fun _ => ⟨Try.t52, (.agg #[(.int .i64 0), (.int .i64 0), (.int .i64 0), (.int .i64 0), (.int .i64 0), (.int .i64 0), (.int .i64 0), (.int .i64 0), (.int .i64 0), (.int .i64 0), (.int .i64 0), (.int .i64 0), (.int .i64 0), (.int .i64 0), (.int .i64 0), (.int .i64 0), (.int .i64 0), (.int .i64 0), (.int .i64 0), (.int .i64 0), (.int .i64 0), (.int .i64 0), (.int .i64 0), (.int .i64 0), (.int .i64 0), (.int .i64 0), (.int .i64 0), (.int .i64 0), (.int .i64 0), (.int .i64 0), (.int .i64 0), (.int .i64 0), (.int .i64 0), (.int .i64 0), (.int .i64 0), (.int .i64 0)]), (by kernel_rfl), (by kernel_rfl), (by kernel_rfl), (by kernel_rfl)⟩, fun _ => (by kernel_rfl), fun h => (by cases h), (by kernel_rfl), (by kernel_rfl), fun _ => Nat.zero_le _, fun _ _ h => (by cases h), fun _ => rfl, fun _ _ => rfl⟩
theorem ok54 : EntOK Try.prog G en54.t en54.e := ⟨⟨_, Try.underlying54, (by kernel_rfl), (by kernel_rfl)⟩, fun _ => ⟨Try.t54, (.agg #[(.int .u32 0), (.bool false), (.bool false), (.bool false), (.bool false), (.int .i64 0), (.int .i64 0), (.int .i64 0), (.int .i64 0), (.int .i64 0), (.int .i64 0), (.int .i64 0), (.int .i64 0), (.int .i64 0), (.int .i64 0), (.int .i64 0), (.int .i64 0), (.int .i64 0), (.int .i64 0), (.int .i64 0), (.int .i64 0), (.int .i64 0), (.int .i64 0), (.int .i64 0), (.int .i64 0), (.int .i64 0), (.int .i64 0), (.int .i64 0), (.int .i64 0), (.int .i64 0), (.int .i64 0), (.int .i64 0), (.int .i64 0), (.int .i64 0), (.int .i64 0), (.int .i64 0), (.int .i64 0), (.int .i64 0), (.int .i64 0), (.int .i64 0), (.int .i64 0)]), (by kernel_rfl), (by kernel_rfl), (by kernel_rfl), (by kernel_rfl)⟩, fun _ => (by kernel_rfl), fun h => (by cases h), (by kernel_rfl), (by kernel_rfl), fun _ => Nat.zero_le _, fun _ _ h => (by cases h), fun _ => rfl, fun _ _ => rfl⟩
theorem ok55 : EntOK Try.prog G en55.t en55.e := ⟨⟨(by kernel_rfl), (by kernel_rfl), ⟨Try.t48, (by kernel_rfl), (by kernel_rfl)⟩, fun x => (by kernel_rfl)⟩, fun _ => ⟨Try.t55, (.slice none 0 0), (by kernel_rfl), (by kernel_rfl), (by kernel_rfl), (by kernel_rfl)⟩, fun _ => (by kernel_rfl), fun h => (by cases h), (by kernel_rfl), (by kernel_rfl), fun _ => Nat.zero_le _, fun _ _ h => (by cases h), fun _ => rfl, fun _ _ => rfl⟩
theorem ok69 : EntOK Try.prog G en69.t en69.e := ⟨(show Try.prog.underlying 69 = some (.pointer 24) by kernel_rfl), fun _ => ⟨Try.t69, (.pointer none), (by kernel_rfl), (by kernel_rfl), (by kernel_rfl), (by kernel_rfl)⟩, fun _ => (by kernel_rfl), fun h => (by cases h), (by kernel_rfl), (by kernel_rfl), fun _ => Nat.zero_le _, fun _ _ h => (by cases h), fun _ => rfl, fun _ _ => rfl⟩
theorem ok70 : EntOK Try.prog G en70.t en70.e := ⟨⟨_, _, _, Try.underlying70⟩, fun _ => ⟨Try.t70, .nilFunc, (by kernel_rfl), (by kernel_rfl), (by kernel_rfl), (by kernel_rfl)⟩, fun _ => (by kernel_rfl), fun h => (by cases h), (by kernel_rfl), (by kernel_rfl), fun _ => Nat.zero_le _, fun _ _ h => (by cases h), fun _ => rfl, fun _ _ => rfl⟩
theorem ok71 : EntOK Try.prog G en71.t en71.e := ⟨⟨(by kernel_rfl), (by kernel_rfl), ⟨Try.t4, (by kernel_rfl), (by kernel_rfl)⟩, fun x => (by kernel_rfl)⟩, fun _ => ⟨Try.t71, (.slice none 0 0), (by kernel_rfl), (by kernel_rfl), (by kernel_rfl), (by kernel_rfl)⟩, fun _ => (by kernel_rfl), fun h => (by cases h), (by kernel_rfl), (by kernel_rfl), fun _ => Nat.zero_le _, fun _ _ h => (by cases h), fun _ => rfl, fun _ _ => rfl⟩
theorem sigOK : SigOK Try.prog G := sigOK_of (List.forall_mem_cons.2 ⟨ok3, List.forall_mem_cons.2 ⟨ok4, List.forall_mem_cons.2 ⟨ok5, List.forall_mem_cons.2 ⟨ok9, List.forall_mem_cons.2 ⟨ok22, List.forall_mem_cons.2 ⟨ok24, List.forall_mem_cons.2 ⟨ok25, List.forall_mem_cons.2 ⟨ok26, List.forall_mem_cons.2 ⟨ok29, List.forall_mem_cons.2 ⟨ok34, List.forall_mem_cons.2 ⟨ok35, List.forall_mem_cons.2 ⟨ok36, List.forall_mem_cons.2 ⟨ok41, List.forall_mem_cons.2 ⟨ok43, List.forall_mem_cons.2 ⟨ok44, List.forall_mem_cons.2 ⟨ok46, List.forall_mem_cons.2 ⟨ok48, List.forall_mem_cons.2 ⟨ok52, List.forall_mem_cons.2 ⟨ok54, List.forall_mem_cons.2 ⟨ok55, List.forall_mem_cons.2 ⟨ok69, List.forall_mem_cons.2 ⟨ok70, List.forall_mem_cons.2 ⟨ok71, (fun _ h => absurd h (List.not_mem_nil))⟩⟩⟩⟩⟩⟩⟩⟩⟩⟩⟩⟩⟩⟩⟩⟩⟩⟩⟩⟩⟩⟩⟩)
theorem eqOK : EqOK Try.prog G := eqOK_of sigOK (namesOK_of (List.forall_mem_cons.2 ⟨nmE_no rfl, List.forall_mem_cons.2 ⟨nmE_no rfl, List.forall_mem_cons.2 ⟨nmE_no rfl, List.forall_mem_cons.2 ⟨nmE_no rfl, List.forall_mem_cons.2 ⟨⟨fun _ => (by kernel_rfl), fun h => (by cases h), fun h => (by cases h)⟩, List.forall_mem_cons.2 ⟨⟨fun _ => (by kernel_rfl), fun _ => (by kernel_rfl), fun _ => (by kernel_rfl)⟩, List.forall_mem_cons.2 ⟨nmE_no rfl, List.forall_mem_cons.2 ⟨⟨fun _ => (by kernel_rfl), fun h => (by cases h), fun h => (by cases h)⟩, List.forall_mem_cons.2 ⟨nmE_no rfl, List.forall_mem_cons.2 ⟨⟨fun _ => (by kernel_rfl), fun _ => (by kernel_rfl), fun _ => (by kernel_rfl)⟩, List.forall_mem_cons.2 ⟨nmE_no rfl, List.forall_mem_cons.2 ⟨nmE_no rfl, List.forall_mem_cons.2 ⟨⟨fun _ => (by kernel_rfl), fun h => (by cases h), fun h => (by cases h)⟩, List.forall_mem_cons.2 ⟨nmE_no rfl, List.forall_mem_cons.2 ⟨nmE_no rfl, List.forall_mem_cons.2 ⟨nmE_no rfl, List.forall_mem_cons.2 ⟨⟨fun _ => (by kernel_rfl), fun _ => (by kernel_rfl), fun _ => (by kernel_rfl)⟩, List.forall_mem_cons.2 ⟨⟨fun _ => (by kernel_rfl), fun h => (by cases h), fun h => (by cases h)⟩, List.forall_mem_cons.2 ⟨⟨fun _ => (by kernel_rfl), fun _ => (by kernel_rfl), fun _ => (by kernel_rfl)⟩, List.forall_mem_cons.2 ⟨nmE_no rfl, List.forall_mem_cons.2 ⟨nmE_no rfl, List.forall_mem_cons.2 ⟨nmE_no rfl, List.forall_mem_cons.2 ⟨nmE_no rfl, (fun _ h => absurd h (List.not_mem_nil))⟩⟩⟩⟩⟩⟩⟩⟩⟩⟩⟩⟩⟩⟩⟩⟩⟩⟩⟩⟩⟩⟩⟩))
theorem decOK : DecOK G := decOK_of (List.forall_mem_cons.2 ⟨decE_no rfl, List.forall_mem_cons.2 ⟨decE_no rfl, List.forall_mem_cons.2 ⟨decE_no rfl, List.forall_mem_cons.2 ⟨decE_no rfl, List.forall_mem_cons.2 ⟨decE_no rfl, List.forall_mem_cons.2 ⟨decE_no rfl, List.forall_mem_cons.2 ⟨decE_no rfl, List.forall_mem_cons.2 ⟨decE_no rfl, List.forall_mem_cons.2 ⟨decE_no rfl, List.forall_mem_cons.2 ⟨decE_no rfl, List.forall_mem_cons.2 ⟨decE_no rfl, List.forall_mem_cons.2 ⟨decE_sl (s := [.int .i64]) (by kernel_rfl) fun x => ⟨x.1, by kernel_rfl⟩, List.forall_mem_cons.2 ⟨decE_no rfl, List.forall_mem_cons.2 ⟨decE_sl (s := [.str]) (by kernel_rfl) fun x => ⟨x.1, by kernel_rfl⟩, List.forall_mem_cons.2 ⟨decE_sl (s := [.int .u8]) (by kernel_rfl) fun x => ⟨x.1, by kernel_rfl⟩, List.forall_mem_cons.2 ⟨decE_no rfl, List.forall_mem_cons.2 ⟨decE_no rfl, List.forall_mem_cons.2 ⟨decE_no rfl, List.forall_mem_cons.2 ⟨decE_no rfl, List.forall_mem_cons.2 ⟨decE_sl (s := [.int .u32, .bool, .bool, .bool, .bool]) (by kernel_rfl) fun x => ⟨⟨x.1, x.2.1, x.2.2.1, x.2.2.2.1, x.2.2.2.2.1⟩, by kernel_rfl⟩, List.forall_mem_cons.2 ⟨decE_no rfl, List.forall_mem_cons.2 ⟨decE_no rfl, List.forall_mem_cons.2 ⟨decE_sl (s := [.bool]) (by kernel_rfl) fun x => ⟨x.1, by kernel_rfl⟩, (fun _ h => absurd h (List.not_mem_nil))⟩⟩⟩⟩⟩⟩⟩⟩⟩⟩⟩⟩⟩⟩⟩⟩⟩⟩⟩⟩⟩⟩⟩)
end Go.Proofs.Yt
