/- The types of the program, as a table. -/
import Derived.Test.YtfooilbkiclplaaAbG
import Derived.Test.YtfooilbkiclplaaTy
import Derived.Test.YtfooilbkiclplaaProg
namespace Go.Ovl
open Go Go.Ab Go.Proofs
def tys : List (Nat × TyD) := [(48, ⟨Contacts, ⟨0, false, false, false, false⟩⟩), (4, ⟨Bool, false⟩)]
@[reducible] def T : Nat → Type := TOf tys
def enc4 (x : Bool) : List (Cv T) := [.sc (.bool x)]
def dec4 : List (Cv T) → Option (Bool)
  | [.sc (.bool a0)] => some a0
  | _ => none
theorem dec4_ok {cs : List (Cv T)} {x : Bool} (h : dec4 cs = some x) : enc4 x = cs := by
  unfold dec4 at h
  split at h
  · simp at h; subst h; rfl
  · simp at h
def enc48 (x : Contacts) : List (Cv T) := [.sc (.int .u32 x.Floors), .sc (.bool x.Up), .sc (.bool x.Down), .sc (.bool x.Open), .sc (.bool x.Closed)]
def dec48 : List (Cv T) → Option (Contacts)
  | [.sc (.int .u32 a0), .sc (.bool a1), .sc (.bool a2), .sc (.bool a3), .sc (.bool a4)] => some ⟨a0, a1, a2, a3, a4⟩
  | _ => none
theorem dec48_ok {cs : List (Cv T)} {x : Contacts} (h : dec48 cs = some x) : enc48 x = cs := by
  unfold dec48 at h
  split at h
  · simp at h; subst h; rfl
  · simp at h
def en3 : Ent1 T := plain T 3 (.int .i64) 1 [(.int .i64 0)]
def en4 : Ent1 T := ⟨4, ⟨.bool, 1, [(.bool false)], enc4, dec4, true⟩⟩
def en5 : Ent1 T := plain T 5 (.int .u8) 1 [(.int .u8 0)]
def en29 : Ent1 T := plain T 29 (.int .i64) 1 [(.int .i64 0)]
def en35 : Ent1 T := plain T 35 (.int .u64) 1 [(.int .u64 0)]
def en46 : Ent1 T := plain T 46 (.int .u32) 1 [(.int .u32 0)]
def en48 : Ent1 T := ⟨48, ⟨.st [(0, 46), (1, 4), (2, 4), (3, 4), (4, 4)], 5, [(.int .u32 0), (.bool false), (.bool false), (.bool false), (.bool false)], enc48, dec48, true⟩⟩
def en52 : Ent1 T := plain T 52 (.arr 36 3) 36 [(.int .i64 0), (.int .i64 0), (.int .i64 0), (.int .i64 0), (.int .i64 0), (.int .i64 0), (.int .i64 0), (.int .i64 0), (.int .i64 0), (.int .i64 0), (.int .i64 0), (.int .i64 0), (.int .i64 0), (.int .i64 0), (.int .i64 0), (.int .i64 0), (.int .i64 0), (.int .i64 0), (.int .i64 0), (.int .i64 0), (.int .i64 0), (.int .i64 0), (.int .i64 0), (.int .i64 0), (.int .i64 0), (.int .i64 0), (.int .i64 0), (.int .i64 0), (.int .i64 0), (.int .i64 0), (.int .i64 0), (.int .i64 0), (.int .i64 0), (.int .i64 0), (.int .i64 0), (.int .i64 0)]
def en54 : Ent1 T := plain T 54 (.st [(0, 48), (5, 52)]) 41 [(.int .u32 0), (.bool false), (.bool false), (.bool false), (.bool false), (.int .i64 0), (.int .i64 0), (.int .i64 0), (.int .i64 0), (.int .i64 0), (.int .i64 0), (.int .i64 0), (.int .i64 0), (.int .i64 0), (.int .i64 0), (.int .i64 0), (.int .i64 0), (.int .i64 0), (.int .i64 0), (.int .i64 0), (.int .i64 0), (.int .i64 0), (.int .i64 0), (.int .i64 0), (.int .i64 0), (.int .i64 0), (.int .i64 0), (.int .i64 0), (.int .i64 0), (.int .i64 0), (.int .i64 0), (.int .i64 0), (.int .i64 0), (.int .i64 0), (.int .i64 0), (.int .i64 0), (.int .i64 0), (.int .i64 0), (.int .i64 0), (.int .i64 0), (.int .i64 0)]
def en55 : Ent1 T := plain T 55 (.sl 48) 1 [(.slice none 0 0)]
def en71 : Ent1 T := plain T 71 (.sl 4) 1 [(.slice none 0 0)]
def ents : List (Ent1 T) := [en3, en4, en5, en29, en35, en46, en48, en52, en54, en55, en71]
def G : Sig := mkSig tys ents
theorem tok3 : EntOK Try.prog G en3.t en3.e := ⟨(show Try.prog.underlying 3 = some (.int .i64) by kernel_rfl), fun _ => ⟨Try.t3, (.int .i64 0), (by kernel_rfl), (by kernel_rfl), (by kernel_rfl), (by kernel_rfl)⟩, fun _ => (by kernel_rfl), fun h => (by cases h), (by kernel_rfl), (by kernel_rfl), fun _ => Nat.zero_le _, fun _ _ h => (by cases h), fun _ => rfl, fun _ _ => rfl⟩
theorem tok4 : EntOK Try.prog G en4.t en4.e := ⟨(show Try.prog.underlying 4 = some .bool by kernel_rfl), fun _ => ⟨Try.t4, (.bool false), (by kernel_rfl), (by kernel_rfl), (by kernel_rfl), (by kernel_rfl)⟩, fun _ => (by kernel_rfl), fun h => (by cases h), (by kernel_rfl), (by kernel_rfl), fun x => Nat.le_of_eq (by kernel_rfl), fun cs x h => dec4_ok h, fun x => (by kernel_rfl), fun _ x => (by kernel_rfl)⟩
theorem tok5 : EntOK Try.prog G en5.t en5.e := ⟨(show Try.prog.underlying 5 = some (.int .u8) by kernel_rfl), fun _ => ⟨Try.t5, (.int .u8 0), (by kernel_rfl), (by kernel_rfl), (by kernel_rfl), (by kernel_rfl)⟩, fun _ => (by kernel_rfl), fun h => (by cases h), (by kernel_rfl), (by kernel_rfl), fun _ => Nat.zero_le _, fun _ _ h => (by cases h), fun _ => rfl, fun _ _ => rfl⟩
theorem tok29 : EntOK Try.prog G en29.t en29.e := ⟨(show Try.prog.underlying 29 = some (.int .i64) by kernel_rfl), fun _ => ⟨Try.t29, (.int .i64 0), (by kernel_rfl), (by kernel_rfl), (by kernel_rfl), (by kernel_rfl)⟩, fun _ => (by kernel_rfl), fun h => (by cases h), (by kernel_rfl), (by kernel_rfl), fun _ => Nat.zero_le _, fun _ _ h => (by cases h), fun _ => rfl, fun _ _ => rfl⟩
theorem tok35 : EntOK Try.prog G en35.t en35.e := ⟨(show Try.prog.underlying 35 = some (.int .u64) by kernel_rfl), fun _ => ⟨Try.t35, (.int .u64 0), (by kernel_rfl), (by kernel_rfl), (by kernel_rfl), (by kernel_rfl)⟩, fun _ => (by kernel_rfl), fun h => (by cases h), (by kernel_rfl), (by kernel_rfl), fun _ => Nat.zero_le _, fun _ _ h => (by cases h), fun _ => rfl, fun _ _ => rfl⟩
theorem tok46 : EntOK Try.prog G en46.t en46.e := ⟨(show Try.prog.underlying 46 = some (.int .u32) by kernel_rfl), fun _ => ⟨Try.t46, (.int .u32 0), (by kernel_rfl), (by kernel_rfl), (by kernel_rfl), (by kernel_rfl)⟩, fun _ => (by kernel_rfl), fun h => (by cases h), (by kernel_rfl), (by kernel_rfl), fun _ => Nat.zero_le _, fun _ _ h => (by cases h), fun _ => rfl, fun _ _ => rfl⟩
theorem tok48 : EntOK Try.prog G en48.t en48.e := ⟨⟨_, Try.underlying48, (by kernel_rfl), (by kernel_rfl)⟩, fun _ => ⟨Try.t48, (.agg #[(.int .u32 0), (.bool false), (.bool false), (.bool false), (.bool false)]), (by kernel_rfl), (by kernel_rfl), (by kernel_rfl), (by kernel_rfl)⟩, fun _ => (by kernel_rfl), fun h => (by cases h), (by kernel_rfl), (by kernel_rfl), fun x => Nat.le_of_eq (by kernel_rfl), fun cs x h => dec48_ok h, fun x => (by kernel_rfl), fun _ x => (by kernel_rfl)⟩
theorem tok52 : EntOK Try.prog G en52.t en52.e := ⟨⟨(by kernel_rfl), (by kernel_rfl)⟩, fun _ => ⟨Try.t52, (.agg #[(.int .i64 0), (.int .i64 0), (.int .i64 0), (.int .i64 0), (.int .i64 0), (.int .i64 0), (.int .i64 0), (.int .i64 0), (.int .i64 0), (.int .i64 0), (.int .i64 0), (.int .i64 0), (.int .i64 0), (.int .i64 0), (.int .i64 0), (.int .i64 0), (.int .i64 0), (.int .i64 0), (.int .i64 0), (.int .i64 0), (.int .i64 0), (.int .i64 0), (.int .i64 0), (.int .i64 0), (.int .i64 0), (.int .i64 0), (.int .i64 0), (.int .i64 0), (.int .i64 0), (.int .i64 0), (.int .i64 0), (.int .i64 0), (.int .i64 0), (.int .i64 0), (.int .i64 0), (.int .i64 0)]), (by kernel_rfl), (by kernel_rfl), (by kernel_rfl), (by kernel_rfl)⟩, fun _ => (by kernel_rfl), fun h => (by cases h), (by kernel_rfl), (by kernel_rfl), fun _ => Nat.zero_le _, fun _ _ h => (by cases h), fun _ => rfl, fun _ _ => rfl⟩
theorem tok54 : EntOK Try.prog G en54.t en54.e := ⟨⟨_, Try.underlying54, (by kernel_rfl), (by kernel_rfl)⟩, fun _ => ⟨Try.t54, (.agg #[(.int .u32 0), (.bool false), (.bool false), (.bool false), (.bool false), (.int .i64 0), (.int .i64 0), (.int .i64 0), (.int .i64 0), (.int .i64 0), (.int .i64 0), (.int .i64 0), (.int .i64 0), (.int .i64 0), (.int .i64 0), (.int .i64 0), (.int .i64 0), (.int .i64 0), (.int .i64 0), (.int .i64 0), (.int .i64 0), (.int .i64 0), (.int .i64 0), (.int .i64 0), (.int .i64 0), (.int .i64 0), (.int .i64 0), (.int .i64 0), (.int .i64 0), (.int .i64 0), (.int .i64 0), (.int .i64 0), (.int .i64 0), (.int .i64 0), (.int .i64 0), (.int .i64 0), (.int .i64 0), (.int .i64 0), (.int .i64 0), (.int .i64 0), (.int .i64 0)]), (by kernel_rfl), (by kernel_rfl), (by kernel_rfl), (by kernel_rfl)⟩, fun _ => (by kernel_rfl), fun h => (by cases h), (by kernel_rfl), (by kernel_rfl), fun _ => Nat.zero_le _, fun _ _ h => (by cases h), fun _ => rfl, fun _ _ => rfl⟩
theorem tok55 : EntOK Try.prog G en55.t en55.e := ⟨⟨(by kernel_rfl), (by kernel_rfl), ⟨Try.t48, (by kernel_rfl), (by kernel_rfl)⟩, fun x => (by kernel_rfl)⟩, fun _ => ⟨Try.t55, (.slice none 0 0), (by kernel_rfl), (by kernel_rfl), (by kernel_rfl), (by kernel_rfl)⟩, fun _ => (by kernel_rfl), fun h => (by cases h), (by kernel_rfl), (by kernel_rfl), fun _ => Nat.zero_le _, fun _ _ h => (by cases h), fun _ => rfl, fun _ _ => rfl⟩
theorem tok71 : EntOK Try.prog G en71.t en71.e := ⟨⟨(by kernel_rfl), (by kernel_rfl), ⟨Try.t4, (by kernel_rfl), (by kernel_rfl)⟩, fun x => (by kernel_rfl)⟩, fun _ => ⟨Try.t71, (.slice none 0 0), (by kernel_rfl), (by kernel_rfl), (by kernel_rfl), (by kernel_rfl)⟩, fun _ => (by kernel_rfl), fun h => (by cases h), (by kernel_rfl), (by kernel_rfl), fun _ => Nat.zero_le _, fun _ _ h => (by cases h), fun _ => rfl, fun _ _ => rfl⟩
theorem sigOK : SigOK Try.prog G := sigOK_of (List.forall_mem_cons.2 ⟨tok3, List.forall_mem_cons.2 ⟨tok4, List.forall_mem_cons.2 ⟨tok5, List.forall_mem_cons.2 ⟨tok29, List.forall_mem_cons.2 ⟨tok35, List.forall_mem_cons.2 ⟨tok46, List.forall_mem_cons.2 ⟨tok48, List.forall_mem_cons.2 ⟨tok52, List.forall_mem_cons.2 ⟨tok54, List.forall_mem_cons.2 ⟨tok55, List.forall_mem_cons.2 ⟨tok71, (fun _ h => absurd h (List.not_mem_nil))⟩⟩⟩⟩⟩⟩⟩⟩⟩⟩⟩)
theorem eqOK : EqOK Try.prog G := eqOK_of sigOK (namesOK_of (List.forall_mem_cons.2 ⟨nmE_no rfl, List.forall_mem_cons.2 ⟨nmE_no rfl, List.forall_mem_cons.2 ⟨nmE_no rfl, List.forall_mem_cons.2 ⟨nmE_no rfl, List.forall_mem_cons.2 ⟨nmE_no rfl, List.forall_mem_cons.2 ⟨nmE_no rfl, List.forall_mem_cons.2 ⟨⟨fun _ => (by kernel_rfl), fun _ => (by kernel_rfl), fun _ => (by kernel_rfl)⟩, List.forall_mem_cons.2 ⟨⟨fun _ => (by kernel_rfl), fun h => (by cases h), fun h => (by cases h)⟩, List.forall_mem_cons.2 ⟨⟨fun _ => (by kernel_rfl), fun _ => (by kernel_rfl), fun _ => (by kernel_rfl)⟩, List.forall_mem_cons.2 ⟨nmE_no rfl, List.forall_mem_cons.2 ⟨nmE_no rfl, (fun _ h => absurd h (List.not_mem_nil))⟩⟩⟩⟩⟩⟩⟩⟩⟩⟩⟩))
theorem decOK : DecOK G := decOK_of (List.forall_mem_cons.2 ⟨decE_no rfl, List.forall_mem_cons.2 ⟨decE_no rfl, List.forall_mem_cons.2 ⟨decE_no rfl, List.forall_mem_cons.2 ⟨decE_no rfl, List.forall_mem_cons.2 ⟨decE_no rfl, List.forall_mem_cons.2 ⟨decE_no rfl, List.forall_mem_cons.2 ⟨decE_no rfl, List.forall_mem_cons.2 ⟨decE_no rfl, List.forall_mem_cons.2 ⟨decE_no rfl, List.forall_mem_cons.2 ⟨decE_sl (s := [.int .u32, .bool, .bool, .bool, .bool]) (by kernel_rfl) fun x => ⟨⟨x.1, x.2.1, x.2.2.1, x.2.2.2.1, x.2.2.2.2.1⟩, by kernel_rfl⟩, List.forall_mem_cons.2 ⟨decE_sl (s := [.bool]) (by kernel_rfl) fun x => ⟨x.1, by kernel_rfl⟩, (fun _ h => absurd h (List.not_mem_nil))⟩⟩⟩⟩⟩⟩⟩⟩⟩⟩⟩)
theorem hmix : Try.prog.follows .mixedOrders = true := by kernel_rfl
end Go.Ovl
