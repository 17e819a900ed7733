/- The types of the program, as a table. -/
import Derived.Test.YtfooilbkiclplaaAbG
import Derived.Test.YtfooilbkiclplaaTy
import Derived.Test.YtfooilbkiclplaaProg
namespace Go.Ovl
open Go Go.Ab Go.Proofs
def tys : List (Nat × TyD) := [(9, ⟨ByteArray, ⟨#[]⟩⟩), (5, ⟨Int, 0⟩)]
@[reducible] def T : Nat → Type := TOf tys
def enc5 (x : Int) : List (Cv T) := [.sc (.int .u8 x)]
def dec5 : List (Cv T) → Option (Int)
  | [.sc (.int .u8 a0)] => some a0
  | _ => none
theorem dec5_ok {cs : List (Cv T)} {x : Int} (h : dec5 cs = some x) : enc5 x = cs := by
  unfold dec5 at h
  split at h
  · simp at h; subst h; rfl
  · simp at h
def enc9 (x : ByteArray) : List (Cv T) := [.sc (.string x)]
def dec9 : List (Cv T) → Option (ByteArray)
  | [.sc (.string a0)] => some a0
  | _ => none
theorem dec9_ok {cs : List (Cv T)} {x : ByteArray} (h : dec9 cs = some x) : enc9 x = cs := by
  unfold dec9 at h
  split at h
  · simp at h; subst h; rfl
  · simp at h
def en3 : Ent1 T := plain T 3 (.int .i64) 1 [(.int .i64 0)]
def en4 : Ent1 T := plain T 4 (.bool) 1 [(.bool false)]
def en5 : Ent1 T := ⟨5, ⟨.int .u8, 1, [(.int .u8 0)], enc5, dec5, true⟩⟩
def en9 : Ent1 T := ⟨9, ⟨.str, 1, [(.string ⟨#[]⟩)], enc9, dec9, true⟩⟩
def en22 : Ent1 T := plain T 22 (.arr 2 9) 2 [(.string ⟨#[]⟩), (.string ⟨#[]⟩)]
def en24 : Ent1 T := plain T 24 (.st [(0, 22), (2, 3)]) 3 [(.string ⟨#[]⟩), (.string ⟨#[]⟩), (.int .i64 0)]
def en29 : Ent1 T := plain T 29 (.int .i64) 1 [(.int .i64 0)]
def en43 : Ent1 T := plain T 43 (.sl 9) 1 [(.slice none 0 0)]
def en44 : Ent1 T := plain T 44 (.sl 5) 1 [(.slice none 0 0)]
def en69 : Ent1 T := plain T 69 (.pt 24) 1 [(.pointer none)]
def en70 : Ent1 T := plain T 70 (.fn) 1 [.nilFunc]
def ents : List (Ent1 T) := [en3, en4, en5, en9, en22, en24, en29, en43, en44, en69, en70]
def G : Sig := mkSig tys ents
theorem tok3 : EntOK Try.prog G en3.t en3.e := ⟨(show Try.prog.underlying 3 = some (.int .i64) by kernel_rfl), fun _ => ⟨Try.t3, (.int .i64 0), (by kernel_rfl), (by kernel_rfl), (by kernel_rfl), (by kernel_rfl)⟩, fun _ => (by kernel_rfl), fun h => (by cases h), (by kernel_rfl), (by kernel_rfl), fun _ => Nat.zero_le _, fun _ _ h => (by cases h), fun _ => rfl, fun _ _ => rfl⟩
theorem tok4 : EntOK Try.prog G en4.t en4.e := ⟨(show Try.prog.underlying 4 = some .bool by kernel_rfl), fun _ => ⟨Try.t4, (.bool false), (by kernel_rfl), (by kernel_rfl), (by kernel_rfl), (by kernel_rfl)⟩, fun _ => (by kernel_rfl), fun h => (by cases h), (by kernel_rfl), (by kernel_rfl), fun _ => Nat.zero_le _, fun _ _ h => (by cases h), fun _ => rfl, fun _ _ => rfl⟩
theorem tok5 : EntOK Try.prog G en5.t en5.e := ⟨(show Try.prog.underlying 5 = some (.int .u8) by kernel_rfl), fun _ => ⟨Try.t5, (.int .u8 0), (by kernel_rfl), (by kernel_rfl), (by kernel_rfl), (by kernel_rfl)⟩, fun _ => (by kernel_rfl), fun h => (by cases h), (by kernel_rfl), (by kernel_rfl), fun x => Nat.le_of_eq (by kernel_rfl), fun cs x h => dec5_ok h, fun x => (by kernel_rfl), fun _ x => (by kernel_rfl)⟩
theorem tok9 : EntOK Try.prog G en9.t en9.e := ⟨(show Try.prog.underlying 9 = some .string by kernel_rfl), fun _ => ⟨Try.t9, (.string ⟨#[]⟩), (by kernel_rfl), (by kernel_rfl), (by kernel_rfl), (by kernel_rfl)⟩, fun _ => (by kernel_rfl), fun h => (by cases h), (by kernel_rfl), (by kernel_rfl), fun x => Nat.le_of_eq (by kernel_rfl), fun cs x h => dec9_ok h, fun x => (by kernel_rfl), fun _ x => (by kernel_rfl)⟩
theorem tok22 : EntOK Try.prog G en22.t en22.e := ⟨⟨(by kernel_rfl), (by kernel_rfl)⟩, fun _ => ⟨Try.t22, (.agg #[(.string ⟨#[]⟩), (.string ⟨#[]⟩)]), (by kernel_rfl), (by kernel_rfl), (by kernel_rfl), (by kernel_rfl)⟩, fun _ => (by kernel_rfl), fun h => (by cases h), (by kernel_rfl), (by kernel_rfl), fun _ => Nat.zero_le _, fun _ _ h => (by cases h), fun _ => rfl, fun _ _ => rfl⟩
theorem tok24 : EntOK Try.prog G en24.t en24.e := ⟨⟨_, Try.underlying24, (by kernel_rfl), (by kernel_rfl)⟩, fun _ => ⟨Try.t24, (.agg #[(.string ⟨#[]⟩), (.string ⟨#[]⟩), (.int .i64 0)]), (by kernel_rfl), (by kernel_rfl), (by kernel_rfl), (by kernel_rfl)⟩, fun _ => (by kernel_rfl), fun h => (by cases h), (by kernel_rfl), (by kernel_rfl), fun _ => Nat.zero_le _, fun _ _ h => (by cases h), fun _ => rfl, fun _ _ => rfl⟩
theorem tok29 : EntOK Try.prog G en29.t en29.e := ⟨(show Try.prog.underlying 29 = some (.int .i64) by kernel_rfl), fun _ => ⟨Try.t29, (.int .i64 0), (by kernel_rfl), (by kernel_rfl), (by kernel_rfl), (by kernel_rfl)⟩, fun _ => (by kernel_rfl), fun h => (by cases h), (by kernel_rfl), (by kernel_rfl), fun _ => Nat.zero_le _, fun _ _ h => (by cases h), fun _ => rfl, fun _ _ => rfl⟩
theorem tok43 : EntOK Try.prog G en43.t en43.e := ⟨⟨(by kernel_rfl), (by kernel_rfl), ⟨Try.t9, (by kernel_rfl), (by kernel_rfl)⟩, fun x => (by kernel_rfl)⟩, fun _ => ⟨Try.t43, (.slice none 0 0), (by kernel_rfl), (by kernel_rfl), (by kernel_rfl), (by kernel_rfl)⟩, fun _ => (by kernel_rfl), fun h => (by cases h), (by kernel_rfl), (by kernel_rfl), fun _ => Nat.zero_le _, fun _ _ h => (by cases h), fun _ => rfl, fun _ _ => rfl⟩
theorem tok44 : EntOK Try.prog G en44.t en44.e := ⟨⟨(by kernel_rfl), (by kernel_rfl), ⟨Try.t5, (by kernel_rfl), (by kernel_rfl)⟩, fun x => (by kernel_rfl)⟩, fun _ => ⟨Try.t44, (.slice none 0 0), (by kernel_rfl), (by kernel_rfl), (by kernel_rfl), (by kernel_rfl)⟩, fun _ => (by kernel_rfl), fun h => (by cases h), (by kernel_rfl), (by kernel_rfl), fun _ => Nat.zero_le _, fun _ _ h => (by cases h), fun _ => rfl, fun _ _ => rfl⟩
theorem tok69 : EntOK Try.prog G en69.t en69.e := ⟨(show Try.prog.underlying 69 = some (.pointer 24) by kernel_rfl), fun _ => ⟨Try.t69, (.pointer none), (by kernel_rfl), (by kernel_rfl), (by kernel_rfl), (by kernel_rfl)⟩, fun _ => (by kernel_rfl), fun h => (by cases h), (by kernel_rfl), (by kernel_rfl), fun _ => Nat.zero_le _, fun _ _ h => (by cases h), fun _ => rfl, fun _ _ => rfl⟩
theorem tok70 : EntOK Try.prog G en70.t en70.e := ⟨⟨_, _, _, Try.underlying70⟩, fun _ => ⟨Try.t70, .nilFunc, (by kernel_rfl), (by kernel_rfl), (by kernel_rfl), (by kernel_rfl)⟩, fun _ => (by kernel_rfl), fun h => (by cases h), (by kernel_rfl), (by kernel_rfl), fun _ => Nat.zero_le _, fun _ _ h => (by cases h), fun _ => rfl, fun _ _ => rfl⟩
theorem sigOK : SigOK Try.prog G := sigOK_of (List.forall_mem_cons.2 ⟨tok3, List.forall_mem_cons.2 ⟨tok4, List.forall_mem_cons.2 ⟨tok5, List.forall_mem_cons.2 ⟨tok9, List.forall_mem_cons.2 ⟨tok22, List.forall_mem_cons.2 ⟨tok24, List.forall_mem_cons.2 ⟨tok29, List.forall_mem_cons.2 ⟨tok43, List.forall_mem_cons.2 ⟨tok44, List.forall_mem_cons.2 ⟨tok69, List.forall_mem_cons.2 ⟨tok70, (fun _ h => absurd h (List.not_mem_nil))⟩⟩⟩⟩⟩⟩⟩⟩⟩⟩⟩)
theorem eqOK : EqOK Try.prog G := eqOK_of sigOK (namesOK_of (List.forall_mem_cons.2 ⟨nmE_no rfl, List.forall_mem_cons.2 ⟨nmE_no rfl, List.forall_mem_cons.2 ⟨nmE_no rfl, List.forall_mem_cons.2 ⟨nmE_no rfl, List.forall_mem_cons.2 ⟨⟨fun _ => (by kernel_rfl), fun h => (by cases h), fun h => (by cases h)⟩, List.forall_mem_cons.2 ⟨⟨fun _ => (by kernel_rfl), fun _ => (by kernel_rfl), fun _ => (by kernel_rfl)⟩, List.forall_mem_cons.2 ⟨nmE_no rfl, List.forall_mem_cons.2 ⟨nmE_no rfl, List.forall_mem_cons.2 ⟨nmE_no rfl, List.forall_mem_cons.2 ⟨nmE_no rfl, List.forall_mem_cons.2 ⟨nmE_no rfl, (fun _ h => absurd h (List.not_mem_nil))⟩⟩⟩⟩⟩⟩⟩⟩⟩⟩⟩))
theorem decOK : DecOK G := decOK_of (List.forall_mem_cons.2 ⟨decE_no rfl, List.forall_mem_cons.2 ⟨decE_no rfl, List.forall_mem_cons.2 ⟨decE_no rfl, List.forall_mem_cons.2 ⟨decE_no rfl, List.forall_mem_cons.2 ⟨decE_no rfl, List.forall_mem_cons.2 ⟨decE_no rfl, List.forall_mem_cons.2 ⟨decE_no rfl, List.forall_mem_cons.2 ⟨decE_sl (s := [.str]) (by kernel_rfl) fun x => ⟨x.1, by kernel_rfl⟩, List.forall_mem_cons.2 ⟨decE_sl (s := [.int .u8]) (by kernel_rfl) fun x => ⟨x.1, by kernel_rfl⟩, List.forall_mem_cons.2 ⟨decE_no rfl, List.forall_mem_cons.2 ⟨decE_no rfl, (fun _ h => absurd h (List.not_mem_nil))⟩⟩⟩⟩⟩⟩⟩⟩⟩⟩⟩)
theorem hmix : Try.prog.follows .mixedOrders = true := by kernel_rfl
end Go.Ovl
