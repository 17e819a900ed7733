/- The types of the program, as a table. -/
import Derived.Test.YtfooilbkiclplaaAbG
import Derived.Test.YtfooilbkiclplaaTy
import Derived.Test.YtfooilbkiclplaaProg
namespace Go.Ovl
open Go Go.Ab Go.Proofs
def tys : List (Nat × TyD) := []
@[reducible] def T : Nat → Type := TOf tys
def en3 : Ent1 T := plain T 3 (.int .i64) 1 [(.int .i64 0)]
def en4 : Ent1 T := plain T 4 (.bool) 1 [(.bool false)]
def en5 : Ent1 T := plain T 5 (.int .u8) 1 [(.int .u8 0)]
def en9 : Ent1 T := plain T 9 (.str) 1 [(.string ⟨#[]⟩)]
def en22 : Ent1 T := plain T 22 (.arr 2 9) 2 [(.string ⟨#[]⟩), (.string ⟨#[]⟩)]
def en24 : Ent1 T := plain T 24 (.st [(0, 22), (2, 3)]) 3 [(.string ⟨#[]⟩), (.string ⟨#[]⟩), (.int .i64 0)]
def en29 : Ent1 T := plain T 29 (.int .i64) 1 [(.int .i64 0)]
def en41 : Ent1 T := plain T 41 (.arr 3 5) 3 [(.int .u8 0), (.int .u8 0), (.int .u8 0)]
def en69 : Ent1 T := plain T 69 (.pt 24) 1 [(.pointer none)]
def en70 : Ent1 T := plain T 70 (.fn) 1 [.nilFunc]
def ents : List (Ent1 T) := [en3, en4, en5, en9, en22, en24, en29, en41, en69, en70]
def G : Sig := mkSig tys ents
theorem tok3 : EntOK Try.prog G en3.t en3.e := ⟨(show Try.prog.underlying 3 = some (.int .i64) by kernel_rfl), fun _ => ⟨Try.t3, (.int .i64 0), (by kernel_rfl), (by kernel_rfl), (by kernel_rfl), (by kernel_rfl)⟩, fun _ => (by kernel_rfl), fun h => (by cases h), (by kernel_rfl), (by kernel_rfl), fun _ => Nat.zero_le _, fun _ _ h => (by cases h), fun _ => rfl, fun _ _ => rfl⟩
theorem tok4 : EntOK Try.prog G en4.t en4.e := ⟨(show Try.prog.underlying 4 = some .bool by kernel_rfl), fun _ => ⟨Try.t4, (.bool false), (by kernel_rfl), (by kernel_rfl), (by kernel_rfl), (by kernel_rfl)⟩, fun _ => (by kernel_rfl), fun h => (by cases h), (by kernel_rfl), (by kernel_rfl), fun _ => Nat.zero_le _, fun _ _ h => (by cases h), fun _ => rfl, fun _ _ => rfl⟩
theorem tok5 : EntOK Try.prog G en5.t en5.e := ⟨(show Try.prog.underlying 5 = some (.int .u8) by kernel_rfl), fun _ => ⟨Try.t5, (.int .u8 0), (by kernel_rfl), (by kernel_rfl), (by kernel_rfl), (by kernel_rfl)⟩, fun _ => (by kernel_rfl), fun h => (by cases h), (by kernel_rfl), (by kernel_rfl), fun _ => Nat.zero_le _, fun _ _ h => (by cases h), fun _ => rfl, fun _ _ => rfl⟩
theorem tok9 : EntOK Try.prog G en9.t en9.e := ⟨(show Try.prog.underlying 9 = some .string by kernel_rfl), fun _ => ⟨Try.t9, (.string ⟨#[]⟩), (by kernel_rfl), (by kernel_rfl), (by kernel_rfl), (by kernel_rfl)⟩, fun _ => (by kernel_rfl), fun h => (by cases h), (by kernel_rfl), (by kernel_rfl), fun _ => Nat.zero_le _, fun _ _ h => (by cases h), fun _ => rfl, fun _ _ => rfl⟩
theorem tok22 : EntOK Try.prog G en22.t en22.e := ⟨⟨(by kernel_rfl), (by kernel_rfl)⟩, fun _ => ⟨Try.t22, (.agg #[(.string ⟨#[]⟩), (.string ⟨#[]⟩)]), (by kernel_rfl), (by kernel_rfl), (by kernel_rfl), (by kernel_rfl)⟩, fun _ => (by kernel_rfl), fun h => (by cases h), (by kernel_rfl), (by kernel_rfl), fun _ => Nat.zero_le _, fun _ _ h => (by cases h), fun _ => rfl, fun _ _ => rfl⟩
theorem tok24 : EntOK Try.prog G en24.t en24.e := ⟨⟨_, Try.underlying24, (by kernel_rfl), (by kernel_rfl)⟩, fun _ => ⟨Try.t24, (.agg #[(.string ⟨#[]⟩), (.string ⟨#[]⟩), (.int .i64 0)]), (by kernel_rfl), (by kernel_rfl), (by kernel_rfl), (by kernel_rfl)⟩, fun _ => (by kernel_rfl), fun h => (by cases h), (by kernel_rfl), (by kernel_rfl), fun _ => Nat.zero_le _, fun _ _ h => (by cases h), fun _ => rfl, fun _ _ => rfl⟩
theorem tok29 : EntOK Try.prog G en29.t en29.e := ⟨(show Try.prog.underlying 29 = some (.int .i64) by kernel_rfl), fun _ => ⟨Try.t29, (.int .i64 0), (by kernel_rfl), (by kernel_rfl), (by kernel_rfl), (by kernel_rfl)⟩, fun _ => (by kernel_rfl), fun h => (by cases h), (by kernel_rfl), (by kernel_rfl), fun _ => Nat.zero_le _, fun _ _ h => (by cases h), fun _ => rfl, fun _ _ => rfl⟩
theorem tok41 : EntOK Try.prog G en41.t en41.e := ⟨⟨(by kernel_rfl), (by kernel_rfl)⟩, fun _ => ⟨Try.t41, (.agg #[(.int .u8 0), (.int .u8 0), (.int .u8 0)]), (by kernel_rfl), (by kernel_rfl), (by kernel_rfl), (by kernel_rfl)⟩, fun _ => (by kernel_rfl), fun h => (by cases h), (by kernel_rfl), (by kernel_rfl), fun _ => Nat.zero_le _, fun _ _ h => (by cases h), fun _ => rfl, fun _ _ => rfl⟩
theorem tok69 : EntOK Try.prog G en69.t en69.e := ⟨(show Try.prog.underlying 69 = some (.pointer 24) by kernel_rfl), fun _ => ⟨Try.t69, (.pointer none), (by kernel_rfl), (by kernel_rfl), (by kernel_rfl), (by kernel_rfl)⟩, fun _ => (by kernel_rfl), fun h => (by cases h), (by kernel_rfl), (by kernel_rfl), fun _ => Nat.zero_le _, fun _ _ h => (by cases h), fun _ => rfl, fun _ _ => rfl⟩
theorem tok70 : EntOK Try.prog G en70.t en70.e := ⟨⟨_, _, _, Try.underlying70⟩, fun _ => ⟨Try.t70, .nilFunc, (by kernel_rfl), (by kernel_rfl), (by kernel_rfl), (by kernel_rfl)⟩, fun _ => (by kernel_rfl), fun h => (by cases h), (by kernel_rfl), (by kernel_rfl), fun _ => Nat.zero_le _, fun _ _ h => (by cases h), fun _ => rfl, fun _ _ => rfl⟩
theorem sigOK : SigOK Try.prog G := sigOK_of (List.forall_mem_cons.2 ⟨tok3, List.forall_mem_cons.2 ⟨tok4, List.forall_mem_cons.2 ⟨tok5, List.forall_mem_cons.2 ⟨tok9, List.forall_mem_cons.2 ⟨tok22, List.forall_mem_cons.2 ⟨tok24, List.forall_mem_cons.2 ⟨tok29, List.forall_mem_cons.2 ⟨tok41, List.forall_mem_cons.2 ⟨tok69, List.forall_mem_cons.2 ⟨tok70, (fun _ h => absurd h (List.not_mem_nil))⟩⟩⟩⟩⟩⟩⟩⟩⟩⟩)
theorem eqOK : EqOK Try.prog G := eqOK_of sigOK (namesOK_of (List.forall_mem_cons.2 ⟨nmE_no rfl, List.forall_mem_cons.2 ⟨nmE_no rfl, List.forall_mem_cons.2 ⟨nmE_no rfl, List.forall_mem_cons.2 ⟨nmE_no rfl, List.forall_mem_cons.2 ⟨⟨fun _ => (by kernel_rfl), fun h => (by cases h), fun h => (by cases h)⟩, List.forall_mem_cons.2 ⟨⟨fun _ => (by kernel_rfl), fun _ => (by kernel_rfl), fun _ => (by kernel_rfl)⟩, List.forall_mem_cons.2 ⟨nmE_no rfl, List.forall_mem_cons.2 ⟨⟨fun _ => (by kernel_rfl), fun h => (by cases h), fun h => (by cases h)⟩, List.forall_mem_cons.2 ⟨nmE_no rfl, List.forall_mem_cons.2 ⟨nmE_no rfl, (fun _ h => absurd h (List.not_mem_nil))⟩⟩⟩⟩⟩⟩⟩⟩⟩⟩))
theorem decOK : DecOK G := decOK_of (List.forall_mem_cons.2 ⟨decE_no rfl, List.forall_mem_cons.2 ⟨decE_no rfl, List.forall_mem_cons.2 ⟨decE_no rfl, List.forall_mem_cons.2 ⟨decE_no rfl, List.forall_mem_cons.2 ⟨decE_no rfl, List.forall_mem_cons.2 ⟨decE_no rfl, List.forall_mem_cons.2 ⟨decE_no rfl, List.forall_mem_cons.2 ⟨decE_no rfl, List.forall_mem_cons.2 ⟨decE_no rfl, List.forall_mem_cons.2 ⟨decE_no rfl, (fun _ h => absurd h (List.not_mem_nil))⟩⟩⟩⟩⟩⟩⟩⟩⟩⟩)
theorem hmix : Try.prog.follows .mixedOrders = true := by kernel_rfl
end Go.Ovl
