/- What the laws on contacts have in common. -/
import Derived.Test.YtfooilbkiclplaaOvDeb2
namespace Go.Ovl
open Go Go.Ab
set_option maxRecDepth 100000
theorem l04_sane : F_l04_sane = some ((true, ()), ()) := by kernel_rfl
theorem same_refl {l : List Contacts} (hl : l.length ≤ 5000) : F_r04_Same l l = some ((true, ()), ()) := by
  unfold F_r04_Same
  have key : ∀ (m i : Nat), i + m = l.length → iter (fun x => R_r04_Same_0 x.1.1 x.1.2.1 x.1.2.2.1) (m + 1) ((l, l, (i : Int), ()), ()) = some (.inl ((), ())) := by
    intro m
    induction m with
    | zero =>
      intro i hi
      refine iter_inr ?_
      show R_r04_Same_0 l l (i : Int) = _
      unfold R_r04_Same_0
      have e : decide ((i : Int) < (l.length : Int)) = false := by simp; omega
      rw [e]; rfl
    | succ m ih =>
      intro i hi
      have st : R_r04_Same_0 l l (i : Int) = some (.inl ((l, l, ((i + 1 : Nat) : Int), ()), ())) := by
        unfold R_r04_Same_0
        have e : decide ((i : Int) < (l.length : Int)) = true := by simp; omega
        have ib : inB (i : Int) l.length = true := inB_true (by omega) (by omega)
        have w : IntKind.i64.wrap ((i : Int) + 1) = ((i + 1 : Nat) : Int) := by rw [wrap_small (by omega) (by omega)]; omega
        simp only [e, ib, cond_true, beq_self_eq_true, Bool.and_self, Bool.not_true, cond_false, w]
      rw [iter_inl (show _ = _ from st)]
      exact ih (i + 1) (by omega)
  have hl2 : L_r04_Same_0 ((l, l, (0 : Int), ()), ()) = some (.inl ((), ())) := iter_fuel (key l.length 0 (by omega)) (by omega)
  simp only [bne_self_eq_false, cond_false, hl2, Option.bind_some]
theorem F_contact_Run_no {n : Int} {l : List Contacts} (hl : ∀ e ∈ l, e.wf) :
    F_contact_Run n 0 false false false false 0 0 0 0 0 0 0 0 0 0 0 0 0 0 0 0 0 0 0 0 0 0 0 0 0 0 0 0 0 0 0 0 0 0 0 0 l = if Deb.no.is n then (if 5000 < l.length then some (((), [], (3 : Int), ()), (Deb.no.tup, ())) else some (((), Deb.runs n Deb.no l, (0 : Int), ()), ((Deb.no.last n l).tup, ()))) else some (((), [], (1 : Int), ()), (Deb.no.tup, ())) :=
  F_contact_Run_eq (s := Deb.no) rfl no_wf.c hl
theorem F_r04_Run_no {n : Int} {l : List Contacts} (hl : ∀ e ∈ l, e.wf) :
    F_r04_Run n 0 false false false false 0 0 0 0 0 0 0 0 0 0 0 0 0 0 0 0 0 0 0 0 0 0 0 0 0 0 0 0 0 0 0 0 0 0 0 0 l = if Deb.no.is n then (if 5000 < l.length then some (((), [], (3 : Int), ()), (Deb.no.tup, ())) else some (((), Deb.runs n Deb.no l, (0 : Int), ()), ((Deb.no.last n l).tup, ()))) else some (((), [], (1 : Int), ()), (Deb.no.tup, ())) :=
  F_r04_Run_eq (s := Deb.no) rfl no_wf.c hl
theorem mod16 {n : Int} (h : 0 ≤ n) : 1 ≤ IntKind.i64.wrap (1 + IntKind.i64.wrap (n.tmod 16)) ∧ IntKind.i64.wrap (1 + IntKind.i64.wrap (n.tmod 16)) ≤ 16 := by
  have := Int.tmod_nonneg (16 : Int) h
  have := Int.tmod_lt_of_pos n (b := 16) (by omega)
  rw [wrap_small (n := n.tmod 16) (by omega) (by omega), wrap_small (by omega) (by omega)]
  omega
theorem u64_nonneg (n : Int) : 0 ≤ IntKind.u64.wrap n := by simp only [IntKind.wrap, IntKind.signed, IntKind.bits]; simp; omega
end Go.Ovl
