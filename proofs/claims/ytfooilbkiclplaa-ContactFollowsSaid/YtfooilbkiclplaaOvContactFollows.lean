/- ContactFollows: as many like readings as are set count; fewer change nothing. -/
import Derived.Test.YtfooilbkiclplaaOvDebPl
namespace Go.Ovl
open Go Go.Ab
set_option maxRecDepth 100000
theorem rep_succ {α : Type} (a : α) (i : Nat) : List.replicate i a ++ [a] = List.replicate (i + 1) a := by
  rw [← List.replicate_append_replicate]; rfl
theorem quiet_loop {m : Int} (h1 : 1 ≤ m) (h2 : m ≤ 16) (noise : Contacts) (s : Deb) :
    L_l04_ContactFollows_0 (((), m, (), [], [], (0 : Int), ()), (noise.tup, s.tup, ())) = some (((), m, (), List.replicate m.toNat noise, [], ()), (noise.tup, s.tup, ())) := by
  have key : ∀ (q i : Nat), i + q = m.toNat → iter (fun x => R_l04_ContactFollows_0 x.1.2.1 x.1.2.2.2.1 x.1.2.2.2.2.1 x.1.2.2.2.2.2.1 x.2.1.1 x.2.1.2.1 x.2.1.2.2.1 x.2.1.2.2.2.1 x.2.1.2.2.2.2.1 x.2.2.1.1 x.2.2.1.2.1 x.2.2.1.2.2.1 x.2.2.1.2.2.2.1 x.2.2.1.2.2.2.2.1 x.2.2.1.2.2.2.2.2.1 x.2.2.1.2.2.2.2.2.2.1 x.2.2.1.2.2.2.2.2.2.2.1 x.2.2.1.2.2.2.2.2.2.2.2.1 x.2.2.1.2.2.2.2.2.2.2.2.2.1 x.2.2.1.2.2.2.2.2.2.2.2.2.2.1 x.2.2.1.2.2.2.2.2.2.2.2.2.2.2.1 x.2.2.1.2.2.2.2.2.2.2.2.2.2.2.2.1 x.2.2.1.2.2.2.2.2.2.2.2.2.2.2.2.2.1 x.2.2.1.2.2.2.2.2.2.2.2.2.2.2.2.2.2.1 x.2.2.1.2.2.2.2.2.2.2.2.2.2.2.2.2.2.2.1 x.2.2.1.2.2.2.2.2.2.2.2.2.2.2.2.2.2.2.2.1 x.2.2.1.2.2.2.2.2.2.2.2.2.2.2.2.2.2.2.2.2.1 x.2.2.1.2.2.2.2.2.2.2.2.2.2.2.2.2.2.2.2.2.2.1 x.2.2.1.2.2.2.2.2.2.2.2.2.2.2.2.2.2.2.2.2.2.2.1 x.2.2.1.2.2.2.2.2.2.2.2.2.2.2.2.2.2.2.2.2.2.2.2.1 x.2.2.1.2.2.2.2.2.2.2.2.2.2.2.2.2.2.2.2.2.2.2.2.2.1 x.2.2.1.2.2.2.2.2.2.2.2.2.2.2.2.2.2.2.2.2.2.2.2.2.2.1 x.2.2.1.2.2.2.2.2.2.2.2.2.2.2.2.2.2.2.2.2.2.2.2.2.2.2.1 x.2.2.1.2.2.2.2.2.2.2.2.2.2.2.2.2.2.2.2.2.2.2.2.2.2.2.2.1 x.2.2.1.2.2.2.2.2.2.2.2.2.2.2.2.2.2.2.2.2.2.2.2.2.2.2.2.2.1 x.2.2.1.2.2.2.2.2.2.2.2.2.2.2.2.2.2.2.2.2.2.2.2.2.2.2.2.2.2.1 x.2.2.1.2.2.2.2.2.2.2.2.2.2.2.2.2.2.2.2.2.2.2.2.2.2.2.2.2.2.2.1 x.2.2.1.2.2.2.2.2.2.2.2.2.2.2.2.2.2.2.2.2.2.2.2.2.2.2.2.2.2.2.2.1 x.2.2.1.2.2.2.2.2.2.2.2.2.2.2.2.2.2.2.2.2.2.2.2.2.2.2.2.2.2.2.2.2.1 x.2.2.1.2.2.2.2.2.2.2.2.2.2.2.2.2.2.2.2.2.2.2.2.2.2.2.2.2.2.2.2.2.2.1 x.2.2.1.2.2.2.2.2.2.2.2.2.2.2.2.2.2.2.2.2.2.2.2.2.2.2.2.2.2.2.2.2.2.2.1 x.2.2.1.2.2.2.2.2.2.2.2.2.2.2.2.2.2.2.2.2.2.2.2.2.2.2.2.2.2.2.2.2.2.2.2.1 x.2.2.1.2.2.2.2.2.2.2.2.2.2.2.2.2.2.2.2.2.2.2.2.2.2.2.2.2.2.2.2.2.2.2.2.2.1 x.2.2.1.2.2.2.2.2.2.2.2.2.2.2.2.2.2.2.2.2.2.2.2.2.2.2.2.2.2.2.2.2.2.2.2.2.2.1 x.2.2.1.2.2.2.2.2.2.2.2.2.2.2.2.2.2.2.2.2.2.2.2.2.2.2.2.2.2.2.2.2.2.2.2.2.2.2.1 x.2.2.1.2.2.2.2.2.2.2.2.2.2.2.2.2.2.2.2.2.2.2.2.2.2.2.2.2.2.2.2.2.2.2.2.2.2.2.2.1 x.2.2.1.2.2.2.2.2.2.2.2.2.2.2.2.2.2.2.2.2.2.2.2.2.2.2.2.2.2.2.2.2.2.2.2.2.2.2.2.2.1 x.2.2.1.2.2.2.2.2.2.2.2.2.2.2.2.2.2.2.2.2.2.2.2.2.2.2.2.2.2.2.2.2.2.2.2.2.2.2.2.2.2.1 x.2.2.1.2.2.2.2.2.2.2.2.2.2.2.2.2.2.2.2.2.2.2.2.2.2.2.2.2.2.2.2.2.2.2.2.2.2.2.2.2.2.2.1 x.2.2.1.2.2.2.2.2.2.2.2.2.2.2.2.2.2.2.2.2.2.2.2.2.2.2.2.2.2.2.2.2.2.2.2.2.2.2.2.2.2.2.2.1) (q + 1) (((), m, (), List.replicate i noise, [], (i : Int), ()), (noise.tup, s.tup, ())) = some (((), m, (), List.replicate m.toNat noise, [], ()), (noise.tup, s.tup, ())) := by
    intro q
    induction q with
    | zero =>
      intro i hi
      have e : decide ((i : Int) < m) = false := by simp; omega
      refine iter_inr ?_
      show R_l04_ContactFollows_0 m (List.replicate i noise) [] (i : Int) noise.Floors noise.Up noise.Down noise.Open noise.Closed s.c.Floors s.c.Up s.c.Down s.c.Open s.c.Closed (s.k.getD 0 0) (s.k.getD 1 0) (s.k.getD 2 0) (s.k.getD 3 0) (s.k.getD 4 0) (s.k.getD 5 0) (s.k.getD 6 0) (s.k.getD 7 0) (s.k.getD 8 0) (s.k.getD 9 0) (s.k.getD 10 0) (s.k.getD 11 0) (s.k.getD 12 0) (s.k.getD 13 0) (s.k.getD 14 0) (s.k.getD 15 0) (s.k.getD 16 0) (s.k.getD 17 0) (s.k.getD 18 0) (s.k.getD 19 0) (s.k.getD 20 0) (s.k.getD 21 0) (s.k.getD 22 0) (s.k.getD 23 0) (s.k.getD 24 0) (s.k.getD 25 0) (s.k.getD 26 0) (s.k.getD 27 0) (s.k.getD 28 0) (s.k.getD 29 0) (s.k.getD 30 0) (s.k.getD 31 0) (s.k.getD 32 0) (s.k.getD 33 0) (s.k.getD 34 0) (s.k.getD 35 0) = _
      unfold R_l04_ContactFollows_0
      rw [e, show m.toNat = i by omega]; rfl
    | succ q ih =>
      intro i hi
      have st : R_l04_ContactFollows_0 m (List.replicate i noise) [] (i : Int) noise.Floors noise.Up noise.Down noise.Open noise.Closed s.c.Floors s.c.Up s.c.Down s.c.Open s.c.Closed (s.k.getD 0 0) (s.k.getD 1 0) (s.k.getD 2 0) (s.k.getD 3 0) (s.k.getD 4 0) (s.k.getD 5 0) (s.k.getD 6 0) (s.k.getD 7 0) (s.k.getD 8 0) (s.k.getD 9 0) (s.k.getD 10 0) (s.k.getD 11 0) (s.k.getD 12 0) (s.k.getD 13 0) (s.k.getD 14 0) (s.k.getD 15 0) (s.k.getD 16 0) (s.k.getD 17 0) (s.k.getD 18 0) (s.k.getD 19 0) (s.k.getD 20 0) (s.k.getD 21 0) (s.k.getD 22 0) (s.k.getD 23 0) (s.k.getD 24 0) (s.k.getD 25 0) (s.k.getD 26 0) (s.k.getD 27 0) (s.k.getD 28 0) (s.k.getD 29 0) (s.k.getD 30 0) (s.k.getD 31 0) (s.k.getD 32 0) (s.k.getD 33 0) (s.k.getD 34 0) (s.k.getD 35 0) = some (.inl (((), m, (), List.replicate (i + 1) noise, [], ((i + 1 : Nat) : Int), ()), (noise.tup, s.tup, ()))) := by
        unfold R_l04_ContactFollows_0
        have e : decide ((i : Int) < m) = true := by simp; omega
        have w : IntKind.i64.wrap ((i : Int) + 1) = ((i + 1 : Nat) : Int) := by rw [wrap_small (by omega) (by omega)]; omega
        have b : Nat.ble ((List.replicate i noise).length + [noise].length) 2147483648 = true := ble_true (by simp; omega)
        simp only [e, b, w, cond_true, rep_succ]
        rfl
      rw [iter_inl (show _ = _ from st)]
      exact ih (i + 1) (by omega)
  exact iter_fuel (key m.toNat 0 (by omega)) (by omega)
/-- Another reading. -/
def Contacts.other (c : Contacts) : Contacts := ⟨Int.fdiv c.Floors (2 ^ (Min.min (Int.toNat 1) IntKind.u32.bits)), !c.Up, false, c.Closed, false⟩
theorem other_wf {c : Contacts} (h : c.wf) : c.other.wf := by
  have h0 := h.1
  have h1 := h.2
  have e : Int.fdiv c.Floors (2 ^ (Min.min (Int.toNat 1) IntKind.u32.bits)) = c.Floors / 2 := by
    rw [Int.fdiv_eq_ediv_of_nonneg _ (by decide)]; rfl
  constructor
  · show 0 ≤ Int.fdiv c.Floors (2 ^ (Min.min (Int.toNat 1) IntKind.u32.bits)); rw [e]; omega
  · show Int.fdiv c.Floors (2 ^ (Min.min (Int.toNat 1) IntKind.u32.bits)) < 4294967296; rw [e]; omega
theorem short_loop {m : Int} (h1 : 1 ≤ m) (h2 : m ≤ 16) (noise : Contacts) (s : Deb) :
    L_l04_ContactFollows_1 (((), m, [], (), (1 : Int), ()), (noise.tup, s.tup, ())) = some (((), m, List.replicate (m.toNat - 1) noise.other, (), ()), (noise.tup, s.tup, ())) := by
  have key : ∀ (q i : Nat), i + q + 1 = m.toNat → iter (fun x => R_l04_ContactFollows_1 x.1.2.1 x.1.2.2.1 x.1.2.2.2.2.1 x.2.1.1 x.2.1.2.1 x.2.1.2.2.1 x.2.1.2.2.2.1 x.2.1.2.2.2.2.1 x.2.2.1.1 x.2.2.1.2.1 x.2.2.1.2.2.1 x.2.2.1.2.2.2.1 x.2.2.1.2.2.2.2.1 x.2.2.1.2.2.2.2.2.1 x.2.2.1.2.2.2.2.2.2.1 x.2.2.1.2.2.2.2.2.2.2.1 x.2.2.1.2.2.2.2.2.2.2.2.1 x.2.2.1.2.2.2.2.2.2.2.2.2.1 x.2.2.1.2.2.2.2.2.2.2.2.2.2.1 x.2.2.1.2.2.2.2.2.2.2.2.2.2.2.1 x.2.2.1.2.2.2.2.2.2.2.2.2.2.2.2.1 x.2.2.1.2.2.2.2.2.2.2.2.2.2.2.2.2.1 x.2.2.1.2.2.2.2.2.2.2.2.2.2.2.2.2.2.1 x.2.2.1.2.2.2.2.2.2.2.2.2.2.2.2.2.2.2.1 x.2.2.1.2.2.2.2.2.2.2.2.2.2.2.2.2.2.2.2.1 x.2.2.1.2.2.2.2.2.2.2.2.2.2.2.2.2.2.2.2.2.1 x.2.2.1.2.2.2.2.2.2.2.2.2.2.2.2.2.2.2.2.2.2.1 x.2.2.1.2.2.2.2.2.2.2.2.2.2.2.2.2.2.2.2.2.2.2.1 x.2.2.1.2.2.2.2.2.2.2.2.2.2.2.2.2.2.2.2.2.2.2.2.1 x.2.2.1.2.2.2.2.2.2.2.2.2.2.2.2.2.2.2.2.2.2.2.2.2.1 x.2.2.1.2.2.2.2.2.2.2.2.2.2.2.2.2.2.2.2.2.2.2.2.2.2.1 x.2.2.1.2.2.2.2.2.2.2.2.2.2.2.2.2.2.2.2.2.2.2.2.2.2.2.1 x.2.2.1.2.2.2.2.2.2.2.2.2.2.2.2.2.2.2.2.2.2.2.2.2.2.2.2.1 x.2.2.1.2.2.2.2.2.2.2.2.2.2.2.2.2.2.2.2.2.2.2.2.2.2.2.2.2.1 x.2.2.1.2.2.2.2.2.2.2.2.2.2.2.2.2.2.2.2.2.2.2.2.2.2.2.2.2.2.1 x.2.2.1.2.2.2.2.2.2.2.2.2.2.2.2.2.2.2.2.2.2.2.2.2.2.2.2.2.2.2.1 x.2.2.1.2.2.2.2.2.2.2.2.2.2.2.2.2.2.2.2.2.2.2.2.2.2.2.2.2.2.2.2.1 x.2.2.1.2.2.2.2.2.2.2.2.2.2.2.2.2.2.2.2.2.2.2.2.2.2.2.2.2.2.2.2.2.1 x.2.2.1.2.2.2.2.2.2.2.2.2.2.2.2.2.2.2.2.2.2.2.2.2.2.2.2.2.2.2.2.2.2.1 x.2.2.1.2.2.2.2.2.2.2.2.2.2.2.2.2.2.2.2.2.2.2.2.2.2.2.2.2.2.2.2.2.2.2.1 x.2.2.1.2.2.2.2.2.2.2.2.2.2.2.2.2.2.2.2.2.2.2.2.2.2.2.2.2.2.2.2.2.2.2.2.1 x.2.2.1.2.2.2.2.2.2.2.2.2.2.2.2.2.2.2.2.2.2.2.2.2.2.2.2.2.2.2.2.2.2.2.2.2.1 x.2.2.1.2.2.2.2.2.2.2.2.2.2.2.2.2.2.2.2.2.2.2.2.2.2.2.2.2.2.2.2.2.2.2.2.2.2.1 x.2.2.1.2.2.2.2.2.2.2.2.2.2.2.2.2.2.2.2.2.2.2.2.2.2.2.2.2.2.2.2.2.2.2.2.2.2.2.1 x.2.2.1.2.2.2.2.2.2.2.2.2.2.2.2.2.2.2.2.2.2.2.2.2.2.2.2.2.2.2.2.2.2.2.2.2.2.2.2.1 x.2.2.1.2.2.2.2.2.2.2.2.2.2.2.2.2.2.2.2.2.2.2.2.2.2.2.2.2.2.2.2.2.2.2.2.2.2.2.2.2.1 x.2.2.1.2.2.2.2.2.2.2.2.2.2.2.2.2.2.2.2.2.2.2.2.2.2.2.2.2.2.2.2.2.2.2.2.2.2.2.2.2.2.1 x.2.2.1.2.2.2.2.2.2.2.2.2.2.2.2.2.2.2.2.2.2.2.2.2.2.2.2.2.2.2.2.2.2.2.2.2.2.2.2.2.2.2.1 x.2.2.1.2.2.2.2.2.2.2.2.2.2.2.2.2.2.2.2.2.2.2.2.2.2.2.2.2.2.2.2.2.2.2.2.2.2.2.2.2.2.2.2.1) (q + 1) (((), m, List.replicate i noise.other, (), ((i + 1 : Nat) : Int), ()), (noise.tup, s.tup, ())) = some (((), m, List.replicate (m.toNat - 1) noise.other, (), ()), (noise.tup, s.tup, ())) := by
    intro q
    induction q with
    | zero =>
      intro i hi
      have e : decide (((i + 1 : Nat) : Int) < m) = false := by simp; omega
      refine iter_inr ?_
      show R_l04_ContactFollows_1 m (List.replicate i noise.other) ((i + 1 : Nat) : Int) noise.Floors noise.Up noise.Down noise.Open noise.Closed s.c.Floors s.c.Up s.c.Down s.c.Open s.c.Closed (s.k.getD 0 0) (s.k.getD 1 0) (s.k.getD 2 0) (s.k.getD 3 0) (s.k.getD 4 0) (s.k.getD 5 0) (s.k.getD 6 0) (s.k.getD 7 0) (s.k.getD 8 0) (s.k.getD 9 0) (s.k.getD 10 0) (s.k.getD 11 0) (s.k.getD 12 0) (s.k.getD 13 0) (s.k.getD 14 0) (s.k.getD 15 0) (s.k.getD 16 0) (s.k.getD 17 0) (s.k.getD 18 0) (s.k.getD 19 0) (s.k.getD 20 0) (s.k.getD 21 0) (s.k.getD 22 0) (s.k.getD 23 0) (s.k.getD 24 0) (s.k.getD 25 0) (s.k.getD 26 0) (s.k.getD 27 0) (s.k.getD 28 0) (s.k.getD 29 0) (s.k.getD 30 0) (s.k.getD 31 0) (s.k.getD 32 0) (s.k.getD 33 0) (s.k.getD 34 0) (s.k.getD 35 0) = _
      unfold R_l04_ContactFollows_1
      rw [e, show m.toNat - 1 = i by omega]; rfl
    | succ q ih =>
      intro i hi
      have st : R_l04_ContactFollows_1 m (List.replicate i noise.other) ((i + 1 : Nat) : Int) noise.Floors noise.Up noise.Down noise.Open noise.Closed s.c.Floors s.c.Up s.c.Down s.c.Open s.c.Closed (s.k.getD 0 0) (s.k.getD 1 0) (s.k.getD 2 0) (s.k.getD 3 0) (s.k.getD 4 0) (s.k.getD 5 0) (s.k.getD 6 0) (s.k.getD 7 0) (s.k.getD 8 0) (s.k.getD 9 0) (s.k.getD 10 0) (s.k.getD 11 0) (s.k.getD 12 0) (s.k.getD 13 0) (s.k.getD 14 0) (s.k.getD 15 0) (s.k.getD 16 0) (s.k.getD 17 0) (s.k.getD 18 0) (s.k.getD 19 0) (s.k.getD 20 0) (s.k.getD 21 0) (s.k.getD 22 0) (s.k.getD 23 0) (s.k.getD 24 0) (s.k.getD 25 0) (s.k.getD 26 0) (s.k.getD 27 0) (s.k.getD 28 0) (s.k.getD 29 0) (s.k.getD 30 0) (s.k.getD 31 0) (s.k.getD 32 0) (s.k.getD 33 0) (s.k.getD 34 0) (s.k.getD 35 0) = some (.inl (((), m, List.replicate (i + 1) noise.other, (), ((i + 1 + 1 : Nat) : Int), ()), (noise.tup, s.tup, ()))) := by
        unfold R_l04_ContactFollows_1
        have e : decide (((i + 1 : Nat) : Int) < m) = true := by simp; omega
        have w : IntKind.i64.wrap (((i + 1 : Nat) : Int) + 1) = ((i + 1 + 1 : Nat) : Int) := by rw [wrap_small (by omega) (by omega)]; omega
        have b : Nat.ble ((List.replicate i noise.other).length + [noise.other].length) 2147483648 = true := ble_true (by simp; omega)
        have o : Contacts.mk (Int.fdiv noise.Floors (2 ^ (Min.min (Int.toNat 1) IntKind.u32.bits))) (!noise.Up) false noise.Closed false = noise.other := rfl
        simp only [e, o, b, w, cond_true, rep_succ]
        rfl
      rw [iter_inl (show _ = _ from st)]
      exact ih (i + 1) (by omega)
  exact iter_fuel (key (m.toNat - 1) 0 (by omega)) (by omega)
theorem Run_some {n : Int} {s : Deb} (h : s.wf) (hs : s.is n) {l : List Contacts} (hl : ∀ e ∈ l, e.wf) (hlen : l.length ≤ 5000) :
    F_contact_Run n s.c.Floors s.c.Up s.c.Down s.c.Open s.c.Closed (s.k.getD 0 0) (s.k.getD 1 0) (s.k.getD 2 0) (s.k.getD 3 0) (s.k.getD 4 0) (s.k.getD 5 0) (s.k.getD 6 0) (s.k.getD 7 0) (s.k.getD 8 0) (s.k.getD 9 0) (s.k.getD 10 0) (s.k.getD 11 0) (s.k.getD 12 0) (s.k.getD 13 0) (s.k.getD 14 0) (s.k.getD 15 0) (s.k.getD 16 0) (s.k.getD 17 0) (s.k.getD 18 0) (s.k.getD 19 0) (s.k.getD 20 0) (s.k.getD 21 0) (s.k.getD 22 0) (s.k.getD 23 0) (s.k.getD 24 0) (s.k.getD 25 0) (s.k.getD 26 0) (s.k.getD 27 0) (s.k.getD 28 0) (s.k.getD 29 0) (s.k.getD 30 0) (s.k.getD 31 0) (s.k.getD 32 0) (s.k.getD 33 0) (s.k.getD 34 0) (s.k.getD 35 0) l = some (((), Deb.runs n s l, (0 : Int), ()), ((s.last n l).tup, ())) := by
  rw [F_contact_Run_eq h.len h.c hl, if_pos hs, if_neg (by omega)]
theorem rep_wf {c : Contacts} (h : c.wf) (q : Nat) : ∀ e ∈ List.replicate q c, e.wf := fun e he => by rw [(List.mem_replicate.1 he).2]; exact h
theorem follow1 {m : Int} {noise : Contacts} (hn : noise.wf) {s : Deb} (h : s.wf) (hs : s.is m) : s.last m (List.replicate m.toNat noise) = ⟨noise, Deb.no.k⟩ := by
  have hm := hs.1
  refine deb_ext (last_wf _ _ h hs).1 ⟨hn, no_wf.len, no_wf.lo, no_wf.hi⟩ fun j hj => ?_
  rw [last_pl hj _ _ h.len, List.map_replicate]
  have hk := hs.2.2 j hj
  rw [one_rep _ _ hk.1 hk.2]
  · show _ = (noise.get j, Deb.no.k.getD j 0)
    rw [no_k]
  · by_cases e : (s.pl j).1 = noise.get j
    · exact .inl ⟨e, .inl (by omega)⟩
    · exact .inr ⟨e, by have := hk.1; show m ≤ s.k.getD j 0 + _; omega⟩
theorem follow2 {m : Int} (h1 : 1 ≤ m) (h2 : m ≤ 16) {noise r : Contacts} (hn : noise.wf) : ((⟨noise, Deb.no.k⟩ : Deb).last m (List.replicate (m.toNat - 1) r)).c = noise := by
  have hw : Deb.wf ⟨noise, Deb.no.k⟩ := ⟨hn, no_wf.len, no_wf.lo, no_wf.hi⟩
  have hi : Deb.is m ⟨noise, Deb.no.k⟩ := ⟨h1, h2, (no_is h1 h2).2.2⟩
  have hl := last_wf (n := m) (List.replicate (m.toNat - 1) r) _ hw hi
  refine Contacts.ext' hl.1.c hn fun j h0 hj => ?_
  have := congrArg Prod.fst (last_pl (n := m) (j := j.toNat) (by omega) (List.replicate (m.toNat - 1) r) ⟨noise, Deb.no.k⟩ no_wf.len)
  rw [List.map_replicate] at this
  have hp : (⟨noise, Deb.no.k⟩ : Deb).pl j.toNat = (noise.get j.toNat, 0) := by
    show (noise.get j.toNat, Deb.no.k.getD j.toNat 0) = _
    rw [no_k]
  rw [hp, one_few _ _ (by omega) (by omega)] at this
  simpa [Deb.pl, Int.toNat_of_nonneg h0] using this
theorem follow3 {m : Int} {noise : Contacts} (hn : noise.wf) {s : Deb} (h : s.wf) (hs : s.is m) (hc : s.c = noise) : s.last m [noise] = ⟨noise, Deb.no.k⟩ := by
  refine deb_ext (last_wf _ _ h hs).1 ⟨hn, no_wf.len, no_wf.lo, no_wf.hi⟩ fun j hj => ?_
  rw [last_pl hj _ _ h.len]
  show one m (s.pl j) (noise.get j) = (noise.get j, Deb.no.k.getD j 0)
  rw [no_k, one_back]
  show s.c.get j = _
  rw [hc]
theorem mod16' {n : Int} (h : 0 ≤ n) : 1 ≤ IntKind.i64.wrap (1 + IntKind.i64.wrap (Int.tmod n 16)) ∧ IntKind.i64.wrap (1 + IntKind.i64.wrap (Int.tmod n 16)) ≤ 16 := mod16 h
theorem law_ContactFollows (n : Int) (l : List (Contacts)) (noise_Floors : Int) (noise_Up : Bool) (noise_Down : Bool) (noise_Open : Bool) (noise_Closed : Bool) (h_n : 0 ≤ n ∧ n < 256) (h_l : l.length ≤ maxLen ∧ ∀ e ∈ l, (0 ≤ e.Floors ∧ e.Floors < 4294967296)) (h_noise_Floors : 0 ≤ noise_Floors ∧ noise_Floors < 4294967296) : F_l04_ContactFollows n l noise_Floors noise_Up noise_Down noise_Open noise_Closed = some ((true, ()), ()) := by
  unfold F_l04_ContactFollows
  by_cases hlen : l.length ≤ 100
  · have e : decide ((100 : Int) < (l.length : Int)) = false := by simp; omega
    have hl : ∀ e ∈ l, e.wf := h_l.2
    rw [e, cond_false]
    have h16 := mod16 h_n.1
    generalize IntKind.i64.wrap (1 + IntKind.i64.wrap (Int.tmod n 16)) = m at h16 ⊢
    obtain ⟨h1, h2⟩ := h16
    have hi0 := no_is h1 h2
    have r1 := F_contact_Run_no (n := m) hl
    rw [if_pos hi0, if_neg (by omega)] at r1
    refine bind_eq r1 ?_
    have hs := last_wf (n := m) l Deb.no no_wf hi0
    generalize Deb.no.last m l = s at hs ⊢
    generalize hno : (⟨noise_Floors, noise_Up, noise_Down, noise_Open, noise_Closed⟩ : Contacts) = noise
    have hn : noise.wf := by rw [← hno]; exact h_noise_Floors
    have hw1 : Deb.wf ⟨noise, Deb.no.k⟩ := ⟨hn, no_wf.len, no_wf.lo, no_wf.hi⟩
    have hi1 : Deb.is m ⟨noise, Deb.no.k⟩ := ⟨h1, h2, (no_is h1 h2).2.2⟩
    have f1 := follow1 hn hs.1 hs.2
    have f2 := follow2 (r := noise.other) h1 h2 hn
    have hs2 := last_wf (n := m) (List.replicate (m.toNat - 1) noise.other) _ hw1 hi1
    have hlr : (List.replicate m.toNat noise).length ≤ 5000 := by rw [List.length_replicate]; omega
    have hlr2 : (List.replicate (m.toNat - 1) noise.other).length ≤ 5000 := by rw [List.length_replicate]; omega
    have q1 := quiet_loop h1 h2 noise s
    have q2 := Run_some hs.1 hs.2 (rep_wf hn m.toNat) hlr
    have q3 := short_loop h1 h2 noise ⟨noise, Deb.no.k⟩
    have q4 := Run_some hw1 hi1 (rep_wf (other_wf hn) (m.toNat - 1)) hlr2
    have q5 := Run_some hs2.1 hs2.2 (rep_wf hn 1) (by simp)
    have f3 := follow3 hn hs2.1 hs2.2 f2
    rw [f1] at q2
    have rl := runs_len m (List.replicate (m.toNat - 1) noise.other) ⟨noise, Deb.no.k⟩
    generalize ((⟨noise, Deb.no.k⟩ : Deb).last m (List.replicate (m.toNat - 1) noise.other)) = t at *
    rw [show List.replicate 1 noise = [noise] from rfl, f3] at q5
    rw [f2] at q5
    subst hno
    rw [show ((0 : Int) != 0) = false from rfl, cond_false]
    refine bind_eq (show _ = _ from q1) ?_
    refine bind_eq (show _ = _ from q2) ?_
    simp only [Deb.tup, Contacts.tup, bne_self_eq_false, cond_false, beq_self_eq_true, Bool.and_self, Bool.not_true, no_k]
    refine bind_eq (show _ = _ from q3) ?_
    refine bind_eq (show _ = _ from q4) ?_
    simp only [Deb.tup, Contacts.tup, bne_self_eq_false, cond_false, beq_self_eq_true, Bool.and_self, Bool.not_true, f2, rl]
    refine bind_eq (show _ = _ from q5) ?_
    simp only [Deb.tup, Contacts.tup, bne_self_eq_false, cond_false, cond_true, beq_self_eq_true, Bool.and_self, Bool.not_true, l04_sane, Option.bind_some]
  · have e : decide ((100 : Int) < (l.length : Int)) = true := by simp; omega
    rw [e, cond_true, l04_sane]; rfl
end Go.Ovl
