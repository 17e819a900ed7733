/- StoreRuns: what a row of actions leaves that share one budget. -/
import Derived.Test.YtfooilbkiclplaaOvStore
namespace Go.Ovl
open Go Go.Ab
theorem l08_sane2 : F_l08_sane = some ((true, ()), ()) := by kernel_rfl
/-- The model's loop, unit by unit. -/
theorem runs_inner {l : List ByteArray} {x : List Int} {left i e half : Int} (hh : half = 0 ∨ half = 1) {d : ByteArray} (hd : d.size ≤ 30) {s : Sto} : ∀ (n k : Nat) (u : Int) (t : Sto), d.size - k = n → k ≤ d.size → -1000 ≤ u - ((d.size : Int) - k) → u ≤ 1000 → (t.get half).size + (d.size - k) ≤ 1000 →
    iter (fun x => R_l08_StoreRuns_1 x.1.1 x.1.2.1 x.1.2.2.2.2.1 x.1.2.2.2.2.2.1 x.1.2.2.2.2.2.2.1 x.1.2.2.2.2.2.2.2.1 x.1.2.2.2.2.2.2.2.2.1 x.1.2.2.2.2.2.2.2.2.2.1 x.1.2.2.2.2.2.2.2.2.2.2.1 x.2.1.1 x.2.1.2.1 x.2.1.2.2.1 x.2.2.1.1 x.2.2.1.2.1 x.2.2.1.2.2.1) (n + 1)
        ((l, x, (), (), left, u, i, half, d, e, (k : Int), ()), (s.tup, t.tup, ())) =
      some ((l, x, (), (), left, u - ((d.size : Int) - k), i, e, ()), (s.tup, (t.set half (t.get half ++ d.extract k (min (k + u.toNat) d.size))).tup, ()))
  | 0, k, u, t, hn, hk, h1, h2, hs => by
    have : k = d.size := by omega
    subst this
    refine iter_inr ?_
    show R_l08_StoreRuns_1 l x left u i half d e (d.size : Int) s.h0 s.h1 s.sel t.h0 t.h1 t.sel = _
    unfold R_l08_StoreRuns_1
    have e0 : decide ((d.size : Int) < (d.size : Int)) = false := by simp
    rw [e0, Nat.min_eq_right (by omega), ext_empty, append_noB, set_get hh]
    simp only [cond_false, Int.sub_self, Int.sub_zero]
    rfl
  | n + 1, k, u, t, hn, hk, h1, h2, hs => by
    have e0 : decide ((k : Int) < (d.size : Int)) = true := by simp; omega
    have w1 : IntKind.i64.wrap (u - 1) = u - 1 := wrap_small (by omega) (by omega)
    have w2 : IntKind.i64.wrap ((k : Int) + 1) = ((k + 1 : Nat) : Int) := by rw [wrap_small (by omega) (by omega)]; omega
    by_cases hu : 0 < u
    · have e1 : decide (0 < u) = true := by simpa using hu
      have e2 : inB half 2 = true := inB_true (by omega) (by omega)
      have e3 : (decide ((0 : Int) ≤ ((k + 1 : Nat) : Int)) && decide (((k + 1 : Nat) : Int) ≤ (d.size : Int))) = true := by simp; omega
      have e4 : (decide ((0 : Int) ≤ (k : Int)) && decide ((k : Int) ≤ ((Int.toNat ((k + 1 : Nat) : Int) : Nat) : Int))) = true := by simp; omega
      have e5 : Int.toNat ((k + 1 : Nat) : Int) = k + 1 := by omega
      have e6 : Int.toNat (k : Int) = k := by omega
      have e7 : Nat.ble ((t.get half).size + (d.extract k (k + 1)).size) 4611686018427387904 = true := ble_true (by simp; omega)
      have step : R_l08_StoreRuns_1 l x left u i half d e (k : Int) s.h0 s.h1 s.sel t.h0 t.h1 t.sel =
          some (.inl ((l, x, (), (), left, u - 1, i, half, d, e, ((k + 1 : Nat) : Int), ()), (s.tup, (t.set half (t.get half ++ d.extract k (k + 1))).tup, ()))) := by
        unfold R_l08_StoreRuns_1
        simp only [e0, e1, e2, w1, w2, e3, e4, cond_true, getD_half hh]
        simp only [e5, e6, e7, cond_true, pair_half hh]
        rfl
      rw [iter_inl (show R_l08_StoreRuns_1 l x left u i half d e (k : Int) s.h0 s.h1 s.sel t.h0 t.h1 t.sel = _ from step),
        runs_inner hh hd n (k + 1) (u - 1) _ (by omega) (by omega) (by omega) (by omega) (by rw [get_set hh]; simp; omega)]
      rw [get_set hh, set_set hh, ByteArray.append_assoc, ext_join d (by omega) (by omega), show k + 1 + (u - 1).toNat = k + u.toNat by omega, show u - 1 - ((d.size : Int) - ((k + 1 : Nat) : Int)) = u - ((d.size : Int) - k) by omega]
    · have e1 : decide (0 < u) = false := by simpa using hu
      have step : R_l08_StoreRuns_1 l x left u i half d e (k : Int) s.h0 s.h1 s.sel t.h0 t.h1 t.sel =
          some (.inl ((l, x, (), (), left, u - 1, i, half, d, e, ((k + 1 : Nat) : Int), ()), (s.tup, t.tup, ()))) := by
        unfold R_l08_StoreRuns_1
        simp only [e0, e1, w1, w2, cond_true, cond_false]
        rfl
      rw [iter_inl (show R_l08_StoreRuns_1 l x left u i half d e (k : Int) s.h0 s.h1 s.sel t.h0 t.h1 t.sel = _ from step),
        runs_inner hh hd n (k + 1) (u - 1) _ (by omega) (by omega) (by omega) (by omega) (by omega)]
      have z1 : (u - 1).toNat = 0 := by omega
      have z2 : u.toNat = 0 := by omega
      simp only [z1, z2, Nat.add_zero]
      rw [Nat.min_eq_left (by omega), Nat.min_eq_left (by omega), ext_empty, ext_empty, show u - 1 - ((d.size : Int) - ((k + 1 : Nat) : Int)) = u - ((d.size : Int) - k) by omega]
abbrev RX := ((List ByteArray × List Int × Unit × Unit × Int × Int × Int × Unit) × ((ByteArray × ByteArray × Int × Unit) × (ByteArray × ByteArray × Int × Unit) × Unit))
/-- Ahead of each action: both stores are alike, all units are left that the budget says. -/
def RunsI (l : List ByteArray) (x : List Int) (z : RX) : Prop :=
  ∃ (i : Nat) (u : Int) (s : Sto), z = ((l, x, (), (), u, u, (i : Int), ()), (s.tup, s.tup, ())) ∧ i ≤ 20 ∧ 0 ≤ u ∧ u ≤ 255 ∧ s.h0.size ≤ 30 * i ∧ s.h1.size ≤ 30 * i ∧ (s.sel = 0 ∨ s.sel = 1)
def RunsP (y : (Unit × Unit) ⊕ ((Bool × Unit) × Unit)) : Prop := y = .inl ((), ()) ∨ y = .inr ((true, ()), ())
theorem runs_chk {s : Sto} {half u : Int} {i : Nat} (hh : half = 0 ∨ half = 1) (hi : i < 20) (hu : 0 ≤ u) (h0 : s.h0.size ≤ 30 * i) (h1 : s.h1.size ≤ 30 * i) (hs : s.sel = 0 ∨ s.sel = 1) : s.chk 700 half u = 0 := by
  unfold Sto.chk
  rw [if_pos ⟨by omega, by omega, by omega, by omega, hs⟩, if_neg (by omega)]
theorem runs_round {l : List ByteArray} {x : List Int} (hx : ∀ e ∈ x, 0 ≤ e ∧ e < 256) (z : RX) (hz : RunsI l x z) :
    (∃ z', R_l08_StoreRuns_0 z.1.1 z.1.2.1 z.1.2.2.2.2.1 z.1.2.2.2.2.2.1 z.1.2.2.2.2.2.2.1 z.2.1.1 z.2.1.2.1 z.2.1.2.2.1 z.2.2.1.1 z.2.2.1.2.1 z.2.2.1.2.2.1 = some (.inl z') ∧ RunsI l x z' ∧ (20 - z'.1.2.2.2.2.2.2.1).toNat < (20 - z.1.2.2.2.2.2.2.1).toNat) ∨
      ∃ y, R_l08_StoreRuns_0 z.1.1 z.1.2.1 z.1.2.2.2.2.1 z.1.2.2.2.2.2.1 z.1.2.2.2.2.2.2.1 z.2.1.1 z.2.1.2.1 z.2.1.2.2.1 z.2.2.1.1 z.2.2.1.2.1 z.2.2.1.2.2.1 = some (.inr y) ∧ RunsP y := by
  obtain ⟨i, u, s, rfl, hi, hu, hu', hs0, hs1, hsel⟩ := hz
  simp only [Sto.tup]
  unfold R_l08_StoreRuns_0
  by_cases c1 : (i : Int) < (l.length : Int)
  · by_cases c2 : (i : Int) < (x.length : Int)
    · by_cases c3 : (i : Int) < 20
      · have e1 : decide ((i : Int) < (l.length : Int)) = true := by simpa using c1
        have e2 : decide ((i : Int) < (x.length : Int)) = true := by simpa using c2
        have e3 : decide ((i : Int) < 20) = true := by simpa using c3
        have b1 : inB (i : Int) x.length = true := inB_true (by omega) c2
        have b2 : inB (i : Int) l.length = true := inB_true (by omega) c1
        have tn : Int.toNat (i : Int) = i := by omega
        have hxi : 0 ≤ x.getD i 0 ∧ x.getD i 0 < 256 := by
          have : i < x.length := by omega
          rw [List.getD_eq_getElem?_getD, List.getElem?_eq_getElem this]
          exact hx _ (List.getElem_mem this)
        simp only [e1, e2, e3, b1, b2, cond_true, tn]
        generalize x.getD i 0 = xi at hxi ⊢
        generalize l.getD i (ByteArray.mk (Array.mk [])) = li
        have a1 : xi.tmod 2 = 0 ∨ xi.tmod 2 = 1 := by
          have := Int.tmod_nonneg (2 : Int) hxi.1
          have := Int.tmod_lt_of_pos xi (b := 2) (by omega)
          omega
        generalize xi.tmod 2 = half at a1 ⊢
        have wh : IntKind.i64.wrap half = half := wrap_small (by omega) (by omega)
        have w1 : IntKind.i64.wrap (u - 1) = u - 1 := wrap_small (by omega) (by omega)
        have wi : IntKind.i64.wrap ((i : Int) + 1) = ((i + 1 : Nat) : Int) := by rw [wrap_small (by omega) (by omega)]; omega
        have hc := runs_chk (half := half) (u := u) a1 (by omega) hu hs0 hs1 hsel
        -- the piece that is written
        generalize hz3 : (bif decide ((30 : Int) < ((li.size : Nat) : Int)) then (30 : Int) else ((li.size : Nat) : Int)) = z3
        have hz3' : 0 ≤ z3 ∧ z3 ≤ 30 ∧ z3 ≤ li.size := by
          by_cases h : (30 : Int) < li.size
          · have : decide ((30 : Int) < ((li.size : Nat) : Int)) = true := by simpa using h
            rw [this] at hz3; simp at hz3; omega
          · have : decide ((30 : Int) < ((li.size : Nat) : Int)) = false := by simpa using h
            rw [this] at hz3; simp at hz3; omega
        have e4 : (decide ((0 : Int) ≤ z3) && decide (z3 ≤ ((li.size : Nat) : Int))) = true := by simp; omega
        have hd : (li.extract 0 z3.toNat).size ≤ 30 := by rw [ext_size _ (by omega)]; omega
        simp only [e4, cond_true, wh]
        generalize li.extract 0 z3.toNat = d at hd ⊢
        generalize (IntKind.u8.wrap (xi.tdiv 2)).tmod 4 = op
        have hh2 : inB half 2 = true := inB_true (by omega) (by omega)
        have hg : (s.get half).size ≤ 30 * i := by rcases a1 with rfl | rfl <;> simpa [Sto.get]
        by_cases o0 : op = 0
        · subst o0
          rw [unit_erase _ _ _ _ _ _ (by omega)]
          simp only [Sto.erase, Sto.act, hc, ne_eq, not_true_eq_false, if_false, w1, wi]
          by_cases u0 : u = 0
          · subst u0
            refine .inr ⟨.inr ((true, ()), ()), ?_, .inr rfl⟩
            simp [Sto.out, eqB_refl, l08_sane2]
          · have pu : decide (0 < u) = true := by simp; omega
            refine .inl ⟨_, ?_, ⟨i + 1, u - 1, s.set half noB, rfl, by omega, by omega, by omega, ?_, ?_, ?_⟩, ?_⟩
            · have q1 : decide (0 ≤ u - 1) = true := by simp; omega
              have q2 : (bif decide (0 < u - 1) then u - 1 else 0) = u - 1 := by
                by_cases h : 0 < u - 1
                · have : decide (0 < u - 1) = true := by simpa using h
                  rw [this]; rfl
                · have : decide (0 < u - 1) = false := by simpa using h
                  rw [this]; simp; omega
              have hnb : (ByteArray.mk (Array.mk [])) = noB := rfl
              simp only [u0, if_false, hnb, pu, hh2, cond_true, Sto.out, pair_half a1, Option.bind_some, beq_self_eq_true]
              simp only [Sto.tup, eqB_refl, q1, q2, beq_self_eq_true, bne_self_eq_false, Bool.and_self, Bool.not_true, cond_false, wi]
            · rcases a1 with rfl | rfl <;> simp only [Sto.set, reduceIte, Int.one_ne_zero, (show noB.size = 0 from rfl)] <;> omega
            · rcases a1 with rfl | rfl <;> simp only [Sto.set, reduceIte, Int.one_ne_zero, (show noB.size = 0 from rfl)] <;> omega
            · rcases a1 with rfl | rfl <;> simpa [Sto.set] using hsel
            · simp only; omega
        · have o0' : (op == 0) = false := beq_f o0
          by_cases o1 : op = 1
          · subst o1
            rw [unit_choose _ _ _ _ _ _ (by omega)]
            simp only [Sto.choose, Sto.act, hc, ne_eq, not_true_eq_false, if_false, w1, wi]
            by_cases u0 : u = 0
            · subst u0
              refine .inr ⟨.inr ((true, ()), ()), ?_, .inr rfl⟩
              simp [Sto.out, eqB_refl, l08_sane2]
            · have pu : decide (0 < u) = true := by simp; omega
              refine .inl ⟨_, ?_, ⟨i + 1, u - 1, { s with sel := half }, rfl, by omega, by omega, by omega, by simp only; omega, by simp only; omega, a1⟩, ?_⟩
              · have q1 : decide (0 ≤ u - 1) = true := by simp; omega
                have q2 : (bif decide (0 < u - 1) then u - 1 else 0) = u - 1 := by
                  by_cases h : 0 < u - 1
                  · have : decide (0 < u - 1) = true := by simpa using h
                    rw [this]; rfl
                  · have : decide (0 < u - 1) = false := by simpa using h
                    rw [this]; simp; omega
                have z0 : ((1 : Int) == 0) = false := rfl
                simp only [u0, if_false, pu, cond_true, cond_false, z0, Sto.out, Option.bind_some, beq_self_eq_true]
                simp only [Sto.tup, eqB_refl, q1, q2, beq_self_eq_true, bne_self_eq_false, Bool.and_self, Bool.not_true, cond_false, wi]
              · simp only; omega
          · have o1' : (op == 1) = false := beq_f o1
            rw [F_store_Write_eq _ _ _ _ _ _ _ (by omega)]
            simp only [o0', o1', cond_false, Option.bind_some, Sto.write, hc, ne_eq, not_true_eq_false, if_false]
            rw [if_neg (show ¬ ((700 : Int) < (s.get half).size + d.size) by omega)]
            have hl : ∀ (left e : Int) (s' : Sto), L_l08_StoreRuns_1 ((l, x, (), (), left, u, (i : Int), half, d, e, (0 : Int), ()), (s'.tup, s.tup, ())) = _ := fun left e s' => iter_fuel (runs_inner (l := l) (x := x) (left := left) (i := (i : Int)) (e := e) a1 hd (s := s') d.size 0 u s (by omega) (by omega) (by omega) (by omega) (by omega)) (by omega)
            by_cases c : u < d.size
            · rw [if_pos c]
              refine .inr ⟨.inr ((true, ()), ()), ?_, .inr rfl⟩
              have hl' := hl 0 8 (s.set half (s.get half ++ d.extract 0 u.toNat))
              simp only [Sto.tup] at hl'
              simp only [Sto.out, hl', Option.bind_some]
              have m1 : min (0 + u.toNat) d.size = u.toNat := by omega
              have q1 : decide (0 ≤ u - (d.size : Int)) = false := by simp; omega
              have q2 : decide (0 < u - (d.size : Int)) = false := by simp; omega
              have q1' : decide ((d.size : Int) ≤ u) = false := by simp; omega
              have q2' : decide ((d.size : Int) < u) = false := by simp; omega
              rw [m1]
              simp [eqB_refl, q1, q2, q1', q2', l08_sane2]
            · rw [if_neg c]
              have hl' := hl (u - d.size) 0 (s.set half (s.get half ++ d))
              simp only [Sto.tup] at hl'
              have m1 : min (0 + u.toNat) d.size = d.size := by omega
              rw [m1, extract_all] at hl'
              refine .inl ⟨_, ?_, ⟨i + 1, u - d.size, s.set half (s.get half ++ d), rfl, by omega, by omega, by omega, ?_, ?_, ?_⟩, ?_⟩
              · simp only [Sto.out, hl', Option.bind_some]
                have q1 : decide (0 ≤ u - (d.size : Int)) = true := by simp; omega
                have q2 : (bif decide (0 < u - (d.size : Int)) then u - (d.size : Int) else 0) = u - d.size := by
                  by_cases h : 0 < u - (d.size : Int)
                  · have : decide (0 < u - (d.size : Int)) = true := by simpa using h
                    rw [this]; rfl
                  · have : decide (0 < u - (d.size : Int)) = false := by simpa using h
                    rw [this]; simp; omega
                simp only [Sto.tup, eqB_refl, q1, q2, beq_self_eq_true, bne_self_eq_false, Bool.and_self, Bool.not_true, cond_false, wi, Int.sub_zero, Int.natCast_zero, Int.ofNat_zero]
              · rcases a1 with rfl | rfl <;> simp [Sto.set, Sto.get] <;> omega
              · rcases a1 with rfl | rfl <;> simp [Sto.set, Sto.get] <;> omega
              · rcases a1 with rfl | rfl <;> simpa [Sto.set] using hsel
              · simp only; omega
      · have e3 : decide ((i : Int) < 20) = false := by simpa using c3
        refine .inr ⟨.inl ((), ()), ?_, .inl rfl⟩
        have e1 : decide ((i : Int) < (l.length : Int)) = true := by simpa using c1
        have e2 : decide ((i : Int) < (x.length : Int)) = true := by simpa using c2
        simp only [e1, e2, e3, cond_true, cond_false]
    · have e2 : decide ((i : Int) < (x.length : Int)) = false := by simpa using c2
      refine .inr ⟨.inl ((), ()), ?_, .inl rfl⟩
      have e1 : decide ((i : Int) < (l.length : Int)) = true := by simpa using c1
      simp only [e1, e2, cond_true, cond_false]
  · have e1 : decide ((i : Int) < (l.length : Int)) = false := by simpa using c1
    refine .inr ⟨.inl ((), ()), ?_, .inl rfl⟩
    simp only [e1, cond_false]
theorem law_StoreRuns (l : List (ByteArray)) (x_1 : List (Int)) (budget : Int) (_ : l.length ≤ maxLen ∧ ∀ e ∈ l, (e.size ≤ maxLen)) (h_x_1 : x_1.length ≤ maxLen ∧ ∀ e ∈ x_1, (0 ≤ e ∧ e < 256)) (h_budget : 0 ≤ budget ∧ budget < 256) :
    F_l08_StoreRuns l x_1 budget = some ((true, ()), ()) := by
  unfold F_l08_StoreRuns
  rw [wrap_small (n := budget) (by omega) (by omega)]
  obtain ⟨y, h1, h2⟩ := loop_ex (RunsI l x_1) RunsP (fun z => (20 - z.1.2.2.2.2.2.2.1).toNat) (runs_round h_x_1.2) (x := ((l, x_1, (), (), budget, budget, (0 : Int), ()), (Sto.no.tup, Sto.no.tup, ())))
    ⟨0, budget, Sto.no, rfl, by omega, by omega, by omega, Nat.le_of_eq rfl, Nat.le_of_eq rfl, .inl rfl⟩ (by simp only; omega)
  have h1 : L_l08_StoreRuns_0 ((l, x_1, (), (), budget, budget, (0 : Int), ()), (((ByteArray.mk (Array.mk [])), (ByteArray.mk (Array.mk [])), (0 : Int), ()), ((ByteArray.mk (Array.mk [])), (ByteArray.mk (Array.mk [])), (0 : Int), ()), ())) = some y := h1
  rw [h1]
  rcases h2 with rfl | rfl
  · simp [l08_sane2]
  · rfl
end Go.Ovl
