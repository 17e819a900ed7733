/- Which cars are chosen (layer 22), and the frame of the laws on plans. -/
import Derived.Test.YticbfghinhhgiaaDoorOvAfter
import Derived.Test.YticbfghinhhgiaaDoorOvViews
namespace Go.Ovl
open Go Go.Ab
set_option maxRecDepth 100000
theorem l22_sane : F_l22_sane = some ((true, ()), ()) := by kernel_rfl
theorem bestF_spec {b : Bldg} {vs : List View} {floor dir except : Int} : ∀ (m i : Nat) (best : Int), i + m = vs.length →
    (best = -1 ∧ (∀ j : Nat, j < i → (viewAt vs j).Ready = true → (j : Int) = except) ∨ (0 ≤ best ∧ best < vs.length ∧ (viewAt vs best).Ready = true ∧ best ≠ except)) →
    (bestF b vs floor dir except m i best = -1 ∧ (∀ j : Nat, j < vs.length → (viewAt vs j).Ready = true → (j : Int) = except)) ∨ (0 ≤ bestF b vs floor dir except m i best ∧ bestF b vs floor dir except m i best < vs.length ∧ (viewAt vs (bestF b vs floor dir except m i best)).Ready = true ∧ bestF b vs floor dir except m i best ≠ except)
  | 0, i, best, hi, h => by
    rcases h with ⟨h1, h2⟩ | h
    · exact .inl ⟨h1, fun j hj => h2 j (by omega)⟩
    · exact .inr h
  | m + 1, i, best, hi, h => by
    refine bestF_spec m (i + 1) _ (by omega) ?_
    unfold bestStep
    cases hr : (viewAt vs (i : Int)).Ready with
    | false =>
      rcases h with ⟨h1, h2⟩ | h
      · refine .inl ⟨h1, fun j hj hj' => ?_⟩
        rcases Nat.lt_or_ge j i with hlt | hge
        · exact h2 j hlt hj'
        · have : j = i := by omega
          subst this; rw [hr] at hj'; cases hj'
      · exact .inr h
    | true =>
      rw [Bool.not_true, Bool.false_or]
      by_cases he : (i : Int) = except
      · rw [show ((i : Int) == except) = true by rw [he]; simp, cond_true]
        rcases h with ⟨h1, h2⟩ | h
        · refine .inl ⟨h1, fun j hj hj' => ?_⟩
          rcases Nat.lt_or_ge j i with hlt | hge
          · exact h2 j hlt hj'
          · have : j = i := by omega
            subst this; exact he
        · exact .inr h
      · rw [beq_f he, cond_false]
        cases hb : (best == -1 || betB (rankV b vs floor dir i) (rankV b vs floor dir best)) with
        | true => exact .inr ⟨by show (0 : Int) ≤ (i : Int); omega, by show (i : Int) < _; omega, hr, he⟩
        | false =>
          rcases h with ⟨h1, h2⟩ | h
          · rw [h1] at hb; cases hb
          · exact .inr h
/-- The chosen car is ready; if there is none, no other car is. -/
theorem chooseV_spec {b : Bldg} {vs : List View} (hcode : b.code = 0) (hlen : (vs.length : Int) = (b.Cars.length : Int)) (floor dir except : Int) :
    (chooseV b vs floor dir except = -1 ∧ (∀ j : Nat, j < vs.length → (viewAt vs j).Ready = true → (j : Int) = except)) ∨ (0 ≤ chooseV b vs floor dir except ∧ chooseV b vs floor dir except < vs.length ∧ (viewAt vs (chooseV b vs floor dir except)).Ready = true ∧ chooseV b vs floor dir except ≠ except) := by
  unfold chooseV
  have e1 : ((vs.length : Int) != (b.Cars.length : Int)) = false := by rw [hlen]; simp
  rw [hcode, e1]
  exact bestF_spec vs.length 0 (-1) (by omega) (.inl ⟨rfl, fun j hj => by omega⟩)
/-- How many cars are ready. -/
def readyN (vs : List View) : Nat := vs.countP (·.Ready)
theorem ready_zero : ∀ {vs : List View}, (∀ j : Nat, j < vs.length → (viewAt vs j).Ready = false) → readyN vs = 0
  | [], _ => rfl
  | v :: t, h => by
    have h0 : v.Ready = false := h 0 (by simp)
    have ht := ready_zero (vs := t) fun j hj => h (j + 1) (by simp; omega)
    unfold readyN at *
    rw [List.countP_cons_of_neg (by rw [h0]; simp)]; exact ht
theorem ready_one : ∀ {vs : List View} (o e : Int), (∀ j : Nat, j < vs.length → (viewAt vs j).Ready = true → o + j = e) → readyN vs ≤ 1
  | [], _, _, _ => by simp [readyN]
  | v :: t, o, e, h => by
    cases hv : v.Ready with
    | true =>
      have h0 : o + ((0 : Nat) : Int) = e := h 0 (by simp) hv
      have ht := ready_zero (vs := t) fun j hj => by
        cases hr : (viewAt t j).Ready with
        | false => rfl
        | true => have := h (j + 1) (by simp; omega) hr; omega
      unfold readyN at *
      rw [List.countP_cons_of_pos (by rw [hv])]; omega
    | false =>
      have ht := ready_one (vs := t) (o + 1) e fun j hj hr => by have := h (j + 1) (by simp; omega) hr; omega
      unfold readyN at *
      rw [List.countP_cons_of_neg (by rw [hv]; simp)]; exact ht
/-- What all laws on plans begin with: a building, an image, views, expect, the plan, and what is behind it. -/
structure Plan22 (b : Bldg) (m : Img) (vs : List View) (xs : List Int) : Prop where
  small : b.small
  code : b.code = 0
  cars : 1 ≤ b.Cars.length ∧ b.Cars.length ≤ 3
  img : ImgOK b m
  ents : m.Entries.length ≤ 60
  made : Made b vs
  xlen : xs.length = m.Entries.length
  xval : ∀ x ∈ xs, 0 ≤ x ∧ x ≤ 1000000
section
variable {b : Bldg} {m : Img} {vs : List View} {xs : List Int} (h : Plan22 b m vs xs)
include h
theorem Plan22.vlen : (vs.length : Int) = (b.Cars.length : Int) := by have := h.made.len; omega
theorem Plan22.planV_eq : planV b m xs vs = (planR b vs m.Entries xs, planN b vs m.Entries xs, 0, ()) := by
  unfold planV
  have h1 : (xs.length : Int) == (m.Entries.length : Int) := by rw [h.xlen]; simp
  have h2 : (vs.length : Int) == (b.Cars.length : Int) := by rw [h.vlen]; simp
  have h3 : expOK xs = true := List.all_eq_true.2 fun x hx => inR_iff.2 (h.xval x hx)
  rw [Img.ok_iff.2 h.img, h1, h2, h3]; rfl
theorem Plan22.plan_eq : F_assign_Plan b.Floors b.Debounce b.Room b.Park b.Empty b.Full b.Over b.Cars m.Phases m.Flags m.Leaving m.Entries xs vs = some ((planR b vs m.Entries xs, planN b vs m.Entries xs, 0, ()), ()) := by
  have hc := h.cars
  have hmx : 1000 ≤ maxLen := by decide
  rw [assign_Plan_eq h.small h.made.ok (by have := h.made.len; omega) m (by have := h.ents; omega) (by rw [h.img.lp]; omega) xs (by rw [h.xlen]; have := h.ents; omega), h.planV_eq]
theorem Plan22.after : F_l22_after b.Floors b.Debounce b.Room b.Park b.Empty b.Full b.Over b.Cars m.Phases m.Flags m.Leaving m.Entries (planR b vs m.Entries xs) = some (((), true, ()), ((m.put (decL b vs m.Entries xs)).tup, ())) ∧ ImgOK b (m.put (decL b vs m.Entries xs)) ∧ (decL b vs m.Entries xs).length = m.Entries.length := by
  have hc := h.cars
  obtain ⟨h1, h2, h3⟩ := plan_apply (b := b) (by omega) h.vlen m.Entries xs [] m h.xlen h.img rfl
  have hl := planR_len b vs m.Entries xs
  have := h.ents
  rw [F_l22_after_eq h.small (by omega) h2 (by omega) h.img (by omega), h1]
  exact ⟨rfl, h3, decL_len b vs m.Entries xs h.xlen⟩
theorem Plan22.ent {i : Nat} (hi : i < m.Entries.length) : isCallV b (m.Entries.getD i noE).Floor (m.Entries.getD i noE).Dir = true ∧ (-2 ≤ (m.Entries.getD i noE).Car ∧ (m.Entries.getD i noE).Car < (vs.length : Int)) ∧ 0 ≤ (m.Entries.getD i noE).Moves ∧ (m.Entries.getD i noE).Moves ≤ 255 := by
  have := entOK_iff.1 (h.img.en _ (getD_mem noE hi))
  rw [h.vlen]; exact this
theorem Plan22.notLost {i : Int} (hi : 0 ≤ i ∧ i < vs.length) (hr : (viewAt vs i).Ready = true) : (viewAt vs i).Lost = false := by
  cases hl : (viewAt vs i).Lost with
  | false => rfl
  | true =>
    have := h.made.lost (viewAt vs i) (getD_mem _ (show i.toNat < vs.length by omega)) hl
    rw [this] at hr; cases hr
/-- What a decision says of its car. -/
theorem Plan22.car {e : Entry} (_he : -2 ≤ e.Car ∧ e.Car < (vs.length : Int)) (x : Int) :
    (0 ≤ (decV b vs e x).Car → (viewAt vs (decV b vs e x).Car).Lost = false) ∧
    (0 ≤ (decV b vs e x).Car → (decV b vs e x).Car ≠ e.Car → (viewAt vs (decV b vs e x).Car).Ready = true) ∧
    (e.Car = -2 → (decV b vs e x).Car = -2) ∧
    ((decV b vs e x).Car = -1 → (e.Car = -1 → readyN vs = 0) ∧ (0 ≤ e.Car → readyN vs ≤ 1)) := by
  have key : ∀ n except : Int, n = chooseV b vs e.Floor e.Dir except → (0 ≤ n → (viewAt vs n).Lost = false) ∧ (0 ≤ n → (viewAt vs n).Ready = true) ∧ (n = -1 → (∀ j : Nat, j < vs.length → (viewAt vs j).Ready = true → (j : Int) = except)) ∧ n ≠ -2 := fun n except hn => by
    rcases chooseV_spec h.code h.vlen e.Floor e.Dir except with ⟨h1, h2⟩ | ⟨h1, h2, h3, _⟩
    · rw [← hn] at h1
      exact ⟨fun _ => by omega, fun _ => by omega, fun _ => h2, by omega⟩
    · rw [← hn] at h1 h2 h3
      exact ⟨fun _ => h.notLost ⟨h1, h2⟩ h3, fun _ => h3, fun _ => by omega, by omega⟩
  unfold decV
  by_cases g1 : e.Car = -2
  · rw [show (e.Car == -2) = true by rw [g1]; rfl, cond_true]
    exact ⟨fun _ => by omega, fun _ hh => absurd rfl hh, fun _ => g1, fun _ => by omega⟩
  rw [beq_f g1, cond_false]
  by_cases g2 : e.Car = -1
  · rw [show (e.Car == -1) = true by rw [g2]; rfl, cond_true]
    obtain ⟨k1, k2, k3, k4⟩ := key _ (-1) rfl
    refine ⟨k1, fun hh _ => k2 hh, fun hh => absurd hh g1, fun hh => ⟨fun _ => ready_zero fun j hj => ?_, fun _ => by omega⟩⟩
    cases hr : (viewAt vs j).Ready with
    | false => rfl
    | true => have := k3 hh j hj hr; omega
  rw [beq_f g2, cond_false]
  cases hlost : (viewAt vs e.Car).Lost with
  | true =>
    rw [cond_true]
    cases decide ((b.Cars.length : Int) < e.Moves) with
    | true => exact ⟨fun hh => absurd hh (by show ¬ (0 : Int) ≤ -2; omega), fun hh => absurd hh (by show ¬ (0 : Int) ≤ -2; omega), fun hh => absurd hh g1, fun hh => absurd hh (by show ¬ (-2 : Int) = -1; omega)⟩
    | false =>
      obtain ⟨k1, k2, k3, k4⟩ := key _ e.Car rfl
      exact ⟨k1, fun hh _ => k2 hh, fun hh => absurd hh g1, fun hh => ⟨fun hh' => absurd hh' g2, fun _ => ready_one 0 e.Car fun j hj hr => by have := k3 hh j hj hr; omega⟩⟩
  | false =>
    rw [cond_false]
    have self : (0 ≤ e.Car → (viewAt vs e.Car).Lost = false) ∧ (0 ≤ e.Car → e.Car ≠ e.Car → (viewAt vs e.Car).Ready = true) ∧ (e.Car = -2 → e.Car = -2) ∧ (e.Car = -1 → (e.Car = -1 → readyN vs = 0) ∧ (0 ≤ e.Car → readyN vs ≤ 1)) :=
      ⟨fun _ => hlost, fun _ hh => absurd rfl hh, fun hh => hh, fun hh => absurd hh g2⟩
    cases (!e.Moved && decide (e.Moves ≤ (b.Cars.length : Int))) with
    | false => exact self
    | true =>
      rw [cond_true]
      cases ho : otherV b vs e x != -1 with
      | false => exact self
      | true =>
        have hne : otherV b vs e x ≠ -1 := by simpa using ho
        have heq : otherV b vs e x = chooseV b vs e.Floor e.Dir e.Car := by
          unfold otherV at hne ⊢
          cases hc : chooseV b vs e.Floor e.Dir e.Car == -1 with
          | true => rw [hc] at hne; exact absurd rfl hne
          | false =>
            rw [hc] at hne
            cases hbt : betterV b vs e x (chooseV b vs e.Floor e.Dir e.Car) with
            | true => rfl
            | false => rw [hbt] at hne; exact absurd rfl hne
        obtain ⟨k1, k2, k3, k4⟩ := key _ e.Car heq
        exact ⟨k1, fun hh _ => k2 hh, fun hh => absurd hh g1, fun hh => absurd hh hne⟩
end
end Go.Ovl
