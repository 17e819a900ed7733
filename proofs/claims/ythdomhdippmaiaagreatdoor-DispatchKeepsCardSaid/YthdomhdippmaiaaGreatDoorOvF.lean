/- Which cars are chosen (layer 22), and the frame of the laws on plans. -/
import Derived.Test.YthdomhdippmaiaaGreatDoorOvE
import Derived.Test.YthdomhdippmaiaaGreatDoorOvC
namespace Go.Ovl
open Go Go.Ab
set_option maxRecDepth 100000
theorem nqp' {b : Bldg} {vs : List View} {floor dir except : Int} : ∀ (m i : Nat) (best : Int), i + m = vs.length →
    (best = -1 ∧ (∀ j : Nat, j < i → (ne' vs j).Ready = true → (j : Int) = except) ∨ (0 ≤ best ∧ best < vs.length ∧ (ne' vs best).Ready = true ∧ best ≠ except)) →
    (bestF b vs floor dir except m i best = -1 ∧ (∀ j : Nat, j < vs.length → (ne' vs j).Ready = true → (j : Int) = except)) ∨ (0 ≤ bestF b vs floor dir except m i best ∧ bestF b vs floor dir except m i best < vs.length ∧ (ne' vs (bestF b vs floor dir except m i best)).Ready = true ∧ bestF b vs floor dir except m i best ≠ except)
  | 0, i, best, hi, h => by
    rcases h with ⟨h1, h2⟩ | h
    · exact .inl ⟨h1, fun j hj => h2 j (by omega)⟩
    · exact .inr h
  | m + 1, i, best, hi, h => by
    refine nqp' m (i + 1) _ (by omega) ?_
    unfold ng4'
    cases hr : (ne' vs (i : Int)).Ready with
    | false =>
      rcases h with ⟨h1, h2⟩ | h
      · refine .inl ⟨h1, fun j hj hj' => ?_⟩
        rcases Nat.lt_or_ge j i with hlt | hge
        · exact h2 j hlt hj'
        · have : j = i := by omega
          subst this; rw [hr] at hj'; cases hj'
      · exact .inr h
    | true =>
      rw [Bool.not_true, Bool.false_or]
      by_cases he : (i : Int) = except
      · rw [show ((i : Int) == except) = true by rw [he]; simp, cond_true]
        rcases h with ⟨h1, h2⟩ | h
        · refine .inl ⟨h1, fun j hj hj' => ?_⟩
          rcases Nat.lt_or_ge j i with hlt | hge
          · exact h2 j hlt hj'
          · have : j = i := by omega
            subst this; exact he
        · exact .inr h
      · rw [beq_f he, cond_false]
        cases hb : (best == -1 || betB (rankV b vs floor dir i) (rankV b vs floor dir best)) with
        | true => exact .inr ⟨by show (0 : Int) ≤ (i : Int); omega, by show (i : Int) < _; omega, hr, he⟩
        | false =>
          rcases h with ⟨h1, h2⟩ | h
          · rw [h1] at hb; cases hb
          · exact .inr h
theorem nlk' {b : Bldg} {vs : List View} (hcode : b.code = 0) (hlen : (vs.length : Int) = (b.Cars.length : Int)) (floor dir except : Int) :
    (nbk' b vs floor dir except = -1 ∧ (∀ j : Nat, j < vs.length → (ne' vs j).Ready = true → (j : Int) = except)) ∨ (0 ≤ nbk' b vs floor dir except ∧ nbk' b vs floor dir except < vs.length ∧ (ne' vs (nbk' b vs floor dir except)).Ready = true ∧ nbk' b vs floor dir except ≠ except) := by
  unfold nbk'
  have e1 : ((vs.length : Int) != (b.Cars.length : Int)) = false := by rw [hlen]; simp
  rw [hcode, e1]
  exact nqp' vs.length 0 (-1) (by omega) (.inl ⟨rfl, fun j hj => by omega⟩)
def nc5' (vs : List View) : Nat := vs.countP (·.Ready)
theorem nki' : ∀ {vs : List View}, (∀ j : Nat, j < vs.length → (ne' vs j).Ready = false) → nc5' vs = 0
  | [], _ => rfl
  | v :: t, h => by
    have h0 : v.Ready = false := h 0 (by simp)
    have ht := nki' (vs := t) fun j hj => h (j + 1) (by simp; omega)
    unfold nc5' at *
    rw [List.countP_cons_of_neg (by rw [h0]; simp)]; exact ht
theorem nta' : ∀ {vs : List View} (o e : Int), (∀ j : Nat, j < vs.length → (ne' vs j).Ready = true → o + j = e) → nc5' vs ≤ 1
  | [], _, _, _ => by simp [nc5']
  | v :: t, o, e, h => by
    cases hv : v.Ready with
    | true =>
      have h0 : o + ((0 : Nat) : Int) = e := h 0 (by simp) hv
      have ht := nki' (vs := t) fun j hj => by
        cases hr : (ne' t j).Ready with
        | false => rfl
        | true => have := h (j + 1) (by simp; omega) hr; omega
      unfold nc5' at *
      rw [List.countP_cons_of_pos (by rw [hv])]; omega
    | false =>
      have ht := nta' (vs := t) (o + 1) e fun j hj hr => by have := h (j + 1) (by simp; omega) hr; omega
      unfold nc5' at *
      rw [List.countP_cons_of_neg (by rw [hv]; simp)]; exact ht
structure Plan22 (b : Bldg) (m : Img) (vs : List View) (xs : List Int) : Prop where
  small : b.small
  code : b.code = 0
  cars : 1 ≤ b.Cars.length ∧ b.Cars.length ≤ 3
  img : ImgOK b m
  ents : m.Entries.length ≤ 60
  made : Made b vs
  xlen : xs.length = m.Entries.length
  xval : ∀ x ∈ xs, 0 ≤ x ∧ x ≤ 1000000
section
variable {b : Bldg} {m : Img} {vs : List View} {xs : List Int} (h : Plan22 b m vs xs)
include h
theorem Plan22.vlen : (vs.length : Int) = (b.Cars.length : Int) := by have := h.made.len; omega
theorem Plan22.planV_eq : planV b m xs vs = (planR b vs m.Entries xs, planN b vs m.Entries xs, 0, ()) := by
  unfold planV
  have h1 : (xs.length : Int) == (m.Entries.length : Int) := by rw [h.xlen]; simp
  have h2 : (vs.length : Int) == (b.Cars.length : Int) := by rw [h.vlen]; simp
  have h3 : expOK xs = true := List.all_eq_true.2 fun x hx => n3'.2 (h.xval x hx)
  rw [Img.ok_iff.2 h.img, h1, h2, h3]; rfl
theorem Plan22.ent {i : Nat} (hi : i < m.Entries.length) : nu' b (m.Entries.getD i noE).Floor (m.Entries.getD i noE).Dir = true ∧ (-2 ≤ (m.Entries.getD i noE).Car ∧ (m.Entries.getD i noE).Car < (vs.length : Int)) ∧ 0 ≤ (m.Entries.getD i noE).Moves ∧ (m.Entries.getD i noE).Moves ≤ 255 := by
  have := ndd'.1 (h.img.en _ (nc4' noE hi))
  rw [h.vlen]; exact this
theorem Plan22.notLost {i : Int} (hi : 0 ≤ i ∧ i < vs.length) (hr : (ne' vs i).Ready = true) : (ne' vs i).Lost = false := by
  cases hl : (ne' vs i).Lost with
  | false => rfl
  | true =>
    have := h.made.lost (ne' vs i) (nc4' _ (show i.toNat < vs.length by omega)) hl
    rw [this] at hr; cases hr
theorem Plan22.car {e : Entry} (_he : -2 ≤ e.Car ∧ e.Car < (vs.length : Int)) (x : Int) :
    (0 ≤ (decV b vs e x).Car → (ne' vs (decV b vs e x).Car).Lost = false) ∧
    (0 ≤ (decV b vs e x).Car → (decV b vs e x).Car ≠ e.Car → (ne' vs (decV b vs e x).Car).Ready = true) ∧
    (e.Car = -2 → (decV b vs e x).Car = -2) ∧
    ((decV b vs e x).Car = -1 → (e.Car = -1 → nc5' vs = 0) ∧ (0 ≤ e.Car → nc5' vs ≤ 1)) := by
  have key : ∀ n except : Int, n = nbk' b vs e.Floor e.Dir except → (0 ≤ n → (ne' vs n).Lost = false) ∧ (0 ≤ n → (ne' vs n).Ready = true) ∧ (n = -1 → (∀ j : Nat, j < vs.length → (ne' vs j).Ready = true → (j : Int) = except)) ∧ n ≠ -2 := fun n except hn => by
    rcases nlk' h.code h.vlen e.Floor e.Dir except with ⟨h1, h2⟩ | ⟨h1, h2, h3, _⟩
    · rw [← hn] at h1
      exact ⟨fun _ => by omega, fun _ => by omega, fun _ => h2, by omega⟩
    · rw [← hn] at h1 h2 h3
      exact ⟨fun _ => h.notLost ⟨h1, h2⟩ h3, fun _ => h3, fun _ => by omega, by omega⟩
  unfold decV
  by_cases g1 : e.Car = -2
  · rw [show (e.Car == -2) = true by rw [g1]; rfl, cond_true]
    exact ⟨fun _ => by omega, fun _ hh => absurd rfl hh, fun _ => g1, fun _ => by omega⟩
  rw [beq_f g1, cond_false]
  by_cases g2 : e.Car = -1
  · rw [show (e.Car == -1) = true by rw [g2]; rfl, cond_true]
    obtain ⟨k1, k2, k3, k4⟩ := key _ (-1) rfl
    refine ⟨k1, fun hh _ => k2 hh, fun hh => absurd hh g1, fun hh => ⟨fun _ => nki' fun j hj => ?_, fun _ => by omega⟩⟩
    cases hr : (ne' vs j).Ready with
    | false => rfl
    | true => have := k3 hh j hj hr; omega
  rw [beq_f g2, cond_false]
  cases hlost : (ne' vs e.Car).Lost with
  | true =>
    rw [cond_true]
    cases decide ((b.Cars.length : Int) < e.Moves) with
    | true => exact ⟨fun hh => absurd hh (by show ¬ (0 : Int) ≤ -2; omega), fun hh => absurd hh (by show ¬ (0 : Int) ≤ -2; omega), fun hh => absurd hh g1, fun hh => absurd hh (by show ¬ (-2 : Int) = -1; omega)⟩
    | false =>
      obtain ⟨k1, k2, k3, k4⟩ := key _ e.Car rfl
      exact ⟨k1, fun hh _ => k2 hh, fun hh => absurd hh g1, fun hh => ⟨fun hh' => absurd hh' g2, fun _ => nta' 0 e.Car fun j hj hr => by have := k3 hh j hj hr; omega⟩⟩
  | false =>
    rw [cond_false]
    have self : (0 ≤ e.Car → (ne' vs e.Car).Lost = false) ∧ (0 ≤ e.Car → e.Car ≠ e.Car → (ne' vs e.Car).Ready = true) ∧ (e.Car = -2 → e.Car = -2) ∧ (e.Car = -1 → (e.Car = -1 → nc5' vs = 0) ∧ (0 ≤ e.Car → nc5' vs ≤ 1)) :=
      ⟨fun _ => hlost, fun _ hh => absurd rfl hh, fun hh => hh, fun hh => absurd hh g2⟩
    cases (!e.Moved && decide (e.Moves ≤ (b.Cars.length : Int))) with
    | false => exact self
    | true =>
      rw [cond_true]
      cases ho : ndu' b vs e x != -1 with
      | false => exact self
      | true =>
        have hne : ndu' b vs e x ≠ -1 := by simpa using ho
        have heq : ndu' b vs e x = nbk' b vs e.Floor e.Dir e.Car := by
          unfold ndu' at hne ⊢
          cases hc : nbk' b vs e.Floor e.Dir e.Car == -1 with
          | true => rw [hc] at hne; exact absurd rfl hne
          | false =>
            rw [hc] at hne
            cases hbt : nmm' b vs e x (nbk' b vs e.Floor e.Dir e.Car) with
            | true => rfl
            | false => rw [hbt] at hne; exact absurd rfl hne
        obtain ⟨k1, k2, k3, k4⟩ := key _ e.Car heq
        exact ⟨k1, fun hh _ => k2 hh, fun hh => absurd hh g1, fun hh => absurd hh hne⟩
end
end Go.Ovl
namespace Go.Ovl
open Go Go.Ab
set_option maxRecDepth 100000
theorem n3t' : nhb' = some ((true, ()), ()) := by kernel_rfl
theorem nvo' {X Y : Type} {step : X → Option (Sum X Y)} (N : Nat) (g : Nat → X) (y : Y) (h1 : ∀ i, i < N → step (g i) = some (.inl (g (i + 1)))) (h2 : step (g N) = some (.inr y)) : ∀ m i : Nat, i + m = N → iter step (m + 1) (g i) = some y
  | 0, i, hi => by
    obtain rfl : i = N := by omega
    exact nr' h2
  | m + 1, i, hi => (ny' (h1 i (by omega))).trans (nvo' N g y h1 h2 m (i + 1) (by omega))
theorem n5u' (F D : Int) : ∃ c : Int × Int, nh6' F D = some (((), ()), ((c.1, c.2, ()), ())) := ⟨oneC F D, ny7' F D⟩
def setV (vs : List View) (i : Nat) (c : Int × Int) : List View := vs.set i (View.mk (vs.getD i noV).Ready (vs.getD i noV).Serving (vs.getD i noV).Legacy (vs.getD i noV).Lost (vs.getD i noV).Floor (vs.getD i noV).Dir (vs.getD i noV).Load c.1 c.2 (vs.getD i noV).Stops_Car (vs.getD i noV).Stops_Hall_Up (vs.getD i noV).Stops_Hall_Down)
theorem npv' (vs : List View) (i : Nat) (c : Int × Int) : (setV vs i c).length = vs.length := List.length_set ..
theorem n1l' {b : Bldg} {vs : List View} (h : Made b vs) {i : Nat} (hi : i < vs.length) (c : Int × Int) : Made b (setV vs i c) := by
  have hm := nc4' noV hi
  refine ⟨by rw [npv']; exact h.len, fun v hv => ?_, fun v hv hl => ?_, fun v hv => ?_⟩
  · rcases nit' hv with rfl | hv
    · obtain ⟨q1, q2, q3⟩ := h.ok _ hm
      exact ⟨q1, q2, q3⟩
    · exact h.ok v hv
  · rcases nit' hv with rfl | hv
    · exact h.lost (vs.getD i noV) hm hl
    · exact h.lost v hv hl
  · rcases nit' hv with rfl | hv
    · exact h.flo (vs.getD i noV) hm
    · exact h.flo v hv
theorem nso' {b : Bldg} (hb : b.small) (hc : b.Cars.length ≤ 8) {l : List Int} (hl : ∀ e ∈ l, u8r e) (hlen : l.length ≤ maxLen) :
    ∃ vs : List View, nge' b.Floors b.Debounce b.Room b.Park b.Empty b.Full b.Over b.Cars l = some ((vs, ()), ()) ∧ Made b vs := by
  have lo := hb.lo
  have hi8 := hb.hi
  obtain ⟨v0, hV, hM⟩ := nr6' hb hc hl hlen
  have h := nmx' (step := fun x => ncg' x.1.1 x.1.2.2.1 x.1.2.2.2.1 x.2.1.1 x.2.1.2.1 x.2.1.2.2.1 x.2.1.2.2.2.1 x.2.1.2.2.2.2.1 x.2.1.2.2.2.2.2.1 x.2.1.2.2.2.2.2.2.1 x.2.1.2.2.2.2.2.2.2.1) (fun x => ∃ (i : Nat) (v : List View), x = ((l, (), v, (i : Int), ()), (b.tup, ())) ∧ i ≤ v.length ∧ Made b v) (fun y => ∃ v : List View, y = ((v, ()), ()) ∧ Made b v) (fun x => (x.1.2.2.1.length : Int).toNat - x.1.2.2.2.1.toNat) (by
    rintro x ⟨i, v, rfl, hi, hm⟩
    have hvl := hm.len
    by_cases g : i < v.length
    · by_cases g2 : i < l.length
      · have he := hl _ (nc4' 0 g2)
        unfold u8r at he
        have hw := wrap1 g (show v.length ≤ nb8' by unfold nb8'; omega)
        cases hz : Int.tmod (l.getD i 0) 3 == 0 with
        | true =>
          obtain ⟨c, ho⟩ := n5u' (Int.tmod (IntKind.i64.wrap (Int.tdiv (IntKind.i64.wrap (l.getD i 0)) 3)) b.Floors) (IntKind.i64.wrap (1 + IntKind.i64.wrap (Int.tmod (IntKind.u8.wrap (Int.tdiv (l.getD i 0) 64)) 2)))
          refine .inl ⟨((l, (), setV v i c, ((i + 1 : Nat) : Int), ()), (b.tup, ())), ?_, ⟨i + 1, _, rfl, by rw [npv']; omega, n1l' hm g c⟩, ?_⟩
          · show ncg' l v (i : Int) b.Floors b.Debounce b.Room b.Park b.Empty b.Full b.Over b.Cars = _
            unfold ncg'
            rw [show View.mk false false false false 0 0 0 0 0 0 0 0 = noV from rfl]
            simp only [decide_eq_true (show (i : Int) < (v.length : Int) by omega), decide_eq_true (show (i : Int) < (l.length : Int) by omega), nc' (show (0 : Int) ≤ (i : Int) by omega) (show (i : Int) < (l.length : Int) by omega), nc' (show (0 : Int) ≤ (i : Int) by omega) (show (i : Int) < (v.length : Int) by omega), cond_true, Int.toNat_natCast, hz, bne_t (show ¬ b.Floors = 0 by omega), ho, Option.bind_some, hw]
            rfl
          · show ((setV v i c).length : Int).toNat - ((i + 1 : Nat) : Int).toNat < (v.length : Int).toNat - (i : Int).toNat
            rw [npv']; omega
        | false =>
          refine .inl ⟨((l, (), v, ((i + 1 : Nat) : Int), ()), (b.tup, ())), ?_, ⟨i + 1, v, rfl, by omega, hm⟩, ?_⟩
          · show ncg' l v (i : Int) b.Floors b.Debounce b.Room b.Park b.Empty b.Full b.Over b.Cars = _
            unfold ncg'
            simp only [decide_eq_true (show (i : Int) < (v.length : Int) by omega), decide_eq_true (show (i : Int) < (l.length : Int) by omega), nc' (show (0 : Int) ≤ (i : Int) by omega) (show (i : Int) < (l.length : Int) by omega), cond_true, cond_false, Int.toNat_natCast, hz, hw]
            rfl
          · show (v.length : Int).toNat - ((i + 1 : Nat) : Int).toNat < (v.length : Int).toNat - (i : Int).toNat
            omega
      · refine .inr ⟨_, ?_, v, rfl, hm⟩
        show ncg' l v (i : Int) b.Floors b.Debounce b.Room b.Park b.Empty b.Full b.Over b.Cars = _
        unfold ncg'
        simp only [decide_eq_true (show (i : Int) < (v.length : Int) by omega), decide_eq_false (show ¬ (i : Int) < (l.length : Int) by omega), cond_true, cond_false]
    · refine .inr ⟨_, ?_, v, rfl, hm⟩
      show ncg' l v (i : Int) b.Floors b.Debounce b.Room b.Park b.Empty b.Full b.Over b.Cars = _
      unfold ncg'
      simp only [decide_eq_false (show ¬ (i : Int) < (v.length : Int) by omega), cond_false]) (x := ((l, (), v0, (0 : Int), ()), (b.tup, ()))) ⟨0, v0, rfl, by omega, hM⟩ (by
      show (v0.length : Int).toNat - (0 : Int).toNat < _
      have := hM.len
      omega)
  obtain ⟨y, h1, v, rfl, hm⟩ := h
  refine ⟨v, ?_, hm⟩
  unfold nge'
  rw [hV]
  simp only [Option.bind_some]
  rw [show nhn' ((l, (), v0, (0 : Int), ()), ((b.Floors, b.Debounce, b.Room, b.Park, b.Empty, b.Full, b.Over, b.Cars, ()), ())) = _ from h1]
  rfl
theorem np3' (m : Img) (hml : m.Entries.length ≤ 1000) {l : List Int} (hl : ∀ e ∈ l, u8r e) :
    ∃ xs : List Int, nep' m.Phases m.Flags m.Leaving m.Entries l = some ((xs, ()), ()) ∧ xs.length = m.Entries.length ∧ ∀ x ∈ xs, 0 ≤ x ∧ x ≤ 4 := by
  have h := nmx' (step := fun x => ncj' x.1.1 x.1.2.1 x.1.2.2.1) (fun x => ∃ (i : Nat) (v : List Int), x = ((l, v, (i : Int), ()), ()) ∧ i ≤ v.length ∧ v.length = m.Entries.length ∧ ∀ x ∈ v, 0 ≤ x ∧ x ≤ 4) (fun y => ∃ v : List Int, y = ((v, ()), ()) ∧ v.length = m.Entries.length ∧ ∀ x ∈ v, 0 ≤ x ∧ x ≤ 4) (fun x => (x.1.2.1.length : Int).toNat - x.1.2.2.1.toNat) (by
    rintro x ⟨i, v, rfl, hi, hvl, hm⟩
    by_cases g : i < v.length
    · by_cases g2 : i < l.length
      · have he := hl _ (nc4' 0 g2)
        unfold u8r at he
        have hw := wrap1 g (show v.length ≤ nb8' by unfold nb8'; omega)
        have h5 : 0 ≤ Int.tmod (l.getD i 0) 5 ∧ Int.tmod (l.getD i 0) 5 ≤ 4 := by
          have h1 := Int.tmod_nonneg 5 he.1
          have h2 := Int.tmod_lt_of_pos (l.getD i 0) (show (0 : Int) < 5 by omega)
          omega
        refine .inl ⟨((l, v.set i (Int.tmod (l.getD i 0) 5), ((i + 1 : Nat) : Int), ()), ()), ?_, ⟨i + 1, _, rfl, by rw [List.length_set]; omega, by rw [List.length_set]; exact hvl, fun x hx => ?_⟩, ?_⟩
        · show ncj' l v (i : Int) = _
          unfold ncj'
          simp only [decide_eq_true (show (i : Int) < (v.length : Int) by omega), decide_eq_true (show (i : Int) < (l.length : Int) by omega), nc' (show (0 : Int) ≤ (i : Int) by omega) (show (i : Int) < (l.length : Int) by omega), nc' (show (0 : Int) ≤ (i : Int) by omega) (show (i : Int) < (v.length : Int) by omega), cond_true, Int.toNat_natCast, hw, nb' (n := Int.tmod (l.getD i 0) 5) (by omega) (by omega)]
        · rcases nit' hx with rfl | hx
          · exact h5
          · exact hm x hx
        · show ((v.set i _).length : Int).toNat - ((i + 1 : Nat) : Int).toNat < (v.length : Int).toNat - (i : Int).toNat
          rw [List.length_set]; omega
      · refine .inr ⟨_, ?_, v, rfl, hvl, hm⟩
        show ncj' l v (i : Int) = _
        unfold ncj'
        simp only [decide_eq_true (show (i : Int) < (v.length : Int) by omega), decide_eq_false (show ¬ (i : Int) < (l.length : Int) by omega), cond_true, cond_false]
    · refine .inr ⟨_, ?_, v, rfl, hvl, hm⟩
      show ncj' l v (i : Int) = _
      unfold ncj'
      simp only [decide_eq_false (show ¬ (i : Int) < (v.length : Int) by omega), cond_false]) (x := ((l, List.replicate m.Entries.length 0, (0 : Int), ()), ())) ⟨0, _, rfl, Nat.zero_le _, List.length_replicate, fun x hx => by rw [List.eq_of_mem_replicate hx]; omega⟩ (by
      show ((List.replicate m.Entries.length (0 : Int)).length : Int).toNat - (0 : Int).toNat < _
      rw [List.length_replicate]; omega)
  obtain ⟨y, h1, v, rfl, hvl, hm⟩ := h
  refine ⟨v, ?_, hvl, hm⟩
  unfold nep'
  simp only [decide_eq_true (show (0 : Int) ≤ (m.Entries.length : Int) by omega), decide_eq_true (Int.le_refl (m.Entries.length : Int)), decide_eq_true (show (m.Entries.length : Int) ≤ 2147483648 by omega), Int.toNat_natCast, Bool.and_self, cond_true]
  rw [show ngn' ((l, List.replicate m.Entries.length (0 : Int), (0 : Int), ()), ()) = _ from h1]
  rfl
theorem n44' {n0 n1 : Int} (h0 : 0 ≤ n0 ∧ n0 < 256) (h1 : 0 ≤ n1 ∧ n1 < 256) {l k : List Int} (h_l : l.length ≤ maxLen ∧ ∀ e ∈ l, (0 ≤ e ∧ e < 256)) (h_k : k.length ≤ maxLen ∧ ∀ e ∈ k, (0 ≤ e ∧ e < 256)) :
    ∃ (b : Bldg) (m : Img) (vs : List View) (xs : List Int), ncs' n0 n1 = some (((), ()), (b.tup, ())) ∧ ngg' b.Floors b.Debounce b.Room b.Park b.Empty b.Full b.Over b.Cars l = some (((), ()), (m.tup, ())) ∧ nge' b.Floors b.Debounce b.Room b.Park b.Empty b.Full b.Over b.Cars k = some ((vs, ()), ()) ∧ nep' m.Phases m.Flags m.Leaving m.Entries k = some ((xs, ()), ()) ∧ Plan22 b m vs xs := by
  obtain ⟨fl, ca, f1, f2, c1, c2, hB⟩ := no6' h0 (room := n1) (by omega)
  have hs : (bld10 fl ca n1).small := ⟨by show (2 : Int) ≤ (fl : Int); omega, by show (fl : Int) ≤ 8; omega⟩
  have hc : (bld10 fl ca n1).Cars.length = ca := by simp [bld10, nbn']
  have hcode : (bld10 fl ca n1).code = 0 := nyy' f1 f2 c1 c2 (by omega)
  obtain ⟨m, hI, hm, hml⟩ := nsb' hs hcode (by omega) h_l.2
  obtain ⟨vs, hV, hM⟩ := nso' hs (by omega) h_k.2 h_k.1
  have hme := ndo' hs hm
  obtain ⟨xs, hX, hxl, hxs⟩ := np3' m (by omega) h_k.2
  refine ⟨bld10 fl ca n1, m, vs, xs, hB, hI, hV, hX, ⟨hs, hcode, by omega, hm, by omega, hM, hxl, fun x hx => ?_⟩⟩
  have := hxs x hx
  omega
theorem Plan22.exp {b : Bldg} {m : Img} {vs : List View} {xs : List Int} (h : Plan22 b m vs xs) : expOK xs = true := List.all_eq_true.2 fun x hx => n3'.2 (h.xval x hx)
theorem Plan22.tick {b : Bldg} {m : Img} {vs : List View} {xs : List Int} (h : Plan22 b m vs xs) {ps : List Calls} (hp : ps.length = b.Cars.length) (press : Int × Int) (good : Bool) : nbx' b.Floors b.Debounce b.Room b.Park b.Empty b.Full b.Over b.Cars m.Phases m.Flags m.Leaving m.Entries xs vs ps press.1 press.2 good = some (((), 0, ()), ((tickV b m xs vs ps press good).tup, ())) :=
  nqf' h.small h.code h.img h.xlen ps press good h.exp h.made.ok h.made.len hp
end Go.Ovl
namespace Go.Ovl
open Go Go.Ab
set_option maxRecDepth 100000
section
variable {b : Bldg} (hb : b.small) (hcode : b.code = 0)
include hb hcode
end
structure Rnd.from (b : Bldg) (m : Img) (X : Rnd) : Prop where
  val : ∀ r ∈ X.recs, n8' b r = true
  img : X.img = ncz' m X.recs
theorem n4q' {E : List Entry} {xs : List Int} {r : Record} {x : Int} (h : x ∈ xsV E xs r) : x ∈ xs ∨ x = 0 := by
  unfold xsV at h
  cases hc : (r.Kind == 2) && hasF (keyE r.Floor r.Dir) E with
  | true =>
    rw [hc] at h
    rcases List.mem_append.1 h with h | h
    · exact .inl (List.mem_of_mem_take h)
    · exact .inl (List.mem_of_mem_drop h)
  | false =>
    rw [hc] at h
    simp only [cond_false] at h
    cases hd : (r.Kind == 1) && !hasF (keyE r.Floor r.Dir) E with
    | true =>
      rw [hd] at h
      rcases List.mem_append.1 h with h | h
      · rcases List.mem_append.1 h with h | h
        · exact .inl (List.mem_of_mem_take h)
        · exact .inr (List.mem_singleton.1 h)
      · exact .inl (List.mem_of_mem_drop h)
    | false => rw [hd] at h; exact .inl h
def nhk' (xs : List Int) : Prop := ∀ x ∈ xs, 0 ≤ x ∧ x ≤ 1000000
theorem nvx' {E : List Entry} {xs : List Int} (h : nhk' xs) (r : Record) : nhk' (xsV E xs r) := fun x hx => by
  rcases n4q' hx with hx | rfl
  · exact h x hx
  · omega
theorem nuq' : ∀ {l : List Record} {m : Img} {xs : List Int}, nhk' xs → nhk' (xsL m xs l)
  | [], _, _, h => h
  | r :: t, m, xs, h => by
    show nhk' (xsL (nbj' m r) (xsV m.Entries xs r) t)
    exact nuq' (nvx' h r)
theorem nt1' (b : Bldg) : ∀ {l : List Entry} {X : Rnd}, nhk' X.xs → nhk' (regL b l X).xs
  | [], _, h => h
  | e :: t, X, h => by
    show nhk' (regL b t (stepG b e X)).xs
    refine nt1' b ?_
    unfold stepG
    cases roomV b X.img with
    | true => exact nvx' h (regR e)
    | false => exact h
section
variable {b : Bldg} {m : Img} {vs : List View} {xs : List Int} (h : Plan22 b m vs xs) (ps : List Calls) (press : Int × Int) (good : Bool)
include h
theorem ny0' : nhk' (tickX b m xs vs ps press good).xs := by
  have h0 : nhk' xs := h.xval
  unfold tickX
  cases good with
  | false => exact h0
  | true => exact nt1' b (nuq' h0)
theorem nn3' : Plan22 b (tickX b m xs vs ps press good).img vs (tickX b m xs vs ps press good).xs := by
  obtain ⟨hok, _⟩ := nln' h.small h.code h.img h.xlen (vs := vs) ps press good
  have he := ndo' h.small hok.img
  exact ⟨h.small, h.code, h.cars, hok.img, by omega, h.made, hok.len, ny0' h ps press good⟩
theorem n3s' : ImgOK b (tickV b m xs vs ps press good).img ∧ (tickV b m xs vs ps press good).xs.length = (tickV b m xs vs ps press good).img.Entries.length ∧ (tickV b m xs vs ps press good).recs.length ≤ 1000 := by
  have hn := nn3' h ps press good
  obtain ⟨hok, hrl⟩ := nln' h.small h.code h.img h.xlen (vs := vs) ps press good
  have he := ndo' h.small hok.img
  have hp := nke' (b := b) (by have := h.cars; omega) hn.vlen (tickX b m xs vs ps press good).img.Entries (tickX b m xs vs ps press good).xs [] (tickX b m xs vs ps press good).img hok.len hok.img rfl
  have e1 : tickP b m xs vs ps press good = (planR b vs (tickX b m xs vs ps press good).img.Entries (tickX b m xs vs ps press good).xs, planN b vs (tickX b m xs vs ps press good).img.Entries (tickX b m xs vs ps press good).xs, 0, ()) := hn.planV_eq
  have hpl := noc' b vs (tickX b m xs vs ps press good).img.Entries (tickX b m xs vs ps press good).xs
  have e2 : (tickV b m xs vs ps press good).img = ncz' (tickX b m xs vs ps press good).img (tickP b m xs vs ps press good).1 := rfl
  have e3 : (tickV b m xs vs ps press good).xs = (tickP b m xs vs ps press good).2.1 := rfl
  have e4 : (tickV b m xs vs ps press good).recs = (tickX b m xs vs ps press good).recs ++ (tickP b m xs vs ps press good).1 := rfl
  rw [e2, e3, e4, e1]
  simp only
  rw [hp.1]
  refine ⟨hp.2.2, ?_, by rw [List.length_append]; omega⟩
  rw [not' b vs _ _ hok.len]
  show _ = (decL b vs (tickX b m xs vs ps press good).img.Entries (tickX b m xs vs ps press good).xs).length
  rw [np4' b vs _ _ hok.len]
end
end Go.Ovl
namespace Go.Ovl
open Go Go.Ab
set_option maxRecDepth 100000
theorem nqw' (m : Img) {r : Record} (h : r.Kind ≠ 4 ∧ r.Kind ≠ 5 ∧ r.Kind ≠ 6) : (nbj' m r).Phases = m.Phases ∧ (nbj' m r).Flags = m.Flags ∧ (nbj' m r).Leaving = m.Leaving := by
  unfold nbj'
  rw [beq_f h.1, beq_f h.2.1, beq_f h.2.2]
  simp only [cond_false]
  cases findF r.Floor r.Dir m.Entries 0 == -1 <;> cases r.Kind == 1 <;> cases r.Kind == 2 <;> cases r.Kind == 3 <;> cases r.Kind == 7 <;> exact ⟨rfl, rfl, rfl⟩
theorem nzi' {m : Img} {r : Record} (h : r.Kind = 2) {e : Entry} (he : e ∈ (nbj' m r).Entries) : e ∈ m.Entries := by
  unfold nbj' at he
  rw [h] at he
  simp only [show ((2 : Int) == 4) = false from rfl, show ((2 : Int) == 5) = false from rfl, show ((2 : Int) == 6) = false from rfl, show ((2 : Int) == 1) = false from rfl, cond_false, beq_self_eq_true, cond_true] at he
  revert he
  cases findF r.Floor r.Dir m.Entries 0 == -1 with
  | true => exact fun he => he
  | false =>
    intro he
    rcases List.mem_append.1 he with h | h
    · exact List.mem_of_mem_take h
    · exact List.mem_of_mem_drop h
def newE (F D : Int) : Entry := ⟨F, D, -1, 0, false⟩
theorem nyx' {m : Img} {r : Record} (h : r.Kind = 1) {e : Entry} (he : e ∈ (nbj' m r).Entries) : e ∈ m.Entries ∨ e = newE r.Floor r.Dir := by
  unfold nbj' at he
  rw [h] at he
  simp only [show ((1 : Int) == 4) = false from rfl, show ((1 : Int) == 5) = false from rfl, show ((1 : Int) == 6) = false from rfl, show ((1 : Int) == 2) = false from rfl, show ((1 : Int) == 3) = false from rfl, show ((1 : Int) == 7) = false from rfl, cond_false, beq_self_eq_true, cond_true] at he
  revert he
  cases findF r.Floor r.Dir m.Entries 0 == -1 with
  | false => exact fun he => .inl he
  | true =>
    intro he
    rcases nne' he with h | h
    · exact .inr h
    · exact .inl h
structure Rnd.prov (m : Img) (X : Rnd) : Prop where
  ent : ∀ e ∈ X.img.Entries, e ∈ m.Entries ∨ ((∀ e0 ∈ m.Entries, ¬(e0.Floor = e.Floor ∧ e0.Dir = e.Dir)) ∧ e = newE e.Floor e.Dir)
  ph : X.img.Phases = m.Phases
  fl : X.img.Flags = m.Flags
  lv : X.img.Leaving = m.Leaving
theorem nsy' {m : Img} : ∀ {l : List Record} {X : Rnd}, X.prov m → (∀ r ∈ l, r.Kind = 2) → (wrL l X).prov m
  | [], X, h, _ => by
    unfold wrL
    exact ⟨h.ent, h.ph, h.fl, h.lv⟩
  | r :: t, X, h, hk => by
    rw [nnj']
    have hr := hk r (List.mem_cons_self ..)
    obtain ⟨a1, a2, a3⟩ := nqw' X.img (r := r) (by omega)
    refine nsy' ⟨fun e he => h.ent e (nzi' hr he), ?_, ?_, ?_⟩ fun x hx => hk x (List.mem_cons_of_mem _ hx)
    · exact a1.trans h.ph
    · exact a2.trans h.fl
    · exact a3.trans h.lv
theorem nyl' {b : Bldg} {m : Img} {X : Rnd} (h : X.prov m) {e : Entry} (hn : ∀ e0 ∈ m.Entries, ¬(e0.Floor = e.Floor ∧ e0.Dir = e.Dir)) : (stepG b e X).prov m := by
  unfold stepG
  cases roomV b X.img with
  | false => exact ⟨h.ent, h.ph, h.fl, h.lv⟩
  | true =>
    obtain ⟨a1, a2, a3⟩ := nqw' X.img (r := regR e) ⟨by show (1 : Int) ≠ 4; omega, by show (1 : Int) ≠ 5; omega, by show (1 : Int) ≠ 6; omega⟩
    refine ⟨fun x hx => ?_, a1.trans h.ph, a2.trans h.fl, a3.trans h.lv⟩
    rcases nyx' (r := regR e) rfl hx with hx | rfl
    · exact h.ent x hx
    · exact .inr ⟨hn, rfl⟩
theorem nto' {b : Bldg} {m : Img} : ∀ {l : List Entry} {X : Rnd}, X.prov m → (∀ e ∈ l, ∀ e0 ∈ m.Entries, ¬(e0.Floor = e.Floor ∧ e0.Dir = e.Dir)) → (regL b l X).prov m
  | [], _, h, _ => h
  | e :: t, X, h, hn => by
    show (regL b t (stepG b e X)).prov m
    exact nto' (nyl' h (hn e (List.mem_cons_self ..))) fun x hx => hn x (List.mem_cons_of_mem _ hx)
theorem n17' {b : Bldg} (hb : b.small) {m : Img} (hm : ImgOK b m) {press : Int × Int} {e : Entry} (h : e ∈ listC (nmn' b m press)) : ∀ e0 ∈ m.Entries, ¬(e0.Floor = e.Floor ∧ e0.Dir = e.Dir) := fun e0 h0 he => by
  obtain ⟨h1, h2, h3⟩ := ntn' h
  unfold nmn' at h3
  rw [nqz' _ _ (by omega), Bool.and_eq_true, Bool.not_eq_true'] at h3
  have hc : ∀ e ∈ m.Entries, callE e := fun e he => nwj' hb (ndd'.1 (hm.en e he)).1
  have := (nxx' (c := (0, 0)) hc e.Floor.toNat h2).2 (.inr (List.mem_map.2 ⟨e0, h0, by
    show (e0.Floor, e0.Dir) = _
    rw [he.1, he.2, Int.toNat_of_nonneg h1.1]⟩))
  rw [this] at h3
  cases h3.2
theorem nzp' {b : Bldg} {m : Img} {vs : List View} {xs : List Int} (h : Plan22 b m vs xs) (ps : List Calls) (press : Int × Int) (good : Bool) : (tickX b m xs vs ps press good).prov m := by
  have h0 : ∀ L : Lan, Rnd.prov m ⟨[], m, xs, L, (0, 0)⟩ := fun L => ⟨fun e he => .inl he, rfl, rfl, rfl⟩
  unfold tickX
  cases good with
  | false => exact h0 _
  | true =>
    have hv := nl6' h.code vs (l := m.Entries) fun e he => (ndd'.1 (h.img.en e he)).1
    exact nto' (nsy' (h0 _) fun r hr => (hv r hr).2) fun e he => n17' h.small h.img he
theorem nz5' {b : Bldg} {m : Img} {vs : List View} {xs : List Int} (h : Plan22 b m vs xs) (ps : List Calls) (press : Int × Int) (good : Bool) : (tickV b m xs vs ps press good).img = (tickX b m xs vs ps press good).img.put (decL b vs (tickX b m xs vs ps press good).img.Entries (tickX b m xs vs ps press good).xs) := by
  have hn := nn3' h ps press good
  obtain ⟨hok, _⟩ := nln' h.small h.code h.img h.xlen (vs := vs) ps press good
  have hp := nke' (b := b) (by have := h.cars; omega) hn.vlen (tickX b m xs vs ps press good).img.Entries (tickX b m xs vs ps press good).xs [] (tickX b m xs vs ps press good).img hok.len hok.img rfl
  have e1 : tickP b m xs vs ps press good = (planR b vs (tickX b m xs vs ps press good).img.Entries (tickX b m xs vs ps press good).xs, planN b vs (tickX b m xs vs ps press good).img.Entries (tickX b m xs vs ps press good).xs, 0, ()) := hn.planV_eq
  have e2 : (tickV b m xs vs ps press good).img = ncz' (tickX b m xs vs ps press good).img (tickP b m xs vs ps press good).1 := rfl
  rw [e2, e1]
  exact hp.1
theorem n07' {b : Bldg} {m : Img} {vs : List View} {xs : List Int} (h : Plan22 b m vs xs) {e : Entry} (x : Int) (hc : (decV b vs e x).Car = e.Car) : (decV b vs e x).Moves = e.Moves ∧ (decV b vs e x).Moved = e.Moved := by
  unfold decV at hc ⊢
  by_cases g1 : e.Car = -2
  · rw [show (e.Car == -2) = true by rw [g1]; rfl]; exact ⟨rfl, rfl⟩
  rw [beq_f g1] at hc ⊢
  by_cases g2 : e.Car = -1
  · rw [show (e.Car == -1) = true by rw [g2]; rfl]; exact ⟨rfl, rfl⟩
  rw [beq_f g2] at hc ⊢
  simp only [cond_false] at hc ⊢
  have hch : nbk' b vs e.Floor e.Dir e.Car ≠ e.Car := by
    rcases nlk' h.code h.vlen e.Floor e.Dir e.Car with ⟨h1, _⟩ | ⟨_, _, _, h4⟩
    · omega
    · exact h4
  cases hl : (ne' vs e.Car).Lost with
  | true =>
    rw [hl] at hc
    simp only [cond_true] at hc
    cases hd : decide ((b.Cars.length : Int) < e.Moves) with
    | true => rw [hd] at hc; exact absurd (show (-2 : Int) = e.Car from hc) (by omega)
    | false => rw [hd] at hc; exact absurd (show nbk' b vs e.Floor e.Dir e.Car = e.Car from hc) hch
  | false =>
    rw [hl] at hc
    simp only [cond_false] at hc ⊢
    cases hm : (!e.Moved && decide (e.Moves ≤ (b.Cars.length : Int))) with
    | false => exact ⟨rfl, rfl⟩
    | true =>
      rw [hm] at hc
      simp only [cond_true] at hc ⊢
      cases ho : ndu' b vs e x != -1 with
      | false => exact ⟨rfl, rfl⟩
      | true =>
        rw [ho] at hc
        have ho' : ndu' b vs e x = e.Car := hc
        exfalso
        unfold ndu' at ho'
        revert ho'
        cases nbk' b vs e.Floor e.Dir e.Car == -1 <;> cases nmm' b vs e x (nbk' b vs e.Floor e.Dir e.Car) <;> simp only [cond_true, cond_false] <;> intro ho' <;> first | omega | exact hch ho'
theorem ntb' : ∀ {vs : List View} (j : Nat), j < vs.length → (ne' vs (j : Int)).Ready = true → nc5' vs ≠ 0
  | [], j, hj, _ => by simp at hj
  | v :: t, 0, _, hr => by
    have h0 : v.Ready = true := hr
    unfold nc5'
    rw [List.countP_cons_of_pos (by rw [h0])]
    omega
  | v :: t, j + 1, hj, hr => by
    have ht := ntb' (vs := t) j (by simpa using hj) (by
      unfold ne' at hr ⊢
      rw [Int.toNat_natCast] at hr ⊢
      exact hr)
    unfold nc5' at ht ⊢
    rw [List.countP_cons]
    omega
theorem n3b' {b : Bldg} {m : Img} {vs : List View} {xs : List Int} (h : Plan22 b m vs xs) (F D x : Int) : (decV b vs (newE F D) x).Moves = 0 ∧ (decV b vs (newE F D) x).Moved = false ∧ ((decV b vs (newE F D) x).Car == -1) = ((nc5' vs : Int) == 0) := by
  refine ⟨rfl, rfl, ?_⟩
  have e : (decV b vs (newE F D) x).Car = nbk' b vs F D (-1) := rfl
  rw [e]
  rcases nlk' h.code h.vlen F D (-1) with ⟨h1, h2⟩ | ⟨h1, h2, h3, _⟩
  · have : nc5' vs = 0 := nki' fun j hj => by
      cases hr : (ne' vs j).Ready with
      | false => rfl
      | true => have := h2 j hj hr; omega
    rw [h1, this]; rfl
  · have hp := ntb' (vs := vs) (nbk' b vs F D (-1)).toNat (by omega) (by rw [Int.toNat_of_nonneg h1]; exact h3)
    rw [beq_f (show ¬ nbk' b vs F D (-1) = -1 by omega), beq_f (show ¬ (nc5' vs : Int) = 0 by omega)]
theorem n3y' {m : Img} (hs : nbf' m.Entries) {i : Nat} (hi : i < m.Entries.length) : findF (m.Entries.getD i noE).Floor (m.Entries.getD i noE).Dir m.Entries 0 = (i : Int) := by
  have h := njy' (c := keyE (m.Entries.getD i noE).Floor (m.Entries.getD i noE).Dir) 0 hs
  rw [nx4' hs hi, niu', nr1' hs hi, Nat.zero_add] at h
  exact h
theorem n2s' {m : Img} {F D : Int} (h : ∀ e0 ∈ m.Entries, ¬(e0.Floor = F ∧ e0.Dir = D)) : findF F D m.Entries 0 = -1 := nm2' fun x hx => by
  cases hq : isC F D x with
  | false => rfl
  | true => exact absurd (n2j' hq) (h x hx)
end Go.Ovl
namespace Go.Ovl
open Go Go.Ab
set_option maxRecDepth 100000
theorem nxe' {vs : List View} (hl : vs.length ≤ 100) {m x : Img} (h1 : x.Phases = m.Phases) (h2 : x.Flags = m.Flags) (h3 : x.Leaving = m.Leaving) (k1 : m.Phases.length = vs.length) (k2 : m.Flags.length = vs.length) (k3 : m.Leaving.length = vs.length) : nct' (((), vs, (), (0 : Int), (0 : Int), ()), (m.tup, x.tup, ())) = some (.inl (((), (), (nc5' vs : Int), ()), (m.tup, x.tup, ()))) := by
  have key : ∀ (k i n : Nat), i + k = vs.length → n ≤ i → iter (fun x => nca' x.1.2.1 x.1.2.2.2.1 x.1.2.2.2.2.1 x.2.1.1 x.2.1.2.1 x.2.1.2.2.1 x.2.1.2.2.2.1 x.2.2.1.1 x.2.2.1.2.1 x.2.2.1.2.2.1 x.2.2.1.2.2.2.1) (k + 1) (((), vs, (), (n : Int), (i : Int), ()), (m.tup, x.tup, ())) = some (.inl (((), (), ((n + (vs.drop i).countP (·.Ready) : Nat) : Int), ()), (m.tup, x.tup, ()))) := by
    intro k
    induction k with
    | zero =>
      intro i n hi _
      obtain rfl : i = vs.length := by omega
      refine nr' ?_
      show nca' vs (n : Int) (vs.length : Int) m.Phases m.Flags m.Leaving m.Entries x.Phases x.Flags x.Leaving x.Entries = _
      unfold nca'
      rw [decide_eq_false (Int.lt_irrefl (vs.length : Int)), List.drop_length]
      rfl
    | succ k ih =>
      intro i n hi hn
      have hi' : i < vs.length := by omega
      have hd := nbm' noV hi'
      have hs : nca' vs (n : Int) (i : Int) m.Phases m.Flags m.Leaving m.Entries x.Phases x.Flags x.Leaving x.Entries = some (.inl (((), vs, (), ((n + (bif (vs.getD i noV).Ready then 1 else 0) : Nat) : Int), ((i + 1 : Nat) : Int), ()), (m.tup, x.tup, ()))) := by
        unfold nca'
        rw [h1, h2, h3, show View.mk false false false false 0 0 0 0 0 0 0 0 = noV from rfl]
        simp only [decide_eq_true (show (i : Int) < (vs.length : Int) by omega), nc' (show (0 : Int) ≤ (i : Int) by omega) (show (i : Int) < (m.Phases.length : Int) by omega), nc' (show (0 : Int) ≤ (i : Int) by omega) (show (i : Int) < (m.Flags.length : Int) by omega), nc' (show (0 : Int) ≤ (i : Int) by omega) (show (i : Int) < (m.Leaving.length : Int) by omega), nc' (show (0 : Int) ≤ (i : Int) by omega) (show (i : Int) < (vs.length : Int) by omega), cond_true, Int.toNat_natCast, bne_self_eq_false, cond_false, beq_self_eq_true, Bool.not_true, wrap1 hi' (show vs.length ≤ nb8' by unfold nb8'; omega), nb' (n := (n : Int) + 1) (by omega) (by omega)]
        unfold Img.tup
        rw [h1, h2, h3]
        cases (vs.getD i noV).Ready <;> rfl
      refine (ny' hs).trans ((ih (i + 1) _ (by omega) (by cases (vs.getD i noV).Ready <;> simp <;> omega)).trans ?_)
      rw [hd]
      cases hr : (vs.getD i noV).Ready with
      | true => rw [List.countP_cons_of_pos (by rw [hr]), cond_true, show n + 1 + (vs.drop (i + 1)).countP (·.Ready) = n + ((vs.drop (i + 1)).countP (·.Ready) + 1) by omega]
      | false => rw [List.countP_cons_of_neg (by rw [hr]; simp), cond_false]; rfl
  have h := key vs.length 0 0 (by omega) (by omega)
  rw [List.drop_zero, Nat.zero_add] at h
  exact nx' h (by omega)
theorem nzf' {n : Nat} (_hn : n ≤ 100) {m x : Img} (hml : m.Entries.length ≤ 1000) (hxl : x.Entries.length ≤ 1000) (hx : ∀ i, i < x.Entries.length → (findF (x.Entries.getD i noE).Floor (x.Entries.getD i noE).Dir m.Entries 0 = -1 ∧ (x.Entries.getD i noE).Moves = 0 ∧ (x.Entries.getD i noE).Moved = false ∧ ((x.Entries.getD i noE).Car == -1) = ((n : Int) == 0)) ∨ ∃ k : Nat, k < m.Entries.length ∧ findF (x.Entries.getD i noE).Floor (x.Entries.getD i noE).Dir m.Entries 0 = (k : Int) ∧ ((x.Entries.getD i noE).Car = (m.Entries.getD k noE).Car → (x.Entries.getD i noE).Moves = (m.Entries.getD k noE).Moves ∧ (x.Entries.getD i noE).Moved = (m.Entries.getD k noE).Moved)) : ncr' (((), (), (n : Int), (0 : Int), ()), (m.tup, x.tup, ())) = some (.inl ((), ())) := by
  refine nx' (nvo' (step := fun x => ncb' x.1.2.2.1 x.1.2.2.2.1 x.2.1.1 x.2.1.2.1 x.2.1.2.2.1 x.2.1.2.2.2.1 x.2.2.1.1 x.2.2.1.2.1 x.2.2.1.2.2.1 x.2.2.1.2.2.2.1) x.Entries.length (fun i => (((), (), (n : Int), (i : Int), ()), (m.tup, x.tup, ()))) (Sum.inl ((), ())) (fun i hi => ?_) ?_ x.Entries.length 0 (by omega)) (by omega)
  · show ncb' (n : Int) (i : Int) m.Phases m.Flags m.Leaving m.Entries x.Phases x.Flags x.Leaving x.Entries = _
    unfold ncb'
    rw [show Entry.mk 0 0 0 0 false = noE from rfl]
    simp only [decide_eq_true (show (i : Int) < (x.Entries.length : Int) by omega), nc' (show (0 : Int) ≤ (i : Int) by omega) (show (i : Int) < (x.Entries.length : Int) by omega), cond_true, Int.toNat_natCast]
    rw [npl' m (by omega)]
    simp only [Option.bind_some]
    have hw := wrap1 hi (show x.Entries.length ≤ nb8' by unfold nb8'; omega)
    rcases hx i hi with ⟨f1, f2, f3, f4⟩ | ⟨k, f0, f1, f2⟩
    · rw [f1]
      simp only [show decide ((-1 : Int) < 0) = true from rfl, cond_true, f2, bne_self_eq_false, cond_false, f3, f4, beq_self_eq_true, Bool.not_true, Option.bind_some, show decide ((0 : Int) ≤ -1) = false from rfl, hw]
      rfl
    · rw [f1]
      simp only [decide_eq_false (show ¬ (k : Int) < 0 by omega), cond_false, Option.bind_some, decide_eq_true (show (0 : Int) ≤ (k : Int) by omega), cond_true, nc' (show (0 : Int) ≤ (k : Int) by omega) (show (k : Int) < (m.Entries.length : Int) by omega), Int.toNat_natCast]
      cases hc : (m.Entries.getD k noE).Car == (x.Entries.getD i noE).Car with
      | false =>
        simp only [cond_false, Option.bind_some, hw]
        rfl
      | true =>
        have hc' : (m.Entries.getD k noE).Car = (x.Entries.getD i noE).Car := by simpa using hc
        obtain ⟨g1, g2⟩ := f2 hc'.symm
        rw [g1, g2, bne_self_eq_false, beq_self_eq_true]
        simp only [cond_true, cond_false, Bool.not_true, Option.bind_some, hw]
        rfl
  · show ncb' (n : Int) (x.Entries.length : Int) m.Phases m.Flags m.Leaving m.Entries x.Phases x.Flags x.Leaving x.Entries = _
    unfold ncb'
    simp only [decide_eq_false (Int.lt_irrefl (x.Entries.length : Int)), cond_false]
theorem npa' (c_N_0 : Int) (c_N_1 : Int) (c_L : List (Int)) (c_K : List (Int)) (c_Press_Up : Int) (c_Press_Down : Int) (h_c_N_0 : 0 ≤ c_N_0 ∧ c_N_0 < 256) (h_c_N_1 : 0 ≤ c_N_1 ∧ c_N_1 < 256) (h_c_L : c_L.length ≤ maxLen ∧ ∀ e ∈ c_L, (0 ≤ e ∧ e < 256)) (h_c_K : c_K.length ≤ maxLen ∧ ∀ e ∈ c_K, (0 ≤ e ∧ e < 256)) (_h_c_Press_Up : 0 ≤ c_Press_Up ∧ c_Press_Up < 4294967296) (_h_c_Press_Down : 0 ≤ c_Press_Down ∧ c_Press_Down < 4294967296) : F_l24_DispatchKeeps c_N_0 c_N_1 c_L c_K c_Press_Up c_Press_Down = some ((true, ()), ()) := by
  obtain ⟨b, m, vs, xs, hB, hI, hV, hX, h⟩ := n44' h_c_N_0 h_c_N_1 h_c_L h_c_K
  have hcc := h.cars
  have hvl := h.made.len
  have hme := ndo' h.small h.img
  have hlp := h.img.lp
  have hlf := h.img.lf
  have hll := h.img.ll
  have ht := h.tick (ps := List.replicate b.Cars.length noP) List.length_replicate (c_Press_Up, c_Press_Down) true
  obtain ⟨t1, t2, t3⟩ := n3s' h (List.replicate b.Cars.length noP) (c_Press_Up, c_Press_Down) true
  have himg := nz5' h (List.replicate b.Cars.length noP) (c_Press_Up, c_Press_Down) true
  have hpr := nzp' h (List.replicate b.Cars.length noP) (c_Press_Up, c_Press_Down) true
  have hnx := nn3' h (List.replicate b.Cars.length noP) (c_Press_Up, c_Press_Down) true
  obtain ⟨hok, _⟩ := nln' h.small h.code h.img h.xlen (vs := vs) (List.replicate b.Cars.length noP) (c_Press_Up, c_Press_Down) true
  generalize tickV b m xs vs (List.replicate b.Cars.length noP) (c_Press_Up, c_Press_Down) true = T at ht t1 t2 t3 himg
  generalize tickX b m xs vs (List.replicate b.Cars.length noP) (c_Press_Up, c_Press_Down) true = X at himg hpr hnx hok
  have hTe := ndo' h.small t1
  have hTl : T.img.Entries.length = X.img.Entries.length := by rw [himg]; exact np4' b vs _ _ hok.len
  have p1 : T.img.Phases = m.Phases := by rw [himg]; exact hpr.ph
  have p2 : T.img.Flags = m.Flags := by rw [himg]; exact hpr.fl
  have p3 : T.img.Leaving = m.Leaving := by rw [himg]; exact hpr.lv
  have l0 := nxe' (vs := vs) (by omega) p1 p2 p3 (by omega) (by omega) (by omega)
  have hrn : nc5' vs ≤ vs.length := List.countP_le_length
  have l1 := nzf' (n := nc5' vs) (by omega) (m := m) (x := T.img) (by omega) (by omega) fun i hi => by
    have hi' : i < X.img.Entries.length := by omega
    have hT : T.img.Entries.getD i noE = decV b vs (X.img.Entries.getD i noE) (X.xs.getD i 0) := by
      rw [himg]
      exact nty' b vs _ _ i hok.len hi'
    have hcall := ns6' b vs (X.img.Entries.getD i noE) (X.xs.getD i 0)
    rw [hT, hcall.1, hcall.2]
    rcases hpr.ent _ (nc4' noE hi') with hm | ⟨hn, he⟩
    · right
      obtain ⟨k, hk, hke⟩ := List.getElem_of_mem hm
      have hg : m.Entries.getD k noE = X.img.Entries.getD i noE := by
        rw [← hke]; simp [List.getD_eq_getElem?_getD, hk]
      rw [← hg]
      exact ⟨k, hk, n3y' h.img.so hk, fun hc => n07' h _ hc⟩
    · left
      refine ⟨n2s' hn, ?_⟩
      rw [he]
      exact n3b' h _ _ _
  unfold F_l24_DispatchKeeps
  rw [hB]
  simp only [Option.bind_some, Bldg.tup]
  rw [hI]
  simp only [Option.bind_some, Img.tup]
  rw [hV]
  simp only [Option.bind_some]
  rw [hX]
  simp only [Option.bind_some, decide_eq_true (show (0 : Int) ≤ (b.Cars.length : Int) by omega), decide_eq_true (Int.le_refl (b.Cars.length : Int)), decide_eq_true (show (b.Cars.length : Int) ≤ 2147483648 by omega), Bool.and_self, cond_true, Int.toNat_natCast]
  rw [show nbx' b.Floors b.Debounce b.Room b.Park b.Empty b.Full b.Over b.Cars m.Phases m.Flags m.Leaving m.Entries xs vs (List.replicate b.Cars.length (Calls.mk 0 0)) c_Press_Up c_Press_Down true = _ from ht]
  simp only [Option.bind_some, Rnd.tup, bne_self_eq_false, cond_false]
  rw [show (T.img.Phases.length : Int) = (b.Cars.length : Int) by rw [p1]; omega, show (T.img.Flags.length : Int) = (b.Cars.length : Int) by rw [p2]; omega, show (T.img.Leaving.length : Int) = (b.Cars.length : Int) by rw [p3]; omega]
  simp only [bne_self_eq_false, cond_false]
  unfold Img.tup at l0 l1
  rw [l0]
  simp only [Option.bind_some]
  rw [l1]
  simp only [Option.bind_some, n3t']
end Go.Ovl
