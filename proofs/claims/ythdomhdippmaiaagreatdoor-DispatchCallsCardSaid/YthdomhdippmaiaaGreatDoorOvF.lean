/- The views that the laws of layer 22 make. -/
import Derived.Test.YthdomhdippmaiaaGreatDoorOvD
import Derived.Test.YthdomhdippmaiaaGreatDoorOvE
import Derived.Test.YthdomhdippmaiaaGreatDoorOvC
namespace Go.Ovl
open Go Go.Ab
set_option maxRecDepth 100000
theorem u8r.bif {p : Bool} {a b : Int} (ha : u8r a) (hb : u8r b) : u8r (bif p then a else b) := by cases p <;> assumption
theorem nie' (n : Int) : u32r (IntKind.u32.wrap n) := by
  unfold u32r
  simp only [IntKind.wrap, IntKind.signed, IntKind.bits]
  simp
  omega
theorem n39' {l : List Int} (hl : ∀ e ∈ l, u8r e) (_hlen : l.length ≤ maxLen) (out : List View) {i : Nat} (hi : i < 100) (b : Bldg) :
    ∃ y : (List Int × Unit × List View × Int × Unit × Unit) × ((Int × Int × Int × Int × Nat × Nat × Nat × List Car × Unit) × (Int × Int × Int × Int × Unit) × Unit),
      ngd' ((l, (), out, (i : Int), (), (0 : Int), ()), (b.tup, ((0 : Int), (0 : Int), (0 : Int), (0 : Int), ()), ())) = some y ∧
      ∃ x0 x1 x2 x3 : Int, u8r x0 ∧ u8r x1 ∧ u8r x2 ∧ u8r x3 ∧ y = ((l, (), out, (i : Int), (), ()), (b.tup, (x0, x1, x2, x3, ()), ())) := by
  have hm : maxLen ≤ 9223372036854775807 := by decide
  refine nm6' (fun x => ∃ (k : Nat) (x0 x1 x2 x3 : Int), k ≤ 4 ∧ u8r x0 ∧ u8r x1 ∧ u8r x2 ∧ u8r x3 ∧ x = ((l, (), out, (i : Int), (), (k : Int), ()), (b.tup, (x0, x1, x2, x3, ()), ())))
    (fun y => ∃ x0 x1 x2 x3 : Int, u8r x0 ∧ u8r x1 ∧ u8r x2 ∧ u8r x3 ∧ y = ((l, (), out, (i : Int), (), ()), (b.tup, (x0, x1, x2, x3, ()), ())))
    (fun x => 4 - x.1.2.2.2.2.2.1.toNat) ?_ ⟨0, 0, 0, 0, 0, by omega, u8r0, u8r0, u8r0, u8r0, rfl⟩ (by show 4 - 0 < _; omega)
  rintro _ ⟨k, x0, x1, x2, x3, hk, h0, h1, h2, h3, rfl⟩
  show (∃ x', nh5' l out i k b.Floors b.Debounce b.Room b.Park b.Empty b.Full b.Over b.Cars x0 x1 x2 x3 = _ ∧ _) ∨ ∃ y, nh5' l out i k b.Floors b.Debounce b.Room b.Park b.Empty b.Full b.Over b.Cars x0 x1 x2 x3 = _ ∧ _
  unfold nh5'
  by_cases g : (k : Int) < 4
  · rw [decide_eq_true g, cond_true]
    by_cases g' : (0 : Int) < (l.length : Int)
    · have w1 : IntKind.i64.wrap (4 * (i : Int)) = 4 * (i : Int) := nb' (by omega) (by omega)
      have w2 : IntKind.i64.wrap (4 * (i : Int) + k) = 4 * (i : Int) + k := nb' (by omega) (by omega)
      have w3 : IntKind.i64.wrap ((k : Int) + 1) = ((k + 1 : Nat) : Int) := by rw [nb' (by omega) (by omega)]; omega
      have hmod : Int.tmod (4 * (i : Int) + k) (l.length : Int) = (((4 * i + k) % l.length : Nat) : Int) := by rw [Int.tmod_eq_emod_of_nonneg (by omega)]; norm_cast
      have hlt : (4 * i + k) % l.length < l.length := Nat.mod_lt _ (by omega)
      have e := nq0' (P := u8r) hl (d := (0 : Int)) hlt
      rw [decide_eq_true g']
      simp only [w1, w2, w3, hmod, bne_t (show ¬ (l.length : Int) = 0 by omega), cond_true, nc' (show (0 : Int) ≤ (((4 * i + k) % l.length : Nat) : Int) by omega) (show (((4 * i + k) % l.length : Nat) : Int) < (l.length : Int) by omega), nc' (show (0 : Int) ≤ (k : Int) by omega) (show (k : Int) < ((4 : Nat) : Int) from g), Int.toNat_natCast]
      exact .inl ⟨_, rfl, ⟨k + 1, _, _, _, _, by omega, u8r.bif e h0, u8r.bif e h1, u8r.bif e h2, u8r.bif e h3, rfl⟩, by simp only [Int.toNat_natCast]; omega⟩
    · rw [decide_eq_false g']
      exact .inr ⟨_, rfl, x0, x1, x2, x3, h0, h1, h2, h3, rfl⟩
  · rw [decide_eq_false g]
    exact .inr ⟨_, rfl, x0, x1, x2, x3, h0, h1, h2, h3, rfl⟩
structure Made (b : Bldg) (vs : List View) : Prop where
  len : vs.length = b.Cars.length
  ok : okViews vs
  lost : ∀ v ∈ vs, v.Lost = true → v.Ready = false
  flo : ∀ v ∈ vs, -1 ≤ v.Floor ∧ v.Floor < b.Floors
theorem nsm' {b : Bldg} (hb : b.small) (hc : b.Cars.length ≤ 8) {l : List Int} (hl : ∀ e ∈ l, u8r e) (hlen : l.length ≤ maxLen) :
    ∃ vs : List View, nju' b.Floors b.Debounce b.Room b.Park b.Empty b.Full b.Over b.Cars l = some ((vs, ()), ()) ∧ Made b vs := by
  have lo := hb.lo
  have hi := hb.hi
  have key : ∃ y : (List View × Unit) × Unit, nge' ((l, (), ([] : List View), (0 : Int), ()), (b.tup, ())) = some y ∧ ∃ vs, Made b vs ∧ y = ((vs, ()), ()) := by
    refine nm6' (fun x => ∃ (i : Nat) (out : List View), i ≤ b.Cars.length ∧ out.length = i ∧ okViews out ∧ (∀ v ∈ out, v.Lost = true → v.Ready = false) ∧ (∀ v ∈ out, -1 ≤ v.Floor ∧ v.Floor < b.Floors) ∧ x = ((l, (), out, (i : Int), ()), (b.tup, ())))
      (fun y => ∃ vs, Made b vs ∧ y = ((vs, ()), ())) (fun x => b.Cars.length - x.1.2.2.2.1.toNat) ?_ ⟨0, [], by omega, rfl, (fun v h => by cases h), (fun v h => by cases h), (fun v h => by cases h), rfl⟩ (by show b.Cars.length - 0 < _; omega)
    rintro _ ⟨i, out, hi1, hi2, ho, hlo, hfl, rfl⟩
    show (∃ x', nh3' l out i b.Floors b.Debounce b.Room b.Park b.Empty b.Full b.Over b.Cars = _ ∧ _) ∨ ∃ y, nh3' l out i b.Floors b.Debounce b.Room b.Park b.Empty b.Full b.Over b.Cars = _ ∧ _
    unfold nh3'
    by_cases g : (i : Int) < (b.Cars.length : Int)
    · obtain ⟨_, e1, x0, x1, x2, x3, h0, h1, h2, h3, rfl⟩ := n39' hl hlen out (show i < 100 by omega) b
      have e1' : ngd' ((l, (), out, (i : Int), (), (0 : Int), ()), ((b.Floors, b.Debounce, b.Room, b.Park, b.Empty, b.Full, b.Over, b.Cars, ()), ((0 : Int), (0 : Int), (0 : Int), (0 : Int), ()), ())) = _ := e1
      have w3 : IntKind.i64.wrap ((i : Int) + 1) = ((i + 1 : Nat) : Int) := by rw [nb' (by omega) (by omega)]; omega
      have w4 : IntKind.i64.wrap (b.Floors + 1) = b.Floors + 1 := nb' (by omega) (by omega)
      have w5 : IntKind.i64.wrap x1 = x1 := nb' (by unfold u8r at h1; omega) (by unfold u8r at h1; omega)
      have m1 : 0 ≤ Int.tmod x1 (b.Floors + 1) ∧ Int.tmod x1 (b.Floors + 1) < b.Floors + 1 := by
        rw [Int.tmod_eq_emod_of_nonneg h1.1]
        exact ⟨Int.emod_nonneg _ (by omega), Int.emod_lt_of_pos _ (by omega)⟩
      have w6 : IntKind.i64.wrap (Int.tmod x1 (b.Floors + 1) - 1) = Int.tmod x1 (b.Floors + 1) - 1 := nb' (by omega) (by omega)
      have ap : ∀ v : View, Nat.ble (out.length + [v].length) 2147483648 = true := fun v => nbp' (by simp; omega)
      rw [decide_eq_true g, e1']
      simp only [cond_true, Option.bind_some, Bldg.tup, w3, w4, w5, w6, ap, bne_t (show ¬ b.Floors + 1 = 0 by omega)]
      have fin : ∀ v : View, v.ok → (v.Lost = true → v.Ready = false) → (-1 ≤ v.Floor ∧ v.Floor < b.Floors) →
          ∃ (j : Nat) (o : List View), j ≤ b.Cars.length ∧ o.length = j ∧ okViews o ∧ (∀ v ∈ o, v.Lost = true → v.Ready = false) ∧ (∀ v ∈ o, -1 ≤ v.Floor ∧ v.Floor < b.Floors) ∧ ((l, (), out ++ [v], ((i + 1 : Nat) : Int), ()), ((b.Floors, b.Debounce, b.Room, b.Park, b.Empty, b.Full, b.Over, b.Cars, ()), ())) = ((l, (), o, (j : Int), ()), ((b.Floors, b.Debounce, b.Room, b.Park, b.Empty, b.Full, b.Over, b.Cars, ()), ())) := fun v k1 k2 k3 => by
        refine ⟨i + 1, out ++ [v], by omega, by simp; omega, fun x hx => ?_, fun x hx => ?_, fun x hx => ?_, rfl⟩
        · rcases List.mem_append.1 hx with h | h
          · exact ho x h
          · rw [List.mem_singleton.1 h]; exact k1
        · rcases List.mem_append.1 hx with h | h
          · exact hlo x h
          · rw [List.mem_singleton.1 h]; exact k2
        · rcases List.mem_append.1 hx with h | h
          · exact hfl x h
          · rw [List.mem_singleton.1 h]; exact k3
      cases hz : (Int.tmod (IntKind.u8.wrap (Int.tdiv x0 16)) 4 == 0) with
      | true =>
        simp only [cond_true]
        exact .inl ⟨_, rfl, fin _ ⟨nie' _, nie' _, nie' _⟩ (fun _ => rfl) ⟨by show -1 ≤ Int.tmod x1 (b.Floors + 1) - 1; omega, by show Int.tmod x1 (b.Floors + 1) - 1 < b.Floors; omega⟩, by simp only [Int.toNat_natCast]; omega⟩
      | false =>
        simp only [cond_false]
        exact .inl ⟨_, rfl, fin _ ⟨nie' _, nie' _, nie' _⟩ (fun h => by cases h) ⟨by show -1 ≤ Int.tmod x1 (b.Floors + 1) - 1; omega, by show Int.tmod x1 (b.Floors + 1) - 1 < b.Floors; omega⟩, by simp only [Int.toNat_natCast]; omega⟩
    · rw [decide_eq_false g]
      exact .inr ⟨_, rfl, out, ⟨by omega, ho, hlo, hfl⟩, rfl⟩
  obtain ⟨_, h1, vs, h2, rfl⟩ := key
  refine ⟨vs, ?_, h2⟩
  unfold nju'
  have h1' : nge' ((l, (), ([] : List View), (0 : Int), ()), ((b.Floors, b.Debounce, b.Room, b.Park, b.Empty, b.Full, b.Over, b.Cars, ()), ())) = _ := h1
  rw [h1']
  rfl
end Go.Ovl
namespace Go.Ovl
open Go Go.Ab
set_option maxRecDepth 100000
theorem nr5' {b : Bldg} {vs : List View} {floor dir except : Int} : ∀ (m i : Nat) (best : Int), i + m = vs.length →
    (best = -1 ∧ (∀ j : Nat, j < i → (nd' vs j).Ready = true → (j : Int) = except) ∨ (0 ≤ best ∧ best < vs.length ∧ (nd' vs best).Ready = true ∧ best ≠ except)) →
    (bestF b vs floor dir except m i best = -1 ∧ (∀ j : Nat, j < vs.length → (nd' vs j).Ready = true → (j : Int) = except)) ∨ (0 ≤ bestF b vs floor dir except m i best ∧ bestF b vs floor dir except m i best < vs.length ∧ (nd' vs (bestF b vs floor dir except m i best)).Ready = true ∧ bestF b vs floor dir except m i best ≠ except)
  | 0, i, best, hi, h => by
    rcases h with ⟨h1, h2⟩ | h
    · exact .inl ⟨h1, fun j hj => h2 j (by omega)⟩
    · exact .inr h
  | m + 1, i, best, hi, h => by
    refine nr5' m (i + 1) _ (by omega) ?_
    unfold ng9'
    cases hr : (nd' vs (i : Int)).Ready with
    | false =>
      rcases h with ⟨h1, h2⟩ | h
      · refine .inl ⟨h1, fun j hj hj' => ?_⟩
        rcases Nat.lt_or_ge j i with hlt | hge
        · exact h2 j hlt hj'
        · have : j = i := by omega
          subst this; rw [hr] at hj'; cases hj'
      · exact .inr h
    | true =>
      rw [Bool.not_true, Bool.false_or]
      by_cases he : (i : Int) = except
      · rw [show ((i : Int) == except) = true by rw [he]; simp, cond_true]
        rcases h with ⟨h1, h2⟩ | h
        · refine .inl ⟨h1, fun j hj hj' => ?_⟩
          rcases Nat.lt_or_ge j i with hlt | hge
          · exact h2 j hlt hj'
          · have : j = i := by omega
            subst this; exact he
        · exact .inr h
      · rw [beq_f he, cond_false]
        cases hb : (best == -1 || betB (rankV b vs floor dir i) (rankV b vs floor dir best)) with
        | true => exact .inr ⟨by show (0 : Int) ≤ (i : Int); omega, by show (i : Int) < _; omega, hr, he⟩
        | false =>
          rcases h with ⟨h1, h2⟩ | h
          · rw [h1] at hb; cases hb
          · exact .inr h
theorem nwp' {b : Bldg} {vs : List View} (hcode : b.code = 0) (hlen : (vs.length : Int) = (b.Cars.length : Int)) (floor dir except : Int) :
    (nb6' b vs floor dir except = -1 ∧ (∀ j : Nat, j < vs.length → (nd' vs j).Ready = true → (j : Int) = except)) ∨ (0 ≤ nb6' b vs floor dir except ∧ nb6' b vs floor dir except < vs.length ∧ (nd' vs (nb6' b vs floor dir except)).Ready = true ∧ nb6' b vs floor dir except ≠ except) := by
  unfold nb6'
  have e1 : ((vs.length : Int) != (b.Cars.length : Int)) = false := by rw [hlen]; simp
  rw [hcode, e1]
  exact nr5' vs.length 0 (-1) (by omega) (.inl ⟨rfl, fun j hj => by omega⟩)
def nho' (vs : List View) : Nat := vs.countP (·.Ready)
theorem nn4' : ∀ {vs : List View}, (∀ j : Nat, j < vs.length → (nd' vs j).Ready = false) → nho' vs = 0
  | [], _ => rfl
  | v :: t, h => by
    have h0 : v.Ready = false := h 0 (by simp)
    have ht := nn4' (vs := t) fun j hj => h (j + 1) (by simp; omega)
    unfold nho' at *
    rw [List.countP_cons_of_neg (by rw [h0]; simp)]; exact ht
theorem ntj' : ∀ {vs : List View} (o e : Int), (∀ j : Nat, j < vs.length → (nd' vs j).Ready = true → o + j = e) → nho' vs ≤ 1
  | [], _, _, _ => by simp [nho']
  | v :: t, o, e, h => by
    cases hv : v.Ready with
    | true =>
      have h0 : o + ((0 : Nat) : Int) = e := h 0 (by simp) hv
      have ht := nn4' (vs := t) fun j hj => by
        cases hr : (nd' t j).Ready with
        | false => rfl
        | true => have := h (j + 1) (by simp; omega) hr; omega
      unfold nho' at *
      rw [List.countP_cons_of_pos (by rw [hv])]; omega
    | false =>
      have ht := ntj' (vs := t) (o + 1) e fun j hj hr => by have := h (j + 1) (by simp; omega) hr; omega
      unfold nho' at *
      rw [List.countP_cons_of_neg (by rw [hv]; simp)]; exact ht
structure Plan22 (b : Bldg) (m : Img) (vs : List View) (xs : List Int) : Prop where
  small : b.small
  code : b.code = 0
  cars : 1 ≤ b.Cars.length ∧ b.Cars.length ≤ 3
  img : ImgOK b m
  ents : m.Entries.length ≤ 60
  made : Made b vs
  xlen : xs.length = m.Entries.length
  xval : ∀ x ∈ xs, 0 ≤ x ∧ x ≤ 1000000
section
variable {b : Bldg} {m : Img} {vs : List View} {xs : List Int} (h : Plan22 b m vs xs)
include h
theorem Plan22.vlen : (vs.length : Int) = (b.Cars.length : Int) := by have := h.made.len; omega
theorem Plan22.planV_eq : planV b m xs vs = (planR b vs m.Entries xs, planN b vs m.Entries xs, 0, ()) := by
  unfold planV
  have h1 : (xs.length : Int) == (m.Entries.length : Int) := by rw [h.xlen]; simp
  have h2 : (vs.length : Int) == (b.Cars.length : Int) := by rw [h.vlen]; simp
  have h3 : expOK xs = true := List.all_eq_true.2 fun x hx => n1'.2 (h.xval x hx)
  rw [Img.ok_iff.2 h.img, h1, h2, h3]; rfl
theorem Plan22.notLost {i : Int} (hi : 0 ≤ i ∧ i < vs.length) (hr : (nd' vs i).Ready = true) : (nd' vs i).Lost = false := by
  cases hl : (nd' vs i).Lost with
  | false => rfl
  | true =>
    have := h.made.lost (nd' vs i) (ndm' _ (show i.toNat < vs.length by omega)) hl
    rw [this] at hr; cases hr
theorem Plan22.car {e : Entry} (_he : -2 ≤ e.Car ∧ e.Car < (vs.length : Int)) (x : Int) :
    (0 ≤ (decV b vs e x).Car → (nd' vs (decV b vs e x).Car).Lost = false) ∧
    (0 ≤ (decV b vs e x).Car → (decV b vs e x).Car ≠ e.Car → (nd' vs (decV b vs e x).Car).Ready = true) ∧
    (e.Car = -2 → (decV b vs e x).Car = -2) ∧
    ((decV b vs e x).Car = -1 → (e.Car = -1 → nho' vs = 0) ∧ (0 ≤ e.Car → nho' vs ≤ 1)) := by
  have key : ∀ n except : Int, n = nb6' b vs e.Floor e.Dir except → (0 ≤ n → (nd' vs n).Lost = false) ∧ (0 ≤ n → (nd' vs n).Ready = true) ∧ (n = -1 → (∀ j : Nat, j < vs.length → (nd' vs j).Ready = true → (j : Int) = except)) ∧ n ≠ -2 := fun n except hn => by
    rcases nwp' h.code h.vlen e.Floor e.Dir except with ⟨h1, h2⟩ | ⟨h1, h2, h3, _⟩
    · rw [← hn] at h1
      exact ⟨fun _ => by omega, fun _ => by omega, fun _ => h2, by omega⟩
    · rw [← hn] at h1 h2 h3
      exact ⟨fun _ => h.notLost ⟨h1, h2⟩ h3, fun _ => h3, fun _ => by omega, by omega⟩
  unfold decV
  by_cases g1 : e.Car = -2
  · rw [show (e.Car == -2) = true by rw [g1]; rfl, cond_true]
    exact ⟨fun _ => by omega, fun _ hh => absurd rfl hh, fun _ => g1, fun _ => by omega⟩
  rw [beq_f g1, cond_false]
  by_cases g2 : e.Car = -1
  · rw [show (e.Car == -1) = true by rw [g2]; rfl, cond_true]
    obtain ⟨k1, k2, k3, k4⟩ := key _ (-1) rfl
    refine ⟨k1, fun hh _ => k2 hh, fun hh => absurd hh g1, fun hh => ⟨fun _ => nn4' fun j hj => ?_, fun _ => by omega⟩⟩
    cases hr : (nd' vs j).Ready with
    | false => rfl
    | true => have := k3 hh j hj hr; omega
  rw [beq_f g2, cond_false]
  cases hlost : (nd' vs e.Car).Lost with
  | true =>
    rw [cond_true]
    cases decide ((b.Cars.length : Int) < e.Moves) with
    | true => exact ⟨fun hh => absurd hh (by show ¬ (0 : Int) ≤ -2; omega), fun hh => absurd hh (by show ¬ (0 : Int) ≤ -2; omega), fun hh => absurd hh g1, fun hh => absurd hh (by show ¬ (-2 : Int) = -1; omega)⟩
    | false =>
      obtain ⟨k1, k2, k3, k4⟩ := key _ e.Car rfl
      exact ⟨k1, fun hh _ => k2 hh, fun hh => absurd hh g1, fun hh => ⟨fun hh' => absurd hh' g2, fun _ => ntj' 0 e.Car fun j hj hr => by have := k3 hh j hj hr; omega⟩⟩
  | false =>
    rw [cond_false]
    have self : (0 ≤ e.Car → (nd' vs e.Car).Lost = false) ∧ (0 ≤ e.Car → e.Car ≠ e.Car → (nd' vs e.Car).Ready = true) ∧ (e.Car = -2 → e.Car = -2) ∧ (e.Car = -1 → (e.Car = -1 → nho' vs = 0) ∧ (0 ≤ e.Car → nho' vs ≤ 1)) :=
      ⟨fun _ => hlost, fun _ hh => absurd rfl hh, fun hh => hh, fun hh => absurd hh g2⟩
    cases (!e.Moved && decide (e.Moves ≤ (b.Cars.length : Int))) with
    | false => exact self
    | true =>
      rw [cond_true]
      cases ho : ne2' b vs e x != -1 with
      | false => exact self
      | true =>
        have hne : ne2' b vs e x ≠ -1 := by simpa using ho
        have heq : ne2' b vs e x = nb6' b vs e.Floor e.Dir e.Car := by
          unfold ne2' at hne ⊢
          cases hc : nb6' b vs e.Floor e.Dir e.Car == -1 with
          | true => rw [hc] at hne; exact absurd rfl hne
          | false =>
            rw [hc] at hne
            cases hbt : npj' b vs e x (nb6' b vs e.Floor e.Dir e.Car) with
            | true => rfl
            | false => rw [hbt] at hne; exact absurd rfl hne
        obtain ⟨k1, k2, k3, k4⟩ := key _ e.Car heq
        exact ⟨k1, fun hh _ => k2 hh, fun hh => absurd hh g1, fun hh => absurd hh hne⟩
end
end Go.Ovl
namespace Go.Ovl
open Go Go.Ab
set_option maxRecDepth 100000
theorem n3s' : ni1' = some ((true, ()), ()) := by kernel_rfl
theorem n48' (F D : Int) : ∃ c : Int × Int, nif' F D = some (((), ()), ((c.1, c.2, ()), ())) := ⟨oneC F D, nry' F D⟩
def setV (vs : List View) (i : Nat) (c : Int × Int) : List View := vs.set i (View.mk (vs.getD i noV).Ready (vs.getD i noV).Serving (vs.getD i noV).Legacy (vs.getD i noV).Lost (vs.getD i noV).Floor (vs.getD i noV).Dir (vs.getD i noV).Load c.1 c.2 (vs.getD i noV).Stops_Car (vs.getD i noV).Stops_Hall_Up (vs.getD i noV).Stops_Hall_Down)
theorem nqm' (vs : List View) (i : Nat) (c : Int × Int) : (setV vs i c).length = vs.length := List.length_set ..
theorem n0i' {b : Bldg} {vs : List View} (h : Made b vs) {i : Nat} (hi : i < vs.length) (c : Int × Int) : Made b (setV vs i c) := by
  have hm := ndm' noV hi
  refine ⟨by rw [nqm']; exact h.len, fun v hv => ?_, fun v hv hl => ?_, fun v hv => ?_⟩
  · rcases ni9' hv with rfl | hv
    · obtain ⟨q1, q2, q3⟩ := h.ok _ hm
      exact ⟨q1, q2, q3⟩
    · exact h.ok v hv
  · rcases ni9' hv with rfl | hv
    · exact h.lost (vs.getD i noV) hm hl
    · exact h.lost v hv hl
  · rcases ni9' hv with rfl | hv
    · exact h.flo (vs.getD i noV) hm
    · exact h.flo v hv
theorem nsp' {b : Bldg} (hb : b.small) (hc : b.Cars.length ≤ 8) {l : List Int} (hl : ∀ e ∈ l, u8r e) (hlen : l.length ≤ maxLen) :
    ∃ vs : List View, ned' b.Floors b.Debounce b.Room b.Park b.Empty b.Full b.Over b.Cars l = some ((vs, ()), ()) ∧ Made b vs := by
  have lo := hb.lo
  have hi8 := hb.hi
  obtain ⟨v0, hV, hM⟩ := nsm' hb hc hl hlen
  have h := nm6' (step := fun x => nci' x.1.1 x.1.2.2.1 x.1.2.2.2.1 x.2.1.1 x.2.1.2.1 x.2.1.2.2.1 x.2.1.2.2.2.1 x.2.1.2.2.2.2.1 x.2.1.2.2.2.2.2.1 x.2.1.2.2.2.2.2.2.1 x.2.1.2.2.2.2.2.2.2.1) (fun x => ∃ (i : Nat) (v : List View), x = ((l, (), v, (i : Int), ()), (b.tup, ())) ∧ i ≤ v.length ∧ Made b v) (fun y => ∃ v : List View, y = ((v, ()), ()) ∧ Made b v) (fun x => (x.1.2.2.1.length : Int).toNat - x.1.2.2.2.1.toNat) (by
    rintro x ⟨i, v, rfl, hi, hm⟩
    have hvl := hm.len
    by_cases g : i < v.length
    · by_cases g2 : i < l.length
      · have he := hl _ (ndm' 0 g2)
        unfold u8r at he
        have hw := wrap1 g (show v.length ≤ ncj' by unfold ncj'; omega)
        cases hz : Int.tmod (l.getD i 0) 3 == 0 with
        | true =>
          obtain ⟨c, ho⟩ := n48' (Int.tmod (IntKind.i64.wrap (Int.tdiv (IntKind.i64.wrap (l.getD i 0)) 3)) b.Floors) (IntKind.i64.wrap (1 + IntKind.i64.wrap (Int.tmod (IntKind.u8.wrap (Int.tdiv (l.getD i 0) 64)) 2)))
          refine .inl ⟨((l, (), setV v i c, ((i + 1 : Nat) : Int), ()), (b.tup, ())), ?_, ⟨i + 1, _, rfl, by rw [nqm']; omega, n0i' hm g c⟩, ?_⟩
          · show nci' l v (i : Int) b.Floors b.Debounce b.Room b.Park b.Empty b.Full b.Over b.Cars = _
            unfold nci'
            rw [show View.mk false false false false 0 0 0 0 0 0 0 0 = noV from rfl]
            simp only [decide_eq_true (show (i : Int) < (v.length : Int) by omega), decide_eq_true (show (i : Int) < (l.length : Int) by omega), nc' (show (0 : Int) ≤ (i : Int) by omega) (show (i : Int) < (l.length : Int) by omega), nc' (show (0 : Int) ≤ (i : Int) by omega) (show (i : Int) < (v.length : Int) by omega), cond_true, Int.toNat_natCast, hz, bne_t (show ¬ b.Floors = 0 by omega), ho, Option.bind_some, hw]
            rfl
          · show ((setV v i c).length : Int).toNat - ((i + 1 : Nat) : Int).toNat < (v.length : Int).toNat - (i : Int).toNat
            rw [nqm']; omega
        | false =>
          refine .inl ⟨((l, (), v, ((i + 1 : Nat) : Int), ()), (b.tup, ())), ?_, ⟨i + 1, v, rfl, by omega, hm⟩, ?_⟩
          · show nci' l v (i : Int) b.Floors b.Debounce b.Room b.Park b.Empty b.Full b.Over b.Cars = _
            unfold nci'
            simp only [decide_eq_true (show (i : Int) < (v.length : Int) by omega), decide_eq_true (show (i : Int) < (l.length : Int) by omega), nc' (show (0 : Int) ≤ (i : Int) by omega) (show (i : Int) < (l.length : Int) by omega), cond_true, cond_false, Int.toNat_natCast, hz, hw]
            rfl
          · show (v.length : Int).toNat - ((i + 1 : Nat) : Int).toNat < (v.length : Int).toNat - (i : Int).toNat
            omega
      · refine .inr ⟨_, ?_, v, rfl, hm⟩
        show nci' l v (i : Int) b.Floors b.Debounce b.Room b.Park b.Empty b.Full b.Over b.Cars = _
        unfold nci'
        simp only [decide_eq_true (show (i : Int) < (v.length : Int) by omega), decide_eq_false (show ¬ (i : Int) < (l.length : Int) by omega), cond_true, cond_false]
    · refine .inr ⟨_, ?_, v, rfl, hm⟩
      show nci' l v (i : Int) b.Floors b.Debounce b.Room b.Park b.Empty b.Full b.Over b.Cars = _
      unfold nci'
      simp only [decide_eq_false (show ¬ (i : Int) < (v.length : Int) by omega), cond_false]) (x := ((l, (), v0, (0 : Int), ()), (b.tup, ()))) ⟨0, v0, rfl, by omega, hM⟩ (by
      show (v0.length : Int).toNat - (0 : Int).toNat < _
      have := hM.len
      omega)
  obtain ⟨y, h1, v, rfl, hm⟩ := h
  refine ⟨v, ?_, hm⟩
  unfold ned'
  rw [hV]
  simp only [Option.bind_some]
  rw [show nh0' ((l, (), v0, (0 : Int), ()), ((b.Floors, b.Debounce, b.Room, b.Park, b.Empty, b.Full, b.Over, b.Cars, ()), ())) = _ from h1]
  rfl
theorem nqf' (m : Img) (hml : m.Entries.length ≤ 1000) {l : List Int} (hl : ∀ e ∈ l, u8r e) :
    ∃ xs : List Int, nde' m.Phases m.Flags m.Leaving m.Entries l = some ((xs, ()), ()) ∧ xs.length = m.Entries.length ∧ ∀ x ∈ xs, 0 ≤ x ∧ x ≤ 4 := by
  have h := nm6' (step := fun x => ncn' x.1.1 x.1.2.1 x.1.2.2.1) (fun x => ∃ (i : Nat) (v : List Int), x = ((l, v, (i : Int), ()), ()) ∧ i ≤ v.length ∧ v.length = m.Entries.length ∧ ∀ x ∈ v, 0 ≤ x ∧ x ≤ 4) (fun y => ∃ v : List Int, y = ((v, ()), ()) ∧ v.length = m.Entries.length ∧ ∀ x ∈ v, 0 ≤ x ∧ x ≤ 4) (fun x => (x.1.2.1.length : Int).toNat - x.1.2.2.1.toNat) (by
    rintro x ⟨i, v, rfl, hi, hvl, hm⟩
    by_cases g : i < v.length
    · by_cases g2 : i < l.length
      · have he := hl _ (ndm' 0 g2)
        unfold u8r at he
        have hw := wrap1 g (show v.length ≤ ncj' by unfold ncj'; omega)
        have h5 : 0 ≤ Int.tmod (l.getD i 0) 5 ∧ Int.tmod (l.getD i 0) 5 ≤ 4 := by
          have h1 := Int.tmod_nonneg 5 he.1
          have h2 := Int.tmod_lt_of_pos (l.getD i 0) (show (0 : Int) < 5 by omega)
          omega
        refine .inl ⟨((l, v.set i (Int.tmod (l.getD i 0) 5), ((i + 1 : Nat) : Int), ()), ()), ?_, ⟨i + 1, _, rfl, by rw [List.length_set]; omega, by rw [List.length_set]; exact hvl, fun x hx => ?_⟩, ?_⟩
        · show ncn' l v (i : Int) = _
          unfold ncn'
          simp only [decide_eq_true (show (i : Int) < (v.length : Int) by omega), decide_eq_true (show (i : Int) < (l.length : Int) by omega), nc' (show (0 : Int) ≤ (i : Int) by omega) (show (i : Int) < (l.length : Int) by omega), nc' (show (0 : Int) ≤ (i : Int) by omega) (show (i : Int) < (v.length : Int) by omega), cond_true, Int.toNat_natCast, hw, nb' (n := Int.tmod (l.getD i 0) 5) (by omega) (by omega)]
        · rcases ni9' hx with rfl | hx
          · exact h5
          · exact hm x hx
        · show ((v.set i _).length : Int).toNat - ((i + 1 : Nat) : Int).toNat < (v.length : Int).toNat - (i : Int).toNat
          rw [List.length_set]; omega
      · refine .inr ⟨_, ?_, v, rfl, hvl, hm⟩
        show ncn' l v (i : Int) = _
        unfold ncn'
        simp only [decide_eq_true (show (i : Int) < (v.length : Int) by omega), decide_eq_false (show ¬ (i : Int) < (l.length : Int) by omega), cond_true, cond_false]
    · refine .inr ⟨_, ?_, v, rfl, hvl, hm⟩
      show ncn' l v (i : Int) = _
      unfold ncn'
      simp only [decide_eq_false (show ¬ (i : Int) < (v.length : Int) by omega), cond_false]) (x := ((l, List.replicate m.Entries.length 0, (0 : Int), ()), ())) ⟨0, _, rfl, Nat.zero_le _, List.length_replicate, fun x hx => by rw [List.eq_of_mem_replicate hx]; omega⟩ (by
      show ((List.replicate m.Entries.length (0 : Int)).length : Int).toNat - (0 : Int).toNat < _
      rw [List.length_replicate]; omega)
  obtain ⟨y, h1, v, rfl, hvl, hm⟩ := h
  refine ⟨v, ?_, hvl, hm⟩
  unfold nde'
  simp only [decide_eq_true (show (0 : Int) ≤ (m.Entries.length : Int) by omega), decide_eq_true (Int.le_refl (m.Entries.length : Int)), decide_eq_true (show (m.Entries.length : Int) ≤ 2147483648 by omega), Int.toNat_natCast, Bool.and_self, cond_true]
  rw [show ngr' ((l, List.replicate m.Entries.length (0 : Int), (0 : Int), ()), ()) = _ from h1]
  rfl
theorem n5h' {n0 n1 : Int} (h0 : 0 ≤ n0 ∧ n0 < 256) (h1 : 0 ≤ n1 ∧ n1 < 256) {l k : List Int} (h_l : l.length ≤ maxLen ∧ ∀ e ∈ l, (0 ≤ e ∧ e < 256)) (h_k : k.length ≤ maxLen ∧ ∀ e ∈ k, (0 ≤ e ∧ e < 256)) :
    ∃ (b : Bldg) (m : Img) (vs : List View) (xs : List Int), ncu' n0 n1 = some (((), ()), (b.tup, ())) ∧ ngk' b.Floors b.Debounce b.Room b.Park b.Empty b.Full b.Over b.Cars l = some (((), ()), (m.tup, ())) ∧ ned' b.Floors b.Debounce b.Room b.Park b.Empty b.Full b.Over b.Cars k = some ((vs, ()), ()) ∧ nde' m.Phases m.Flags m.Leaving m.Entries k = some ((xs, ()), ()) ∧ Plan22 b m vs xs := by
  obtain ⟨fl, ca, f1, f2, c1, c2, hB⟩ := npx' h0 (room := n1) (by omega)
  have hs : (bld10 fl ca n1).small := ⟨by show (2 : Int) ≤ (fl : Int); omega, by show (fl : Int) ≤ 8; omega⟩
  have hc : (bld10 fl ca n1).Cars.length = ca := by simp [bld10, nbn']
  have hcode : (bld10 fl ca n1).code = 0 := nze' f1 f2 c1 c2 (by omega)
  obtain ⟨m, hI, hm, hml⟩ := nsl' hs hcode (by omega) h_l.2
  obtain ⟨vs, hV, hM⟩ := nsp' hs (by omega) h_k.2 h_k.1
  have hme := nd9' hs hm
  obtain ⟨xs, hX, hxl, hxs⟩ := nqf' m (by omega) h_k.2
  refine ⟨bld10 fl ca n1, m, vs, xs, hB, hI, hV, hX, ⟨hs, hcode, by omega, hm, by omega, hM, hxl, fun x hx => ?_⟩⟩
  have := hxs x hx
  omega
theorem Plan22.exp {b : Bldg} {m : Img} {vs : List View} {xs : List Int} (h : Plan22 b m vs xs) : expOK xs = true := List.all_eq_true.2 fun x hx => n1'.2 (h.xval x hx)
theorem Plan22.tick {b : Bldg} {m : Img} {vs : List View} {xs : List Int} (h : Plan22 b m vs xs) {ps : List Calls} (hp : ps.length = b.Cars.length) (press : Int × Int) (good : Bool) : nbw' b.Floors b.Debounce b.Room b.Park b.Empty b.Full b.Over b.Cars m.Phases m.Flags m.Leaving m.Entries xs vs ps press.1 press.2 good = some (((), 0, ()), ((tickV b m xs vs ps press good).tup, ())) :=
  nqw' h.small h.code h.img h.xlen ps press good h.exp h.made.ok h.made.len hp
theorem nya' {α : Type} {c : Bool} {a r : α} (h : r ∈ (bif c then [a] else [])) : r = a := by
  cases c with
  | true => exact List.mem_singleton.1 h
  | false => cases h
theorem nrk' (b : Bldg) (vs : List View) : ∀ (l : List Entry) (xs : List Int), ∀ r ∈ planR b vs l xs, r.Kind = 3 ∨ r.Kind = 7
  | [], xs, r, hr => by simp [planR] at hr
  | _ :: _, [], r, hr => by simp [planR] at hr
  | e :: t, x :: xs, r, hr => by
    simp only [planR] at hr
    rcases List.mem_append.1 hr with h | h
    · unfold recsV at h
      rcases List.mem_append.1 h with h | h
      · right; rw [nya' h]
      · left; rw [nya' h]
    · exact nrk' b vs t xs r h
theorem nz7' (b : Bldg) (m : Img) (xs : List Int) (vs : List View) : ∀ r ∈ (planV b m xs vs).1, r.Kind = 3 ∨ r.Kind = 7 := by
  unfold planV
  cases m.ok b && ((xs.length : Int) == (m.Entries.length : Int) && ((vs.length : Int) == (b.Cars.length : Int) && expOK xs)) with
  | true => exact nrk' b vs m.Entries xs
  | false => exact fun r hr => by cases hr
end Go.Ovl
namespace Go.Ovl
open Go Go.Ab
set_option maxRecDepth 100000
section
variable {b : Bldg} (hb : b.small) (hcode : b.code = 0)
include hb hcode
end
structure Rnd.from (b : Bldg) (m : Img) (X : Rnd) : Prop where
  val : ∀ r ∈ X.recs, n3' b r = true
  img : X.img = nbv' m X.recs
theorem nzu' {b : Bldg} {m : Img} {X : Rnd} (h : X.from b m) {r : Record} (hv : n3' b r = true) : (stepW r X).from b m := by
  refine ⟨fun x hx => ?_, ?_⟩
  · rcases List.mem_append.1 (show x ∈ X.recs ++ [r] from hx) with hx | hx
    · exact h.val x hx
    · rw [List.mem_singleton.1 hx]; exact hv
  · show nbl' X.img r = nbv' m (X.recs ++ [r])
    rw [nkj', ← h.img]; rfl
theorem nzj' {b : Bldg} {m : Img} {X : Rnd} (h : X.from b m) {e : Entry} (hv : nh' b e.Floor e.Dir = true) : (stepG b e X).from b m := by
  unfold stepG
  cases roomV b X.img with
  | true => exact nzu' h (nox' hv)
  | false => exact ⟨h.val, h.img⟩
theorem ntn' {b : Bldg} {m : Img} : ∀ {l : List Entry} {X : Rnd}, X.from b m → (∀ e ∈ l, nh' b e.Floor e.Dir = true) → (regL b l X).from b m
  | [], _, h, _ => h
  | e :: t, X, h, hv => by
    show (regL b t (stepG b e X)).from b m
    exact ntn' (nzj' h (hv e (List.mem_cons_self ..))) fun x hx => hv x (List.mem_cons_of_mem _ hx)
theorem nvt' {b : Bldg} {m : Img} {X : Rnd} (h : X.from b m) {l : List Record} (hv : ∀ r ∈ l, n3' b r = true) : (wrL l X).from b m := by
  refine ⟨fun x hx => ?_, ?_⟩
  · rcases List.mem_append.1 (show x ∈ X.recs ++ l from hx) with hx | hx
    · exact h.val x hx
    · exact hv x hx
  · show nbv' X.img l = nbv' m (X.recs ++ l)
    rw [nkj', ← h.img]
theorem n4f' {E : List Entry} {xs : List Int} {r : Record} {x : Int} (h : x ∈ xsV E xs r) : x ∈ xs ∨ x = 0 := by
  unfold xsV at h
  cases hc : (r.Kind == 2) && hasF (keyE r.Floor r.Dir) E with
  | true =>
    rw [hc] at h
    rcases List.mem_append.1 h with h | h
    · exact .inl (List.mem_of_mem_take h)
    · exact .inl (List.mem_of_mem_drop h)
  | false =>
    rw [hc] at h
    simp only [cond_false] at h
    cases hd : (r.Kind == 1) && !hasF (keyE r.Floor r.Dir) E with
    | true =>
      rw [hd] at h
      rcases List.mem_append.1 h with h | h
      · rcases List.mem_append.1 h with h | h
        · exact .inl (List.mem_of_mem_take h)
        · exact .inr (List.mem_singleton.1 h)
      · exact .inl (List.mem_of_mem_drop h)
    | false => rw [hd] at h; exact .inl h
def nhs' (xs : List Int) : Prop := ∀ x ∈ xs, 0 ≤ x ∧ x ≤ 1000000
theorem nu7' {E : List Entry} {xs : List Int} (h : nhs' xs) (r : Record) : nhs' (xsV E xs r) := fun x hx => by
  rcases n4f' hx with hx | rfl
  · exact h x hx
  · omega
theorem nvd' : ∀ {l : List Record} {m : Img} {xs : List Int}, nhs' xs → nhs' (xsL m xs l)
  | [], _, _, h => h
  | r :: t, m, xs, h => by
    show nhs' (xsL (nbl' m r) (xsV m.Entries xs r) t)
    exact nvd' (nu7' h r)
theorem ntb' (b : Bldg) : ∀ {l : List Entry} {X : Rnd}, nhs' X.xs → nhs' (regL b l X).xs
  | [], _, h => h
  | e :: t, X, h => by
    show nhs' (regL b t (stepG b e X)).xs
    refine ntb' b ?_
    unfold stepG
    cases roomV b X.img with
    | true => exact nu7' h (regR e)
    | false => exact h
section
variable {b : Bldg} {m : Img} {vs : List View} {xs : List Int} (h : Plan22 b m vs xs) (ps : List Calls) (press : Int × Int) (good : Bool)
include h
theorem nrv' : (tickX b m xs vs ps press good).from b m := by
  have h0 : ∀ L : Lan, Rnd.from b m ⟨[], m, xs, L, (0, 0)⟩ := fun L => ⟨(fun r hr => by cases hr), rfl⟩
  unfold tickX
  cases good with
  | false => exact h0 _
  | true =>
    have hv := nmv' h.code vs (l := m.Entries) fun e he => (ncy'.1 (h.img.en e he)).1
    exact ntn' (nvt' (h0 _) fun r hr => (hv r hr).1) fun e he => nne' h.small h.code he
theorem nzz' : nhs' (tickX b m xs vs ps press good).xs := by
  have h0 : nhs' xs := h.xval
  unfold tickX
  cases good with
  | false => exact h0
  | true => exact ntb' b (nvd' h0)
theorem n0q' : Plan22 b (tickX b m xs vs ps press good).img vs (tickX b m xs vs ps press good).xs := by
  obtain ⟨hok, _⟩ := nic' h.small h.code h.img h.xlen (vs := vs) ps press good
  have he := nd9' h.small hok.img
  exact ⟨h.small, h.code, h.cars, hok.img, by omega, h.made, hok.len, nzz' h ps press good⟩
theorem nzg' : (tickV b m xs vs ps press good).from b m := by
  obtain ⟨hok, _⟩ := nic' h.small h.code h.img h.xlen (vs := vs) ps press good
  have hw := nvt' (nrv' h ps press good) (l := (tickP b m xs vs ps press good).1) (np3' h.code hok.img _)
  exact ⟨hw.val, hw.img⟩
end
end Go.Ovl
namespace Go.Ovl
open Go Go.Ab
set_option maxRecDepth 100000
def wstep (c : Int × Int) (r : Record) : Int × Int :=
  bif r.Kind == 2 then n5' (bif r.Kind == 1 then nb0' c (oneC r.Floor r.Dir) else c) (oneC r.Floor r.Dir) else (bif r.Kind == 1 then nb0' c (oneC r.Floor r.Dir) else c)
theorem n23' {c : Int × Int} (h : u32C c) (r : Record) : u32C (wstep c r) := by
  unfold wstep
  cases r.Kind == 2 with
  | true => exact noj' _ _
  | false =>
    cases r.Kind == 1 with
    | true => exact nmh' _ _
    | false => exact h
def Agree (c : Int × Int) (m : Img) : Prop := ∀ f : Nat, f < 32 → ∀ d : Int, (d = 1 ∨ d = 2) → (bitC c f d = true ↔ ((f : Int), d) ∈ m.Entries.map nbm')
theorem nsz' (p : Int × Int) : ¬ ltC p p := fun h => by unfold ltC at h; omega
theorem n4r' {l : List (Int × Int)} (hs : l.Pairwise ltC) {k : Nat} (hk : k < l.length) (p : Int × Int) : p ∈ l.take k ++ l.drop (k + 1) ↔ p ∈ l ∧ p ≠ l[k] := by
  have e : l = l.take k ++ l[k] :: l.drop (k + 1) := by
    rw [← List.drop_eq_getElem_cons hk, List.take_append_drop]
  have hs' := hs
  rw [e] at hs'
  obtain ⟨_, h2, h3⟩ := List.pairwise_append.1 hs'
  obtain ⟨h4, _⟩ := List.pairwise_cons.1 h2
  constructor
  · intro h
    rcases List.mem_append.1 h with h | h
    · exact ⟨List.mem_of_mem_take h, fun q => nsz' _ (q ▸ h3 p h l[k] (List.mem_cons_self ..))⟩
    · exact ⟨List.mem_of_mem_drop h, fun q => nsz' _ (q ▸ h4 p h)⟩
  · rintro ⟨h, hne⟩
    rw [e] at h
    rcases List.mem_append.1 h with h | h
    · exact List.mem_append.2 (.inl h)
    · rcases List.mem_cons.1 h with h | h
      · exact absurd h hne
      · exact List.mem_append.2 (.inr h)
theorem nzl' {b : Bldg} (hb : b.small) {c : Int × Int} {m : Img} (ha : Agree c m) (hm : ImgOK b m) {r : Record} (hv : n3' b r = true) : Agree (wstep c r) (nbl' m r) := by
  intro f hf d hd
  have h0 := ha f hf d hd
  have hk := (nqc' hv).2
  have hcall : (r.Kind = 1 ∨ r.Kind = 2) → (0 ≤ r.Floor ∧ r.Floor < 32) ∧ (r.Dir = 1 ∨ r.Dir = 2) := fun h => by
    have lo := hb.lo
    have hi := hb.hi
    have hc : nh' b r.Floor r.Dir = true := by
      rcases hk with q | q | q | q | q | q | q
      · exact q.2.1
      · exact q.2.1
      all_goals omega
    unfold nh' callB at hc
    simp only [Bool.and_eq_true, Bool.or_eq_true, beq_iff_eq, n1'] at hc
    omega
  have hone : (r.Kind = 1 ∨ r.Kind = 2) → (bitC (oneC r.Floor r.Dir) f d = true ↔ ((f : Int), d) = (r.Floor, r.Dir)) := fun h => by
    obtain ⟨h1, h2⟩ := hcall h
    rw [nh9' h1 h2 f hd, decide_eq_true_eq]
  have same : ∀ l : List Entry, l.map nbm' = m.Entries.map nbm' → ¬ r.Kind = 1 → ¬ r.Kind = 2 → (bitC (wstep c r) f d = true ↔ ((f : Int), d) ∈ l.map nbm') := fun l hl h1 h2 => by
    unfold wstep
    rw [beq_f h1, beq_f h2, hl]
    exact h0
  unfold nbl'
  by_cases k4 : r.Kind = 4
  · rw [show (r.Kind == 4) = true by rw [k4]; rfl]
    exact same _ rfl (by omega) (by omega)
  rw [beq_f k4, cond_false]
  by_cases k5 : r.Kind = 5
  · rw [show (r.Kind == 5) = true by rw [k5]; rfl]
    exact same _ rfl (by omega) (by omega)
  rw [beq_f k5, cond_false]
  by_cases k6 : r.Kind = 6
  · rw [show (r.Kind == 6) = true by rw [k6]; rfl]
    exact same _ rfl (by omega) (by omega)
  rw [beq_f k6, cond_false]
  rcases nit' r.Floor r.Dir m.Entries 0 with ⟨h1, h2⟩ | ⟨k, h1, h2, h3⟩
  · rw [h1, show ((-1 : Int) == -1) = true from rfl, cond_true]
    by_cases k1 : r.Kind = 1
    · rw [show (r.Kind == 1) = true by rw [k1]; rfl, cond_true]
      have hins := nno' (c := ⟨r.Floor, r.Dir, -1, 0, false⟩) h2
      show _ ↔ ((f : Int), d) ∈ (insL ⟨r.Floor, r.Dir, -1, 0, false⟩ false m.Entries).map nbm'
      rw [hins]
      unfold wstep
      rw [k1]
      simp only [show ((1 : Int) == 2) = false from rfl, beq_self_eq_true, cond_true, cond_false]
      rw [ne8', Bool.or_eq_true, h0, hone (.inl k1)]
      generalize posF ⟨r.Floor, r.Dir, -1, 0, false⟩ m.Entries = p
      conv => lhs; rw [← List.take_append_drop p m.Entries]
      simp only [List.map_append, List.mem_append, List.map_cons, List.map_nil, List.mem_singleton, nbm']
      constructor
      · rintro ((h | h) | h)
        · exact .inl (.inl h)
        · exact .inr h
        · exact .inl (.inr h)
      · rintro ((h | h) | h)
        · exact .inl (.inl h)
        · exact .inr h
        · exact .inl (.inr h)
    · rw [beq_f k1, cond_false]
      by_cases k2 : r.Kind = 2
      · unfold wstep
        rw [k2]
        simp only [show ((2 : Int) == 1) = false from rfl, beq_self_eq_true, cond_true, cond_false]
        rw [nea' _ _ hf, Bool.and_eq_true, h0, Bool.not_eq_true', ← Bool.not_eq_true, hone (.inr k2)]
        refine ⟨fun h => h.1, fun h => ⟨h, fun q => ?_⟩⟩
        obtain ⟨e, he, hq⟩ := List.mem_map.1 h
        have := h2 e he
        rw [nyx'.2 (hq.trans q)] at this
        cases this
      · exact same _ rfl k1 k2
  · rw [Nat.zero_add] at h2
    rw [h2, beq_f (show ¬ (k : Int) = -1 by omega), cond_false, Int.toNat_natCast]
    have hkc : nbm' (m.Entries.getD k noE) = (r.Floor, r.Dir) := nyx'.1 h3
    have hget : m.Entries.getD k noE = m.Entries[k] := by simp [h1]
    by_cases k2 : r.Kind = 2
    · rw [show (r.Kind == 2) = true by rw [k2]; rfl, cond_true]
      show _ ↔ ((f : Int), d) ∈ (m.Entries.take k ++ m.Entries.drop (k + 1)).map nbm'
      have hd1 := n4r' (l := m.Entries.map nbm') hm.so (k := k) (by rw [List.length_map]; exact h1) ((f : Int), d)
      rw [List.map_append, List.map_take, List.map_drop, hd1, List.getElem_map, ← hget, hkc]
      unfold wstep
      rw [k2]
      simp only [show ((2 : Int) == 1) = false from rfl, beq_self_eq_true, cond_true, cond_false]
      rw [nea' _ _ hf, Bool.and_eq_true, h0, Bool.not_eq_true', ← Bool.not_eq_true, hone (.inr k2)]
    · rw [beq_f k2, cond_false]
      by_cases k1 : r.Kind = 1
      · rw [k1]
        simp only [show ((1 : Int) == 3) = false from rfl, show ((1 : Int) == 7) = false from rfl, cond_false]
        unfold wstep
        rw [k1]
        simp only [show ((1 : Int) == 2) = false from rfl, beq_self_eq_true, cond_true, cond_false]
        rw [ne8', Bool.or_eq_true, h0, hone (.inl k1)]
        refine ⟨fun h => ?_, fun h => .inl h⟩
        rcases h with h | h
        · exact h
        · rw [h, ← hkc]
          exact List.mem_map.2 ⟨_, ndm' noE h1, rfl⟩
      · by_cases k3 : r.Kind = 3
        · rw [show (r.Kind == 3) = true by rw [k3]; rfl, cond_true]
          exact same _ (nl5' h1 rfl) k1 k2
        · rw [beq_f k3, cond_false]
          by_cases k7 : r.Kind = 7
          · rw [show (r.Kind == 7) = true by rw [k7]; rfl, cond_true]
            exact same _ (nl5' h1 rfl) k1 k2
          · rw [beq_f k7, cond_false]
            exact same _ rfl k1 k2
theorem noo' {b : Bldg} (hb : b.small) : ∀ (rs : List Record) {c : Int × Int} {m : Img}, Agree c m → u32C c → ImgOK b m → (∀ r ∈ rs, n3' b r = true) → Agree (rs.foldl wstep c) (nbv' m rs) ∧ u32C (rs.foldl wstep c) ∧ ImgOK b (nbv' m rs)
  | [], _, _, h, hu, hm, _ => ⟨h, hu, hm⟩
  | r :: t, _c, _m, h, hu, hm, hv => noo' hb t (nzl' hb h hm (hv r (List.mem_cons_self ..))) (n23' hu r) (nmd' hm (hv r (List.mem_cons_self ..))).1 fun x hx => hv x (List.mem_cons_of_mem _ hx)
end Go.Ovl
namespace Go.Ovl
open Go Go.Ab
set_option maxRecDepth 100000
def nhp' (was : Int × Int) (X : Rnd) : Int × Int := X.recs.foldl wstep was
theorem nt1' : ∀ {l : List Record} (c : Int × Int), (∀ r ∈ l, r.Kind = 3 ∨ r.Kind = 7) → l.foldl wstep c = c
  | [], _, _ => rfl
  | r :: t, c, h => by
    have hr := h r (List.mem_cons_self ..)
    have : wstep c r = c := by
      unfold wstep
      rw [beq_f (show ¬ r.Kind = 2 by omega), beq_f (show ¬ r.Kind = 1 by omega)]; rfl
    rw [List.foldl_cons, this]
    exact nt1' c fun x hx => h x (List.mem_cons_of_mem _ hx)
theorem nq9' (b : Bldg) (vs : List View) (ps : List Calls) {f : Nat} (hf : f < 32) (d : Int) : ∀ (k i : Nat) (s : Lan), i + k = vs.length → bitC (foldN (litS b vs ps) k i s).cl f d = (bitC s.cl f d || (vs.drop i).any fun v => bitC (nb7' b v) f d)
  | 0, i, s, hi => by rw [show i = vs.length by omega, List.drop_length]; simp [foldN]
  | k + 1, i, s, hi => by
    show bitC (foldN (litS b vs ps) k (i + 1) (litS b vs ps i s)).cl f d = _
    rw [nq9' b vs ps hf d k (i + 1) _ (by omega), nbi' noV (show i < vs.length by omega), List.any_cons]
    show (bitC (nb0' s.cl (litC b vs i s)) f d || _) = _
    unfold litC
    rw [ne8', nea' _ _ hf]
    cases bitC s.cl f d <;> cases bitC (nb7' b (vs.getD i noV)) f d <;> rfl
theorem n2t' (b : Bldg) (vs : List View) (ps : List Calls) {f : Nat} (hf : f < 32) (d : Int) : bitC (nch' b vs ps).cl f d = servB b vs (f : Int) d := by
  unfold nch' servB
  rw [nq9' b vs ps hf d vs.length 0 Lan.none (by omega), List.drop_zero, Int.toNat_natCast]
  show (bitC (0, 0) f d || _) = _
  rw [nee', Bool.false_or]
theorem nt4' (b : Bldg) (vs : List View) {f : Nat} (hf : f < 32) {d : Int} (hd : d = 1 ∨ d = 2) : ∀ {l : List Entry} {c : Int × Int}, (∀ e ∈ l, callE e) → (bitC ((servL b vs l).foldl wstep c) f d = true ↔ bitC c f d = true ∧ ¬(((f : Int), d) ∈ l.map nbm' ∧ servB b vs (f : Int) d = true))
  | [], c, _ => by simp [servL]
  | e :: t, c, h => by
    have he := h e (List.mem_cons_self ..)
    have ht := fun x hx => h x (List.mem_cons_of_mem _ hx)
    have e0 : servL b vs (e :: t) = (bif servB b vs e.Floor e.Dir then [Record.mk 2 e.Floor e.Dir 0 0] else []) ++ servL b vs t := rfl
    rw [e0, List.foldl_append, nt4' b vs hf hd ht, List.map_cons, List.mem_cons]
    cases hs : servB b vs e.Floor e.Dir with
    | false =>
      show bitC c f d = true ∧ _ ↔ _
      constructor
      · rintro ⟨h1, h2⟩
        refine ⟨h1, fun hh => h2 ⟨?_, hh.2⟩⟩
        rcases hh.1 with hh1 | hh1
        · obtain ⟨q1, q2⟩ := Prod.mk.inj (show ((f : Int), d) = (e.Floor, e.Dir) from hh1)
          rw [q1, q2, hs] at hh
          cases hh.2
        · exact hh1
      · rintro ⟨h1, h2⟩
        exact ⟨h1, fun hh => h2 ⟨.inr hh.1, hh.2⟩⟩
    | true =>
      have hw : List.foldl wstep c [Record.mk 2 e.Floor e.Dir 0 0] = n5' c (oneC e.Floor e.Dir) := rfl
      rw [cond_true, hw, nea' _ _ hf, nh9' he.1 he.2 f hd, Bool.and_eq_true, Bool.not_eq_true', decide_eq_false_iff_not]
      constructor
      · rintro ⟨⟨h1, h2⟩, h3⟩
        refine ⟨h1, fun hh => h3 ⟨?_, hh.2⟩⟩
        rcases hh.1 with hh1 | hh1
        · exact absurd hh1 h2
        · exact hh1
      · rintro ⟨h1, h2⟩
        refine ⟨⟨h1, fun hq => h2 ⟨.inl hq, ?_⟩⟩, fun hh => h2 ⟨.inr hh.1, hh.2⟩⟩
        obtain ⟨q1, q2⟩ := Prod.mk.inj hq
        rw [q1, q2]; exact hs
theorem n0o' {b : Bldg} : ∀ {l : List Entry} {X : Rnd}, roomV b X.img = false → (regL b l X).img = X.img
  | [], _, _ => rfl
  | e :: t, X, h => by
    have e1 : (stepG b e X).img = X.img := by unfold stepG; rw [h]; rfl
    show (regL b t (stepG b e X)).img = X.img
    rw [n0o' (by rw [e1]; exact h), e1]
theorem nvc' {b : Bldg} : ∀ {l : List Entry} {X : Rnd}, (regL b l X).lan = X.lan
  | [], _ => rfl
  | e :: t, X => by
    show (regL b t (stepG b e X)).lan = X.lan
    rw [nvc']
    unfold stepG
    cases roomV b X.img <;> rfl
structure RegBits (b : Bldg) (was : Int × Int) (l : List Entry) (X : Rnd) : Prop where
  bits : ∀ f : Nat, f < 32 → ∀ d : Int, (d = 1 ∨ d = 2) → (bitC (nhp' was (regL b l X)) f d = true ↔ bitC (nhp' was X) f d = true ∨ (((f : Int), d) ∈ l.map nbm' ∧ bitC (regL b l X).ref f d = false))
  up : ∀ f : Nat, f < 32 → ∀ d : Int, (d = 1 ∨ d = 2) → bitC X.ref f d = true → bitC (regL b l X).ref f d = true
  down : ∀ f : Nat, f < 32 → ∀ d : Int, (d = 1 ∨ d = 2) → bitC (regL b l X).ref f d = true → bitC X.ref f d = true ∨ ((f : Int), d) ∈ l.map nbm'
  u32 : u32C X.ref → u32C (regL b l X).ref
  room : (regL b l X).ref = X.ref ∨ roomV b (regL b l X).img = false
theorem nqs' {b : Bldg} {was : Int × Int} : ∀ {l : List Entry} {X : Rnd}, (∀ e ∈ l, callE e) → (l.map nbm').Pairwise ltC → (∀ e ∈ l, bitC X.ref e.Floor.toNat e.Dir = false) → RegBits b was l X
  | [], X, _, _, _ => ⟨fun f _ d _ => by simp [regL], fun _ _ _ _ h => h, fun _ _ _ _ h => .inl h, fun h => h, .inl rfl⟩
  | e :: t, X, hc, hp, hr => by
    have he := hc e (List.mem_cons_self ..)
    have hct := fun x hx => hc x (List.mem_cons_of_mem _ hx)
    rw [List.map_cons] at hp
    obtain ⟨hp1, hp2⟩ := List.pairwise_cons.1 hp
    have hne : (e.Floor, e.Dir) ∉ t.map nbm' := fun h => nsz' _ (hp1 _ h)
    have h0 := hr e (List.mem_cons_self ..)
    have hrt := fun x hx => hr x (List.mem_cons_of_mem _ hx)
    have hR : regL b (e :: t) X = regL b t (stepG b e X) := rfl
    cases hroom : roomV b X.img with
    | true =>
      have e1 : stepG b e X = stepW (regR e) X := by unfold stepG; rw [hroom]; rfl
      have e2 : (stepG b e X).ref = X.ref := by rw [e1]; rfl
      have e3 : nhp' was (stepG b e X) = nb0' (nhp' was X) (oneC e.Floor e.Dir) := by
        rw [e1]
        unfold nhp' stepW
        simp only
        rw [List.foldl_append]
        rfl
      have ih := nqs' (b := b) (was := was) (X := stepG b e X) hct hp2 (by rw [e2]; exact hrt)
      have iu := ih.up
      have idn := ih.down
      have iu32 := ih.u32
      have irm := ih.room
      rw [e2] at iu idn iu32 irm
      rw [← hR] at iu idn iu32 irm
      refine ⟨fun f hf d hd => ?_, iu, fun f hf d hd h => (idn f hf d hd h).imp id (List.mem_cons_of_mem _), iu32, irm⟩
      have hb := ih.bits f hf d hd
      rw [← hR, e3, ne8', nh9' he.1 he.2 f hd, Bool.or_eq_true, decide_eq_true_eq] at hb
      rw [hb, List.map_cons, List.mem_cons]
      constructor
      · rintro ((h | h) | ⟨h1, h2⟩)
        · exact .inl h
        · refine .inr ⟨.inl h, ?_⟩
          cases hq : bitC (regL b (e :: t) X).ref f d with
          | false => rfl
          | true =>
            obtain ⟨q1, q2⟩ := Prod.mk.inj h
            rcases idn f hf d hd hq with hh | hh
            · rw [show f = e.Floor.toNat by omega, q2, h0] at hh; cases hh
            · rw [h] at hh; exact absurd hh hne
        · exact .inr ⟨.inr h1, h2⟩
      · rintro (h | ⟨h1 | h1, h2⟩)
        · exact .inl (.inl h)
        · exact .inl (.inr h1)
        · exact .inr ⟨h1, h2⟩
    | false =>
      have e1 : stepG b e X = ⟨X.recs, X.img, X.xs, X.lan, nb0' X.ref (oneC e.Floor e.Dir)⟩ := by unfold stepG; rw [hroom]; rfl
      have e2 : (stepG b e X).ref = nb0' X.ref (oneC e.Floor e.Dir) := by rw [e1]
      have e3 : nhp' was (stepG b e X) = nhp' was X := by rw [e1]; rfl
      have hx : ∀ f : Nat, f < 32 → ∀ d : Int, (d = 1 ∨ d = 2) → (bitC (stepG b e X).ref f d = true ↔ bitC X.ref f d = true ∨ ((f : Int), d) = (e.Floor, e.Dir)) := fun f hf d hd => by
        rw [e2, ne8', nh9' he.1 he.2 f hd, Bool.or_eq_true, decide_eq_true_eq]
      have ih := nqs' (b := b) (was := was) (X := stepG b e X) hct hp2 (fun x hxt => by
        have hce := hct x hxt
        cases hq : bitC (stepG b e X).ref x.Floor.toNat x.Dir with
        | false => rfl
        | true =>
          rcases (hx x.Floor.toNat (by have := hce.1; omega) x.Dir hce.2).1 hq with hh | hh
          · rw [hrt x hxt] at hh; cases hh
          · exfalso
            refine hne (List.mem_map.2 ⟨x, hxt, ?_⟩)
            rw [← hh]
            show (x.Floor, x.Dir) = _
            rw [Int.toNat_of_nonneg hce.1.1])
      refine ⟨fun f hf d hd => ?_, fun f hf d hd h => ?_, fun f hf d hd h => ?_, fun _ => ?_, .inr ?_⟩
      · have hb := ih.bits f hf d hd
        rw [← hR, e3] at hb
        rw [hb, List.map_cons, List.mem_cons]
        constructor
        · rintro (h | ⟨h1, h2⟩)
          · exact .inl h
          · exact .inr ⟨.inr h1, h2⟩
        · rintro (h | ⟨h1 | h1, h2⟩)
          · exact .inl h
          · exfalso
            have := ih.up f hf d hd ((hx f hf d hd).2 (.inr h1))
            rw [← hR, h2] at this
            cases this
          · exact .inr ⟨h1, h2⟩
      · rw [hR]
        exact ih.up f hf d hd ((hx f hf d hd).2 (.inl h))
      · rw [hR] at h
        rw [List.map_cons, List.mem_cons]
        rcases ih.down f hf d hd h with hh | hh
        · rcases (hx f hf d hd).1 hh with h3 | h3
          · exact .inl h3
          · exact .inr (.inl h3)
        · exact .inr (.inr hh)
      · rw [hR]
        exact ih.u32 (by rw [e2]; exact nmh' _ _)
      · have e4 : (stepG b e X).img = X.img := by rw [e1]
        rw [hR, n0o' (by rw [e4]; exact hroom), e4]
        exact hroom
theorem nwc' {c : Int × Int} {f : Nat} (hf : f < 32) {d : Int} (hd : d = 1 ∨ d = 2) : ((f : Int), d) ∈ (listC c).map nbm' ↔ bitC c f d = true := by
  unfold listC
  rw [mem_range]
  constructor
  · rintro ⟨g, _, h1, _, h3⟩
    have hg : g = f := by have : (f : Int) = (g : Int) := h1; omega
    rw [hg] at h3
    exact h3
  · intro h
    exact ⟨f, ⟨by omega, by omega⟩, rfl, hd, h⟩
section
variable {b : Bldg} {m : Img} {vs : List View} {xs : List Int} (h : Plan22 b m vs xs) (ps : List Calls) (press : Int × Int)
include h
theorem noy' : Agree (ofC m.Entries (0, 0)) m := fun f _ d hd => by
  have hc : ∀ e ∈ m.Entries, callE e := fun e he => nnk' h.small (ncy'.1 (h.img.en e he)).1
  rw [nsk' hc f hd, nee']
  simp
theorem nyv' (good : Bool) : ofC (tickV b m xs vs ps press good).img.Entries (0, 0) = nhp' (ofC m.Entries (0, 0)) (tickX b m xs vs ps press good) := by
  have hfr := nzg' h ps press good
  have hk := nz7' b (tickX b m xs vs ps press good).img (tickX b m xs vs ps press good).xs vs
  obtain ⟨a1, a2, a3⟩ := noo' h.small (tickV b m xs vs ps press good).recs (noy' h) (npn' _ nji') h.img hfr.val
  rw [← hfr.img] at a1 a3
  have hc : ∀ e ∈ (tickV b m xs vs ps press good).img.Entries, callE e := fun e he => nnk' h.small (ncy'.1 (a3.en e he)).1
  have e1 : (tickV b m xs vs ps press good).recs.foldl wstep (ofC m.Entries (0, 0)) = nhp' (ofC m.Entries (0, 0)) (tickX b m xs vs ps press good) := by
    show ((tickX b m xs vs ps press good).recs ++ (planV b (tickX b m xs vs ps press good).img (tickX b m xs vs ps press good).xs vs).1).foldl wstep _ = _
    rw [List.foldl_append, nt1' _ hk]
    rfl
  rw [← e1]
  refine nmf' (npn' _ nji') a2 fun f hf d hd => ?_
  rw [Bool.eq_iff_iff, nsk' hc f hd, a1 f hf d hd, nee']
  simp
theorem nz4' : ofC (tickV b m xs vs ps press true).img.Entries (0, 0) = nb0' (n5' (ofC m.Entries (0, 0)) (nch' b vs ps).cl) (n5' (nb5' b m press) (tickV b m xs vs ps press true).ref) ∧ isZ (n5' (tickV b m xs vs ps press true).ref (nb5' b m press)) = true ∧ ((tickV b m xs vs ps press true).ref = (0, 0) ∨ roomV b (tickX b m xs vs ps press true).img = false) ∧ (tickV b m xs vs ps press true).lan = nch' b vs ps ∧ u32C (tickV b m xs vs ps press true).ref := by
  have hc : ∀ e ∈ m.Entries, callE e := fun e he => nnk' h.small (ncy'.1 (h.img.en e he)).1
  have hX : tickX b m xs vs ps press true = regL b (listC (nb5' b m press)) (wrL (servL b vs m.Entries) ⟨[], m, xs, nch' b vs ps, (0, 0)⟩) := rfl
  have hT : (tickV b m xs vs ps press true).ref = (tickX b m xs vs ps press true).ref := rfl
  have rb := nqs' (b := b) (was := ofC m.Entries (0, 0)) (l := listC (nb5' b m press)) (X := wrL (servL b vs m.Entries) ⟨[], m, xs, nch' b vs ps, (0, 0)⟩) (fun e he => by
    obtain ⟨h1, h2, _⟩ := nth' he
    exact ⟨h1, h2⟩) (nom' _ 32 0) (fun e _ => nee' _ _)
  have e0 : ∀ f : Nat, f < 32 → ∀ d : Int, (d = 1 ∨ d = 2) → (bitC (tickX b m xs vs ps press true).ref f d = true → bitC (nb5' b m press) f d = true) := fun f hf d hd hh => by
    have hdn := rb.down f hf d hd
    rw [← hX] at hdn
    rcases hdn hh with hq | hq
    · rw [show bitC (wrL (servL b vs m.Entries) ⟨[], m, xs, nch' b vs ps, (0, 0)⟩).ref f d = false from nee' f d] at hq; cases hq
    · exact (nwc' hf hd).1 hq
  refine ⟨?_, ?_, ?_, ?_, ?_⟩
  · rw [nyv' h ps press true, hT]
    refine nmf' (noo' h.small _ (noy' h) (npn' _ nji') h.img (nrv' h ps press true).val).2.1 (nmh' _ _) fun f hf d hd => ?_
    have hb := rb.bits f hf d hd
    have hs := nt4' b vs hf hd (l := m.Entries) (c := ofC m.Entries (0, 0)) hc
    have hag := noy' h f hf d hd
    have e2 : nhp' (ofC m.Entries (0, 0)) (wrL (servL b vs m.Entries) ⟨[], m, xs, nch' b vs ps, (0, 0)⟩) = (servL b vs m.Entries).foldl wstep (ofC m.Entries (0, 0)) := rfl
    rw [e2, ← hX] at hb
    rw [Bool.eq_iff_iff, hb, hs, ne8', nea' _ _ hf, nea' _ _ hf, n2t' b vs ps hf d, nwc' hf hd, Bool.or_eq_true, Bool.and_eq_true, Bool.and_eq_true, Bool.not_eq_true', Bool.not_eq_true']
    constructor
    · rintro (⟨h1, h2⟩ | h1)
      · refine .inl ⟨h1, ?_⟩
        cases hq : servB b vs (f : Int) d with
        | false => rfl
        | true => exact absurd ⟨hag.1 h1, hq⟩ h2
      · exact .inr h1
    · rintro (⟨h1, h2⟩ | h1)
      · refine .inl ⟨h1, fun hh => ?_⟩
        rw [h2] at hh; cases hh.2
      · exact .inr h1
  · rw [hT]
    refine (npk' (noj' _ _)).2 fun f hf d hd => ?_
    rw [nea' _ _ hf]
    cases hq : bitC (tickX b m xs vs ps press true).ref f d with
    | false => rfl
    | true => rw [e0 f hf d hd hq]; rfl
  · rw [hT]
    have hrm := rb.room
    rw [← hX] at hrm
    exact hrm
  · show (tickX b m xs vs ps press true).lan = _
    rw [hX, nvc']
    rfl
  · rw [hT, hX]
    exact rb.u32 nji'
end
end Go.Ovl
namespace Go.Ovl
open Go Go.Ab
set_option maxRecDepth 100000
theorem n2q' {b : Bldg} {m : Img} {vs : List View} {xs : List Int} (h : Plan22 b m vs xs) (ps : List Calls) (press : Int × Int) (good : Bool) : (tickV b m xs vs ps press good).img = (tickX b m xs vs ps press good).img.put (decL b vs (tickX b m xs vs ps press good).img.Entries (tickX b m xs vs ps press good).xs) := by
  have hn := n0q' h ps press good
  obtain ⟨hok, _⟩ := nic' h.small h.code h.img h.xlen (vs := vs) ps press good
  have hp := nnv' (b := b) (by have := h.cars; omega) hn.vlen (tickX b m xs vs ps press good).img.Entries (tickX b m xs vs ps press good).xs [] (tickX b m xs vs ps press good).img hok.len hok.img rfl
  have e1 : tickP b m xs vs ps press good = (planR b vs (tickX b m xs vs ps press good).img.Entries (tickX b m xs vs ps press good).xs, planN b vs (tickX b m xs vs ps press good).img.Entries (tickX b m xs vs ps press good).xs, 0, ()) := hn.planV_eq
  have e2 : (tickV b m xs vs ps press good).img = nbv' (tickX b m xs vs ps press good).img (tickP b m xs vs ps press good).1 := rfl
  rw [e2, e1]
  exact hp.1
end Go.Ovl
namespace Go.Ovl
open Go Go.Ab
set_option maxRecDepth 100000
theorem nv8' {b : Bldg} {m : Img} {vs : List View} {xs : List Int} (h : Plan22 b m vs xs) (ps : List Calls) (press : Int × Int) (good : Bool) : (tickV b m xs vs ps press good).img.Entries.length = (tickX b m xs vs ps press good).img.Entries.length := by
  obtain ⟨hok, _⟩ := nic' h.small h.code h.img h.xlen (vs := vs) ps press good
  rw [n2q' h ps press good]
  exact nw0' b vs _ _ hok.len
def niq' (b : Bldg) (m : Img) (c_K : List Int) (press : Int × Int) (i : Int) : (List Int × Unit × Unit × Unit × Unit × Unit × Int × Unit) × ((Int × Int × Unit) × T'0 × T'5 × (Int × Int × Unit) × (Int × Int × Unit) × Unit) :=
  ((c_K, (), (), (), (), (), i, ()), ((press.1, press.2, ()), b.tup, m.tup, ((ofC m.Entries (0, 0)).1, (ofC m.Entries (0, 0)).2, ()), ((nb5' b m press).1, (nb5' b m press).2, ()), ()))
section
variable {b : Bldg} {m : Img} {vs : List View} {xs c_K : List Int} (h : Plan22 b m vs xs) (press : Int × Int)
  (hV : ned' b.Floors b.Debounce b.Room b.Park b.Empty b.Full b.Over b.Cars c_K = some ((vs, ()), ())) (hX : nde' m.Phases m.Flags m.Leaving m.Entries c_K = some ((xs, ()), ()))
include h hV hX
theorem nxb' : nbs' c_K 0 press.1 press.2 b.Floors b.Debounce b.Room b.Park b.Empty b.Full b.Over b.Cars m.Phases m.Flags m.Leaving m.Entries (ofC m.Entries (0, 0)).1 (ofC m.Entries (0, 0)).2 (nb5' b m press).1 (nb5' b m press).2 = some (.inl (niq' b m c_K press 1)) := by
  have hcc := h.cars
  have ht := h.tick (ps := List.replicate b.Cars.length noP) List.length_replicate press true
  obtain ⟨g1, g2, g3, g4, _⟩ := nz4' h (List.replicate b.Cars.length noP) press
  have hlen := nv8' h (List.replicate b.Cars.length noP) press true
  obtain ⟨hok, _⟩ := nic' h.small h.code h.img h.xlen (vs := vs) (List.replicate b.Cars.length noP) press true
  have hel := nd9' h.small hok.img
  have hio := Img.ok_iff.2 hok.img
  rw [← g4] at g1
  generalize tickV b m xs vs (List.replicate b.Cars.length noP) press true = T at *
  generalize tickX b m xs vs (List.replicate b.Cars.length noP) press true = X at *
  have hof := nog' (l := T.img.Entries) (by omega)
  have m1 := ng3' (ofC m.Entries (0, 0)) T.lan.cl
  have m2 := ng3' (nb5' b m press) T.ref
  have m3 := npa' (n5' (ofC m.Entries (0, 0)) T.lan.cl) (n5' (nb5' b m press) T.ref)
  have m4 := ng3' T.ref (nb5' b m press)
  rw [g1] at hof
  unfold nbs'
  rw [hX, hV]
  simp only [show decide ((0 : Int) < 2) = true from rfl, cond_true, Option.bind_some, decide_eq_true (show (0 : Int) ≤ (b.Cars.length : Int) by omega), decide_eq_true (Int.le_refl (b.Cars.length : Int)), decide_eq_true (show (b.Cars.length : Int) ≤ 2147483648 by omega), Bool.and_self, Int.toNat_natCast, beq_self_eq_true]
  rw [show nbw' b.Floors b.Debounce b.Room b.Park b.Empty b.Full b.Over b.Cars m.Phases m.Flags m.Leaving m.Entries xs vs (List.replicate b.Cars.length (Calls.mk 0 0)) press.1 press.2 true = _ from ht]
  simp only [Option.bind_some, Rnd.tup, bne_self_eq_false, cond_false, m1, m2, m3, hof, beq_self_eq_true, Bool.and_self, Bool.not_true, show ((0 : Int) == 1) = false from rfl, m4]
  rw [show (((n5' T.ref (nb5' b m press)).1 == 0) && (((n5' T.ref (nb5' b m press)).2 == 0) && true)) = true from g2]
  simp only [Bool.not_true, cond_false]
  cases hz : (T.ref.1 == 0) && ((T.ref.2 == 0) && true) with
  | true =>
    simp only [Bool.not_true, cond_false, Option.bind_some]
    rfl
  | false =>
    have g3' : roomV b X.img = false := by
      rcases g3 with g3 | g3
      · rw [g3] at hz; cases hz
      · exact g3
    unfold roomV at g3'
    rw [hio, Bool.true_and] at g3'
    have hw := roomW (a := b.Cars.length) (b := T.img.Entries.length) (by omega) (by omega)
    simp only [Bool.not_false, cond_true, Option.bind_some, hw]
    rw [hlen, g3']
    rfl
theorem nxs' : nbs' c_K 1 press.1 press.2 b.Floors b.Debounce b.Room b.Park b.Empty b.Full b.Over b.Cars m.Phases m.Flags m.Leaving m.Entries (ofC m.Entries (0, 0)).1 (ofC m.Entries (0, 0)).2 (nb5' b m press).1 (nb5' b m press).2 = some (.inl (niq' b m c_K press 2)) := by
  have hcc := h.cars
  have ht := h.tick (ps := List.replicate b.Cars.length noP) List.length_replicate press false
  have g1 := nyv' h (List.replicate b.Cars.length noP) press false
  have g1' : ofC (tickV b m xs vs (List.replicate b.Cars.length noP) press false).img.Entries (0, 0) = ofC m.Entries (0, 0) := g1
  have gr : (tickV b m xs vs (List.replicate b.Cars.length noP) press false).ref = (0, 0) := rfl
  have gl : (tickV b m xs vs (List.replicate b.Cars.length noP) press false).lan.cl = (0, 0) := rfl
  have hlen := nv8' h (List.replicate b.Cars.length noP) press false
  obtain ⟨hok, _⟩ := nic' h.small h.code h.img h.xlen (vs := vs) (List.replicate b.Cars.length noP) press false
  have hel := nd9' h.small hok.img
  generalize tickV b m xs vs (List.replicate b.Cars.length noP) press false = T at *
  have hof := nog' (l := T.img.Entries) (by omega)
  have m4 := ng3' (0, 0) (nb5' b m press)
  have hz : isZ (n5' (0, 0) (nb5' b m press)) = true := (npk' (noj' _ _)).2 fun f hf d hd => by
    rw [nea' _ _ hf, nee']; rfl
  rw [g1'] at hof
  unfold nbs'
  rw [hX, hV]
  simp only [show decide ((1 : Int) < 2) = true from rfl, cond_true, Option.bind_some, decide_eq_true (show (0 : Int) ≤ (b.Cars.length : Int) by omega), decide_eq_true (Int.le_refl (b.Cars.length : Int)), decide_eq_true (show (b.Cars.length : Int) ≤ 2147483648 by omega), Bool.and_self, Int.toNat_natCast, show ((1 : Int) == 0) = false from rfl]
  rw [show nbw' b.Floors b.Debounce b.Room b.Park b.Empty b.Full b.Over b.Cars m.Phases m.Flags m.Leaving m.Entries xs vs (List.replicate b.Cars.length (Calls.mk 0 0)) press.1 press.2 false = _ from ht]
  simp only [Option.bind_some, Rnd.tup, bne_self_eq_false, cond_false, cond_true, hof, beq_self_eq_true, Bool.and_self, Bool.not_true, gr, gl, m4]
  rw [show (((n5' (0, 0) (nb5' b m press)).1 == 0) && (((n5' (0, 0) (nb5' b m press)).2 == 0) && true)) = true from hz]
  rfl
end
theorem nxf' (b : Bldg) (m : Img) (c_K : List Int) (press : Int × Int) : nbs' c_K 2 press.1 press.2 b.Floors b.Debounce b.Room b.Park b.Empty b.Full b.Over b.Cars m.Phases m.Flags m.Leaving m.Entries (ofC m.Entries (0, 0)).1 (ofC m.Entries (0, 0)).2 (nb5' b m press).1 (nb5' b m press).2 = some (.inr (.inl ((), ()))) := by
  unfold nbs'
  rw [show decide ((2 : Int) < 2) = false from rfl]; rfl
noncomputable def nma' : (List Int × Unit × Unit × Unit × Unit × Unit × Int × Unit) × ((Int × Int × Unit) × T'0 × T'5 × (Int × Int × Unit) × (Int × Int × Unit) × Unit) → Option (Sum ((List Int × Unit × Unit × Unit × Unit × Unit × Int × Unit) × ((Int × Int × Unit) × T'0 × T'5 × (Int × Int × Unit) × (Int × Int × Unit) × Unit)) ((Unit × Unit) ⊕ ((Bool × Unit) × Unit))) := fun x => nbs' x.1.1 x.1.2.2.2.2.2.2.1 x.2.1.1 x.2.1.2.1 x.2.2.1.1 x.2.2.1.2.1 x.2.2.1.2.2.1 x.2.2.1.2.2.2.1 x.2.2.1.2.2.2.2.1 x.2.2.1.2.2.2.2.2.1 x.2.2.1.2.2.2.2.2.2.1 x.2.2.1.2.2.2.2.2.2.2.1 x.2.2.2.1.1 x.2.2.2.1.2.1 x.2.2.2.1.2.2.1 x.2.2.2.1.2.2.2.1 x.2.2.2.2.1.1 x.2.2.2.2.1.2.1 x.2.2.2.2.2.1.1 x.2.2.2.2.2.1.2.1
theorem nzo' {b : Bldg} {m : Img} {vs : List View} {xs c_K : List Int} (h : Plan22 b m vs xs) (press : Int × Int)
    (hV : ned' b.Floors b.Debounce b.Room b.Park b.Empty b.Full b.Over b.Cars c_K = some ((vs, ()), ())) (hX : nde' m.Phases m.Flags m.Leaving m.Entries c_K = some ((xs, ()), ())) :
    ncw' (niq' b m c_K press 0) = some (.inl ((), ())) := by
  have e0 : nma' (niq' b m c_K press 0) = some (.inl (niq' b m c_K press 1)) := nxb' h press hV hX
  have e1 : nma' (niq' b m c_K press 1) = some (.inl (niq' b m c_K press 2)) := nxs' h press hV hX
  have e2 : nma' (niq' b m c_K press 2) = some (.inr (.inl ((), ()))) := nxf' b m c_K press
  have hi : iter nma' 3 (niq' b m c_K press 0) = some (.inl ((), ())) := (ny' e0).trans ((ny' e1).trans (nr' e2))
  have hf := nv' hi (by omega)
  exact hf
theorem nla' {α β : Type} {o : Option α} {a : α} {f : α → Option β} {r : Option β} (h : o = some a) (h2 : f a = r) : Option.bind o f = r := by
  subst h; exact h2
theorem npy' (c_N_0 : Int) (c_N_1 : Int) (c_L : List (Int)) (c_K : List (Int)) (c_Press_Up : Int) (c_Press_Down : Int) (h_c_N_0 : 0 ≤ c_N_0 ∧ c_N_0 < 256) (h_c_N_1 : 0 ≤ c_N_1 ∧ c_N_1 < 256) (h_c_L : c_L.length ≤ maxLen ∧ ∀ e ∈ c_L, (0 ≤ e ∧ e < 256)) (h_c_K : c_K.length ≤ maxLen ∧ ∀ e ∈ c_K, (0 ≤ e ∧ e < 256)) (_h_c_Press_Up : 0 ≤ c_Press_Up ∧ c_Press_Up < 4294967296) (_h_c_Press_Down : 0 ≤ c_Press_Down ∧ c_Press_Down < 4294967296) : F_l24_DispatchCalls c_N_0 c_N_1 c_L c_K c_Press_Up c_Press_Down = some ((true, ()), ()) := by
  obtain ⟨b, m, vs, xs, hB, hI, hV, hX, h⟩ := n5h' h_c_N_0 h_c_N_1 h_c_L h_c_K
  have hme := h.ents
  have hl := nzo' h (c_Press_Up, c_Press_Down) hV hX
  have m1 := nxi' (c_Press_Up, c_Press_Down) (hallC b)
  have m2 := ng3' (bothC (c_Press_Up, c_Press_Down) (hallC b)) (ofC m.Entries (0, 0))
  have hof := nog' (l := m.Entries) (by omega)
  have hH := nxd' h.small h.code
  unfold F_l24_DispatchCalls
  rw [hB]
  simp only [Option.bind_some, Bldg.tup]
  rw [hI]
  simp only [Option.bind_some, Img.tup]
  refine nla' hof (nla' hH (nla' m1 (nla' m2 (nla' hl ?_))))
  exact nla' n3s' rfl
end Go.Ovl
