/- The views that the laws of layer 22 make. -/
import Derived.Test.YticbfghinhhgiaaDoorOvChoose
namespace Go.Ovl
open Go Go.Ab
set_option maxRecDepth 100000
theorem u8r.bif {p : Bool} {a b : Int} (ha : u8r a) (hb : u8r b) : u8r (bif p then a else b) := by cases p <;> assumption
theorem u32_range (n : Int) : u32r (IntKind.u32.wrap n) := by
  unfold u32r
  simp only [IntKind.wrap, IntKind.signed, IntKind.bits]
  simp
  omega
theorem Views_in {l : List Int} (hl : ∀ e ∈ l, u8r e) (_hlen : l.length ≤ maxLen) (out : List View) {i : Nat} (hi : i < 100) (b : Bldg) :
    ∃ y : (List Int × Unit × List View × Int × Unit × Unit) × ((Int × Int × Int × Int × Nat × Nat × Nat × List Car × Unit) × (Int × Int × Int × Int × Unit) × Unit),
      L_l22_Views_1 ((l, (), out, (i : Int), (), (0 : Int), ()), (b.tup, ((0 : Int), (0 : Int), (0 : Int), (0 : Int), ()), ())) = some y ∧
      ∃ x0 x1 x2 x3 : Int, u8r x0 ∧ u8r x1 ∧ u8r x2 ∧ u8r x3 ∧ y = ((l, (), out, (i : Int), (), ()), (b.tup, (x0, x1, x2, x3, ()), ())) := by
  have hm : maxLen ≤ 9223372036854775807 := by decide
  refine loop_ex (fun x => ∃ (k : Nat) (x0 x1 x2 x3 : Int), k ≤ 4 ∧ u8r x0 ∧ u8r x1 ∧ u8r x2 ∧ u8r x3 ∧ x = ((l, (), out, (i : Int), (), (k : Int), ()), (b.tup, (x0, x1, x2, x3, ()), ())))
    (fun y => ∃ x0 x1 x2 x3 : Int, u8r x0 ∧ u8r x1 ∧ u8r x2 ∧ u8r x3 ∧ y = ((l, (), out, (i : Int), (), ()), (b.tup, (x0, x1, x2, x3, ()), ())))
    (fun x => 4 - x.1.2.2.2.2.2.1.toNat) ?_ ⟨0, 0, 0, 0, 0, by omega, u8r0, u8r0, u8r0, u8r0, rfl⟩ (by show 4 - 0 < _; omega)
  rintro _ ⟨k, x0, x1, x2, x3, hk, h0, h1, h2, h3, rfl⟩
  show (∃ x', R_l22_Views_1 l out i k b.Floors b.Debounce b.Room b.Park b.Empty b.Full b.Over b.Cars x0 x1 x2 x3 = _ ∧ _) ∨ ∃ y, R_l22_Views_1 l out i k b.Floors b.Debounce b.Room b.Park b.Empty b.Full b.Over b.Cars x0 x1 x2 x3 = _ ∧ _
  unfold R_l22_Views_1
  by_cases g : (k : Int) < 4
  · rw [decide_eq_true g, cond_true]
    by_cases g' : (0 : Int) < (l.length : Int)
    · have w1 : IntKind.i64.wrap (4 * (i : Int)) = 4 * (i : Int) := wrap_small (by omega) (by omega)
      have w2 : IntKind.i64.wrap (4 * (i : Int) + k) = 4 * (i : Int) + k := wrap_small (by omega) (by omega)
      have w3 : IntKind.i64.wrap ((k : Int) + 1) = ((k + 1 : Nat) : Int) := by rw [wrap_small (by omega) (by omega)]; omega
      have hmod : Int.tmod (4 * (i : Int) + k) (l.length : Int) = (((4 * i + k) % l.length : Nat) : Int) := by rw [Int.tmod_eq_emod_of_nonneg (by omega)]; norm_cast
      have hlt : (4 * i + k) % l.length < l.length := Nat.mod_lt _ (by omega)
      have e := getD_all (P := u8r) hl (d := (0 : Int)) hlt
      rw [decide_eq_true g']
      simp only [w1, w2, w3, hmod, bne_t (show ¬ (l.length : Int) = 0 by omega), cond_true, inB_true (show (0 : Int) ≤ (((4 * i + k) % l.length : Nat) : Int) by omega) (show (((4 * i + k) % l.length : Nat) : Int) < (l.length : Int) by omega), inB_true (show (0 : Int) ≤ (k : Int) by omega) (show (k : Int) < ((4 : Nat) : Int) from g), Int.toNat_natCast]
      exact .inl ⟨_, rfl, ⟨k + 1, _, _, _, _, by omega, u8r.bif e h0, u8r.bif e h1, u8r.bif e h2, u8r.bif e h3, rfl⟩, by simp only [Int.toNat_natCast]; omega⟩
    · rw [decide_eq_false g']
      exact .inr ⟨_, rfl, x0, x1, x2, x3, h0, h1, h2, h3, rfl⟩
  · rw [decide_eq_false g]
    exact .inr ⟨_, rfl, x0, x1, x2, x3, h0, h1, h2, h3, rfl⟩
/-- Made views. -/
structure Made (b : Bldg) (vs : List View) : Prop where
  len : vs.length = b.Cars.length
  ok : okViews vs
  lost : ∀ v ∈ vs, v.Lost = true → v.Ready = false
  flo : ∀ v ∈ vs, -1 ≤ v.Floor ∧ v.Floor < b.Floors
theorem F_l22_Views_eq {b : Bldg} (hb : b.small) (hc : b.Cars.length ≤ 8) {l : List Int} (hl : ∀ e ∈ l, u8r e) (hlen : l.length ≤ maxLen) :
    ∃ vs : List View, F_l22_Views b.Floors b.Debounce b.Room b.Park b.Empty b.Full b.Over b.Cars l = some ((vs, ()), ()) ∧ Made b vs := by
  have lo := hb.lo
  have hi := hb.hi
  have key : ∃ y : (List View × Unit) × Unit, L_l22_Views_0 ((l, (), ([] : List View), (0 : Int), ()), (b.tup, ())) = some y ∧ ∃ vs, Made b vs ∧ y = ((vs, ()), ()) := by
    refine loop_ex (fun x => ∃ (i : Nat) (out : List View), i ≤ b.Cars.length ∧ out.length = i ∧ okViews out ∧ (∀ v ∈ out, v.Lost = true → v.Ready = false) ∧ (∀ v ∈ out, -1 ≤ v.Floor ∧ v.Floor < b.Floors) ∧ x = ((l, (), out, (i : Int), ()), (b.tup, ())))
      (fun y => ∃ vs, Made b vs ∧ y = ((vs, ()), ())) (fun x => b.Cars.length - x.1.2.2.2.1.toNat) ?_ ⟨0, [], by omega, rfl, (fun v h => by cases h), (fun v h => by cases h), (fun v h => by cases h), rfl⟩ (by show b.Cars.length - 0 < _; omega)
    rintro _ ⟨i, out, hi1, hi2, ho, hlo, hfl, rfl⟩
    show (∃ x', R_l22_Views_0 l out i b.Floors b.Debounce b.Room b.Park b.Empty b.Full b.Over b.Cars = _ ∧ _) ∨ ∃ y, R_l22_Views_0 l out i b.Floors b.Debounce b.Room b.Park b.Empty b.Full b.Over b.Cars = _ ∧ _
    unfold R_l22_Views_0
    by_cases g : (i : Int) < (b.Cars.length : Int)
    · obtain ⟨_, e1, x0, x1, x2, x3, h0, h1, h2, h3, rfl⟩ := Views_in hl hlen out (show i < 100 by omega) b
      have e1' : L_l22_Views_1 ((l, (), out, (i : Int), (), (0 : Int), ()), ((b.Floors, b.Debounce, b.Room, b.Park, b.Empty, b.Full, b.Over, b.Cars, ()), ((0 : Int), (0 : Int), (0 : Int), (0 : Int), ()), ())) = _ := e1
      have w3 : IntKind.i64.wrap ((i : Int) + 1) = ((i + 1 : Nat) : Int) := by rw [wrap_small (by omega) (by omega)]; omega
      have w4 : IntKind.i64.wrap (b.Floors + 1) = b.Floors + 1 := wrap_small (by omega) (by omega)
      have w5 : IntKind.i64.wrap x1 = x1 := wrap_small (by unfold u8r at h1; omega) (by unfold u8r at h1; omega)
      have m1 : 0 ≤ Int.tmod x1 (b.Floors + 1) ∧ Int.tmod x1 (b.Floors + 1) < b.Floors + 1 := by
        rw [Int.tmod_eq_emod_of_nonneg h1.1]
        exact ⟨Int.emod_nonneg _ (by omega), Int.emod_lt_of_pos _ (by omega)⟩
      have w6 : IntKind.i64.wrap (Int.tmod x1 (b.Floors + 1) - 1) = Int.tmod x1 (b.Floors + 1) - 1 := wrap_small (by omega) (by omega)
      have ap : ∀ v : View, Nat.ble (out.length + [v].length) 2147483648 = true := fun v => ble_true (by simp; omega)
      rw [decide_eq_true g, e1']
      simp only [cond_true, Option.bind_some, Bldg.tup, w3, w4, w5, w6, ap, bne_t (show ¬ b.Floors + 1 = 0 by omega)]
      have fin : ∀ v : View, v.ok → (v.Lost = true → v.Ready = false) → (-1 ≤ v.Floor ∧ v.Floor < b.Floors) →
          ∃ (j : Nat) (o : List View), j ≤ b.Cars.length ∧ o.length = j ∧ okViews o ∧ (∀ v ∈ o, v.Lost = true → v.Ready = false) ∧ (∀ v ∈ o, -1 ≤ v.Floor ∧ v.Floor < b.Floors) ∧ ((l, (), out ++ [v], ((i + 1 : Nat) : Int), ()), ((b.Floors, b.Debounce, b.Room, b.Park, b.Empty, b.Full, b.Over, b.Cars, ()), ())) = ((l, (), o, (j : Int), ()), ((b.Floors, b.Debounce, b.Room, b.Park, b.Empty, b.Full, b.Over, b.Cars, ()), ())) := fun v k1 k2 k3 => by
        refine ⟨i + 1, out ++ [v], by omega, by simp; omega, fun x hx => ?_, fun x hx => ?_, fun x hx => ?_, rfl⟩
        · rcases List.mem_append.1 hx with h | h
          · exact ho x h
          · rw [List.mem_singleton.1 h]; exact k1
        · rcases List.mem_append.1 hx with h | h
          · exact hlo x h
          · rw [List.mem_singleton.1 h]; exact k2
        · rcases List.mem_append.1 hx with h | h
          · exact hfl x h
          · rw [List.mem_singleton.1 h]; exact k3
      cases hz : (Int.tmod (IntKind.u8.wrap (Int.tdiv x0 16)) 4 == 0) with
      | true =>
        simp only [cond_true]
        exact .inl ⟨_, rfl, fin _ ⟨u32_range _, u32_range _, u32_range _⟩ (fun _ => rfl) ⟨by show -1 ≤ Int.tmod x1 (b.Floors + 1) - 1; omega, by show Int.tmod x1 (b.Floors + 1) - 1 < b.Floors; omega⟩, by simp only [Int.toNat_natCast]; omega⟩
      | false =>
        simp only [cond_false]
        exact .inl ⟨_, rfl, fin _ ⟨u32_range _, u32_range _, u32_range _⟩ (fun h => by cases h) ⟨by show -1 ≤ Int.tmod x1 (b.Floors + 1) - 1; omega, by show Int.tmod x1 (b.Floors + 1) - 1 < b.Floors; omega⟩, by simp only [Int.toNat_natCast]; omega⟩
    · rw [decide_eq_false g]
      exact .inr ⟨_, rfl, out, ⟨by omega, ho, hlo, hfl⟩, rfl⟩
  obtain ⟨_, h1, vs, h2, rfl⟩ := key
  refine ⟨vs, ?_, h2⟩
  unfold F_l22_Views
  have h1' : L_l22_Views_0 ((l, (), ([] : List View), (0 : Int), ()), ((b.Floors, b.Debounce, b.Room, b.Park, b.Empty, b.Full, b.Over, b.Cars, ()), ())) = _ := h1
  rw [h1']
  rfl
end Go.Ovl
