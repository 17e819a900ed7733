/- The records and images that the laws make. -/
import Derived.Test.YthdomhdippmaiaaGreatOvKeeps
namespace Go.Ovl
open Go Go.Ab
set_option maxRecDepth 100000
theorem nx2' {b : Bldg} (hb : b.small) (hcode : b.code = 0) (hc : 1 ≤ b.Cars.length ∧ b.Cars.length ≤ 100) {l : List Int} (hl : ∀ e ∈ l, u8r e) {out : List Record} {most : Int} (ho : out.length ≤ 100) (hm : (out.length : Int) < most) (hi : 2 * out.length + 1 < l.length) :
    ∃ r, n4' b r = true ∧ ndq' l most out b.Floors (b.Cars.length : Int) ((2 * out.length : Nat) : Int) = some (.inl ((l, most, out ++ [r], b.Floors, (b.Cars.length : Int), ((2 * (out ++ [r]).length : Nat) : Int), ()), ())) := by
  have lo := hb.lo
  have hi8 := hb.hi
  have w1 : IntKind.i64.wrap (((2 * out.length : Nat) : Int) + 1) = ((2 * out.length + 1 : Nat) : Int) := by rw [nb' (by omega) (by omega)]; omega
  have w2 : IntKind.i64.wrap (((2 * out.length : Nat) : Int) + 2) = ((2 * out.length + 2 : Nat) : Int) := by rw [nb' (by omega) (by omega)]; omega
  have hn := nwz' (P := u8r) hl (d := (0 : Int)) (show 2 * out.length < l.length by omega)
  have hv := nwz' (P := u8r) hl (d := (0 : Int)) hi
  generalize hnn : l.getD (2 * out.length) 0 = n at hn
  generalize hvv : l.getD (2 * out.length + 1) 0 = v at hv
  obtain ⟨n0, n1⟩ := hn
  obtain ⟨v0, v1⟩ := hv
  have wn : IntKind.i64.wrap n = n := nb' (by omega) (by omega)
  have wv : IntKind.i64.wrap v = v := nb' (by omega) (by omega)
  have tm : ∀ (x y : Int), 0 ≤ x → Int.tmod x y = x % y := fun x y h => Int.tmod_eq_emod_of_nonneg h
  have td : ∀ (x y : Int), 0 ≤ x → Int.tdiv x y = x / y := fun x y h => Int.tdiv_eq_ediv_of_nonneg h
  have wd7 : IntKind.i64.wrap (n / 7) = n / 7 := nb' (by omega) (by omega)
  have wd14 : IntKind.i64.wrap (n / 14) = n / 14 := nb' (by omega) (by omega)
  have wd2 : IntKind.i64.wrap (v / 2) = v / 2 := nb' (by omega) (by omega)
  have wf : IntKind.i64.wrap (b.Floors - 1) = b.Floors - 1 := nb' (by omega) (by omega)
  have wc : IntKind.i64.wrap ((b.Cars.length : Int) + 2) = (b.Cars.length : Int) + 2 := nb' (by omega) (by omega)
  have wz4 : IntKind.i64.wrap (1 + v % 2) = 1 + v % 2 := nb' (by omega) (by omega)
  have mc : 0 ≤ n / 7 % (b.Cars.length : Int) ∧ n / 7 % (b.Cars.length : Int) < (b.Cars.length : Int) := ⟨Int.emod_nonneg _ (by omega), Int.emod_lt_of_pos _ (by omega)⟩
  have mc2 : 0 ≤ n / 7 % ((b.Cars.length : Int) + 2) ∧ n / 7 % ((b.Cars.length : Int) + 2) < (b.Cars.length : Int) + 2 := ⟨Int.emod_nonneg _ (by omega), Int.emod_lt_of_pos _ (by omega)⟩
  have mf : 0 ≤ v / 2 % (b.Floors - 1) ∧ v / 2 % (b.Floors - 1) < b.Floors - 1 := ⟨Int.emod_nonneg _ (by omega), Int.emod_lt_of_pos _ (by omega)⟩
  have wz6 : IntKind.i64.wrap (v / 2 % (b.Floors - 1) + 1) = v / 2 % (b.Floors - 1) + 1 := nb' (by omega) (by omega)
  have wca : IntKind.i64.wrap (n / 7 % ((b.Cars.length : Int) + 2) - 2) = n / 7 % ((b.Cars.length : Int) + 2) - 2 := nb' (by omega) (by omega)
  have ble : ∀ r : Record, Nat.ble (out.length + [r].length) 2147483648 = true := fun _ => nbn' (by simp; omega)
  have len : ∀ r : Record, ((2 * (out ++ [r]).length : Nat) : Int) = ((2 * out.length + 2 : Nat) : Int) := fun _ => by rw [List.length_append, List.length_singleton]; omega
  unfold ndq'
  have i1 : inB ((2 * out.length : Nat) : Int) l.length = true := nc' (by omega) (by omega)
  have i2 : inB ((2 * out.length + 1 : Nat) : Int) l.length = true := nc' (by omega) (by omega)
  have d1 : decide (((2 * out.length + 1 : Nat) : Int) < (l.length : Int)) = true := decide_eq_true (by omega)
  simp only [w1, d1, decide_eq_true hm, i1, i2, Int.toNat_natCast, hnn, hvv, wn, wv, cond_true, tm _ _ n0, tm _ _ v0, td _ _ n0, td _ _ v0, wd7, wd2, wf, wz4, bne_t (show ¬ (b.Cars.length : Int) = 0 by omega), bne_t (show ¬ b.Floors - 1 = 0 by omega), tm _ _ (show 0 ≤ n / 7 by omega), tm _ _ (show 0 ≤ v / 2 by omega), wz6]
  have h7 : n % 7 = 0 ∨ n % 7 = 1 ∨ n % 7 = 2 ∨ n % 7 = 3 ∨ n % 7 = 4 ∨ n % 7 = 5 ∨ n % 7 = 6 := by omega
  have hcall : ∀ (F D : Int), (D = 1 ∧ 0 ≤ F ∧ F ≤ b.Floors - 2) ∨ (D = 2 ∧ 1 ≤ F ∧ F ≤ b.Floors - 1) → nbf' b F D = true := fun F D h => by
    unfold nbf' callB
    rw [hcode]
    rcases h with ⟨rfl, h1, h2⟩ | ⟨rfl, h1, h2⟩
    · rw [nv'.2 ⟨h1, h2⟩]; rfl
    · rw [nv'.2 ⟨h1, h2⟩, Bool.or_comm]; rfl
  have val : ∀ r : Record, (r.Kind = 1 ∧ nbf' b r.Floor r.Dir = true ∧ r.Car = 0 ∧ r.Value = 0) ∨ (r.Kind = 2 ∧ nbf' b r.Floor r.Dir = true ∧ r.Car = 0 ∧ r.Value = 0) ∨
     (r.Kind = 3 ∧ nbf' b r.Floor r.Dir = true ∧ (-2 ≤ r.Car ∧ r.Car < (b.Cars.length : Int)) ∧ r.Value = 0) ∨
     (r.Kind = 4 ∧ (0 ≤ r.Car ∧ r.Car < (b.Cars.length : Int)) ∧ (0 ≤ r.Value ∧ r.Value ≤ 4) ∧ r.Floor = 0 ∧ r.Dir = 0) ∨
     (r.Kind = 5 ∧ (0 ≤ r.Car ∧ r.Car < (b.Cars.length : Int)) ∧ (0 ≤ r.Value ∧ r.Value ≤ 1) ∧ r.Floor = 0 ∧ r.Dir = 0) ∨
     (r.Kind = 6 ∧ (0 ≤ r.Car ∧ r.Car < (b.Cars.length : Int)) ∧ (0 ≤ r.Value ∧ r.Value ≤ 1) ∧ r.Floor = 0 ∧ r.Dir = 0) ∨
     (r.Kind = 7 ∧ nbf' b r.Floor r.Dir = true ∧ (0 ≤ r.Car ∧ r.Car ≤ 1) ∧ (0 ≤ r.Value ∧ r.Value ≤ 255)) → n4' b r = true := fun r h => by
    unfold n4' carR
    rw [hcode]
    rcases h with ⟨k, h1, h2, h3⟩ | ⟨k, h1, h2, h3⟩ | ⟨k, h1, h2, h3⟩ | ⟨k, h1, h2, h3, h4⟩ | ⟨k, h1, h2, h3, h4⟩ | ⟨k, h1, h2, h3, h4⟩ | ⟨k, h1, h2, h3⟩
    · rw [k, h1, h2, h3]; rfl
    · rw [k, h1, h2, h3]; rfl
    · rw [k, h1, h3, nv'.2 ⟨h2.1, show r.Car ≤ (b.Cars.length : Int) - 1 by omega⟩]; rfl
    · rw [k, h3, h4, nv'.2 ⟨h1.1, show r.Car ≤ (b.Cars.length : Int) - 1 by omega⟩, nv'.2 h2]; rfl
    · rw [k, h3, h4, nv'.2 ⟨h1.1, show r.Car ≤ (b.Cars.length : Int) - 1 by omega⟩, nv'.2 h2]; rfl
    · rw [k, h3, h4, nv'.2 ⟨h1.1, show r.Car ≤ (b.Cars.length : Int) - 1 by omega⟩, nv'.2 h2]; rfl
    · rw [k, h1, nv'.2 h2, nv'.2 h3]; rfl
  have fin : ∀ r, n4' b r = true → ∃ r', n4' b r' = true ∧ (some (.inl ((l, most, out ++ [r], b.Floors, (b.Cars.length : Int), ((2 * out.length + 2 : Nat) : Int), ()), ())) : Option (Sum ((List Int × Int × List Record × Int × Int × Int × Unit) × Unit) ((List Record × Unit) × Unit))) = some (.inl ((l, most, out ++ [r'], b.Floors, (b.Cars.length : Int), ((2 * (out ++ [r']).length : Nat) : Int), ()), ())) := fun r h => ⟨r, h, by rw [len]⟩
  rcases h7 with q | q | q | q | q | q | q
  all_goals rw [q]
  · rw [show IntKind.i64.wrap (1 + 0) = 1 from rfl]
    simp only [show ((1 : Int) == 4) = false from rfl, show ((1 : Int) == 5) = false from rfl, show ((1 : Int) == 6) = false from rfl, cond_false]
    cases hd : 1 + v % 2 == 2 with
    | true =>
      have hd' : v % 2 = 1 := by have : 1 + v % 2 = 2 := by simpa using hd
                                 omega
      simp only [cond_true, cond_false, Option.bind_some, show ((1 : Int) == 3) = false from rfl, show ((1 : Int) == 7) = false from rfl, ble, w2]
      exact fin _ (val _ (.inl ⟨rfl, hcall _ _ (.inr ⟨by show 1 + v % 2 = 2; omega, by show (1 : Int) ≤ v / 2 % (b.Floors - 1) + 1; omega, by show v / 2 % (b.Floors - 1) + 1 ≤ b.Floors - 1; omega⟩), rfl, rfl⟩))
    | false =>
      have hd' : v % 2 = 0 := by have : ¬ 1 + v % 2 = 2 := by simpa using hd
                                 omega
      simp only [cond_true, cond_false, Option.bind_some, show ((1 : Int) == 3) = false from rfl, show ((1 : Int) == 7) = false from rfl, ble, w2]
      exact fin _ (val _ (.inl ⟨rfl, hcall _ _ (.inl ⟨by show 1 + v % 2 = 1; omega, mf.1, by show v / 2 % (b.Floors - 1) ≤ b.Floors - 2; omega⟩), rfl, rfl⟩))
  · rw [show IntKind.i64.wrap (1 + 1) = 2 from rfl]
    simp only [show ((2 : Int) == 4) = false from rfl, show ((2 : Int) == 5) = false from rfl, show ((2 : Int) == 6) = false from rfl, cond_false]
    cases hd : 1 + v % 2 == 2 with
    | true =>
      have hd' : v % 2 = 1 := by have : 1 + v % 2 = 2 := by simpa using hd
                                 omega
      simp only [cond_true, cond_false, Option.bind_some, show ((2 : Int) == 3) = false from rfl, show ((2 : Int) == 7) = false from rfl, ble, w2]
      exact fin _ (val _ (.inr (.inl ⟨rfl, hcall _ _ (.inr ⟨by show 1 + v % 2 = 2; omega, by show (1 : Int) ≤ v / 2 % (b.Floors - 1) + 1; omega, by show v / 2 % (b.Floors - 1) + 1 ≤ b.Floors - 1; omega⟩), rfl, rfl⟩)))
    | false =>
      have hd' : v % 2 = 0 := by have : ¬ 1 + v % 2 = 2 := by simpa using hd
                                 omega
      simp only [cond_true, cond_false, Option.bind_some, show ((2 : Int) == 3) = false from rfl, show ((2 : Int) == 7) = false from rfl, ble, w2]
      exact fin _ (val _ (.inr (.inl ⟨rfl, hcall _ _ (.inl ⟨by show 1 + v % 2 = 1; omega, mf.1, by show v / 2 % (b.Floors - 1) ≤ b.Floors - 2; omega⟩), rfl, rfl⟩)))
  · rw [show IntKind.i64.wrap (1 + 2) = 3 from rfl]
    simp only [show ((3 : Int) == 4) = false from rfl, show ((3 : Int) == 5) = false from rfl, show ((3 : Int) == 6) = false from rfl, cond_false]
    cases hd : 1 + v % 2 == 2 with
    | true =>
      have hd' : v % 2 = 1 := by have : 1 + v % 2 = 2 := by simpa using hd
                                 omega
      simp only [cond_true, cond_false, Option.bind_some, beq_self_eq_true, wc, td _ _ n0, wd7, tm _ _ (show 0 ≤ n / 7 by omega), bne_t (show ¬ (b.Cars.length : Int) + 2 = 0 by omega), wca, show ((3 : Int) == 7) = false from rfl, ble, w2]
      exact fin _ (val _ (.inr (.inr (.inl ⟨rfl, hcall _ _ (.inr ⟨by show 1 + v % 2 = 2; omega, by show (1 : Int) ≤ v / 2 % (b.Floors - 1) + 1; omega, by show v / 2 % (b.Floors - 1) + 1 ≤ b.Floors - 1; omega⟩), ⟨by show -2 ≤ n / 7 % ((b.Cars.length : Int) + 2) - 2; omega, by show n / 7 % ((b.Cars.length : Int) + 2) - 2 < (b.Cars.length : Int); omega⟩, rfl⟩))))
    | false =>
      have hd' : v % 2 = 0 := by have : ¬ 1 + v % 2 = 2 := by simpa using hd
                                 omega
      simp only [cond_true, cond_false, Option.bind_some, beq_self_eq_true, wc, td _ _ n0, wd7, tm _ _ (show 0 ≤ n / 7 by omega), bne_t (show ¬ (b.Cars.length : Int) + 2 = 0 by omega), wca, show ((3 : Int) == 7) = false from rfl, ble, w2]
      exact fin _ (val _ (.inr (.inr (.inl ⟨rfl, hcall _ _ (.inl ⟨by show 1 + v % 2 = 1; omega, mf.1, by show v / 2 % (b.Floors - 1) ≤ b.Floors - 2; omega⟩), ⟨by show -2 ≤ n / 7 % ((b.Cars.length : Int) + 2) - 2; omega, by show n / 7 % ((b.Cars.length : Int) + 2) - 2 < (b.Cars.length : Int); omega⟩, rfl⟩))))
  · rw [show IntKind.i64.wrap (1 + 3) = 4 from rfl]
    simp only [beq_self_eq_true, cond_true, cond_false, Option.bind_some, show ((4 : Int) == 3) = false from rfl, show ((4 : Int) == 7) = false from rfl, ble, w2]
    exact fin _ (val _ (.inr (.inr (.inr (.inl ⟨rfl, mc, ⟨by show 0 ≤ v % 5; omega, by show v % 5 ≤ 4; omega⟩, rfl, rfl⟩)))))
  · rw [show IntKind.i64.wrap (1 + 4) = 5 from rfl]
    simp only [beq_self_eq_true, cond_true, cond_false, Option.bind_some, show ((5 : Int) == 4) = false from rfl, show ((5 : Int) == 3) = false from rfl, show ((5 : Int) == 7) = false from rfl, ble, w2]
    exact fin _ (val _ (.inr (.inr (.inr (.inr (.inl ⟨rfl, mc, ⟨by show 0 ≤ v % 2; omega, by show v % 2 ≤ 1; omega⟩, rfl, rfl⟩))))))
  · rw [show IntKind.i64.wrap (1 + 5) = 6 from rfl]
    simp only [beq_self_eq_true, cond_true, cond_false, Option.bind_some, show ((6 : Int) == 4) = false from rfl, show ((6 : Int) == 5) = false from rfl, show ((6 : Int) == 3) = false from rfl, show ((6 : Int) == 7) = false from rfl, ble, w2]
    exact fin _ (val _ (.inr (.inr (.inr (.inr (.inr (.inl ⟨rfl, mc, ⟨by show 0 ≤ v % 2; omega, by show v % 2 ≤ 1; omega⟩, rfl, rfl⟩)))))))
  · rw [show IntKind.i64.wrap (1 + 6) = 7 from rfl]
    simp only [show ((7 : Int) == 4) = false from rfl, show ((7 : Int) == 5) = false from rfl, show ((7 : Int) == 6) = false from rfl, cond_false]
    cases hd : 1 + v % 2 == 2 with
    | true =>
      have hd' : v % 2 = 1 := by have : 1 + v % 2 = 2 := by simpa using hd
                                 omega
      simp only [cond_true, cond_false, Option.bind_some, beq_self_eq_true, td _ _ n0, wd7, wd14, tm _ _ (show 0 ≤ n / 7 by omega), show ((7 : Int) == 3) = false from rfl, ble, w2]
      exact fin _ (val _ (.inr (.inr (.inr (.inr (.inr (.inr ⟨rfl, hcall _ _ (.inr ⟨by show 1 + v % 2 = 2; omega, by show (1 : Int) ≤ v / 2 % (b.Floors - 1) + 1; omega, by show v / 2 % (b.Floors - 1) + 1 ≤ b.Floors - 1; omega⟩), ⟨by show 0 ≤ n / 7 % 2; omega, by show n / 7 % 2 ≤ 1; omega⟩, ⟨by show 0 ≤ n / 14; omega, by show n / 14 ≤ 255; omega⟩⟩)))))))
    | false =>
      have hd' : v % 2 = 0 := by have : ¬ 1 + v % 2 = 2 := by simpa using hd
                                 omega
      simp only [cond_true, cond_false, Option.bind_some, beq_self_eq_true, td _ _ n0, wd7, wd14, tm _ _ (show 0 ≤ n / 7 by omega), show ((7 : Int) == 3) = false from rfl, ble, w2]
      exact fin _ (val _ (.inr (.inr (.inr (.inr (.inr (.inr ⟨rfl, hcall _ _ (.inl ⟨by show 1 + v % 2 = 1; omega, mf.1, by show v / 2 % (b.Floors - 1) ≤ b.Floors - 2; omega⟩), ⟨by show 0 ≤ n / 7 % 2; omega, by show n / 7 % 2 ≤ 1; omega⟩, ⟨by show 0 ≤ n / 14; omega, by show n / 14 ≤ 255; omega⟩⟩)))))))
theorem nz3' {b : Bldg} (hb : b.small) (hcode : b.code = 0) (hc : 1 ≤ b.Cars.length ∧ b.Cars.length ≤ 100) {l : List Int} (hl : ∀ e ∈ l, u8r e) {most : Int} (hm : 0 ≤ most ∧ most ≤ 100) :
    ∃ rs : List Record, njk' b.Floors b.Debounce b.Room b.Park b.Empty b.Full b.Over b.Cars l most = some ((rs, ()), ()) ∧ (rs.length : Int) ≤ most ∧ ∀ r ∈ rs, n4' b r = true := by
  have key : ∃ y : (List Record × Unit) × Unit, nhs' ((l, most, ([] : List Record), b.Floors, (b.Cars.length : Int), (0 : Int), ()), ()) = some y ∧ ∃ rs : List Record, (rs.length : Int) ≤ most ∧ (∀ r ∈ rs, n4' b r = true) ∧ y = ((rs, ()), ()) := by
    refine n40' (fun x => ∃ out : List Record, (out.length : Int) ≤ most ∧ (∀ r ∈ out, n4' b r = true) ∧ x = ((l, most, out, b.Floors, (b.Cars.length : Int), ((2 * out.length : Nat) : Int), ()), ())) (fun y => ∃ rs : List Record, (rs.length : Int) ≤ most ∧ (∀ r ∈ rs, n4' b r = true) ∧ y = ((rs, ()), ())) (fun x => 1000 - x.1.2.2.2.2.2.1.toNat) ?_ ⟨[], hm.1, (fun _ h => by cases h), rfl⟩ (by show 1000 - 0 < _; omega)
    rintro _ ⟨out, h1, h2, rfl⟩
    have w1 : IntKind.i64.wrap (((2 * out.length : Nat) : Int) + 1) = ((2 * out.length + 1 : Nat) : Int) := by rw [nb' (by omega) (by omega)]; omega
    show (∃ x', ndq' l most out b.Floors (b.Cars.length : Int) ((2 * out.length : Nat) : Int) = _ ∧ _) ∨ ∃ y, ndq' l most out b.Floors (b.Cars.length : Int) ((2 * out.length : Nat) : Int) = _ ∧ _
    by_cases g1 : 2 * out.length + 1 < l.length
    · by_cases g2 : (out.length : Int) < most
      · obtain ⟨r, h3, h4⟩ := nx2' hb hcode hc hl (by omega) g2 g1
        refine .inl ⟨_, h4, ⟨out ++ [r], by rw [List.length_append, List.length_singleton]; omega, fun x hx => ?_, rfl⟩, ?_⟩
        · rcases List.mem_append.1 hx with h | h
          · exact h2 x h
          · rw [List.mem_singleton.1 h]; exact h3
        · show 1000 - Int.toNat ((2 * (out ++ [r]).length : Nat) : Int) < 1000 - Int.toNat ((2 * out.length : Nat) : Int)
          rw [List.length_append, List.length_singleton]; omega
      · refine .inr ⟨((out, ()), ()), ?_, out, h1, h2, rfl⟩
        unfold ndq'
        rw [w1, decide_eq_true (show ((2 * out.length + 1 : Nat) : Int) < (l.length : Int) by omega), decide_eq_false g2]; rfl
    · refine .inr ⟨((out, ()), ()), ?_, out, h1, h2, rfl⟩
      unfold ndq'
      rw [w1, decide_eq_false (show ¬ ((2 * out.length + 1 : Nat) : Int) < (l.length : Int) by omega)]; rfl
  obtain ⟨_, h1, rs, h2, h3, rfl⟩ := key
  refine ⟨rs, ?_, h2, h3⟩
  unfold njk'
  rw [h1]; rfl
def initV (b : Bldg) : Img := ⟨List.replicate b.Cars.length 0, List.replicate b.Cars.length false, List.replicate b.Cars.length false, []⟩
theorem nt0' {b : Bldg} (hcode : b.code = 0) (hc : b.Cars.length ≤ 100) : nha' b.Floors b.Debounce b.Room b.Park b.Empty b.Full b.Over b.Cars = some (((), ()), ((initV b).tup, ())) := by
  unfold nha'
  rw [nd3', hcode]
  simp only [Option.bind_some, bne_self_eq_false, cond_false, decide_eq_true (show (0 : Int) ≤ (b.Cars.length : Int) by omega), decide_eq_true (Int.le_refl (b.Cars.length : Int)), decide_eq_true (show (b.Cars.length : Int) ≤ 2147483648 by omega), Bool.and_self, cond_true, Int.toNat_natCast]
  rfl
theorem nmp' {b : Bldg} (hcode : b.code = 0) : ImgOK b (initV b) :=
  ⟨hcode, List.length_replicate, List.length_replicate, List.length_replicate, (fun p hp => by rw [List.eq_of_mem_replicate hp]; omega), (fun _ h => by cases h), by simp [initV, ncb']⟩
def nci' (m : Img) : List Record → Img
  | [] => m
  | r :: t => nci' (ncl' m r) t
theorem np7' {b : Bldg} : ∀ {rs : List Record} {m : Img}, ImgOK b m → (∀ r ∈ rs, n4' b r = true) → ImgOK b (nci' m rs) ∧ (nci' m rs).Entries.length ≤ m.Entries.length + rs.length
  | [], _, h, _ => ⟨h, Nat.le_refl _⟩
  | r :: t, m, h, hv => by
    obtain ⟨h1, h2⟩ := npe' h (hv r (List.mem_cons_self ..))
    obtain ⟨h3, h4⟩ := np7' (rs := t) h1 fun x hx => hv x (List.mem_cons_of_mem _ hx)
    exact ⟨h3, by show (nci' (ncl' m r) t).Entries.length ≤ _; rw [List.length_cons]; omega⟩
theorem n2i' {b : Bldg} {m : Img} {r : Record} (h : ImgOK b m) (hv : n4' b r = true) : nta' b m r = (((), 0, ()), ((ncl' m r).tup, ())) := by
  unfold nta'
  rw [Img.ok_iff.2 h, hv]; rfl
theorem ntb' {b : Bldg} (hb : b.small) (hc : b.Cars.length ≤ 100) (m0 : Img) {rs : List Record} (hr : ∀ r ∈ rs, n4' b r = true) (hl : rs.length ≤ 100) :
    ∀ (k i : Nat) (m : Img), i + k = rs.length → ImgOK b m → m.Entries.length ≤ 100 + i →
      iter (fun x => nff' x.1.2.2.2.1 x.1.2.2.2.2.1 x.2.1.1 x.2.1.2.1 x.2.1.2.2.1 x.2.1.2.2.2.1 x.2.1.2.2.2.2.1 x.2.1.2.2.2.2.2.1 x.2.1.2.2.2.2.2.2.1 x.2.1.2.2.2.2.2.2.2.1 x.2.2.1.1 x.2.2.1.2.1 x.2.2.1.2.2.1 x.2.2.1.2.2.2.1 x.2.2.2.1.1 x.2.2.2.1.2.1 x.2.2.2.1.2.2.1 x.2.2.2.1.2.2.2.1) (k + 1) (((), (), (), rs, (i : Int), ()), (b.tup, m0.tup, m.tup, ())) = some (((), (), ()), (m0.tup, (nci' m (rs.drop i)).tup, ()))
  | 0, i, m, hi, _, _ => by
    refine n6' ?_
    show nff' rs (i : Int) b.Floors b.Debounce b.Room b.Park b.Empty b.Full b.Over b.Cars m0.Phases m0.Flags m0.Leaving m0.Entries m.Phases m.Flags m.Leaving m.Entries = _
    unfold nff'
    rw [show decide ((i : Int) < (rs.length : Int)) = false by simp; omega, show i = rs.length by omega, List.drop_length]; rfl
  | k + 1, i, m, hi, hm, hml => by
    have hi' : i < rs.length := by omega
    have hv := hr _ (nes' (Record.mk 0 0 0 0 0) hi')
    have w : IntKind.i64.wrap ((i : Int) + 1) = ((i + 1 : Nat) : Int) := by rw [nb' (by omega) (by omega)]; omega
    obtain ⟨g1, g2⟩ := npe' hm hv
    have hmx : 100 ≤ maxLen := by decide
    have ha := nxx' hb m (by omega) (rs.getD i (Record.mk 0 0 0 0 0)) (by rw [hm.lp]; omega) hc
    rw [n2i' hm hv] at ha
    rw [nc1' (Record.mk 0 0 0 0 0) hi']
    refine (nb4' (x' := (((), (), (), rs, ((i + 1 : Nat) : Int), ()), (b.tup, m0.tup, (ncl' m (rs.getD i (Record.mk 0 0 0 0 0))).tup, ()))) ?_).trans (ntb' hb hc m0 hr hl k (i + 1) _ (by omega) g1 (by omega))
    show nff' rs (i : Int) b.Floors b.Debounce b.Room b.Park b.Empty b.Full b.Over b.Cars m0.Phases m0.Flags m0.Leaving m0.Entries m.Phases m.Flags m.Leaving m.Entries = _
    unfold nff'
    rw [show decide ((i : Int) < (rs.length : Int)) = true by simp; omega, nc' (show (0 : Int) ≤ (i : Int) by omega) (show (i : Int) < (rs.length : Int) by omega), Int.toNat_natCast, w]
    simp only [cond_true, ha, Option.bind_some]
    rfl
theorem nt9' {b : Bldg} (hb : b.small) (hcode : b.code = 0) (hc : 1 ≤ b.Cars.length ∧ b.Cars.length ≤ 100) {l : List Int} (hl : ∀ e ∈ l, u8r e) :
    ∃ m : Img, niy' b.Floors b.Debounce b.Room b.Park b.Empty b.Full b.Over b.Cars l = some (((), ()), (m.tup, ())) ∧ ImgOK b m ∧ m.Entries.length ≤ 60 := by
  obtain ⟨rs, h1, h2, h3⟩ := nz3' hb hcode hc hl (most := 60) (by omega)
  have hlp := nf' (ntb' hb hc.2 Img.none h3 (by omega) rs.length 0 (initV b) (by omega) (nmp' hcode) (by simp [initV])) (by omega)
  rw [List.drop_zero] at hlp
  obtain ⟨g1, g2⟩ := np7' (nmp' hcode) h3
  refine ⟨nci' (initV b) rs, ?_, g1, by have : (initV b).Entries.length = 0 := rfl; omega⟩
  unfold niy'
  rw [nt0' hcode hc.2, h1]
  have hlp' : ni6' (((), (), (), rs, (0 : Int), ()), (b.tup, Img.none.tup, (initV b).tup, ())) = _ := hlp
  unfold Bldg.tup Img.tup Img.none at hlp'
  simp only [Option.bind_some, Img.tup, hlp']
end Go.Ovl
