/- The plan for an image (layer 22): the program and the reference say the same. -/
import Derived.Test.YticbfghinhhgiaaDoorOvDecide
namespace Go.Ovl
open Go Go.Ab
set_option maxRecDepth 100000
theorem bne_sym (x y : Int) : (x != y) = (y != x) := by
  by_cases h : x = y
  · rw [h]
  · rw [bne_t h, bne_t (fun h' => h h'.symm)]
def recsV (was now : Entry) : List Record :=
  (bif was.Moves != now.Moves || !(was.Moved == now.Moved) then [⟨7, now.Floor, now.Dir, (bif now.Moved then 1 else 0), now.Moves⟩] else []) ++ (bif was.Car != now.Car then [⟨3, now.Floor, now.Dir, now.Car, 0⟩] else [])
theorem recsV_len (a b : Entry) : (recsV a b).length ≤ 2 := by
  unfold recsV
  cases (a.Moves != b.Moves || !(a.Moved == b.Moved)) <;> cases a.Car != b.Car <;> simp
theorem assign_records_eq (a c : Entry) : F_assign_records a.Floor a.Dir a.Car a.Moves a.Moved c.Floor c.Dir c.Car c.Moves c.Moved = some ((recsV a c, ()), ()) := by
  unfold F_assign_records recsV
  have b1 : ∀ r : Record, Nat.ble (([] : List Record).length + [r].length) 2147483648 = true := fun _ => ble_true (by simp)
  have b2 : ∀ r s : Record, Nat.ble (([] ++ [s] : List Record).length + [r].length) 2147483648 = true := fun _ _ => ble_true (by simp)
  cases a.Moves != c.Moves <;> cases a.Moved == c.Moved <;> cases hm : c.Moved <;> cases hc : a.Car != c.Car <;>
    simp only [cond_true, cond_false, Option.bind_some, Bool.not_true, Bool.not_false, Bool.or_true, Bool.true_or, Bool.or_self, b1, b2, hc] <;> rfl
def carAt (b : Bldg) (i : Int) : Car := b.Cars.getD i.toNat (Car.mk 0 0 0 0 0 0 0 0 0)
noncomputable def nextV (b : Bldg) (vs : List View) (e n : Entry) (x : Int) : Int :=
  bif n.Car != e.Car && decide (0 ≤ n.Car) then (bif decide (1000000 < IntKind.i64.wrap (estV b n.Car (viewAt vs n.Car) e.Floor e.Dir + (carAt b n.Car).Slack)) then 1000000 else IntKind.i64.wrap (estV b n.Car (viewAt vs n.Car) e.Floor e.Dir + (carAt b n.Car).Slack))
  else (bif decide (IntKind.i64.wrap (x - 1) < 0) then 0 else IntKind.i64.wrap (x - 1))
noncomputable def planR (b : Bldg) (vs : List View) : List Entry → List Int → List Record
  | e :: t, x :: xs => recsV e (decV b vs e x) ++ planR b vs t xs
  | _, _ => []
noncomputable def planN (b : Bldg) (vs : List View) : List Entry → List Int → List Int
  | e :: t, x :: xs => nextV b vs e (decV b vs e x) x :: planN b vs t xs
  | _, _ => []
theorem decV_call (b : Bldg) (vs : List View) (e : Entry) (x : Int) : (decV b vs e x).Floor = e.Floor ∧ (decV b vs e x).Dir = e.Dir := by
  unfold decV
  cases e.Car == -2 <;> cases e.Car == -1 <;> cases (viewAt vs e.Car).Lost <;> cases decide ((b.Cars.length : Int) < e.Moves) <;> cases (!e.Moved && decide (e.Moves ≤ (b.Cars.length : Int))) <;> cases otherV b vs e x != -1 <;> exact ⟨rfl, rfl⟩
theorem otherV_in (b : Bldg) (vs : List View) (e : Entry) (x : Int) : bestIn vs (otherV b vs e x) := by
  unfold otherV
  cases chooseV b vs e.Floor e.Dir e.Car == -1 with
  | true => exact .inl rfl
  | false =>
    cases betterV b vs e x (chooseV b vs e.Floor e.Dir e.Car) with
    | true => exact chooseV_in ..
    | false => exact .inl rfl
theorem decV_in (b : Bldg) {vs : List View} {e : Entry} (h : -2 ≤ e.Car ∧ e.Car < vs.length) (x : Int) : -2 ≤ (decV b vs e x).Car ∧ (decV b vs e x).Car < vs.length := by
  have k : ∀ n : Int, bestIn vs n → -2 ≤ n ∧ n < vs.length := fun n h => by
    rcases h with rfl | h
    · omega
    · omega
  unfold decV
  by_cases g1 : e.Car = -2
  · rw [show (e.Car == -2) = true by rw [g1]; rfl]; exact h
  rw [beq_f g1]
  by_cases g2 : e.Car = -1
  · rw [show (e.Car == -1) = true by rw [g2]; rfl]; exact k _ (chooseV_in ..)
  rw [beq_f g2]
  simp only [cond_false]
  cases (viewAt vs e.Car).Lost with
  | true =>
    cases decide ((b.Cars.length : Int) < e.Moves) with
    | true => exact ⟨by show (-2 : Int) ≤ -2; omega, by show (-2 : Int) < _; omega⟩
    | false => exact k _ (chooseV_in ..)
  | false =>
    cases (!e.Moved && decide (e.Moves ≤ (b.Cars.length : Int))) with
    | true =>
      cases otherV b vs e x != -1 with
      | true => exact k _ (otherV_in ..)
      | false => exact h
    | false => exact h
theorem entsF_all {b : Bldg} : ∀ {l : List Entry} {p : Option Entry}, entsF b p l = true → ∀ e ∈ l, entOK b e = true
  | [], _, _, _, he => by cases he
  | a :: t, p, h, e, he => by
    simp only [entsF, Bool.and_eq_true] at h
    rcases List.mem_cons.1 he with rfl | he
    · exact h.1
    · exact entsF_all h.2.2 e he
theorem set_mid {α : Type} (N : List α) (a v : α) (t : List α) : (N ++ a :: t).set N.length v = N ++ v :: t := by
  induction N with
  | nil => rfl
  | cons h N ih => simp only [List.cons_append, List.length_cons, List.set_cons_succ, ih]
section
variable {b : Bldg} (hb : b.small) {vs : List View} (hv : okViews vs) (hl : vs.length ≤ 100) (hlen : (vs.length : Int) = (b.Cars.length : Int)) {m : Img} (hm : ∀ e ∈ m.Entries, entOK b e = true) (hm' : m.Entries.length ≤ 1000) {xs : List Int} (hx : xs.length = m.Entries.length)
include hb hv hl hlen hm hm' hx
theorem assign_Plan_loop : ∀ (k i : Nat) (out : List Record) (N : List Int), i + k = m.Entries.length → N.length = i → out.length ≤ 2 * i →
    iter (fun x => R_assign_Plan_0 x.1.1 x.1.2.1 x.1.2.2.2.2.1 x.1.2.2.2.2.2.1 x.1.2.2.2.2.2.2.1 x.1.2.2.2.2.2.2.2.1 x.1.2.2.2.2.2.2.2.2.1 x.2.1.1 x.2.1.2.1 x.2.1.2.2.1 x.2.1.2.2.2.1 x.2.1.2.2.2.2.1 x.2.1.2.2.2.2.2.1 x.2.1.2.2.2.2.2.2.1 x.2.1.2.2.2.2.2.2.2.1 x.2.2.1.1 x.2.2.1.2.1 x.2.2.1.2.2.1 x.2.2.1.2.2.2.1 x.2.2.1.2.2.2.2.1 x.2.2.1.2.2.2.2.2.1 x.2.2.1.2.2.2.2.2.2.1 x.2.2.1.2.2.2.2.2.2.2.1 x.2.2.1.2.2.2.2.2.2.2.2.1) (k + 1)
      ((xs, vs, (), (), out, N ++ List.replicate k 0, m.Entries, (m.Entries.length : Int), (i : Int), ()), (b.tup, (b.Floors, b.Debounce, b.Room, b.Park, b.Empty, b.Full, b.Over, b.Cars, vs, ()), ())) = some ((out ++ planR b vs (m.Entries.drop i) (xs.drop i), N ++ planN b vs (m.Entries.drop i) (xs.drop i), ()), ())
  | 0, i, out, N, hi, hN, ho => by
    refine iter_inr ?_
    show R_assign_Plan_0 xs vs out (N ++ []) m.Entries (m.Entries.length : Int) (i : Int) b.Floors b.Debounce b.Room b.Park b.Empty b.Full b.Over b.Cars b.Floors b.Debounce b.Room b.Park b.Empty b.Full b.Over b.Cars vs = _
    unfold R_assign_Plan_0
    have e : decide ((i : Int) < (m.Entries.length : Int)) = false := by simp; omega
    rw [e, show i = m.Entries.length by omega, List.drop_length]
    simp [planR, planN]
  | k + 1, i, out, N, hi, hN, ho => by
    have hi' : i < m.Entries.length := by omega
    have hix : i < xs.length := by omega
    have e : decide ((i : Int) < (m.Entries.length : Int)) = true := by simp; omega
    have ib : inB (i : Int) m.Entries.length = true := inB_true (by omega) (by omega)
    have ibx : inB (i : Int) xs.length = true := inB_true (by omega) (by omega)
    have ibn : inB (i : Int) (N ++ List.replicate (k + 1) (0 : Int)).length = true := inB_true (by omega) (by simp; omega)
    have w : IntKind.i64.wrap ((i : Int) + 1) = ((i + 1 : Nat) : Int) := by rw [wrap_small (by omega) (by omega)]; omega
    have hok := getD_mem noE hi'
    have hent := hm _ hok
    simp only [entOK, Bool.and_eq_true, decide_eq_true_eq] at hent
    obtain ⟨_, c1, c2, c3, c4⟩ := hent
    have hd := planner_decide_eq hb hv hl (e := m.Entries.getD i noE) (by omega) ⟨c3, c4⟩ (xs.getD i 0)
    have hr := assign_records_eq (m.Entries.getD i noE) (decV b vs (m.Entries.getD i noE) (xs.getD i 0))
    have hin := decV_in b (vs := vs) (e := m.Entries.getD i noE) (by omega) (xs.getD i 0)
    have hrl := recsV_len (m.Entries.getD i noE) (decV b vs (m.Entries.getD i noE) (xs.getD i 0))
    have hble : Nat.ble (out.length + (recsV (m.Entries.getD i noE) (decV b vs (m.Entries.getD i noE) (xs.getD i 0))).length) 2147483648 = true := ble_true (by omega)
    have hset : ∀ v : Int, (N ++ List.replicate (k + 1) (0 : Int)).set i v = N ++ v :: List.replicate k 0 := fun v => by
      rw [← hN]; exact set_mid N 0 v (List.replicate k 0)
    have hset2 : ∀ v u : Int, (N ++ v :: List.replicate k (0 : Int)).set i u = N ++ u :: List.replicate k 0 := fun v u => by
      rw [← hN]; exact set_mid N v u (List.replicate k 0)
    have ibn2 : ∀ v : Int, inB (i : Int) (N ++ v :: List.replicate k (0 : Int)).length = true := fun v => inB_true (by omega) (by simp; omega)
    rw [drop_getD noE hi', drop_getD (0 : Int) hix]
    refine (iter_inl (x' := ((xs, vs, (), (), out ++ recsV (m.Entries.getD i noE) (decV b vs (m.Entries.getD i noE) (xs.getD i 0)), (N ++ [nextV b vs (m.Entries.getD i noE) (decV b vs (m.Entries.getD i noE) (xs.getD i 0)) (xs.getD i 0)]) ++ List.replicate k 0, m.Entries, (m.Entries.length : Int), ((i + 1 : Nat) : Int), ()), (b.tup, (b.Floors, b.Debounce, b.Room, b.Park, b.Empty, b.Full, b.Over, b.Cars, vs, ()), ()))) ?_).trans ?_
    · show R_assign_Plan_0 xs vs out (N ++ List.replicate (k + 1) 0) m.Entries (m.Entries.length : Int) (i : Int) b.Floors b.Debounce b.Room b.Park b.Empty b.Full b.Over b.Cars b.Floors b.Debounce b.Room b.Park b.Empty b.Full b.Over b.Cars vs = _
      unfold R_assign_Plan_0
      rw [e, ib, ibx, show Entry.mk 0 0 0 0 false = noE from rfl]
      unfold Entry.tup at hd
      simp only [cond_true, Int.toNat_natCast, hd, Option.bind_some, hr, hble, ibn, hset]
      unfold nextV
      have hest := estP_eq hb (hv.at (decV b vs (m.Entries.getD i noE) (xs.getD i 0)).Car) (decV b vs (m.Entries.getD i noE) (xs.getD i 0)).Car (m.Entries.getD i noE).Floor (m.Entries.getD i noE).Dir
      unfold estP viewAt at hest
      cases hne : ((decV b vs (m.Entries.getD i noE) (xs.getD i 0)).Car != (m.Entries.getD i noE).Car) with
      | false =>
        simp only [cond_false, Option.bind_some, Bool.false_and, List.append_assoc, List.singleton_append, w]
        rfl
      | true =>
        simp only [cond_true, Option.bind_some, Bool.true_and]
        by_cases hge : 0 ≤ (decV b vs (m.Entries.getD i noE) (xs.getD i 0)).Car
        · have ibc : inB (decV b vs (m.Entries.getD i noE) (xs.getD i 0)).Car vs.length = true := inB_true hge hin.2
          have ibc' : inB (decV b vs (m.Entries.getD i noE) (xs.getD i 0)).Car b.Cars.length = true := inB_true hge (by omega)
          rw [decide_eq_true hge]
          simp only [cond_true, ibc, hest, Option.bind_some, ibc', ibn2, Int.toNat_natCast, hset2, List.append_assoc, List.singleton_append, w]
          rfl
        · rw [decide_eq_false hge]
          simp only [cond_false, List.append_assoc, List.singleton_append, w]
          rfl
    · rw [assign_Plan_loop k (i + 1) _ (N ++ [_]) (by omega) (by simp; omega) (by rw [List.length_append]; omega)]
      simp only [planR, planN, List.append_assoc, List.singleton_append]
theorem r22_Plan_loop : ∀ (k i : Nat) (out : List Record) (N : List Int), i + k = m.Entries.length → N.length = i → out.length ≤ 2 * i →
    iter (fun x => R_r22_Plan_0 x.1.1 x.1.2.1 x.1.2.2.2.2.1 x.1.2.2.2.2.2.1 x.1.2.2.2.2.2.2.1 x.2.1.1 x.2.1.2.1 x.2.1.2.2.1 x.2.1.2.2.2.1 x.2.1.2.2.2.2.1 x.2.1.2.2.2.2.2.1 x.2.1.2.2.2.2.2.2.1 x.2.1.2.2.2.2.2.2.2.1 x.2.2.1.1 x.2.2.1.2.1 x.2.2.1.2.2.1 x.2.2.1.2.2.2.1) (k + 1)
      ((xs, vs, (), (), out, N, (i : Int), ()), (b.tup, m.tup, ())) = some ((out ++ planR b vs (m.Entries.drop i) (xs.drop i), N ++ planN b vs (m.Entries.drop i) (xs.drop i), ()), ())
  | 0, i, out, N, hi, hN, ho => by
    refine iter_inr ?_
    show R_r22_Plan_0 xs vs out N (i : Int) b.Floors b.Debounce b.Room b.Park b.Empty b.Full b.Over b.Cars m.Phases m.Flags m.Leaving m.Entries = _
    unfold R_r22_Plan_0
    have e : decide ((i : Int) < (m.Entries.length : Int)) = false := by simp; omega
    rw [e, show i = m.Entries.length by omega, List.drop_length]
    simp [planR, planN]
  | k + 1, i, out, N, hi, hN, ho => by
    have hi' : i < m.Entries.length := by omega
    have hix : i < xs.length := by omega
    have e : decide ((i : Int) < (m.Entries.length : Int)) = true := by simp; omega
    have ib : inB (i : Int) m.Entries.length = true := inB_true (by omega) (by omega)
    have ibx : inB (i : Int) xs.length = true := inB_true (by omega) (by omega)
    have w : IntKind.i64.wrap ((i : Int) + 1) = ((i + 1 : Nat) : Int) := by rw [wrap_small (by omega) (by omega)]; omega
    have hok := getD_mem noE hi'
    have hent := hm _ hok
    simp only [entOK, Bool.and_eq_true, decide_eq_true_eq] at hent
    obtain ⟨_, c1, c2, c3, c4⟩ := hent
    rw [drop_getD noE hi', drop_getD (0 : Int) hix]
    simp only [planR, planN]
    obtain ⟨x, hxx⟩ : ∃ x, x = xs.getD i 0 := ⟨_, rfl⟩
    obtain ⟨a, ha⟩ : ∃ a, a = m.Entries.getD i noE := ⟨_, rfl⟩
    rw [← hxx, ← ha]
    rw [← ha] at c1 c2 c3 c4
    have hd := r22_changed_eq hb hv hl (e := a) (by omega) (by omega) ⟨c3, c4⟩ x
    have hin := decV_in b (vs := vs) (e := a) (by omega) x
    have hcall := decV_call b vs a x
    obtain ⟨n, hn⟩ : ∃ n, n = decV b vs a x := ⟨_, rfl⟩
    rw [← hn] at hd hin hcall ⊢
    have hrl := recsV_len a n
    refine (iter_inl (x' := ((xs, vs, (), (), out ++ recsV a n, N ++ [nextV b vs a n x], ((i + 1 : Nat) : Int), ()), (b.tup, m.tup, ()))) ?_).trans ?_
    · show R_r22_Plan_0 xs vs out N (i : Int) b.Floors b.Debounce b.Room b.Park b.Empty b.Full b.Over b.Cars m.Phases m.Flags m.Leaving m.Entries = _
      unfold R_r22_Plan_0
      rw [e, ib, ibx, show Entry.mk 0 0 0 0 false = noE from rfl]
      unfold Entry.tup at hd
      have s1 : (n.Moves != a.Moves) = (a.Moves != n.Moves) := bne_sym _ _
      have s2 : (n.Moved == a.Moved) = (a.Moved == n.Moved) := by cases n.Moved <;> cases a.Moved <;> rfl
      have s3 : (n.Car != a.Car) = (a.Car != n.Car) := bne_sym _ _
      have b1 : ∀ r : Record, Nat.ble (out.length + [r].length) 2147483648 = true := fun _ => ble_true (by simp; omega)
      have b2 : ∀ r s : Record, Nat.ble ((out ++ [s]).length + [r].length) 2147483648 = true := fun _ _ => ble_true (by simp; omega)
      have b3 : ∀ y : Int, Nat.ble (N.length + [y].length) 2147483648 = true := fun _ => ble_true (by simp; omega)
      have w3 : ∀ y : Int, (bif decide (0 < y) then y else 0) = (bif decide (y < 0) then 0 else y) := fun y => by
        by_cases g : 0 < y
        · rw [decide_eq_true g, decide_eq_false (show ¬ y < 0 by omega)]; rfl
        · rw [decide_eq_false g]; by_cases g' : y < 0
          · rw [decide_eq_true g']; rfl
          · rw [decide_eq_false g']; simp only [cond_false]; omega
      have hest := estR_eq hb (hv.at n.Car) n.Car a.Floor a.Dir
      unfold estR viewAt at hest
      have fl : ((vs, xs, out).1 : List View) = vs := rfl
      rw [Int.toNat_natCast, ← ha, ← hxx]
      simp only [cond_true, hd, Option.bind_some, s1, s2]
      unfold nextV
      rw [s3]
      unfold recsV carAt viewAt
      rw [hcall.1, hcall.2]
      by_cases hge : 0 ≤ n.Car
      · have ibc : inB n.Car vs.length = true := inB_true hge hin.2
        have ibc' : inB n.Car b.Cars.length = true := inB_true hge (by omega)
        rw [decide_eq_true hge]
        cases hne : a.Car != n.Car <;> cases hmv : a.Moves != n.Moves <;> cases hmd : a.Moved == n.Moved <;> cases hnm : n.Moved <;>
          (simp only [cond_true, cond_false, Option.bind_some, hne, s3, hge, decide_true, Bool.not_true, Bool.not_false, Bool.or_self, Bool.or_true, Bool.or_false, Bool.and_self, Bool.false_and, b1, b2, b3, ibc, ibc', ibx, hest, w, w3, List.append_assoc, List.nil_append, List.append_nil, Int.toNat_natCast, ← hxx]; rfl)
      · rw [decide_eq_false hge]
        cases hne : a.Car != n.Car <;> cases hmv : a.Moves != n.Moves <;> cases hmd : a.Moved == n.Moved <;> cases hnm : n.Moved <;>
          (simp only [cond_true, cond_false, Option.bind_some, hne, s3, hge, decide_false, Bool.not_true, Bool.not_false, Bool.or_self, Bool.or_true, Bool.or_false, Bool.and_false, b1, b2, b3, ibx, w, w3, List.append_assoc, List.nil_append, List.append_nil, Int.toNat_natCast, ← hxx]; rfl)
    · rw [r22_Plan_loop k (i + 1) _ (N ++ [_]) (by omega) (by simp; omega) (by rw [List.length_append]; omega)]
      simp only [List.append_assoc, List.singleton_append]
end
end Go.Ovl
