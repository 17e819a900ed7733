/- How far a car goes (layer 21): the program's way. -/
import Derived.Test.YticbfghinhhgiaaDoorOvPath
import Derived.Test.YticbfghinhhgiaaDoorOvBuilding
namespace Go.Ovl
open Go Go.Ab
set_option maxRecDepth 100000
def distF (f at_ : Int) : Int := bif decide (f - at_ < at_ - f) then at_ - f else f - at_
def wayF : List Int → Int → Int → Int
  | [], n, _ => n
  | f :: t, n, at_ => wayF t (n + distF f at_) f
theorem way_loop {s : List Int} (hs : ∀ e ∈ s, 0 ≤ e ∧ e < 100) (hsl : s.length ≤ 100) (b0 b1 : Int) : ∀ (m i : Nat) (n at_ : Int), i + m = s.length → m ≤ 100 → 0 ≤ at_ ∧ at_ < 100 → 0 ≤ n ∧ n + 100 * (m : Int) < 100000 →
    iter (fun x => R_cost_Path_1_h64a48_0 x.1.1 x.1.2.1 x.1.2.2.1 x.1.2.2.2.1 x.1.2.2.2.2.1 x.2.1.1 x.2.2.1.1) (m + 1) ((n, at_, s, (s.length : Int), (i : Int), ()), ((b0, ()), (b1, ()), ())) = some ((wayF (s.drop i) n at_, ()), ((b0, ()), (b1, ()), ()))
  | 0, i, n, at_, hi, _, _, _ => by
    refine iter_inr ?_
    show R_cost_Path_1_h64a48_0 n at_ s (s.length : Int) (i : Int) b0 b1 = _
    unfold R_cost_Path_1_h64a48_0
    have e : decide ((i : Int) < (s.length : Int)) = false := by simp; omega
    rw [e, show i = s.length by omega, List.drop_length]; rfl
  | m + 1, i, n, at_, hi, hm, ha, hn => by
    have hg : 0 ≤ s.getD i 0 ∧ s.getD i 0 < 100 := by
      have h : i < s.length := by omega
      simp only [List.getD_eq_getElem?_getD, List.getElem?_eq_getElem h, Option.getD_some]
      exact hs _ (List.getElem_mem h)
    have hd : 0 ≤ distF (s.getD i 0) at_ ∧ distF (s.getD i 0) at_ < 100 := by
      unfold distF
      by_cases h : s.getD i 0 - at_ < at_ - s.getD i 0
      · rw [decide_eq_true h]; simp only [cond_true]; omega
      · rw [decide_eq_false h]; simp only [cond_false]; omega
    have e : decide ((i : Int) < (s.length : Int)) = true := by simp; omega
    have ib : inB (i : Int) s.length = true := inB_true (by omega) (by omega)
    have tn : Int.toNat (i : Int) = i := by omega
    have w : IntKind.i64.wrap ((i : Int) + 1) = ((i + 1 : Nat) : Int) := by rw [wrap_small (by omega) (by omega)]; omega
    have w1 : IntKind.i64.wrap (s.getD i 0 - at_) = s.getD i 0 - at_ := wrap_small (by omega) (by omega)
    have w2 : IntKind.i64.wrap (at_ - s.getD i 0) = at_ - s.getD i 0 := wrap_small (by omega) (by omega)
    have w3 : IntKind.i64.wrap (n + distF (s.getD i 0) at_) = n + distF (s.getD i 0) at_ := wrap_small (by omega) (by omega)
    refine (iter_inl (x' := ((n + distF (s.getD i 0) at_, s.getD i 0, s, (s.length : Int), ((i + 1 : Nat) : Int), ()), ((b0, ()), (b1, ()), ()))) ?_).trans ?_
    · show R_cost_Path_1_h64a48_0 n at_ s (s.length : Int) (i : Int) b0 b1 = _
      unfold R_cost_Path_1_h64a48_0
      simp only [e, ib, tn, w, w1, w2, cond_true]
      rw [show (bif decide (s.getD i 0 - at_ < at_ - s.getD i 0) then at_ - s.getD i 0 else s.getD i 0 - at_) = distF (s.getD i 0) at_ from rfl, w3]
    · rw [way_loop hs hsl b0 b1 m (i + 1) _ _ (by omega) (by omega) hg (by omega), drop_getD (0 : Int) (show i < s.length by omega)]
      rfl
theorem F_cost_way_eq {l : List Int} (hl : ∀ e ∈ l, 0 ≤ e ∧ e < 100) (hlen : l.length ≤ 10) {from_ floor : Int} (hf : 0 ≤ from_ ∧ from_ < 100) (ho : 0 ≤ floor ∧ floor < 100) :
    F_cost_Path_1_h64a48 l from_ floor = some ((wayF (l ++ [floor]) 0 from_, ()), ((from_, ()), (floor, ()), ())) := by
  unfold F_cost_Path_1_h64a48
  have hb : Nat.ble (l.length + [floor].length) 2147483648 = true := ble_true (by simp; omega)
  have hs : ∀ e ∈ l ++ [floor], 0 ≤ e ∧ e < 100 := fun e he => by
    rcases List.mem_append.1 he with h | h
    · exact hl e h
    · rw [List.mem_singleton.1 h]; exact ho
  have hl2 : (l ++ [floor]).length ≤ 11 := by simp; omega
  have h0 : L_cost_Path_1_h64a48_0 (((0 : Int), from_, l ++ [floor], ((l ++ [floor]).length : Int), (0 : Int), ()), ((from_, ()), (floor, ()), ())) = _ := iter_fuel (way_loop hs (by omega) from_ floor (l ++ [floor]).length 0 0 from_ (by omega) (by omega) hf (by omega)) (by omega)
  rw [List.drop_zero] at h0
  simp only [hb, cond_true, h0, Option.bind_some]
end Go.Ovl
