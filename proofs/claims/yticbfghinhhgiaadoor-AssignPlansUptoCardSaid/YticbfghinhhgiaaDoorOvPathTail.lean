/- How far a car goes (layer 21): the program's way by the highest and the lowest floor. -/
import Derived.Test.YticbfghinhhgiaaDoorOvPathEq
namespace Go.Ovl
open Go Go.Ab
set_option maxRecDepth 100000
theorem dist_ge {f g : Int} (h : g ≤ f) : distF f g = f - g := by
  unfold distF
  rw [decide_eq_false (by omega)]; rfl
theorem dist_le {f g : Int} (h : f ≤ g) : distF f g = g - f := by
  unfold distF
  by_cases e : f - g < g - f
  · rw [decide_eq_true e]; rfl
  · rw [decide_eq_false e]; simp only [cond_false]; omega
theorem w_nil {fr fo : Nat} (h1 : fr < 100) (h2 : fo < 100) : F_cost_Path_1_h64a48 [] (fr : Int) (fo : Int) = some ((distF fo fr, ()), (((fr : Int), ()), ((fo : Int), ()), ())) := by
  rw [F_cost_way_eq (l := []) (by simp) (by simp) (by omega) (by omega)]
  simp only [List.nil_append, wayF, Int.zero_add]
theorem w_one {a fr fo : Nat} (h : a < 100) (h1 : fr < 100) (h2 : fo < 100) : F_cost_Path_1_h64a48 [(a : Int)] (fr : Int) (fo : Int) = some ((distF a fr + distF fo a, ()), (((fr : Int), ()), ((fo : Int), ()), ())) := by
  rw [F_cost_way_eq (l := [(a : Int)]) (by simp; omega) (by simp) (by omega) (by omega)]
  simp only [List.cons_append, List.nil_append, wayF, Int.zero_add]
theorem w_two {a b fr fo : Nat} (h : a < 100) (h' : b < 100) (h1 : fr < 100) (h2 : fo < 100) : F_cost_Path_1_h64a48 [(a : Int), (b : Int)] (fr : Int) (fo : Int) = some ((distF a fr + distF b a + distF fo b, ()), (((fr : Int), ()), ((fo : Int), ()), ())) := by
  rw [F_cost_way_eq (l := [(a : Int), (b : Int)]) (by simp; omega) (by simp) (by omega) (by omega)]
  simp only [List.cons_append, List.nil_append, wayF, Int.zero_add]
theorem path_tail {lo hi fr fo : Nat} (b1 : lo ≤ fr) (b2 : lo ≤ fo) (b3 : fr ≤ hi) (b4 : fo ≤ hi) (b5 : hi < 8) {sweep dir : Int} (hsw : sweep = 0 ∨ sweep = 1 ∨ sweep = 2) (hdir : dir = 1 ∨ dir = 2) :
    (
      Option.bind (bif (sweep == (1 : Int)) then
            bif (decide ((fr : Int) ≤ (fo : Int))) then
              some ((sweep, dir, (lo : Int), (hi : Int), (), true, ()), (((fr : Int), ()), ((fo : Int), ()), ()))
            else
              bif (sweep == (2 : Int)) then
                some ((sweep, dir, (lo : Int), (hi : Int), (), (decide ((fo : Int) ≤ (fr : Int))), ()), (((fr : Int), ()), ((fo : Int), ()), ()))
              else
                some ((sweep, dir, (lo : Int), (hi : Int), (), false, ()), (((fr : Int), ()), ((fo : Int), ()), ()))
          else
            bif (sweep == (2 : Int)) then
              some ((sweep, dir, (lo : Int), (hi : Int), (), (decide ((fo : Int) ≤ (fr : Int))), ()), (((fr : Int), ()), ((fo : Int), ()), ()))
            else
              some ((sweep, dir, (lo : Int), (hi : Int), (), false, ()), (((fr : Int), ()), ((fo : Int), ()), ()))) fun y6 =>
      Option.bind (bif (y6.1.1 == (0 : Int)) then
            some ((y6.1.1, y6.1.2.1, y6.1.2.2.1, y6.1.2.2.2.1, (), true, ()), ((y6.2.1.1, ()), (y6.2.2.1.1, ()), ()))
          else
            bif (y6.1.1 == y6.1.2.1) then
              some ((y6.1.1, y6.1.2.1, y6.1.2.2.1, y6.1.2.2.2.1, (), y6.1.2.2.2.2.2.1, ()), ((y6.2.1.1, ()), (y6.2.2.1.1, ()), ()))
            else
              some ((y6.1.1, y6.1.2.1, y6.1.2.2.1, y6.1.2.2.2.1, (), false, ()), ((y6.2.1.1, ()), (y6.2.2.1.1, ()), ()))) fun y7 =>
      bif y7.1.2.2.2.2.2.1 then
        (F_cost_Path_1_h64a48 [] y7.2.1.1 y7.2.2.1.1).bind fun y8 =>
        some ((y8.1.1, ()), ())
      else
        Option.bind (bif (y7.1.1 != y7.1.2.1) then
              some ((y7.1.1, y7.1.2.1, y7.1.2.2.1, y7.1.2.2.2.1, (), (y7.1.1 == (1 : Int)), ()), ((y7.2.1.1, ()), (y7.2.2.1.1, ()), ()))
            else
              some ((y7.1.1, y7.1.2.1, y7.1.2.2.1, y7.1.2.2.2.1, (), false, ()), ((y7.2.1.1, ()), (y7.2.2.1.1, ()), ()))) fun y9 =>
        bif y9.1.2.2.2.2.2.1 then
          (F_cost_Path_1_h64a48 [y9.1.2.2.2.1] y9.2.1.1 y9.2.2.1.1).bind fun y10 =>
          some ((y10.1.1, ()), ())
        else
          bif (y9.1.1 != y9.1.2.1) then
            (F_cost_Path_1_h64a48 [y9.1.2.2.1] y9.2.1.1 y9.2.2.1.1).bind fun y11 =>
            some ((y11.1.1, ()), ())
          else
            bif (y9.1.1 == (1 : Int)) then
              (F_cost_Path_1_h64a48 [y9.1.2.2.2.1, y9.1.2.2.1] y9.2.1.1 y9.2.2.1.1).bind fun y12 =>
              some ((y12.1.1, ()), ())
            else
              (F_cost_Path_1_h64a48 [y9.1.2.2.1, y9.1.2.2.2.1] y9.2.1.1 y9.2.2.1.1).bind fun y13 =>
              some ((y13.1.1, ()), ())) = some ((pathV sweep dir fr fo lo hi, ()), ()) := by
  have fin : ∀ {x y : Int}, x = y → (some ((x, ()), ()) : Option ((Int × Unit) × Unit)) = some ((y, ()), ()) := fun h => by rw [h]
  have e1 : distF (fo : Int) fr = bif decide ((fr : Int) - fo < fo - fr) then (fo : Int) - fr else fr - fo := by
    unfold distF
    by_cases g : (fo : Int) - fr < fr - fo
    · rw [decide_eq_true g, decide_eq_false (by omega)]; rfl
    · rw [decide_eq_false g]; by_cases g' : (fr : Int) - fo < fo - fr
      · rw [decide_eq_true g']; rfl
      · rw [decide_eq_false g']; simp only [cond_false]; omega
  have W0 := w_nil (fr := fr) (fo := fo) (by omega) (by omega)
  have W1 := w_one (a := hi) (fr := fr) (fo := fo) (by omega) (by omega) (by omega)
  have W2 := w_one (a := lo) (fr := fr) (fo := fo) (by omega) (by omega) (by omega)
  have W3 := w_two (a := hi) (b := lo) (fr := fr) (fo := fo) (by omega) (by omega) (by omega) (by omega)
  have W4 := w_two (a := lo) (b := hi) (fr := fr) (fo := fo) (by omega) (by omega) (by omega) (by omega)
  rw [dist_ge (f := hi) (g := fr) (by omega), dist_le (f := fo) (g := hi) (by omega)] at W1
  rw [dist_le (f := lo) (g := fr) (by omega), dist_ge (f := fo) (g := lo) (by omega)] at W2
  rw [dist_ge (f := hi) (g := fr) (by omega), dist_le (f := lo) (g := hi) (by omega), dist_ge (f := fo) (g := lo) (by omega)] at W3
  rw [dist_le (f := lo) (g := fr) (by omega), dist_ge (f := hi) (g := lo) (by omega), dist_le (f := fo) (g := hi) (by omega)] at W4
  rcases hsw with rfl | rfl | rfl
  · rw [show ((0 : Int) == 1) = false from rfl, show ((0 : Int) == 2) = false from rfl]
    simp only [Option.bind_some, cond_true, cond_false, beq_self_eq_true, W0, pathV, e1]
  · rw [show ((1 : Int) == 1) = true from rfl, show ((1 : Int) == 2) = false from rfl]
    rcases hdir with rfl | rfl
    · by_cases g : (fr : Int) ≤ fo
      · simp only [Option.bind_some, cond_true, cond_false, decide_eq_true g, show ((1 : Int) == 0) = false from rfl, show ((1 : Int) == 1) = true from rfl, W0, pathV]
        rw [dist_ge g]
      · simp only [Option.bind_some, cond_true, cond_false, decide_eq_false g, show ((1 : Int) == 0) = false from rfl, show ((1 : Int) == 1) = true from rfl, bne, Bool.not_true, W3, pathV]
        refine fin ?_; omega
    · cases hg : decide ((fr : Int) ≤ fo) <;>
        (simp only [Option.bind_some, cond_true, cond_false, show ((1 : Int) == 0) = false from rfl, show ((1 : Int) == 1) = true from rfl, show ((1 : Int) == 2) = false from rfl, show ((2 : Int) == 1) = false from rfl, bne, Bool.not_false, W1, pathV]; refine fin ?_; omega)
  · rw [show ((2 : Int) == 1) = false from rfl, show ((2 : Int) == 2) = true from rfl]
    rcases hdir with rfl | rfl
    · cases hg : decide ((fo : Int) ≤ fr) <;>
        (simp only [Option.bind_some, cond_true, cond_false, show ((2 : Int) == 0) = false from rfl, show ((2 : Int) == 1) = false from rfl, show ((1 : Int) == 2) = false from rfl, bne, Bool.not_false, W2, pathV]; refine fin ?_; omega)
    · by_cases g : (fo : Int) ≤ fr
      · simp only [Option.bind_some, cond_true, cond_false, decide_eq_true g, show ((2 : Int) == 0) = false from rfl, show ((2 : Int) == 1) = false from rfl, show ((2 : Int) == 2) = true from rfl, W0, pathV]
        rw [dist_le g]
      · simp only [Option.bind_some, cond_true, cond_false, decide_eq_false g, show ((2 : Int) == 0) = false from rfl, show ((2 : Int) == 1) = false from rfl, show ((2 : Int) == 2) = true from rfl, bne, Bool.not_true, W4, pathV]
        refine fin ?_; omega
end Go.Ovl
