/- DispatchReplays: the image behind records, or the first error; replaying the records of a round gives its image. -/
import Derived.Test.YthdomhdippmaiaaGreatDoorOvF
import Derived.Test.YthdomhdippmaiaaGreatDoorOvC
namespace Go.Ovl
open Go Go.Ab
set_option maxRecDepth 100000
theorem nn3' (c_N_0 : Int) (c_N_1 : Int) (c_L : List (Int)) (c_K : List (Int)) (c_Press_Up : Int) (c_Press_Down : Int) (raw : List (Record)) (h_c_N_0 : 0 ≤ c_N_0 ∧ c_N_0 < 256) (h_c_N_1 : 0 ≤ c_N_1 ∧ c_N_1 < 256) (h_c_L : c_L.length ≤ maxLen ∧ ∀ e ∈ c_L, (0 ≤ e ∧ e < 256)) (h_c_K : c_K.length ≤ maxLen ∧ ∀ e ∈ c_K, (0 ≤ e ∧ e < 256)) (_h_c_Press_Up : 0 ≤ c_Press_Up ∧ c_Press_Up < 4294967296) (_h_c_Press_Down : 0 ≤ c_Press_Down ∧ c_Press_Down < 4294967296) (_h_raw : raw.length ≤ maxLen ∧ ∀ e ∈ raw, (-9223372036854775808 ≤ e.Kind ∧ e.Kind < 9223372036854775808) ∧ (-9223372036854775808 ≤ e.Floor ∧ e.Floor < 9223372036854775808) ∧ (-9223372036854775808 ≤ e.Dir ∧ e.Dir < 9223372036854775808) ∧ (-9223372036854775808 ≤ e.Car ∧ e.Car < 9223372036854775808) ∧ (-9223372036854775808 ≤ e.Value ∧ e.Value < 9223372036854775808)) : F_l24_DispatchReplays c_N_0 c_N_1 c_L c_K c_Press_Up c_Press_Down raw = some ((true, ()), ()) := by
  unfold F_l24_DispatchReplays
  by_cases g : (100 : Int) < (raw.length : Int)
  · rw [decide_eq_true g, cond_true, nvl']; rfl
  rw [decide_eq_false g, cond_false]
  obtain ⟨b, m, vs, xs, hB, hI, hV, hX, h⟩ := n52' h_c_N_0 h_c_N_1 h_c_L h_c_K
  have hcc := h.cars
  have hb := h.small
  have hcode := h.code
  have r1 := nj9' hb hcode h.img (l := raw) (by omega)
  have r2 := num' hb hcode h.img (l := raw) (by omega)
  have ht := h.tick (ps := List.replicate b.Cars.length noP) List.length_replicate (c_Press_Up, c_Press_Down) true
  have hfr := nyi' h (List.replicate b.Cars.length noP) (c_Press_Up, c_Press_Down) true
  obtain ⟨t1, t2, t3⟩ := n29' h (List.replicate b.Cars.length noP) (c_Press_Up, c_Press_Down) true
  generalize tickV b m xs vs (List.replicate b.Cars.length noP) (c_Press_Up, c_Press_Down) true = T at ht hfr t1 t2 t3
  have r3 := nj9' hb hcode h.img (l := T.recs) (by omega)
  rw [nns' hfr.val, ← hfr.img] at r3
  have hrf : (nbr' b m raw).1.fit := by
    by_cases q : (nbr' b m raw).2 = 0
    · exact nwc' hb hcode (nnr' h.img q)
    · rw [njj' q]
      exact ⟨Nat.zero_le _, Nat.zero_le _, Nat.zero_le _, Nat.zero_le _⟩
  have s1 := npw' hrf (c := (nbr' b m raw).1)
  have s2 := npw' (nwc' hb hcode t1) (c := T.img)
  rw [nzn'] at s1 s2
  generalize nbr' b m raw = w at r1 r2 s1
  rw [hB]
  simp only [Option.bind_some, Bldg.tup]
  rw [hI]
  simp only [Option.bind_some, Img.tup]
  rw [r1]
  simp only [Option.bind_some]
  rw [r2]
  simp only [Option.bind_some]
  rw [hX]
  simp only [Option.bind_some]
  rw [hV]
  simp only [Option.bind_some, decide_eq_true (show (0 : Int) ≤ (b.Cars.length : Int) by omega), decide_eq_true (Int.le_refl (b.Cars.length : Int)), decide_eq_true (show (b.Cars.length : Int) ≤ 2147483648 by omega), Bool.and_self, cond_true, Int.toNat_natCast]
  rw [show nb0' b.Floors b.Debounce b.Room b.Park b.Empty b.Full b.Over b.Cars m.Phases m.Flags m.Leaving m.Entries xs vs (List.replicate b.Cars.length (Calls.mk 0 0)) c_Press_Up c_Press_Down true = _ from ht]
  simp only [Option.bind_some, Rnd.tup]
  rw [r3]
  simp only [Option.bind_some, beq_self_eq_true, cond_true, Img.tup, s1, s2]
  rw [t2]
  simp only [beq_self_eq_true, cond_true, nvl', Option.bind_some]
end Go.Ovl
