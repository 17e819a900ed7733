/- AssignRaw: plans and stops are the reference's for arbitrary images and views. -/
import Derived.Test.YticbfghinhhgiaaDoorOvStops
namespace Go.Ovl
open Go Go.Ab
set_option maxRecDepth 100000
theorem l22_sane : F_l22_sane = some ((true, ()), ()) := by kernel_rfl
theorem law_AssignRaw (n : Int) (m_Phases : List (Int)) (m_Flags : List (Bool)) (m_Leaving : List (Bool)) (m_Entries : List (Entry)) (v : List (View)) (h_n : 0 ≤ n ∧ n < 256) (h_m_Phases : m_Phases.length ≤ maxLen ∧ ∀ e ∈ m_Phases, (-9223372036854775808 ≤ e ∧ e < 9223372036854775808)) (_h_m_Flags : m_Flags.length ≤ maxLen ∧ ∀ e ∈ m_Flags, True) (_h_m_Leaving : m_Leaving.length ≤ maxLen ∧ ∀ e ∈ m_Leaving, True) (h_m_Entries : m_Entries.length ≤ maxLen ∧ ∀ e ∈ m_Entries, (-9223372036854775808 ≤ e.Floor ∧ e.Floor < 9223372036854775808) ∧ (-9223372036854775808 ≤ e.Dir ∧ e.Dir < 9223372036854775808) ∧ (-9223372036854775808 ≤ e.Car ∧ e.Car < 9223372036854775808) ∧ (-9223372036854775808 ≤ e.Moves ∧ e.Moves < 9223372036854775808)) (h_v : v.length ≤ maxLen ∧ ∀ e ∈ v, (-9223372036854775808 ≤ e.Floor ∧ e.Floor < 9223372036854775808) ∧ (-9223372036854775808 ≤ e.Dir ∧ e.Dir < 9223372036854775808) ∧ (-9223372036854775808 ≤ e.Load ∧ e.Load < 9223372036854775808) ∧ (0 ≤ e.Shows_Up ∧ e.Shows_Up < 4294967296) ∧ (0 ≤ e.Shows_Down ∧ e.Shows_Down < 4294967296) ∧ (0 ≤ e.Stops_Car ∧ e.Stops_Car < 4294967296) ∧ (0 ≤ e.Stops_Hall_Up ∧ e.Stops_Hall_Up < 4294967296) ∧ (0 ≤ e.Stops_Hall_Down ∧ e.Stops_Hall_Down < 4294967296)) : F_l22_AssignRaw n m_Phases m_Flags m_Leaving m_Entries v = some ((true, ()), ()) := by
  unfold F_l22_AssignRaw
  rw [l22_sane]
  by_cases g1 : (70 : Int) < (m_Entries.length : Int)
  · rw [decide_eq_true g1]; rfl
  rw [decide_eq_false g1]
  by_cases g2 : (20 : Int) < (v.length : Int)
  · rw [decide_eq_true g2]; rfl
  rw [decide_eq_false g2]
  cases decide ((20 : Int) < (m_Phases.length : Int)) with
  | true => rfl
  | false =>
    cases decide ((20 : Int) < (m_Flags.length : Int)) with
    | true => rfl
    | false =>
      cases decide ((20 : Int) < (m_Leaving.length : Int)) with
      | true => rfl
      | false =>
        obtain ⟨fl, ca, h1, h2, h3, h4, hB⟩ := F_l10_Building_eq h_n (room := 200) (by omega)
        have hs : (bld10 fl ca 200).small := ⟨by show (2 : Int) ≤ (fl : Int); omega, by show (fl : Int) ≤ 8; omega⟩
        have hr : okViews v := fun w hw => by
          obtain ⟨_, _, _, _, _, k1, k2, k3⟩ := h_v.2 w hw
          exact ⟨k1, k2, k3⟩
        have hmx : 1000 ≤ maxLen := by decide
        have p1 := assign_Plan_eq hs hr (by omega) ⟨m_Phases, m_Flags, m_Leaving, m_Entries⟩ (by show m_Entries.length ≤ 1000; omega) h_m_Phases.1 (List.replicate m_Entries.length 0) (by rw [List.length_replicate]; exact h_m_Entries.1)
        have p2 := r22_Plan_eq hs hr (by omega) ⟨m_Phases, m_Flags, m_Leaving, m_Entries⟩ (by show m_Entries.length ≤ 1000; omega) h_m_Phases.1 (List.replicate m_Entries.length 0) (by rw [List.length_replicate]; exact h_m_Entries.1)
        have s1 := assign_Stops_eq hs v ⟨m_Phases, m_Flags, m_Leaving, m_Entries⟩ (by show m_Entries.length ≤ 1000; omega) h_m_Phases.1 0
        have s2 := r22_Stops_eq hs v ⟨m_Phases, m_Flags, m_Leaving, m_Entries⟩ (by show m_Entries.length ≤ 1000; omega) h_m_Phases.1 0
        have hlen := planV_len (bld10 fl ca 200) ⟨m_Phases, m_Flags, m_Leaving, m_Entries⟩ (List.replicate m_Entries.length 0) v
        have hl1 : (planV (bld10 fl ca 200) ⟨m_Phases, m_Flags, m_Leaving, m_Entries⟩ (List.replicate m_Entries.length 0) v).1.length ≤ maxLen := by
          have : (planV (bld10 fl ca 200) ⟨m_Phases, m_Flags, m_Leaving, m_Entries⟩ (List.replicate m_Entries.length 0) v).1.length ≤ 2 * m_Entries.length := hlen.1
          omega
        have hl2 : (planV (bld10 fl ca 200) ⟨m_Phases, m_Flags, m_Leaving, m_Entries⟩ (List.replicate m_Entries.length 0) v).2.1.length ≤ maxLen := by
          have : (planV (bld10 fl ca 200) ⟨m_Phases, m_Flags, m_Leaving, m_Entries⟩ (List.replicate m_Entries.length 0) v).2.1.length ≤ m_Entries.length := hlen.2
          omega
        rw [hB]
        simp only [cond_false, Option.bind_some, Bldg.tup, decide_eq_true (show (0 : Int) ≤ (m_Entries.length : Int) by omega), decide_eq_true (Int.le_refl (m_Entries.length : Int)), decide_eq_true (show (m_Entries.length : Int) ≤ 2147483648 by omega), Bool.and_self, cond_true, Int.toNat_natCast, p1, p2, beq_self_eq_true, r09_Same_refl hl1, r22_SameInts_refl hl2, s1, s2]
end Go.Ovl
