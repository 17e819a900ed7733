/- Contacts (layer 4): which contact has which number. -/
import Derived.Test.YtfooilbkiclplaaDefs1
import Derived.Test.YtfooilbkiclplaaOvBits
namespace Go.Ovl
open Go Go.Ab

def Contacts.get (c : Contacts) (i : Int) : Bool :=
  if i = 32 then c.Up else if i = 33 then c.Down else if i = 34 then c.Open else if i = 35 then c.Closed else decide (0 ≤ i ∧ i < 32) && bitF c.Floors i.toNat
def Contacts.set (c : Contacts) (i : Int) (on : Bool) : Contacts :=
  if i = 32 then { c with Up := on } else if i = 33 then { c with Down := on } else if i = 34 then { c with Open := on } else if i = 35 then { c with Closed := on }
  else if 0 ≤ i ∧ i < 32 then { c with Floors := setF c.Floors i.toNat on } else c
def Contacts.wf (c : Contacts) : Prop := 0 ≤ c.Floors ∧ c.Floors < 4294967296
/-- As the functions return it. -/
def Contacts.tup (c : Contacts) : Int × Bool × Bool × Bool × Bool × Unit := (c.Floors, c.Up, c.Down, c.Open, c.Closed, ())
theorem Contacts.get_lt (c : Contacts) {j : Int} (h0 : 0 ≤ j) (h : j < 32) : c.get j = bitF c.Floors j.toNat := by
  unfold Contacts.get
  rw [if_neg (by omega), if_neg (by omega), if_neg (by omega), if_neg (by omega)]
  simp [h0, h]
theorem Contacts.set_wf {c : Contacts} (h : c.wf) (i : Int) (on : Bool) : (c.set i on).wf := by
  unfold Contacts.set
  repeat (split; exact h)
  split
  · exact setF_bound _ _ _
  · exact h
theorem Contacts.get_set (c : Contacts) {i j : Int} (on : Bool) (hi : 0 ≤ i ∧ i < 36) (hj : 0 ≤ j ∧ j < 36) : (c.set i on).get j = if j = i then on else c.get j := by
  by_cases h : i < 32
  · have e : c.set i on = { c with Floors := setF c.Floors i.toNat on } := by
      unfold Contacts.set
      rw [if_neg (by omega), if_neg (by omega), if_neg (by omega), if_neg (by omega), if_pos (by omega)]
    rw [e]
    by_cases h2 : j < 32
    · rw [Contacts.get_lt _ hj.1 h2, Contacts.get_lt _ hj.1 h2]
      simp only
      rw [bit_set _ _ (by omega) (by omega)]
      by_cases h3 : j = i
      · rw [if_pos h3, if_pos (by omega)]
      · rw [if_neg h3, if_neg (by omega)]
    · have : j = 32 ∨ j = 33 ∨ j = 34 ∨ j = 35 := by omega
      rw [if_neg (show ¬ j = i by omega)]
      rcases this with rfl | rfl | rfl | rfl <;> simp [Contacts.get]
  · have : i = 32 ∨ i = 33 ∨ i = 34 ∨ i = 35 := by omega
    by_cases h3 : j = i
    · subst h3
      rcases this with rfl | rfl | rfl | rfl <;> simp [Contacts.set, Contacts.get]
    · rw [if_neg h3]
      rcases this with rfl | rfl | rfl | rfl <;> simp only [Contacts.set, Contacts.get, reduceIte] <;> simp [h3]
theorem Contacts.ext' {c d : Contacts} (hc : c.wf) (hd : d.wf) (h : ∀ j : Int, 0 ≤ j → j < 36 → c.get j = d.get j) : c = d := by
  have hF : c.Floors = d.Floors := by
    refine bit_ext hc hd fun i hi => ?_
    have := h (i : Int) (by omega) (by omega)
    unfold Contacts.get at this
    rw [if_neg (by omega), if_neg (by omega), if_neg (by omega), if_neg (by omega), if_neg (by omega), if_neg (by omega), if_neg (by omega), if_neg (by omega)] at this
    simpa [show (0 ≤ (i : Int) ∧ (i : Int) < 32) from ⟨by omega, by omega⟩, hi] using this
  have h32 := h 32 (by omega) (by omega)
  have h33 := h 33 (by omega) (by omega)
  have h34 := h 34 (by omega) (by omega)
  have h35 := h 35 (by omega) (by omega)
  simp [Contacts.get] at h32 h33 h34 h35
  cases c; cases d
  simp_all
theorem min32 {i : Int} (h : 0 ≤ i) (h2 : i < 32) : i.toNat < 32 := by omega
theorem F_contact_Get_eq (c : Contacts) (hc : c.wf) (i : Int) : F_contact_Get c.Floors c.Up c.Down c.Open c.Closed i = some ((c.get i, ()), ()) := by
  unfold F_contact_Get Contacts.get
  by_cases h32 : i = 32
  · simp [h32]
  by_cases h33 : i = 33
  · simp [h33]
  by_cases h34 : i = 34
  · simp [h34]
  by_cases h35 : i = 35
  · simp [h35]
  simp only [h32, h33, h34, h35, if_false, beq_f h32, beq_f h33, beq_f h34, beq_f h35, cond_false]
  by_cases h0 : 0 ≤ i
  · by_cases h1 : i < 32
    · rw [bit_test hc (min32 h0 h1)]
      simp [h0, h1]
    · simp [h0, h1]
  · simp [h0]
theorem F_r04_Get_eq (c : Contacts) (hc : c.wf) (i : Int) (hi : -9223372036854775808 ≤ i ∧ i < 9223372036854775808) : F_r04_Get c.Floors c.Up c.Down c.Open c.Closed i = some ((c.get i, ()), ()) := by
  unfold F_r04_Get Contacts.get
  by_cases h0 : i < 0
  · have : ¬ 0 ≤ i := by omega
    rw [if_neg (by omega), if_neg (by omega), if_neg (by omega), if_neg (by omega)]
    simp [h0, this]
  · by_cases h1 : 35 < i
    · have : ¬ i < 32 := by omega
      rw [if_neg (by omega), if_neg (by omega), if_neg (by omega), if_neg (by omega)]
      simp [h0, h1, this]
    · by_cases h2 : i < 32
      · have w : IntKind.u64.wrap i = i := wrap_u64 (by omega) (by omega)
        have e0 : decide (i < 0) = false := by simpa using h0
        have e1 : decide (35 < i) = false := by simpa using h1
        have e2 : decide (i < 32) = true := by simpa using h2
        have e3 : decide (0 ≤ i) = true := by simp; omega
        simp only [e0, e1, e2, w, e3, cond_true, cond_false]
        rw [bit_test hc (by omega), if_neg (by omega), if_neg (by omega), if_neg (by omega), if_neg (by omega)]
        simp [h2, show 0 ≤ i by omega]
      · have : i = 32 ∨ i = 33 ∨ i = 34 ∨ i = 35 := by omega
        rcases this with rfl | rfl | rfl | rfl <;> rfl
theorem F_contact_Set_eq (c : Contacts) (i : Int) (on : Bool) : F_contact_Set c.Floors c.Up c.Down c.Open c.Closed i on = some (((), ()), ((c.set i on).tup, ())) := by
  unfold F_contact_Set Contacts.set
  by_cases h32 : i = 32
  · simp [h32, Contacts.tup]
  by_cases h33 : i = 33
  · simp [h33, Contacts.tup]
  by_cases h34 : i = 34
  · simp [h34, Contacts.tup]
  by_cases h35 : i = 35
  · simp [h35, Contacts.tup]
  simp only [h32, h33, h34, h35, if_false, beq_f h32, beq_f h33, beq_f h34, beq_f h35, cond_false]
  by_cases h0 : 0 ≤ i
  · have e0 : decide (0 ≤ i) = true := by simpa using h0
    by_cases h1 : i < 32
    · have e1 : decide (i < 32) = true := by simpa using h1
      simp only [e0, e1, cond_true, Option.bind_some]
      rw [and_clear _ (min32 h0 h1), or_set _ (min32 h0 h1), set_clear, if_pos ⟨h0, h1⟩]
      cases on <;> rfl
    · have e1 : decide (i < 32) = false := by simpa using h1
      simp only [e0, e1, cond_true, cond_false, Option.bind_some]
      rw [if_neg (by omega)]; rfl
  · have e0 : decide (0 ≤ i) = false := by simpa using h0
    simp only [e0, cond_false, Option.bind_some]
    rw [if_neg (by omega)]; rfl
theorem F_r04_Set_eq (c : Contacts) (i : Int) (on : Bool) (hi : -9223372036854775808 ≤ i ∧ i < 9223372036854775808) : F_r04_Set c.Floors c.Up c.Down c.Open c.Closed i on = some (((), ()), ((c.set i on).tup, ())) := by
  unfold F_r04_Set Contacts.set
  by_cases h0 : 0 ≤ i
  · have e0 : decide (0 ≤ i) = true := by simpa using h0
    by_cases h1 : i < 32
    · have e1 : decide (i < 32) = true := by simpa using h1
      have w : IntKind.u64.wrap i = i := wrap_u64 (by omega) (by omega)
      rw [if_neg (by omega), if_neg (by omega), if_neg (by omega), if_neg (by omega), if_pos ⟨h0, h1⟩]
      cases on with
      | true =>
        simp only [e0, e1, cond_true, Option.bind_some, w]
        rw [or_set _ (min32 h0 h1)]; rfl
      | false =>
        simp only [e0, e1, cond_true, cond_false, Option.bind_some, w]
        rw [and_clear _ (min32 h0 h1)]; rfl
    · have e1 : decide (i < 32) = false := by simpa using h1
      simp only [e0, e1, cond_true, cond_false, Option.bind_some]
      by_cases h32 : i = 32
      · subst h32; rfl
      by_cases h33 : i = 33
      · subst h33; rfl
      by_cases h34 : i = 34
      · subst h34; rfl
      by_cases h35 : i = 35
      · subst h35; rfl
      simp only [h32, h33, h34, h35, if_false, beq_f h32, beq_f h33, beq_f h34, beq_f h35, cond_false]
      rw [if_neg (by omega)]; rfl
  · have e0 : decide (0 ≤ i) = false := by simpa using h0
    simp only [e0, cond_false, Option.bind_some]
    have h32 : ¬ i = 32 := by omega
    have h33 : ¬ i = 33 := by omega
    have h34 : ¬ i = 34 := by omega
    have h35 : ¬ i = 35 := by omega
    simp only [h32, h33, h34, h35, if_false, beq_f h32, beq_f h33, beq_f h34, beq_f h35, cond_false]
    rw [if_neg (by omega)]; rfl
end Go.Ovl
