/- Debounced contacts (layer 4): what a reading does; the program and the reference do the same. -/
import Derived.Test.YtfooilbkiclplaaOvContact
namespace Go.Ovl
open Go Go.Ab
set_option maxRecDepth 100000

/-- A state: what counts, and the counters. -/
structure Deb where
  c : Contacts
  k : List Int
def Deb.no : Deb := ⟨⟨0, false, false, false, false⟩, List.replicate 36 0⟩
/-- The counters as single numbers. -/
def Deb.tup (s : Deb) : Int × Bool × Bool × Bool × Bool × Int × Int × Int × Int × Int × Int × Int × Int × Int × Int × Int × Int × Int × Int × Int × Int × Int × Int × Int × Int × Int × Int × Int × Int × Int × Int × Int × Int × Int × Int × Int × Int × Int × Int × Int × Int × Unit := (s.c.Floors, s.c.Up, s.c.Down, s.c.Open, s.c.Closed, s.k.getD 0 0, s.k.getD 1 0, s.k.getD 2 0, s.k.getD 3 0, s.k.getD 4 0, s.k.getD 5 0, s.k.getD 6 0, s.k.getD 7 0, s.k.getD 8 0, s.k.getD 9 0, s.k.getD 10 0, s.k.getD 11 0, s.k.getD 12 0, s.k.getD 13 0, s.k.getD 14 0, s.k.getD 15 0, s.k.getD 16 0, s.k.getD 17 0, s.k.getD 18 0, s.k.getD 19 0, s.k.getD 20 0, s.k.getD 21 0, s.k.getD 22 0, s.k.getD 23 0, s.k.getD 24 0, s.k.getD 25 0, s.k.getD 26 0, s.k.getD 27 0, s.k.getD 28 0, s.k.getD 29 0, s.k.getD 30 0, s.k.getD 31 0, s.k.getD 32 0, s.k.getD 33 0, s.k.getD 34 0, s.k.getD 35 0, ())
def Deb.cnt (s : Deb) : Int × Int × Int × Int × Int × Int × Int × Int × Int × Int × Int × Int × Int × Int × Int × Int × Int × Int × Int × Int × Int × Int × Int × Int × Int × Int × Int × Int × Int × Int × Int × Int × Int × Int × Int × Int × Unit := (s.k.getD 0 0, s.k.getD 1 0, s.k.getD 2 0, s.k.getD 3 0, s.k.getD 4 0, s.k.getD 5 0, s.k.getD 6 0, s.k.getD 7 0, s.k.getD 8 0, s.k.getD 9 0, s.k.getD 10 0, s.k.getD 11 0, s.k.getD 12 0, s.k.getD 13 0, s.k.getD 14 0, s.k.getD 15 0, s.k.getD 16 0, s.k.getD 17 0, s.k.getD 18 0, s.k.getD 19 0, s.k.getD 20 0, s.k.getD 21 0, s.k.getD 22 0, s.k.getD 23 0, s.k.getD 24 0, s.k.getD 25 0, s.k.getD 26 0, s.k.getD 27 0, s.k.getD 28 0, s.k.getD 29 0, s.k.getD 30 0, s.k.getD 31 0, s.k.getD 32 0, s.k.getD 33 0, s.k.getD 34 0, s.k.getD 35 0, ())
/-- A reading at one place. -/
def Deb.at (n : Int) (r : Contacts) (i : Nat) (s : Deb) : Deb :=
  if r.get i = s.c.get i then ⟨s.c, s.k.set i 0⟩ else if s.k.getD i 0 + 1 = n then ⟨s.c.set i (r.get i), s.k.set i 0⟩ else ⟨s.c, s.k.set i (s.k.getD i 0 + 1)⟩
/-- The state behind a reading. -/
def Deb.step (n : Int) (s : Deb) (r : Contacts) : Deb := foldN (Deb.at n r) 36 0 s
structure Deb.wf (s : Deb) : Prop where
  c : s.c.wf
  len : s.k.length = 36
  lo : ∀ j, j < 36 → 0 ≤ s.k.getD j 0
  hi : ∀ j, j < 36 → s.k.getD j 0 < 1000
/-- A state for n readings. -/
def Deb.is (n : Int) (s : Deb) : Prop := 1 ≤ n ∧ n ≤ 16 ∧ ∀ j, j < 36 → 0 ≤ s.k.getD j 0 ∧ s.k.getD j 0 < n
theorem list36 {L : List Int} (h : L.length = 36) : [L.getD 0 0, L.getD 1 0, L.getD 2 0, L.getD 3 0, L.getD 4 0, L.getD 5 0, L.getD 6 0, L.getD 7 0, L.getD 8 0, L.getD 9 0, L.getD 10 0, L.getD 11 0, L.getD 12 0, L.getD 13 0, L.getD 14 0, L.getD 15 0, L.getD 16 0, L.getD 17 0, L.getD 18 0, L.getD 19 0, L.getD 20 0, L.getD 21 0, L.getD 22 0, L.getD 23 0, L.getD 24 0, L.getD 25 0, L.getD 26 0, L.getD 27 0, L.getD 28 0, L.getD 29 0, L.getD 30 0, L.getD 31 0, L.getD 32 0, L.getD 33 0, L.getD 34 0, L.getD 35 0] = L := by
  have e : [L.getD 0 0, L.getD 1 0, L.getD 2 0, L.getD 3 0, L.getD 4 0, L.getD 5 0, L.getD 6 0, L.getD 7 0, L.getD 8 0, L.getD 9 0, L.getD 10 0, L.getD 11 0, L.getD 12 0, L.getD 13 0, L.getD 14 0, L.getD 15 0, L.getD 16 0, L.getD 17 0, L.getD 18 0, L.getD 19 0, L.getD 20 0, L.getD 21 0, L.getD 22 0, L.getD 23 0, L.getD 24 0, L.getD 25 0, L.getD 26 0, L.getD 27 0, L.getD 28 0, L.getD 29 0, L.getD 30 0, L.getD 31 0, L.getD 32 0, L.getD 33 0, L.getD 34 0, L.getD 35 0] = (List.range 36).map (fun q => L.getD q 0) := rfl
  rw [e]
  apply List.ext_getElem
  · simp [h]
  · intro j h1 h2
    simp [h2]
theorem getD_upd {L : List Int} {i : Nat} (h : i < L.length) (q : Nat) (v : Int) : (bif Nat.beq i q then v else L.getD q 0) = (L.set i v).getD q 0 := by
  rw [beq_ite]
  by_cases e : i = q
  · subst e; simp [h]
  · simp [e]
theorem at_wf {n : Int} {s : Deb} (h : s.wf) (hs : s.is n) {r : Contacts} {i : Nat} (hi : i < 36) : (s.at n r i).wf ∧ (s.at n r i).is n := by
  have hset : ∀ (v : Int) (j : Nat), (s.k.set i v).getD j 0 = if j = i then v else s.k.getD j 0 := by
    intro v j
    rw [← getD_upd (by rw [h.len]; exact hi), beq_ite]
    by_cases e : i = j
    · simp [e]
    · simp [e, Ne.symm e]
  have hn := hs.1
  have hn2 := hs.2.1
  have key : ∀ v : Int, 0 ≤ v → v < n → ∀ j, j < 36 → 0 ≤ (s.k.set i v).getD j 0 ∧ (s.k.set i v).getD j 0 < n := by
    intro v h1 h2 j hj
    rw [hset]
    by_cases e : j = i
    · rw [if_pos e]; exact ⟨h1, h2⟩
    · rw [if_neg e]; exact hs.2.2 j hj
  have fin : ∀ (c : Contacts) (v : Int), c.wf → 0 ≤ v → v < n → Deb.wf ⟨c, s.k.set i v⟩ ∧ Deb.is n ⟨c, s.k.set i v⟩ := by
    intro c v hc h1 h2
    have hk := key v h1 h2
    exact ⟨⟨hc, by simp [h.len], fun j hj => (hk j hj).1, fun j hj => by have := (hk j hj).2; simp only at this ⊢; omega⟩, hn, hn2, hk⟩
  have hki := hs.2.2 i hi
  unfold Deb.at
  split
  · exact fin _ _ h.c (by omega) (by omega)
  · split
    · exact fin _ _ (Contacts.set_wf h.c _ _) (by omega) (by omega)
    · exact fin _ _ h.c (by omega) (by omega)
theorem foldAt_wf {n : Int} {r : Contacts} : ∀ (m i : Nat) (s : Deb), i + m ≤ 36 → s.wf → s.is n → (foldN (Deb.at n r) m i s).wf ∧ (foldN (Deb.at n r) m i s).is n
  | 0, _, _, _, h, hs => ⟨h, hs⟩
  | m + 1, i, s, hi, h, hs => foldAt_wf m (i + 1) (s.at n r i) (by omega) (at_wf h hs (by omega)).1 (at_wf h hs (by omega)).2
theorem step_wf {n : Int} {s : Deb} (h : s.wf) (hs : s.is n) (r : Contacts) : (s.step n r).wf ∧ (s.step n r).is n := foldAt_wf 36 0 s (by omega) h hs
theorem no_k (j : Nat) : Deb.no.k.getD j 0 = 0 := by
  show (List.replicate 36 (0 : Int)).getD j 0 = 0
  rw [List.getD_eq_getElem?_getD, List.getElem?_replicate]
  split <;> rfl
theorem no_wf : Deb.no.wf := ⟨⟨Int.le_refl _, by decide⟩, rfl, fun j _ => by rw [no_k]; omega, fun j _ => by rw [no_k]; omega⟩
theorem no_is {n : Int} (h : 1 ≤ n) (h' : n ≤ 16) : Deb.no.is n := ⟨h, h', fun j _ => by rw [no_k]; omega⟩

theorem contact_round {n : Int} {s : Deb} (h : s.wf) (hs : s.is n) {r : Contacts} (hr : r.wf) (b : Deb) {i : Nat} (hi : i < 36) :
    R_contact_step_0 n (i : Int) s.c.Floors s.c.Up s.c.Down s.c.Open s.c.Closed (s.k.getD 0 0) (s.k.getD 1 0) (s.k.getD 2 0) (s.k.getD 3 0) (s.k.getD 4 0) (s.k.getD 5 0) (s.k.getD 6 0) (s.k.getD 7 0) (s.k.getD 8 0) (s.k.getD 9 0) (s.k.getD 10 0) (s.k.getD 11 0) (s.k.getD 12 0) (s.k.getD 13 0) (s.k.getD 14 0) (s.k.getD 15 0) (s.k.getD 16 0) (s.k.getD 17 0) (s.k.getD 18 0) (s.k.getD 19 0) (s.k.getD 20 0) (s.k.getD 21 0) (s.k.getD 22 0) (s.k.getD 23 0) (s.k.getD 24 0) (s.k.getD 25 0) (s.k.getD 26 0) (s.k.getD 27 0) (s.k.getD 28 0) (s.k.getD 29 0) (s.k.getD 30 0) (s.k.getD 31 0) (s.k.getD 32 0) (s.k.getD 33 0) (s.k.getD 34 0) (s.k.getD 35 0) r.Floors r.Up r.Down r.Open r.Closed b.c.Floors b.c.Up b.c.Down b.c.Open b.c.Closed (b.k.getD 0 0) (b.k.getD 1 0) (b.k.getD 2 0) (b.k.getD 3 0) (b.k.getD 4 0) (b.k.getD 5 0) (b.k.getD 6 0) (b.k.getD 7 0) (b.k.getD 8 0) (b.k.getD 9 0) (b.k.getD 10 0) (b.k.getD 11 0) (b.k.getD 12 0) (b.k.getD 13 0) (b.k.getD 14 0) (b.k.getD 15 0) (b.k.getD 16 0) (b.k.getD 17 0) (b.k.getD 18 0) (b.k.getD 19 0) (b.k.getD 20 0) (b.k.getD 21 0) (b.k.getD 22 0) (b.k.getD 23 0) (b.k.getD 24 0) (b.k.getD 25 0) (b.k.getD 26 0) (b.k.getD 27 0) (b.k.getD 28 0) (b.k.getD 29 0) (b.k.getD 30 0) (b.k.getD 31 0) (b.k.getD 32 0) (b.k.getD 33 0) (b.k.getD 34 0) (b.k.getD 35 0) =
      some (.inl ((n, (), (), (), ((i + 1 : Nat) : Int), ()), ((s.at n r i).tup, r.tup, b.tup, ()))) := by
  unfold R_contact_step_0
  have e0 : decide ((i : Int) < 36) = true := by simp; omega
  have ib : inB (i : Int) 36 = true := inB_true (by omega) (by omega)
  have tn : Int.toNat (i : Int) = i := by omega
  have w : IntKind.i64.wrap ((i : Int) + 1) = ((i + 1 : Nat) : Int) := by rw [wrap_small (by omega) (by omega)]; omega
  have hki := h.lo i hi
  have hki' := h.hi i hi
  have wk : IntKind.i64.wrap (s.k.getD i 0 + 1) = s.k.getD i 0 + 1 := wrap_small (by omega) (by omega)
  have hl : i < s.k.length := by rw [h.len]; exact hi
  have hl2 : ∀ v : Int, i < (s.k.set i v).length := fun v => by simp; exact hl
  have hgi : ∀ v : Int, (s.k.set i v).getD i 0 = v := fun v => by simp [hl]
  rw [e0, cond_true, F_contact_Get_eq r hr (i : Int), F_contact_Get_eq s.c h.c (i : Int)]
  simp only [Option.bind_some, ib, cond_true, tn, getD_upd hl, w, list36 h.len, wk]
  unfold Deb.at
  by_cases hq : r.get i = s.c.get i
  · simp only [hq, beq_self_eq_true, cond_true, if_true]
    rfl
  · simp only [beq_f hq, cond_false, hq, if_false]
    have l36 : ∀ v : Int, (s.k.set i v).length = 36 := fun v => by simp [h.len]
    try simp only [list36 (l36 _), hgi, getD_upd (hl2 _), List.set_set]
    by_cases hn : s.k.getD i 0 + 1 = n
    · have : (s.k.getD i 0 + 1 == n) = true := by simpa using hn
      simp only [this, cond_true, if_true, hn, beq_self_eq_true]
      rw [F_contact_Set_eq s.c (i : Int) (r.get i)]
      rfl
    · simp only [beq_f hn, cond_false, hn, if_false]
      rfl

theorem r04_round {n : Int} {s : Deb} (h : s.wf) (hs : s.is n) {r : Contacts} (hr : r.wf) (b : Deb) {i : Nat} (hi : i < 36) :
    R_r04_Step_0 n (i : Int) s.c.Floors s.c.Up s.c.Down s.c.Open s.c.Closed (s.k.getD 0 0) (s.k.getD 1 0) (s.k.getD 2 0) (s.k.getD 3 0) (s.k.getD 4 0) (s.k.getD 5 0) (s.k.getD 6 0) (s.k.getD 7 0) (s.k.getD 8 0) (s.k.getD 9 0) (s.k.getD 10 0) (s.k.getD 11 0) (s.k.getD 12 0) (s.k.getD 13 0) (s.k.getD 14 0) (s.k.getD 15 0) (s.k.getD 16 0) (s.k.getD 17 0) (s.k.getD 18 0) (s.k.getD 19 0) (s.k.getD 20 0) (s.k.getD 21 0) (s.k.getD 22 0) (s.k.getD 23 0) (s.k.getD 24 0) (s.k.getD 25 0) (s.k.getD 26 0) (s.k.getD 27 0) (s.k.getD 28 0) (s.k.getD 29 0) (s.k.getD 30 0) (s.k.getD 31 0) (s.k.getD 32 0) (s.k.getD 33 0) (s.k.getD 34 0) (s.k.getD 35 0) r.Floors r.Up r.Down r.Open r.Closed b.c.Floors b.c.Up b.c.Down b.c.Open b.c.Closed (b.k.getD 0 0) (b.k.getD 1 0) (b.k.getD 2 0) (b.k.getD 3 0) (b.k.getD 4 0) (b.k.getD 5 0) (b.k.getD 6 0) (b.k.getD 7 0) (b.k.getD 8 0) (b.k.getD 9 0) (b.k.getD 10 0) (b.k.getD 11 0) (b.k.getD 12 0) (b.k.getD 13 0) (b.k.getD 14 0) (b.k.getD 15 0) (b.k.getD 16 0) (b.k.getD 17 0) (b.k.getD 18 0) (b.k.getD 19 0) (b.k.getD 20 0) (b.k.getD 21 0) (b.k.getD 22 0) (b.k.getD 23 0) (b.k.getD 24 0) (b.k.getD 25 0) (b.k.getD 26 0) (b.k.getD 27 0) (b.k.getD 28 0) (b.k.getD 29 0) (b.k.getD 30 0) (b.k.getD 31 0) (b.k.getD 32 0) (b.k.getD 33 0) (b.k.getD 34 0) (b.k.getD 35 0) =
      some (.inl ((n, (), (), (), ((i + 1 : Nat) : Int), ()), ((s.at n r i).tup, r.tup, b.tup, ()))) := by
  unfold R_r04_Step_0
  have e0 : decide ((i : Int) < 36) = true := by simp; omega
  have ib : inB (i : Int) 36 = true := inB_true (by omega) (by omega)
  have tn : Int.toNat (i : Int) = i := by omega
  have w : IntKind.i64.wrap ((i : Int) + 1) = ((i + 1 : Nat) : Int) := by rw [wrap_small (by omega) (by omega)]; omega
  have hki := h.lo i hi
  have hki' := h.hi i hi
  have wk : IntKind.i64.wrap (s.k.getD i 0 + 1) = s.k.getD i 0 + 1 := wrap_small (by omega) (by omega)
  have hl : i < s.k.length := by rw [h.len]; exact hi
  have hl2 : ∀ v : Int, i < (s.k.set i v).length := fun v => by simp; exact hl
  have hgi : ∀ v : Int, (s.k.set i v).getD i 0 = v := fun v => by simp [hl]
  rw [e0, cond_true, F_r04_Get_eq r hr (i : Int) (by omega), F_r04_Get_eq s.c h.c (i : Int) (by omega)]
  simp only [Option.bind_some, ib, cond_true, tn, getD_upd hl, w, list36 h.len, wk]
  unfold Deb.at
  by_cases hq : r.get i = s.c.get i
  · simp only [hq, beq_self_eq_true, cond_true, if_true]
    rfl
  · simp only [beq_f hq, cond_false, hq, if_false]
    have l36 : ∀ v : Int, (s.k.set i v).length = 36 := fun v => by simp [h.len]
    try simp only [list36 (l36 _), hgi, getD_upd (hl2 _), List.set_set]
    by_cases hn : s.k.getD i 0 + 1 = n
    · have : (s.k.getD i 0 + 1 == n) = true := by simpa using hn
      simp only [this, cond_true, if_true, hn, beq_self_eq_true]
      rw [F_r04_Set_eq s.c (i : Int) (r.get i) (by omega)]
      rfl
    · simp only [beq_f hn, cond_false, hn, if_false]
      rfl
end Go.Ovl
