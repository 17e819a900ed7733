/- Debounced contacts, place by place. -/
import Derived.Test.YtfooilbkiclplaaOvContactAll
namespace Go.Ovl
open Go Go.Ab
set_option maxRecDepth 100000
theorem bind_eq {α β : Type} {x : Option α} {a : α} {f : α → Option β} {y : Option β} (h : x = some a) (k : f a = y) : x.bind f = y := by rw [h]; exact k
/-- What is kept for one place. -/
def Deb.pl (s : Deb) (j : Nat) : Bool × Int := (s.c.get j, s.k.getD j 0)
/-- A reading of one place. -/
def one (n : Int) (p : Bool × Int) (r : Bool) : Bool × Int := if r = p.1 then (p.1, 0) else if p.2 + 1 = n then (r, 0) else (p.1, p.2 + 1)
theorem at_len (n : Int) (r : Contacts) (i : Nat) (s : Deb) : (s.at n r i).k.length = s.k.length := by
  unfold Deb.at
  split
  · simp
  · split <;> simp
theorem at_pl {n : Int} {r : Contacts} {i j : Nat} {s : Deb} (hi : i < 36) (hj : j < 36) (hl : s.k.length = 36) : (s.at n r i).pl j = if j = i then one n (s.pl i) (r.get i) else s.pl j := by
  have hset : ∀ v : Int, (s.k.set i v).getD j 0 = if j = i then v else s.k.getD j 0 := by
    intro v
    rw [← getD_upd (by rw [hl]; exact hi), beq_ite]
    by_cases e : i = j
    · simp [e]
    · simp [e, Ne.symm e]
  have hci : ∀ b, (s.c.set i b).get j = if j = i then b else s.c.get j := by
    intro b
    rw [Contacts.get_set _ _ (by omega) (by omega)]
    by_cases e : j = i
    · simp [e]
    · rw [if_neg e, if_neg (by omega)]
  unfold Deb.at one Deb.pl
  by_cases e : j = i
  · subst e
    simp only [if_true] at hset hci ⊢
    split
    · simp only [hset]
    · split
      · simp only [hset, hci]
      · simp only [hset]
  · simp only [e, if_false] at hset hci ⊢
    split
    · simp only [hset]
    · split
      · simp only [hset, hci]
      · simp only [hset]
theorem foldAt_len {n : Int} {r : Contacts} : ∀ (m i : Nat) (s : Deb), (foldN (Deb.at n r) m i s).k.length = s.k.length
  | 0, _, _ => rfl
  | m + 1, i, s => (foldAt_len m (i + 1) (s.at n r i)).trans (at_len n r i s)
theorem fold_pl {n : Int} {r : Contacts} {j : Nat} (hj : j < 36) : ∀ (m i : Nat) (s : Deb), i + m ≤ 36 → s.k.length = 36 → (foldN (Deb.at n r) m i s).pl j = if i ≤ j ∧ j < i + m then one n (s.pl j) (r.get j) else s.pl j
  | 0, i, s, _, _ => by rw [if_neg (by omega)]; rfl
  | m + 1, i, s, h, hl => by
    show (foldN (Deb.at n r) m (i + 1) (s.at n r i)).pl j = _
    rw [fold_pl hj m (i + 1) _ (by omega) (by rw [at_len, hl]), at_pl (by omega) hj hl]
    by_cases e : j = i
    · subst e
      rw [if_neg (by omega), if_pos rfl, if_pos (by omega)]
    · rw [if_neg e]
      by_cases c : i ≤ j ∧ j < i + (m + 1)
      · rw [if_pos c, if_pos (by omega)]
      · rw [if_neg c, if_neg (by omega)]
theorem step_pl {n : Int} {r : Contacts} {j : Nat} (hj : j < 36) {s : Deb} (hl : s.k.length = 36) : (s.step n r).pl j = one n (s.pl j) (r.get j) := by
  show (foldN (Deb.at n r) 36 0 s).pl j = _
  rw [fold_pl hj 36 0 s (by omega) hl, if_pos (by omega)]
theorem step_len {n : Int} {r : Contacts} {s : Deb} : (s.step n r).k.length = s.k.length := foldAt_len 36 0 s
theorem last_pl {n : Int} {j : Nat} (hj : j < 36) : ∀ (l : List Contacts) (s : Deb), s.k.length = 36 → (s.last n l).pl j = (l.map fun r => r.get j).foldl (one n) (s.pl j)
  | [], _, _ => rfl
  | r :: t, s, h => by
    show ((s.step n r).last n t).pl j = _
    rw [last_pl hj t _ (by rw [step_len, h]), step_pl hj h]
    rfl
/-- What counts behind each reading of one place. -/
def bits (n : Int) : Bool × Int → List Bool → List Bool
  | _, [] => []
  | p, b :: t => (one n p b).1 :: bits n (one n p b) t
theorem runs_pl {n : Int} {j : Nat} (hj : j < 36) : ∀ (l : List Contacts) (s : Deb), s.k.length = 36 → (s.runs n l).map (fun c => c.get j) = bits n (s.pl j) (l.map fun r => r.get j)
  | [], _, _ => rfl
  | r :: t, s, h => by
    have e := step_pl (n := n) (r := r) hj h
    show (s.step n r).c.get j :: ((s.step n r).runs n t).map _ = _
    rw [runs_pl hj t _ (by rw [step_len, h]), e]
    show _ :: _ = (one n (s.pl j) (r.get j)).1 :: _
    rw [← e]
    rfl
theorem deb_ext {s t : Deb} (hs : s.wf) (ht : t.wf) (h : ∀ j, j < 36 → s.pl j = t.pl j) : s = t := by
  have h1 : s.c = t.c := Contacts.ext' hs.c ht.c fun j h0 h1 => by
    have := congrArg Prod.fst (h j.toNat (by omega))
    simpa [Deb.pl, Int.toNat_of_nonneg h0] using this
  have h2 : s.k = t.k := by
    apply List.ext_getElem (by rw [hs.len, ht.len])
    intro j ha hb
    have := congrArg Prod.snd (h j (by rw [← hs.len]; exact ha))
    simpa [Deb.pl, List.getD_eq_getElem?_getD, List.getElem?_eq_getElem ha, List.getElem?_eq_getElem hb] using this
  cases s; cases t; simp_all
/-- Enough like readings count. -/
theorem one_rep {n : Int} {b : Bool} : ∀ (q : Nat) (p : Bool × Int), 0 ≤ p.2 → p.2 < n → (p.1 = b ∧ (1 ≤ q ∨ p.2 = 0)) ∨ (p.1 ≠ b ∧ n ≤ p.2 + q) → (List.replicate q b).foldl (one n) p = (b, 0)
  | 0, p, h0, hn, h => by
    rcases h with ⟨h1, h2⟩ | ⟨_, h2⟩
    · have : p.2 = 0 := by omega
      cases p; simp_all
    · omega
  | q + 1, p, h0, hn, h => by
    show (List.replicate q b).foldl (one n) (one n p b) = _
    unfold one
    by_cases e : b = p.1
    · rw [if_pos e]
      exact one_rep q _ (by simp) (by simp; omega) (.inl ⟨e.symm, .inr rfl⟩)
    · rw [if_neg e]
      have hq : n ≤ p.2 + (q + 1 : Nat) := by
        rcases h with ⟨h1, _⟩ | ⟨_, h2⟩
        · exact absurd h1.symm e
        · exact h2
      by_cases e2 : p.2 + 1 = n
      · rw [if_pos e2]
        exact one_rep q _ (by simp) (by simp; omega) (.inl ⟨rfl, .inr rfl⟩)
      · rw [if_neg e2]
        exact one_rep q _ (by simp; omega) (by simp; omega) (.inr ⟨fun h => e h.symm, by simp; omega⟩)
/-- Fewer do not. -/
theorem one_few {n : Int} {b b' : Bool} : ∀ (q : Nat) (k : Int), 0 ≤ k → k + q < n → (((List.replicate q b').foldl (one n) (b, k)).1 = b)
  | 0, _, _, _ => rfl
  | q + 1, k, h0, hn => by
    show ((List.replicate q b').foldl (one n) (one n (b, k) b')).1 = b
    unfold one
    by_cases e : b' = b
    · rw [if_pos e]
      exact one_few q 0 (by omega) (by omega)
    · rw [if_neg e, if_neg (by simp; omega)]
      exact one_few q (k + 1) (by omega) (by omega)
theorem one_back {n : Int} {b : Bool} {p : Bool × Int} (h : p.1 = b) : one n p b = (b, 0) := by
  unfold one; rw [if_pos h.symm, h]
end Go.Ovl
