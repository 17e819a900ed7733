/- ContactApart: each contact is debounced by itself. -/
import Derived.Test.YtfooilbkiclplaaOvDebPl
namespace Go.Ovl
open Go Go.Ab
set_option maxRecDepth 100000
def Contacts.zero : Contacts := ⟨0, false, false, false, false⟩
theorem zero_wf : Contacts.zero.wf := ⟨Int.le_refl _, by decide⟩
/-- The reading at one place alone. -/
def lone (k : Int) (r : Contacts) : Contacts := Contacts.zero.set k (r.get k)
theorem lone_get {k : Int} (h : 0 ≤ k ∧ k < 36) (r : Contacts) : (lone k r).get k = r.get k := by
  unfold lone; rw [Contacts.get_set _ _ h h, if_pos rfl]
theorem lone_wf (k : Int) (r : Contacts) : (lone k r).wf := Contacts.set_wf zero_wf _ _
theorem apart_loop {l : List Contacts} (hl : ∀ e ∈ l, e.wf) (hlen : l.length ≤ 100) (m : Int) {k : Int} (hk : 0 ≤ k ∧ k < 36) :
    L_l04_ContactApart_0 ((l, m, k, [], (0 : Int), ()), ()) = some ((l, m, k, l.map (lone k), ()), ()) := by
  have key : ∀ (q i : Nat) (own : List Contacts), i + q = l.length → own.length = i → iter (fun x => R_l04_ContactApart_0 x.1.1 x.1.2.1 x.1.2.2.1 x.1.2.2.2.1 x.1.2.2.2.2.1) (q + 1) ((l, m, k, own, (i : Int), ()), ()) = some ((l, m, k, own ++ (l.drop i).map (lone k), ()), ()) := by
    intro q
    induction q with
    | zero =>
      intro i own hi ho
      refine iter_inr ?_
      show R_l04_ContactApart_0 l m k own (i : Int) = _
      unfold R_l04_ContactApart_0
      have e : decide ((i : Int) < (l.length : Int)) = false := by simp; omega
      rw [e, show i = l.length by omega]; simp
    | succ q ih =>
      intro i own hi ho
      have st : R_l04_ContactApart_0 l m k own (i : Int) = some (.inl ((l, m, k, own ++ [lone k (l.getD i ⟨0, false, false, false, false⟩)], ((i + 1 : Nat) : Int), ()), ())) := by
        unfold R_l04_ContactApart_0
        have e : decide ((i : Int) < (l.length : Int)) = true := by simp; omega
        have ib : inB (i : Int) l.length = true := inB_true (by omega) (by omega)
        have w : IntKind.i64.wrap ((i : Int) + 1) = ((i + 1 : Nat) : Int) := by rw [wrap_small (by omega) (by omega)]; omega
        have tn : Int.toNat (i : Int) = i := by omega
        have b : ∀ c : Contacts, Nat.ble (own.length + [c].length) 2147483648 = true := fun c => ble_true (by simp; omega)
        simp only [e, ib, w, tn, b, cond_true]
        have hw := getD_wf hl (i := i) (by omega)
        generalize l.getD i ⟨0, false, false, false, false⟩ = r at hw ⊢
        rw [F_r04_Get_eq r hw k (by omega)]
        simp only [Option.bind_some]
        have f := F_r04_Set_eq Contacts.zero k (r.get k) (by omega)
        refine bind_eq (show _ = _ from f) ?_
        rfl
      rw [iter_inl (show _ = _ from st), ih (i + 1) _ (by omega) (by simp; omega)]
      rw [drop_cons (show i < l.length by omega)]
      simp
  have h : L_l04_ContactApart_0 ((l, m, k, [], (0 : Int), ()), ()) = some ((l, m, k, [] ++ (l.drop 0).map (lone k), ()), ()) := iter_fuel (key l.length 0 [] (by omega) rfl) (by omega)
  simpa using h
theorem apart_loop1 {k : Int} (hk : 0 ≤ k ∧ k < 36) {x y : List Contacts} (hx : ∀ e ∈ x, e.wf) (hy : ∀ e ∈ y, e.wf) (hlen : x.length ≤ 100) (h : x.map (fun c => c.get k) = y.map (fun c => c.get k)) :
    L_l04_ContactApart_1 ((k, x, y, (0 : Int), ()), ()) = some (.inl ((), ())) := by
  have hxy : x.length = y.length := by simpa using congrArg List.length h
  have key : ∀ (q i : Nat), i + q = x.length → iter (fun z => R_l04_ContactApart_1 z.1.1 z.1.2.1 z.1.2.2.1 z.1.2.2.2.1) (q + 1) ((k, x, y, (i : Int), ()), ()) = some (.inl ((), ())) := by
    intro q
    induction q with
    | zero =>
      intro i hi
      refine iter_inr ?_
      show R_l04_ContactApart_1 k x y (i : Int) = _
      unfold R_l04_ContactApart_1
      have e : decide ((i : Int) < (x.length : Int)) = false := by simp; omega
      rw [e]; rfl
    | succ q ih =>
      intro i hi
      have st : R_l04_ContactApart_1 k x y (i : Int) = some (.inl ((k, x, y, ((i + 1 : Nat) : Int), ()), ())) := by
        unfold R_l04_ContactApart_1
        have e : decide ((i : Int) < (x.length : Int)) = true := by simp; omega
        have ib : inB (i : Int) x.length = true := inB_true (by omega) (by omega)
        have ib' : inB (i : Int) y.length = true := inB_true (by omega) (by omega)
        have w : IntKind.i64.wrap ((i : Int) + 1) = ((i + 1 : Nat) : Int) := by rw [wrap_small (by omega) (by omega)]; omega
        have tn : Int.toNat (i : Int) = i := by omega
        simp only [e, ib, ib', w, tn, cond_true]
        have hw := getD_wf hx (i := i) (by omega)
        have hw' := getD_wf hy (i := i) (by omega)
        have hg : (x.getD i ⟨0, false, false, false, false⟩).get k = (y.getD i ⟨0, false, false, false, false⟩).get k := by
          have := congrArg (fun z => z[i]?) h
          simp only [List.getElem?_map, List.getElem?_eq_getElem (show i < x.length by omega), List.getElem?_eq_getElem (show i < y.length by omega), Option.map_some, Option.some.injEq] at this
          simpa only [List.getD_eq_getElem?_getD, List.getElem?_eq_getElem (show i < x.length by omega), List.getElem?_eq_getElem (show i < y.length by omega), Option.getD_some] using this
        generalize x.getD i ⟨0, false, false, false, false⟩ = r at hw hg ⊢
        generalize y.getD i ⟨0, false, false, false, false⟩ = r' at hw' hg ⊢
        rw [F_r04_Get_eq r hw k (by omega), F_r04_Get_eq r' hw' k (by omega), hg]
        simp only [Option.bind_some, beq_self_eq_true, Bool.not_true, cond_false]
      rw [iter_inl (show _ = _ from st)]
      exact ih (i + 1) (by omega)
  exact iter_fuel (key x.length 0 (by omega)) (by omega)
theorem runs_wf {n : Int} : ∀ (l : List Contacts) (s : Deb), s.wf → s.is n → ∀ e ∈ s.runs n l, e.wf
  | [], _, _, _, e, he => by cases he
  | r :: t, s, h, hs, e, he => by
    rcases List.mem_cons.1 he with rfl | he
    · exact (step_wf h hs r).1.c
    · exact runs_wf t _ (step_wf h hs r).1 (step_wf h hs r).2 e he
theorem law_ContactApart (n : Int) (which : Int) (l : List (Contacts)) (h_n : 0 ≤ n ∧ n < 256) (h_which : 0 ≤ which ∧ which < 256) (h_l : l.length ≤ maxLen ∧ ∀ e ∈ l, (0 ≤ e.Floors ∧ e.Floors < 4294967296)) : F_l04_ContactApart n which l = some ((true, ()), ()) := by
  unfold F_l04_ContactApart
  by_cases hlen : l.length ≤ 100
  · have e : decide ((100 : Int) < (l.length : Int)) = false := by simp; omega
    have hl : ∀ e ∈ l, e.wf := h_l.2
    rw [e, cond_false]
    have h16 := mod16 h_n.1
    generalize IntKind.i64.wrap (1 + IntKind.i64.wrap (Int.tmod n 16)) = m at h16 ⊢
    have hk : 0 ≤ IntKind.i64.wrap (Int.tmod which 36) ∧ IntKind.i64.wrap (Int.tmod which 36) < 36 := by
      have := Int.tmod_nonneg (36 : Int) h_which.1
      have := Int.tmod_lt_of_pos which (b := 36) (by omega)
      rw [wrap_small (n := which.tmod 36) (by omega) (by omega)]
      omega
    generalize IntKind.i64.wrap (Int.tmod which 36) = k at hk ⊢
    obtain ⟨h1, h2⟩ := h16
    have hi0 := no_is h1 h2
    refine bind_eq (apart_loop hl hlen m hk) ?_
    have hl' : ∀ e ∈ l.map (lone k), e.wf := fun e he => by obtain ⟨r, _, rfl⟩ := List.mem_map.1 he; exact lone_wf _ _
    have r1 := F_contact_Run_no (n := m) hl
    rw [if_pos hi0, if_neg (by omega)] at r1
    have r2 := F_contact_Run_no (n := m) hl'
    rw [if_pos hi0, if_neg (by rw [List.length_map]; omega)] at r2
    have hj : k.toNat < 36 := by omega
    have hc : (k.toNat : Int) = k := by omega
    have hm : (l.map (lone k)).map (fun r => r.get k.toNat) = l.map fun r => r.get k.toNat := by
      rw [List.map_map, hc]
      exact List.map_congr_left fun r _ => lone_get hk r
    have hp := last_pl (n := m) hj l Deb.no rfl
    have hp' := last_pl (n := m) hj (l.map (lone k)) Deb.no rfl
    have hr := runs_pl (n := m) hj l Deb.no rfl
    have hr' := runs_pl (n := m) hj (l.map (lone k)) Deb.no rfl
    rw [hm] at hp' hr'
    have hpk : (Deb.no.last m l).k.getD k.toNat 0 = (Deb.no.last m (l.map (lone k))).k.getD k.toNat 0 := congrArg Prod.snd (hp.trans hp'.symm)
    have hrr := hr.trans hr'.symm
    rw [hc] at hrr
    have lw1 := runs_wf (n := m) l Deb.no no_wf hi0
    have lw2 := runs_wf (n := m) (l.map (lone k)) Deb.no no_wf hi0
    have ln1 := runs_len m l Deb.no
    have ln2 := runs_len m (l.map (lone k)) Deb.no
    rw [List.length_map] at ln2
    have wl1 := (last_wf (n := m) l Deb.no no_wf hi0).1.len
    have wl2 := (last_wf (n := m) (l.map (lone k)) Deb.no no_wf hi0).1.len
    generalize Deb.no.last m l = s at r1 hpk wl1
    generalize Deb.no.last m (l.map (lone k)) = t at r2 hpk wl2
    generalize Deb.no.runs m l = x at r1 ln1 lw1 hrr
    generalize Deb.no.runs m (l.map (lone k)) = y at r2 ln2 lw2 hrr
    refine bind_eq r1 ?_
    refine bind_eq r2 ?_
    have ib : inB k 36 = true := inB_true hk.1 hk.2
    simp only [bne_self_eq_false, cond_false, ln1, ln2, ib, cond_true, Deb.tup, list36 wl1, list36 wl2, hpk]
    refine bind_eq (apart_loop1 hk lw1 lw2 (by omega) hrr) ?_
    simp only [l04_sane, Option.bind_some]
  · have e : decide ((100 : Int) < (l.length : Int)) = true := by simp; omega
    rw [e, cond_true, l04_sane]; rfl
end Go.Ovl
