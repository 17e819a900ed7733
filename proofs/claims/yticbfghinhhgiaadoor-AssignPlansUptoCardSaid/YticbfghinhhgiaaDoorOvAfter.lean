/- What is behind a plan (layer 22): each entry as it was decided. -/
import Derived.Test.YticbfghinhhgiaaDoorOvPlanAll
import Derived.Test.YticbfghinhhgiaaDoorOvMadeImg
namespace Go.Ovl
open Go Go.Ab
set_option maxRecDepth 100000
theorem F_l22_expects_eq (m : Img) (hm : m.Entries.length ≤ 1000) {l : List Int} (hl : ∀ e ∈ l, u8r e) (hll : l.length ≤ maxLen) :
    ∃ xs : List Int, F_l22_expects m.Phases m.Flags m.Leaving m.Entries l = some ((xs, ()), ()) ∧ xs.length = m.Entries.length ∧ ∀ x ∈ xs, 0 ≤ x ∧ x ≤ 3 := by
  have key : ∃ y : (List Int × Unit) × Unit, L_l22_expects_0 ((l, (), ([] : List Int), (0 : Int), ()), (m.tup, ())) = some y ∧ ∃ xs : List Int, xs.length = m.Entries.length ∧ (∀ x ∈ xs, 0 ≤ x ∧ x ≤ 3) ∧ y = ((xs, ()), ()) := by
    refine loop_ex (fun x => ∃ out : List Int, out.length ≤ m.Entries.length ∧ (∀ x ∈ out, 0 ≤ x ∧ x ≤ 3) ∧ x = ((l, (), out, (out.length : Int), ()), (m.tup, ()))) (fun y => ∃ xs : List Int, xs.length = m.Entries.length ∧ (∀ x ∈ xs, 0 ≤ x ∧ x ≤ 3) ∧ y = ((xs, ()), ())) (fun x => m.Entries.length - x.1.2.2.2.1.toNat) ?_ ⟨[], Nat.zero_le _, (fun _ h => by cases h), rfl⟩ (by show m.Entries.length - 0 < _; omega)
    rintro _ ⟨out, h1, h2, rfl⟩
    show (∃ x', R_l22_expects_0 l out (out.length : Int) m.Phases m.Flags m.Leaving m.Entries = _ ∧ _) ∨ ∃ y, R_l22_expects_0 l out (out.length : Int) m.Phases m.Flags m.Leaving m.Entries = _ ∧ _
    unfold R_l22_expects_0
    by_cases g : (out.length : Int) < (m.Entries.length : Int)
    · have w : IntKind.i64.wrap ((out.length : Int) + 1) = ((out.length + 1 : Nat) : Int) := by rw [wrap_small (by omega) (by omega)]; omega
      have ble : ∀ y : Int, Nat.ble (out.length + [y].length) 2147483648 = true := fun _ => ble_true (by simp; omega)
      have fin : ∀ y : Int, 0 ≤ y ∧ y ≤ 3 → ∃ out' : List Int, out'.length ≤ m.Entries.length ∧ (∀ x ∈ out', 0 ≤ x ∧ x ≤ 3) ∧ ((l, (), out ++ [y], ((out.length + 1 : Nat) : Int), ()), ((m.Phases, m.Flags, m.Leaving, m.Entries, ()), ())) = ((l, (), out', (out'.length : Int), ()), (m.tup, ())) := fun y hy => by
        refine ⟨out ++ [y], by rw [List.length_append, List.length_singleton]; omega, fun x hx => ?_, by rw [List.length_append, List.length_singleton]; rfl⟩
        rcases List.mem_append.1 hx with h | h
        · exact h2 x h
        · rw [List.mem_singleton.1 h]; exact hy
      rw [decide_eq_true g]
      by_cases g' : (0 : Int) < (l.length : Int)
      · have hmod : Int.tmod (out.length : Int) (l.length : Int) = ((out.length % l.length : Nat) : Int) := by rw [Int.tmod_eq_emod_of_nonneg (by omega)]; norm_cast
        have hlt : out.length % l.length < l.length := Nat.mod_lt _ (by omega)
        have hv := getD_all (P := u8r) hl (d := (0 : Int)) hlt
        have wv : IntKind.i64.wrap (l.getD (out.length % l.length) 0) = l.getD (out.length % l.length) 0 := wrap_small (by unfold u8r at hv; omega) (by unfold u8r at hv; omega)
        have tm : Int.tmod (l.getD (out.length % l.length) 0) 4 = l.getD (out.length % l.length) 0 % 4 := Int.tmod_eq_emod_of_nonneg hv.1
        rw [decide_eq_true g']
        simp only [cond_true, bne_t (show ¬ (l.length : Int) = 0 by omega), hmod, inB_true (show (0 : Int) ≤ ((out.length % l.length : Nat) : Int) by omega) (show ((out.length % l.length : Nat) : Int) < (l.length : Int) by omega), Int.toNat_natCast, wv, tm, ble, w]
        exact .inl ⟨_, rfl, fin _ (by omega), by simp only [Int.toNat_natCast]; omega⟩
      · rw [decide_eq_false g']
        simp only [cond_true, cond_false, ble, w]
        exact .inl ⟨_, rfl, fin _ (by omega), by simp only [Int.toNat_natCast]; omega⟩
    · rw [decide_eq_false g]
      exact .inr ⟨_, rfl, out, by omega, h2, rfl⟩
  obtain ⟨_, h1, xs, h2, h3, rfl⟩ := key
  refine ⟨xs, ?_, h2, h3⟩
  unfold F_l22_expects
  unfold Img.tup at h1
  rw [h1]; rfl
theorem after_loop {b : Bldg} (hb : b.small) (hc : b.Cars.length ≤ 100) (m0 : Img) {rs : List Record} (hr : ∀ r ∈ rs, validR b r = true) (hl : rs.length ≤ 400) :
    ∀ (k i : Nat) (m : Img), i + k = rs.length → ImgOK b m → m.Entries.length ≤ 400 + i →
      iter (fun x => R_l22_after_0 x.1.1 x.1.2.2.2.2.1 x.2.1.1 x.2.1.2.1 x.2.1.2.2.1 x.2.1.2.2.2.1 x.2.1.2.2.2.2.1 x.2.1.2.2.2.2.2.1 x.2.1.2.2.2.2.2.2.1 x.2.1.2.2.2.2.2.2.2.1 x.2.2.1.1 x.2.2.1.2.1 x.2.2.1.2.2.1 x.2.2.1.2.2.2.1 x.2.2.2.1.1 x.2.2.2.1.2.1 x.2.2.2.1.2.2.1 x.2.2.2.1.2.2.2.1) (k + 1) ((rs, (), (), (), (i : Int), ()), (b.tup, m.tup, m0.tup, ())) = some (.inl (((), (), ()), ((applyL m (rs.drop i)).tup, m0.tup, ())))
  | 0, i, m, hi, _, _ => by
    refine iter_inr ?_
    show R_l22_after_0 rs (i : Int) b.Floors b.Debounce b.Room b.Park b.Empty b.Full b.Over b.Cars m.Phases m.Flags m.Leaving m.Entries m0.Phases m0.Flags m0.Leaving m0.Entries = _
    unfold R_l22_after_0
    rw [show decide ((i : Int) < (rs.length : Int)) = false by simp; omega, show i = rs.length by omega, List.drop_length]; rfl
  | k + 1, i, m, hi, hm, hml => by
    have hi' : i < rs.length := by omega
    have hv := hr _ (getD_mem (Record.mk 0 0 0 0 0) hi')
    have w : IntKind.i64.wrap ((i : Int) + 1) = ((i + 1 : Nat) : Int) := by rw [wrap_small (by omega) (by omega)]; omega
    obtain ⟨g1, g2⟩ := applyV_ok hm hv
    have hmx : 100 ≤ maxLen := by decide
    have ha := r10_Apply_eq hb m (by omega) (rs.getD i (Record.mk 0 0 0 0 0)) (by rw [hm.lp]; omega) hc
    rw [applyR_ok hm hv] at ha
    rw [drop_getD (Record.mk 0 0 0 0 0) hi']
    refine (iter_inl (x' := ((rs, (), (), (), ((i + 1 : Nat) : Int), ()), (b.tup, (applyV m (rs.getD i (Record.mk 0 0 0 0 0))).tup, m0.tup, ()))) ?_).trans (after_loop hb hc m0 hr hl k (i + 1) _ (by omega) g1 (by omega))
    show R_l22_after_0 rs (i : Int) b.Floors b.Debounce b.Room b.Park b.Empty b.Full b.Over b.Cars m.Phases m.Flags m.Leaving m.Entries m0.Phases m0.Flags m0.Leaving m0.Entries = _
    unfold R_l22_after_0
    rw [show decide ((i : Int) < (rs.length : Int)) = true by simp; omega, inB_true (show (0 : Int) ≤ (i : Int) by omega) (show (i : Int) < (rs.length : Int) by omega), Int.toNat_natCast, w]
    simp only [cond_true, ha, Option.bind_some, bne_self_eq_false, cond_false]
    rfl
theorem F_l22_after_eq {b : Bldg} (hb : b.small) (hc : b.Cars.length ≤ 100) {rs : List Record} (hr : ∀ r ∈ rs, validR b r = true) (hl : rs.length ≤ 400) {m : Img} (hm : ImgOK b m) (hml : m.Entries.length ≤ 400) :
    F_l22_after b.Floors b.Debounce b.Room b.Park b.Empty b.Full b.Over b.Cars m.Phases m.Flags m.Leaving m.Entries rs = some (((), true, ()), ((applyL m rs).tup, ())) := by
  have h := iter_fuel (after_loop hb hc Img.none hr hl rs.length 0 m (by omega) hm (by omega)) (by omega)
  have h' : L_l22_after_0 ((rs, (), (), (), (0 : Int), ()), (b.tup, m.tup, Img.none.tup, ())) = _ := h
  unfold Bldg.tup Img.tup Img.none at h'
  unfold F_l22_after
  rw [h', List.drop_zero]
  rfl
/-! ### What the records of a plan do -/
theorem findF_mid {F D : Int} {e : Entry} (he : isC F D e = true) (T : List Entry) : ∀ (P : List Entry) (i : Nat), (∀ p ∈ P, isC F D p = false) → findF F D (P ++ e :: T) i = ((i + P.length : Nat) : Int)
  | [], i, _ => by simp only [List.nil_append, findF, he, cond_true, List.length_nil, Nat.add_zero]
  | p :: P, i, h => by
    simp only [List.cons_append, findF, h p (List.mem_cons_self ..), cond_false]
    rw [findF_mid he T P (i + 1) fun x hx => h x (List.mem_cons_of_mem _ hx), List.length_cons]
    congr 1; omega
theorem sorted_mid {P T : List Entry} {e : Entry} (h : SortedE (P ++ e :: T)) : ∀ p ∈ P, isC e.Floor e.Dir p = false := by
  intro p hp
  rw [sorted_iff] at h
  have h2 := (List.pairwise_append.1 h).2.2 p hp e (List.mem_cons_self ..)
  rw [lessE_iff] at h2
  unfold isC
  simp only [Bool.and_eq_false_iff, beq_eq_false_iff_ne]
  omega
theorem getD_mid (P T : List Entry) (e : Entry) : (P ++ e :: T).getD P.length noE = e := by
  simp [List.getD_eq_getElem?_getD]
theorem callC (e : Entry) : isC e.Floor e.Dir e = true := by unfold isC; simp
theorem apply_moves {m : Img} {P T : List Entry} {e : Entry} (hE : m.Entries = P ++ e :: T) (hs : ∀ p ∈ P, isC e.Floor e.Dir p = false) (n c : Int) : applyV m ⟨7, e.Floor, e.Dir, c, n⟩ = m.put (P ++ setMoves e n c :: T) := by
  unfold applyV
  have hf : findF e.Floor e.Dir m.Entries 0 = (P.length : Int) := by rw [hE, findF_mid (callC e) T P 0 hs, Nat.zero_add]
  simp only [hf]
  rw [beq_f (show ¬ (P.length : Int) = -1 by omega), hE, Int.toNat_natCast, getD_mid, set_mid, set_mid]
  rfl
theorem apply_car {m : Img} {P T : List Entry} {e : Entry} (hE : m.Entries = P ++ e :: T) (hs : ∀ p ∈ P, isC e.Floor e.Dir p = false) (c : Int) : applyV m ⟨3, e.Floor, e.Dir, c, 0⟩ = m.put (P ++ setCar e c :: T) := by
  unfold applyV
  have hf : findF e.Floor e.Dir m.Entries 0 = (P.length : Int) := by rw [hE, findF_mid (callC e) T P 0 hs, Nat.zero_add]
  simp only [hf]
  rw [beq_f (show ¬ (P.length : Int) = -1 by omega), hE, Int.toNat_natCast, getD_mid, set_mid, set_mid]
  rfl
theorem Img.put_put (m : Img) (l l' : List Entry) : (m.put l).put l' = m.put l' := rfl
theorem Img.put_self (m : Img) : m.put m.Entries = m := rfl
theorem apply_recs {m : Img} {P T : List Entry} {e n : Entry} (hE : m.Entries = P ++ e :: T) (hs : ∀ p ∈ P, isC e.Floor e.Dir p = false) (hF : n.Floor = e.Floor) (hD : n.Dir = e.Dir) : applyL m (recsV e n) = m.put (P ++ n :: T) := by
  obtain ⟨nF, nD, nC, nM, nV⟩ := n
  obtain ⟨eF, eD, eC, eM, eV⟩ := e
  simp only at hF hD
  subst hF hD
  unfold recsV
  simp only
  have mv : ∀ c : Int, setMoves ⟨nF, nD, eC, eM, eV⟩ nM c = ⟨nF, nD, eC, nM, c == 1⟩ := fun _ => rfl
  have cv : ((bif nV then (1 : Int) else 0) == 1) = nV := by cases nV <;> rfl
  cases hp : (eM != nM || !(eV == nV)) with
  | true =>
    have h1 := apply_moves hE hs nM (bif nV then 1 else 0)
    rw [mv, cv] at h1
    cases hq : eC != nC with
    | true =>
      have h2 := apply_car (m := m.put (P ++ ⟨nF, nD, eC, nM, nV⟩ :: T)) (P := P) (T := T) (e := ⟨nF, nD, eC, nM, nV⟩) rfl hs nC
      simp only [cond_true, List.cons_append, List.nil_append, applyL]
      rw [h1, h2]; rfl
    | false =>
      have : eC = nC := by simpa [bne] using hq
      subst this
      simp only [cond_true, cond_false, List.append_nil, applyL]
      exact h1
  | false =>
    simp only [Bool.or_eq_false_iff, Bool.not_eq_false', bne_eq_false_iff_eq, beq_iff_eq] at hp
    obtain ⟨rfl, rfl⟩ := hp
    cases hq : eC != nC with
    | true =>
      have h2 := apply_car hE hs nC
      simp only [cond_true, cond_false, List.nil_append, applyL]
      exact h2
    | false =>
      have : eC = nC := by simpa [bne] using hq
      subst this
      simp only [cond_false, List.append_nil, applyL]
      rw [← hE]; exact (Img.put_self m).symm
theorem recs_valid {b : Bldg} {e n : Entry} (hcode : b.code = 0) (hcall : isCallV b n.Floor n.Dir = true) (hc : -2 ≤ n.Car ∧ n.Car < (b.Cars.length : Int)) (hm : 0 ≤ n.Moves ∧ n.Moves ≤ 255) : ∀ r ∈ recsV e n, validR b r = true := by
  intro r hr
  unfold recsV at hr
  rcases List.mem_append.1 hr with h | h
  · cases hp : (e.Moves != n.Moves || !(e.Moved == n.Moved)) with
    | false => rw [hp] at h; cases h
    | true =>
      rw [hp] at h
      rw [List.mem_singleton.1 h]
      unfold validR
      rw [hcode, hcall, inR_iff.2 hm]
      cases n.Moved <;> rfl
  · cases hp : e.Car != n.Car with
    | false => rw [hp] at h; cases h
    | true =>
      rw [hp] at h
      rw [List.mem_singleton.1 h]
      unfold validR
      rw [hcode, hcall, inR_iff.2 ⟨hc.1, show n.Car ≤ (b.Cars.length : Int) - 1 by omega⟩]
      rfl
/-- The entries behind a plan. -/
noncomputable def decL (b : Bldg) (vs : List View) : List Entry → List Int → List Entry
  | e :: t, x :: xs => decV b vs e x :: decL b vs t xs
  | _, _ => []
theorem decL_len (b : Bldg) (vs : List View) : ∀ (l : List Entry) (xs : List Int), xs.length = l.length → (decL b vs l xs).length = l.length
  | [], _, _ => by simp [decL]
  | _ :: _, [], h => by simp at h
  | e :: t, x :: xs, h => by simp only [decL, List.length_cons, decL_len b vs t xs (by simpa using h)]
theorem decL_getD (b : Bldg) (vs : List View) : ∀ (l : List Entry) (xs : List Int) (i : Nat), xs.length = l.length → i < l.length → (decL b vs l xs).getD i noE = decV b vs (l.getD i noE) (xs.getD i 0)
  | [], _, _, _, h => by simp at h
  | _ :: _, [], _, h, _ => by simp at h
  | e :: t, x :: xs, 0, _, _ => rfl
  | e :: t, x :: xs, i + 1, h, h' => by
    have := decL_getD b vs t xs i (by simpa using h) (by simpa using h')
    simpa [decL] using this
theorem planN_getD (b : Bldg) (vs : List View) : ∀ (l : List Entry) (xs : List Int) (i : Nat), xs.length = l.length → i < l.length → (planN b vs l xs).getD i 0 = nextV b vs (l.getD i noE) (decV b vs (l.getD i noE) (xs.getD i 0)) (xs.getD i 0)
  | [], _, _, _, h => by simp at h
  | _ :: _, [], _, h, _ => by simp at h
  | e :: t, x :: xs, 0, _, _ => rfl
  | e :: t, x :: xs, i + 1, h, h' => by
    have := planN_getD b vs t xs i (by simpa using h) (by simpa using h')
    simpa [planN] using this
theorem decV_moves {b : Bldg} (hc : b.Cars.length ≤ 100) {vs : List View} {e : Entry} (hm : 0 ≤ e.Moves ∧ e.Moves ≤ 255) (x : Int) : 0 ≤ (decV b vs e x).Moves ∧ (decV b vs e x).Moves ≤ 255 := by
  unfold decV
  cases e.Car == -2 with
  | true => exact hm
  | false =>
    cases e.Car == -1 with
    | true => exact hm
    | false =>
      cases (viewAt vs e.Car).Lost with
      | true =>
        by_cases g : (b.Cars.length : Int) < e.Moves
        · rw [decide_eq_true g]; exact hm
        · rw [decide_eq_false g]; exact ⟨by show 0 ≤ e.Moves + 1; omega, by show e.Moves + 1 ≤ 255; omega⟩
      | false =>
        by_cases g : e.Moves ≤ (b.Cars.length : Int)
        · rw [decide_eq_true g]
          cases e.Moved with
          | true => exact hm
          | false =>
            cases otherV b vs e x != -1 with
            | true => exact ⟨by show 0 ≤ e.Moves + 1; omega, by show e.Moves + 1 ≤ 255; omega⟩
            | false => exact hm
        · rw [decide_eq_false g, Bool.and_false]; exact hm
theorem plan_apply {b : Bldg} (hc : b.Cars.length ≤ 100) {vs : List View} (hlen : (vs.length : Int) = (b.Cars.length : Int)) : ∀ (T : List Entry) (xs : List Int) (P : List Entry) (m : Img), xs.length = T.length → ImgOK b m → m.Entries = P ++ T → applyL m (planR b vs T xs) = m.put (P ++ decL b vs T xs) ∧ (∀ r ∈ planR b vs T xs, validR b r = true) ∧ ImgOK b (m.put (P ++ decL b vs T xs))
  | [], xs, P, m, _, hm, hE => by
    have : decL b vs [] xs = [] := by simp [decL]
    have h2 : planR b vs [] xs = [] := by simp [planR]
    rw [this, h2, ← hE]
    exact ⟨rfl, (fun _ h => by cases h), hm⟩
  | _ :: _, [], _, _, h, _, _ => by simp at h
  | e :: T, x :: xs, P, m, h, hm, hE => by
    have hent := entOK_iff.1 (hm.en e (by rw [hE]; simp))
    have hso := hm.so
    rw [hE] at hso
    have hs := sorted_mid hso
    obtain ⟨c1, c2⟩ := decV_call b vs e x
    have hin := decV_in b (vs := vs) (e := e) (by omega) x
    have hmv := decV_moves hc (vs := vs) hent.2.2 x
    have hval := recs_valid (b := b) (e := e) (n := decV b vs e x) hm.code (by rw [c1, c2]; exact hent.1) (by omega) hmv
    have hap := apply_recs hE hs c1 c2
    have hok : ImgOK b (m.put (P ++ decV b vs e x :: T)) := by
      rw [← hap]; exact (applyL_ok hm hval).1
    obtain ⟨g1, g2, g3⟩ := plan_apply hc hlen T xs (P ++ [decV b vs e x]) (m.put (P ++ decV b vs e x :: T)) (by simpa using h) hok (by simp [Img.put])
    simp only [planR, decL]
    have app : ∀ (rs qs : List Record) (m : Img), applyL m (rs ++ qs) = applyL (applyL m rs) qs := fun rs => by
      induction rs with
      | nil => intro _ _; rfl
      | cons r rs ih => intro qs m; exact ih qs (applyV m r)
    rw [app, hap, g1, Img.put_put]
    rw [Img.put_put] at g3
    simp only [List.append_assoc, List.singleton_append] at g3 ⊢
    exact ⟨trivial, (fun r hr => by
      rcases List.mem_append.1 hr with hr | hr
      · exact hval r hr
      · exact g2 r hr), g3⟩
end Go.Ovl
