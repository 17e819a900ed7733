/- Layer 23: lanterns, and what is served: the program and the reference come to the same. -/
import Derived.Test.YthdomhdippmaiaaGreatDoorOvC
import Derived.Test.YthdomhdippmaiaaGreatDoorOvD
import Derived.Test.YthdomhdippmaiaaGreatDoorOvB
namespace Go.Ovl
open Go Go.Ab
set_option maxRecDepth 100000
def noV : View := View.mk false false false false 0 0 0 0 0 0 0 0
def noP : Calls := Calls.mk 0 0
structure Lan where
  lit : List Calls
  gong : List Bool
  cl : Int × Int
def Lan.tup (l : Lan) : List Calls × List Bool × Int × Int × Unit := (l.lit, l.gong, l.cl.1, l.cl.2, ())
def Lan.none : Lan := ⟨[], [], (0, 0)⟩
def litC (b : Bldg) (vs : List View) (i : Nat) (s : Lan) : Int × Int := n5' (nb7' b (vs.getD i noV)) s.cl
def litS (b : Bldg) (vs : List View) (ps : List Calls) (i : Nat) (s : Lan) : Lan := ⟨s.lit ++ [Calls.mk (litC b vs i s).1 (litC b vs i s).2], s.gong ++ [!isZ (n5' (litC b vs i s) ((ps.getD i noP).Up, (ps.getD i noP).Down))], nb0' s.cl (litC b vs i s)⟩
def nch' (b : Bldg) (vs : List View) (ps : List Calls) : Lan := foldN (litS b vs ps) vs.length 0 Lan.none
def nr6' (b : Bldg) (vs : List View) (ps : List Calls) : Lan × Int := bif (vs.length : Int) == (b.Cars.length : Int) && ((ps.length : Int) == (b.Cars.length : Int)) then (nch' b vs ps, 0) else (Lan.none, 1)
section
variable {b : Bldg} (hb : b.small) (hcode : b.code = 0)
include hb hcode
theorem noi' (vs : List View) (ps : List Calls) (hl : vs.length ≤ 1000) (hp : ps.length = vs.length) : nfg' ((ps, (), (), (), vs, (vs.length : Int), (0 : Int), ()), (b.tup, Lan.none.tup, Lan.none.tup, ())) = some (((), (), ()), (Lan.none.tup, (nch' b vs ps).tup, ())) ∧ (nch' b vs ps).lit.length = vs.length ∧ (nch' b vs ps).gong.length = vs.length := by
  have key := fun (step : _ → _) (h1 : ∀ (i : Nat) (s : Lan), i < vs.length → (s.lit.length = i ∧ s.gong.length = i) → step ((ps, (), (), (), vs, (vs.length : Int), (i : Int), ()), (b.tup, Lan.none.tup, s.tup, ())) = some (.inl ((ps, (), (), (), vs, (vs.length : Int), ((i + 1 : Nat) : Int), ()), (b.tup, Lan.none.tup, (litS b vs ps i s).tup, ())))) h2 => nhn' (step := step) vs.length (fun i (s : Lan) => ((ps, (), (), (), vs, (vs.length : Int), (i : Int), ()), (b.tup, Lan.none.tup, s.tup, ()))) (litS b vs ps) (fun i s => s.lit.length = i ∧ s.gong.length = i) (fun s => (((), (), ()), (Lan.none.tup, s.tup, ()))) (fun i s hi hs => ⟨h1 i s hi hs, by
      constructor
      · show (s.lit ++ [_]).length = _; rw [List.length_append, List.length_singleton, hs.1]
      · show (s.gong ++ [_]).length = _; rw [List.length_append, List.length_singleton, hs.2]⟩) h2 vs.length 0 Lan.none (by omega) ⟨rfl, rfl⟩
  have h := key (fun x => nda' x.1.1 x.1.2.2.2.2.1 x.1.2.2.2.2.2.1 x.1.2.2.2.2.2.2.1 x.2.1.1 x.2.1.2.1 x.2.1.2.2.1 x.2.1.2.2.2.1 x.2.1.2.2.2.2.1 x.2.1.2.2.2.2.2.1 x.2.1.2.2.2.2.2.2.1 x.2.1.2.2.2.2.2.2.2.1 x.2.2.1.1 x.2.2.1.2.1 x.2.2.1.2.2.1 x.2.2.1.2.2.2.1 x.2.2.2.1.1 x.2.2.2.1.2.1 x.2.2.2.1.2.2.1 x.2.2.2.1.2.2.2.1) (fun i s hi hs => by
    show nda' ps vs (vs.length : Int) (i : Int) b.Floors b.Debounce b.Room b.Park b.Empty b.Full b.Over b.Cars [] [] 0 0 s.lit s.gong s.cl.1 s.cl.2 = _
    unfold nda'
    rw [show View.mk false false false false 0 0 0 0 0 0 0 0 = noV from rfl, show Calls.mk 0 0 = noP from rfl]
    simp only [decide_eq_true (show (i : Int) < (vs.length : Int) by omega), nc' (show (0 : Int) ≤ (i : Int) by omega) (show (i : Int) < (vs.length : Int) by omega), nc' (show (0 : Int) ≤ (i : Int) by omega) (show (i : Int) < (ps.length : Int) by omega), cond_true, Int.toNat_natCast, nko' hb hcode, Option.bind_some, wrap1 hi (show vs.length ≤ ncj' by unfold ncj'; omega)]
    have e1 := njk' (nb7' b (vs.getD i noV)) s.cl
    have e2 := njk' (litC b vs i s) ((ps.getD i noP).Up, (ps.getD i noP).Down)
    have e3 := nhj' s.cl (litC b vs i s)
    unfold litC at e2 e3
    simp only at e2
    simp only [e1, Option.bind_some, e2, e3]
    rw [nbp' (show s.lit.length + [Calls.mk (n5' (nb7' b (vs.getD i noV)) s.cl).1 (n5' (nb7' b (vs.getD i noV)) s.cl).2].length ≤ 2147483648 by show s.lit.length + 1 ≤ _; omega)]
    rw [nbp' (show s.gong.length + [!((n5' (n5' (nb7' b (vs.getD i noV)) s.cl) ((ps.getD i noP).Up, (ps.getD i noP).Down)).1 == 0 && ((n5' (n5' (nb7' b (vs.getD i noV)) s.cl) ((ps.getD i noP).Up, (ps.getD i noP).Down)).2 == 0 && true))].length ≤ 2147483648 by show s.gong.length + 1 ≤ _; omega)]
    rfl) (fun s _ => by
    show nda' ps vs (vs.length : Int) (vs.length : Int) b.Floors b.Debounce b.Room b.Park b.Empty b.Full b.Over b.Cars [] [] 0 0 s.lit s.gong s.cl.1 s.cl.2 = _
    unfold nda'
    simp only [decide_eq_false (Int.lt_irrefl (vs.length : Int)), cond_false]
    rfl)
  exact ⟨nv' h.1 (by omega), h.2.1, h.2.2⟩
theorem nqn' (vs : List View) (ps : List Calls) (hl : vs.length ≤ 1000) : ngv' b.Floors b.Debounce b.Room b.Park b.Empty b.Full b.Over b.Cars vs ps = some (((), (nr6' b vs ps).2, ()), ((nr6' b vs ps).1.tup, ())) := by
  unfold ngv' nr6'
  rw [ncc', hcode]
  simp only [Option.bind_some, bne_self_eq_false, cond_false]
  by_cases h1 : vs.length = b.Cars.length
  · by_cases h2 : ps.length = b.Cars.length
    · have h := (noi' hb hcode vs ps hl (by omega)).1
      simp only [Bldg.tup, Lan.tup, Lan.none] at h
      rw [h1] at h ⊢
      rw [h2]
      simp only [bne_self_eq_false, cond_false, beq_self_eq_true, Bool.and_self, cond_true, h]
      rfl
    · rw [h1, bne_self_eq_false, bne_t (show ¬ (ps.length : Int) = (b.Cars.length : Int) by omega), beq_f (show ¬ (ps.length : Int) = (b.Cars.length : Int) by omega), Bool.and_false]
      rfl
  · rw [bne_t (show ¬ (vs.length : Int) = (b.Cars.length : Int) by omega), beq_f (show ¬ (vs.length : Int) = (b.Cars.length : Int) by omega)]
    rfl
end
def servB (b : Bldg) (vs : List View) (F D : Int) : Bool := vs.any fun v => bitC (nb7' b v) F.toNat D
def servL (b : Bldg) (vs : List View) (l : List Entry) : List Record := l.flatMap fun e => bif servB b vs e.Floor e.Dir then [Record.mk 2 e.Floor e.Dir 0 0] else []
theorem nvb' (b : Bldg) (vs : List View) {f : Nat} {d : Int} : ∀ (k i : Nat) (s : Int × Int), i + k = vs.length → bitC (foldN (fun i s => nb0' s (nb7' b (vs.getD i noV))) k i s) f d = (bitC s f d || (vs.drop i).any fun v => bitC (nb7' b v) f d)
  | 0, i, s, hi => by rw [show i = vs.length by omega, List.drop_length]; simp [foldN]
  | k + 1, i, s, hi => by
    show bitC (foldN (fun i s => nb0' s (nb7' b (vs.getD i noV))) k (i + 1) (nb0' s (nb7' b (vs.getD i noV)))) f d = _
    rw [nvb' b vs k (i + 1) _ (by omega), ne8', nbi' noV (show i < vs.length by omega), List.any_cons, Bool.or_assoc]
theorem no8' (b : Bldg) (vs : List View) : ∀ l : List Entry, (servL b vs l).length ≤ l.length
  | [] => Nat.le_refl _
  | e :: t => by
    have h := no8' b vs t
    show ((bif servB b vs e.Floor e.Dir then [Record.mk 2 e.Floor e.Dir 0 0] else []) ++ servL b vs t).length ≤ _
    rw [List.length_append, List.length_cons]
    cases servB b vs e.Floor e.Dir <;> simp <;> omega
theorem nnk' {b : Bldg} (hb : b.small) {e : Entry} (h : nh' b e.Floor e.Dir = true) : callE e := by
  have lo := hb.lo
  have hi := hb.hi
  unfold nh' callB at h
  simp only [Bool.and_eq_true, Bool.or_eq_true, beq_iff_eq, n1'] at h
  unfold callE
  omega
section
variable {b : Bldg} (hb : b.small) (hcode : b.code = 0) {m : Img} (hm : ImgOK b m) (hl : m.Entries.length ≤ 100000) (vs : List View) (hv : (vs.length : Int) = (b.Cars.length : Int))
include hb hcode hm hl hv
theorem nqp' : ngw' b.Floors b.Debounce b.Room b.Park b.Empty b.Full b.Over b.Cars m.Phases m.Flags m.Leaving m.Entries vs = some ((servL b vs m.Entries, ()), ()) := by
  have hcc := nke' hcode
  have hmx : 100000 ≤ maxLen := by decide
  have hlp := hm.lp
  have h0 := nhn' (step := fun x => nc8' x.1.2.2.2.1 x.1.2.2.2.2.1 x.1.2.2.2.2.2.1 x.2.1.1 x.2.1.2.1 x.2.1.2.2.1 x.2.1.2.2.2.1 x.2.1.2.2.2.2.1 x.2.1.2.2.2.2.2.1 x.2.1.2.2.2.2.2.2.1 x.2.1.2.2.2.2.2.2.2.1 x.2.2.1.1 x.2.2.1.2.1 x.2.2.1.2.2.1 x.2.2.1.2.2.2.1 x.2.2.2.1.1 x.2.2.2.1.2.1) vs.length (fun i (s : Int × Int) => (((), (), (), vs, (vs.length : Int), (i : Int), ()), (b.tup, m.tup, (s.1, s.2, ()), ()))) (fun i s => nb0' s (nb7' b (vs.getD i noV))) (fun _ _ => True) (fun s => (((), (), ()), (m.tup, (s.1, s.2, ()), ()))) (fun i s hi _ => ⟨by
    show nc8' vs (vs.length : Int) (i : Int) b.Floors b.Debounce b.Room b.Park b.Empty b.Full b.Over b.Cars m.Phases m.Flags m.Leaving m.Entries s.1 s.2 = _
    unfold nc8'
    rw [show View.mk false false false false 0 0 0 0 0 0 0 0 = noV from rfl]
    have e3 := nhj' s (nb7' b (vs.getD i noV))
    simp only [decide_eq_true (show (i : Int) < (vs.length : Int) by omega), nc' (show (0 : Int) ≤ (i : Int) by omega) (show (i : Int) < (vs.length : Int) by omega), cond_true, Int.toNat_natCast, nko' hb hcode, Option.bind_some, e3, wrap1 hi (show vs.length ≤ ncj' by unfold ncj'; omega)]
    rfl, trivial⟩) (fun s _ => by
    show nc8' vs (vs.length : Int) (vs.length : Int) b.Floors b.Debounce b.Room b.Park b.Empty b.Full b.Over b.Cars m.Phases m.Flags m.Leaving m.Entries s.1 s.2 = _
    unfold nc8'
    simp only [decide_eq_false (Int.lt_irrefl (vs.length : Int)), cond_false]
    rfl) vs.length 0 (0, 0) (by omega) trivial
  have h0' : nfi' (((), (), (), vs, (vs.length : Int), (0 : Int), ()), (b.tup, m.tup, ((0 : Int), (0 : Int), ()), ())) = _ := nv' h0.1 (by omega)
  have hbit : ∀ (f : Nat) (d : Int), bitC (foldN (fun i s => nb0' s (nb7' b (vs.getD i noV))) vs.length 0 (0, 0)) f d = vs.any fun v => bitC (nb7' b v) f d := fun f d => by
    rw [nvb' b vs vs.length 0 (0, 0) (by omega), nee', Bool.false_or, List.drop_zero]
  generalize foldN (fun i s => nb0' s (nb7' b (vs.getD i noV))) vs.length 0 (0, 0) = u at h0' hbit
  have h1 := nhn' (step := fun x => nc9' x.1.2.1 x.1.2.2.1 x.1.2.2.2.1 x.1.2.2.2.2.1 x.2.1.1 x.2.1.2.1) m.Entries.length (fun i (out : List Record) => (((), out, m.Entries, (m.Entries.length : Int), (i : Int), ()), ((u.1, u.2, ()), ()))) (fun i out => out ++ (bif servB b vs (m.Entries.getD i noE).Floor (m.Entries.getD i noE).Dir then [Record.mk 2 (m.Entries.getD i noE).Floor (m.Entries.getD i noE).Dir 0 0] else [])) (fun i out => out.length ≤ i) (fun out => ((out, ()), ())) (fun i out hi ho => by
    have hc := nnk' hb (ncy'.1 (hm.en _ (ndm' noE hi))).1
    refine ⟨?_, ?_⟩
    · show nc9' out m.Entries (m.Entries.length : Int) (i : Int) u.1 u.2 = _
      unfold nc9'
      rw [show Entry.mk 0 0 0 0 false = noE from rfl]
      simp only [decide_eq_true (show (i : Int) < (m.Entries.length : Int) by omega), nc' (show (0 : Int) ≤ (i : Int) by omega) (show (i : Int) < (m.Entries.length : Int) by omega), cond_true, Int.toNat_natCast, nop' u hc.1 hc.2, Option.bind_some, wrap1 hi (show m.Entries.length ≤ ncj' by unfold ncj'; omega), hbit]
      rw [nbp' (show out.length + [Record.mk 2 (m.Entries.getD i noE).Floor (m.Entries.getD i noE).Dir 0 0].length ≤ 2147483648 by show out.length + 1 ≤ _; omega)]
      unfold servB
      cases vs.any fun v => bitC (nb7' b v) (m.Entries.getD i noE).Floor.toNat (m.Entries.getD i noE).Dir
      · simp
      · rfl
    · rw [List.length_append]
      cases servB b vs (m.Entries.getD i noE).Floor (m.Entries.getD i noE).Dir <;> simp <;> omega) (fun out _ => by
    show nc9' out m.Entries (m.Entries.length : Int) (m.Entries.length : Int) u.1 u.2 = _
    unfold nc9'
    simp only [decide_eq_false (Int.lt_irrefl (m.Entries.length : Int)), cond_false]) m.Entries.length 0 [] (by omega) (by simp)
  have h1' := nv' h1.1 (by omega)
  rw [nt5', List.nil_append, nre' (fun e => bif servB b vs e.Floor e.Dir then [Record.mk 2 e.Floor e.Dir 0 0] else []) noE m.Entries 0 m.Entries.length (by omega), List.drop_zero] at h1'
  unfold ngw'
  rw [nfw' hb m (by omega) (by omega), Img.ok_iff.2 hm]
  simp only [Option.bind_some, Bool.not_true, cond_false]
  rw [show ((vs.length : Int) != (b.Cars.length : Int)) = false by rw [hv, bne_self_eq_false]]
  simp only [Bldg.tup, Img.tup] at h0'
  simp only [cond_false, h0', Option.bind_some]
  rw [show nfh' (((), ([] : List Record), m.Entries, (m.Entries.length : Int), (0 : Int), ()), ((u.1, u.2, ()), ())) = _ from h1']
  rfl
end
end Go.Ovl
namespace Go.Ovl
open Go Go.Ab
set_option maxRecDepth 100000
def xsV (E : List Entry) (xs : List Int) (r : Record) : List Int :=
  bif (r.Kind == 2) && hasF (keyE r.Floor r.Dir) E then xs.take (posF (keyE r.Floor r.Dir) E) ++ xs.drop (posF (keyE r.Floor r.Dir) E + 1)
  else bif (r.Kind == 1) && !hasF (keyE r.Floor r.Dir) E then xs.take (posF (keyE r.Floor r.Dir) E) ++ [0] ++ xs.drop (posF (keyE r.Floor r.Dir) E)
  else xs
def numK (E : List Entry) (xs : List Int) (F D : Int) : Int := bif hasF (keyE F D) E then xs.getD (posF (keyE F D) E) 0 else 0
def numV (E : List Entry) (xs : List Int) (e : Entry) : Int := numK E xs e.Floor e.Dir
theorem nv3' (e : Entry) : isC e.Floor e.Dir e = true := by unfold isC; simp
theorem nx3' {E : List Entry} (hs : nba' E) {i : Nat} (hi : i < E.length) : posF (E.getD i noE) E = i := by
  have hp := ncq'.1 hs
  rcases Nat.lt_trichotomy (posF (E.getD i noE) E) i with h | h | h
  · have h1 := nsu' hs (posF (E.getD i noE) E) (Nat.le_refl _) (by omega)
    have h2 : lessE (E.getD (posF (E.getD i noE) E) noE) (E.getD i noE) = true := by
      generalize posF (E.getD i noE) E = p at h
      have hg : ∀ j (hj : j < E.length), E.getD j noE = E[j] := fun j hj => by simp [List.getD_eq_getElem?_getD, hj]
      rw [hg p (by omega), hg i hi]
      exact List.pairwise_iff_getElem.1 hp p i (by omega) hi h
    rw [h1] at h2; cases h2
  · exact h
  · have h1 := ns4' (E.getD i noE) E i h
    have h2 := (nqi' (nv3' (E.getD i noE))).1
    rw [h1] at h2; cases h2
theorem n4p' {E : List Entry} (hs : nba' E) {i : Nat} (hi : i < E.length) : hasF (keyE (E.getD i noE).Floor (E.getD i noE).Dir) E = true := by
  unfold hasF
  rw [nll', nx3' hs hi, Bool.and_eq_true]
  exact ⟨Eq.mpr Nat.blt_eq hi, nv3' _⟩
theorem nyg' {E : List Entry} (hs : nba' E) (xs : List Int) {i : Nat} (hi : i < E.length) : numV E xs (E.getD i noE) = xs.getD i 0 := by
  unfold numV numK
  rw [n4p' hs hi, nll', nx3' hs hi]; rfl
theorem nvl' {α : Type} {a b : List α} (d : α) (hl : a.length = b.length) (h : ∀ i, i < a.length → a.getD i d = b.getD i d) : a = b := by
  refine List.ext_getElem hl fun i h1 h2 => ?_
  have := h i h1
  simpa [List.getD_eq_getElem?_getD, h1, h2] using this
theorem n28' {α β : Type} (f : α → β) {l : List α} {i : Nat} (hi : i < l.length) (d : α) (d' : β) : (l.map f).getD i d' = f (l.getD i d) := by
  simp [List.getD_eq_getElem?_getD, hi]
theorem n4z' {E : List Entry} (hs : nba' E) {xs : List Int} (hl : xs.length = E.length) : E.map (numV E xs) = xs := by
  refine nvl' 0 (by rw [List.length_map, hl]) fun i hi => ?_
  rw [List.length_map] at hi
  rw [n28' _ hi noE, nyg' hs xs hi]
theorem n3c' {α : Type} {l : List α} {k : Nat} {a : α} (d : α) (h : a = l.getD k d) : l.set k a = l := by
  by_cases hk : k < l.length
  · refine nvl' d (List.length_set ..) fun i hi => ?_
    by_cases hik : k = i
    · subst hik
      rw [h]; simp [List.getD_eq_getElem?_getD, hk]
    · simp [List.getD_eq_getElem?_getD, hik]
  · rw [List.set_eq_of_length_le (by omega)]
theorem nyw' {c : Entry} {l : List Entry} (h : hasF c l = true) : posF c l < l.length ∧ isC c.Floor c.Dir (l.getD (posF c l) noE) = true := by
  unfold hasF at h
  rw [Bool.and_eq_true] at h
  exact ⟨Eq.mp Nat.blt_eq h.1, h.2⟩
theorem n1c' {m : Img} (hs : nba' m.Entries) {xs : List Int} (hl : xs.length = m.Entries.length) (r : Record) : xsV m.Entries xs r = (nbl' m r).Entries.map (numV m.Entries xs) := by
  have hbase := n4z' hs hl
  have hfp := nmn' (c := keyE r.Floor r.Dir) 0 hs
  rw [Nat.zero_add] at hfp
  have hfp' : findF r.Floor r.Dir m.Entries 0 = _ := hfp
  unfold nbl' xsV
  by_cases k4 : r.Kind = 4
  · rw [k4]; exact hbase.symm
  by_cases k5 : r.Kind = 5
  · rw [k5]; exact hbase.symm
  by_cases k6 : r.Kind = 6
  · rw [k6]; exact hbase.symm
  rw [beq_f k4, beq_f k5, beq_f k6, hfp']
  simp only [cond_false]
  cases hh : hasF (keyE r.Floor r.Dir) m.Entries with
  | false =>
    simp only [cond_false, beq_self_eq_true, cond_true, Bool.and_false, Bool.not_false, Bool.and_true]
    cases k1 : r.Kind == 1 with
    | false => exact hbase.symm
    | true =>
      simp only [cond_true]
      show _ = (insL (Entry.mk r.Floor r.Dir (-1) 0 false) false m.Entries).map (numV m.Entries xs)
      have hnone := nta' hs hh
      rw [nno' (c := Entry.mk r.Floor r.Dir (-1) 0 false) (fun x hx => hnone x hx)]
      have hp : posF (Entry.mk r.Floor r.Dir (-1) 0 false) m.Entries = posF (keyE r.Floor r.Dir) m.Entries := (nll' (Entry.mk r.Floor r.Dir (-1) 0 false) m.Entries).symm
      have hn : numV m.Entries xs (Entry.mk r.Floor r.Dir (-1) 0 false) = 0 := by
        unfold numV numK
        rw [hh]; rfl
      rw [hp, List.map_append, List.map_append, List.map_take, List.map_drop, hbase, List.map_singleton, hn]
  | true =>
    obtain ⟨p1, p2⟩ := nyw' hh
    simp only [cond_true, Bool.and_true, Bool.not_true, Bool.and_false, cond_false]
    rw [beq_f (show ¬ ((posF (keyE r.Floor r.Dir) m.Entries : Nat) : Int) = -1 by omega)]
    simp only [cond_false, Int.toNat_natCast]
    generalize posF (keyE r.Floor r.Dir) m.Entries = p at p1 p2 ⊢
    have hset : ∀ e' : Entry, e'.Floor = (m.Entries.getD p noE).Floor → e'.Dir = (m.Entries.getD p noE).Dir → (m.Entries.set p e').map (numV m.Entries xs) = xs := fun e' h1 h2 => by
      rw [List.map_set, hbase]
      refine n3c' 0 ?_
      have : numV m.Entries xs e' = numV m.Entries xs (m.Entries.getD p noE) := by
        unfold numV
        rw [h1, h2]
      rw [this, nyg' hs xs p1]
    cases k2 : r.Kind == 2 with
    | true =>
      simp only [cond_true]
      show _ = (m.Entries.take p ++ m.Entries.drop (p + 1)).map (numV m.Entries xs)
      rw [List.map_append, List.map_take, List.map_drop, hbase]
    | false =>
      simp only [cond_false]
      cases k3 : r.Kind == 3 with
      | true => exact (hset (nu8' (m.Entries.getD p noE) r.Car) rfl rfl).symm
      | false =>
        simp only [cond_false]
        cases k7 : r.Kind == 7 with
        | true => exact (hset (nn0' (m.Entries.getD p noE) r.Value r.Car) rfl rfl).symm
        | false => exact hbase.symm
theorem n41' {m : Img} (hs : nba' m.Entries) {xs : List Int} (hl : xs.length = m.Entries.length) (r : Record) : (xsV m.Entries xs r).length = (nbl' m r).Entries.length := by rw [n1c' hs hl, List.length_map]
def xsL : Img → List Int → List Record → List Int
  | _, xs, [] => xs
  | m, xs, r :: t => xsL (nbl' m r) (xsV m.Entries xs r) t
end Go.Ovl
namespace Go.Ovl
open Go Go.Ab
set_option maxRecDepth 100000
theorem nyk' : ∀ {l : List Nat} {a n : Nat}, l.Pairwise (· < ·) → (∀ x ∈ l, a ≤ x ∧ x < n) → l.length + a ≤ n ∨ l = []
  | [], _, _, _, _ => .inr rfl
  | x :: t, a, n, h, hr => by
    left
    obtain ⟨h1, h2⟩ := List.pairwise_cons.1 h
    have hx := hr x (List.mem_cons_self ..)
    rcases nyk' (a := x + 1) (n := n) h2 (fun y hy => ⟨h1 y hy, (hr y (List.mem_cons_of_mem _ hy)).2⟩) with q | q
    · rw [List.length_cons]; omega
    · subst q
      simp; omega
theorem n4j' {b : Bldg} (hb : b.small) {m : Img} (hm : ImgOK b m) : (m.Entries.length : Int) ≤ 2 * (b.Floors - 1) := by
  have lo := hb.lo
  have hi := hb.hi
  let ix : Int × Int → Nat := fun p => if p.1 = 0 then 0 else if p.1 = b.Floors - 1 then (2 * b.Floors - 3).toNat else (2 * p.1 + p.2 - 2).toNat
  have hv : ∀ p ∈ m.Entries.map nbm', (p.2 = 1 ∧ 0 ≤ p.1 ∧ p.1 ≤ b.Floors - 2) ∨ (p.2 = 2 ∧ 1 ≤ p.1 ∧ p.1 ≤ b.Floors - 1) := fun p hp => by
    obtain ⟨e, he, rfl⟩ := List.mem_map.1 hp
    have h1 := (ncy'.1 (hm.en e he)).1
    unfold nh' callB at h1
    simp only [Bool.and_eq_true, Bool.or_eq_true, beq_iff_eq, n1'] at h1
    show (e.Dir = 1 ∧ 0 ≤ e.Floor ∧ e.Floor ≤ b.Floors - 2) ∨ (e.Dir = 2 ∧ 1 ≤ e.Floor ∧ e.Floor ≤ b.Floors - 1)
    omega
  have hp : ((m.Entries.map nbm').map ix).Pairwise (· < ·) := by
    rw [List.pairwise_map]
    refine List.Pairwise.imp_of_mem (fun {p q} hp hq h => ?_) hm.so
    have v1 := hv p hp
    have v2 := hv q hq
    unfold ltC at h
    show ix p < ix q
    simp only [ix]
    split <;> split <;> (try split) <;> (try split) <;> omega
  rcases nyk' (a := 0) (n := (2 * b.Floors - 2).toNat) hp (fun x hx => by
    obtain ⟨p, hp, rfl⟩ := List.mem_map.1 hx
    have v1 := hv p hp
    refine ⟨Nat.zero_le _, ?_⟩
    show ix p < _
    simp only [ix]
    split
    · omega
    · split <;> omega) with q | q
  · rw [List.length_map, List.length_map] at q; omega
  · have := congrArg List.length q
    rw [List.length_map, List.length_map, List.length_nil] at this; omega
end Go.Ovl
namespace Go.Ovl
open Go Go.Ab
set_option maxRecDepth 100000
theorem nz5' (e : Entry) (F D : Int) : ne6' e.Floor e.Dir e.Car e.Moves e.Moved F D = some ((!lessE e (keyE F D), ()), ((F, ()), (D, ()), ())) := by
  unfold ne6' lessE keyE
  by_cases h1 : F < e.Floor
  · rw [decide_eq_true h1, decide_eq_false (show ¬ e.Floor < F by omega), beq_f (show ¬ e.Floor = F by omega)]; rfl
  · rw [decide_eq_false h1]
    by_cases h2 : e.Floor = F
    · rw [h2, decide_eq_false (Int.lt_irrefl F), beq_self_eq_true]
      by_cases h3 : e.Dir < D
      · rw [decide_eq_true h3, decide_eq_false (show ¬ D ≤ e.Dir by omega)]; rfl
      · rw [decide_eq_false h3, decide_eq_true (show D ≤ e.Dir by omega)]; rfl
    · rw [beq_f h2, decide_eq_true (show e.Floor < F by omega)]; rfl
theorem nsb' (E : List Entry) (hl : E.length ≤ 100000) (F D : Int) : ∀ (k i : Nat), i + k = E.length → iter (fun x => ni' x.1.1 x.1.2.2.1 x.1.2.2.2.1 x.2.1.1 x.2.2.1.1) (k + 1) ((E, (), (E.length : Int), (i : Int), ()), ((F, ()), (D, ()), ())) = some (bif Nat.blt (i + posF (keyE F D) (E.drop i)) E.length then .inr ((((i + posF (keyE F D) (E.drop i) : Nat) : Int), ()), ((F, ()), (D, ()), ())) else .inl ((), ((F, ()), (D, ()), ())))
  | 0, i, hi => by
    obtain rfl : i = E.length := by omega
    refine nr' ?_
    show ni' E (E.length : Int) (E.length : Int) F D = _
    unfold ni'
    rw [decide_eq_false (Int.lt_irrefl (E.length : Int)), List.drop_length]
    have : Nat.blt (E.length + posF (keyE F D) []) E.length = false := by
      cases h : Nat.blt (E.length + posF (keyE F D) []) E.length with
      | false => rfl
      | true => have := Eq.mp Nat.blt_eq h; omega
    rw [this]; rfl
  | k + 1, i, hi => by
    have hi' : i < E.length := by omega
    have hs : ni' E (E.length : Int) (i : Int) F D = some (bif lessE (E.getD i noE) (keyE F D) then .inl ((E, (), (E.length : Int), ((i + 1 : Nat) : Int), ()), ((F, ()), (D, ()), ())) else .inr (.inr (((i : Int), ()), ((F, ()), (D, ()), ())))) := by
      unfold ni'
      rw [show Entry.mk 0 0 0 0 false = noE from rfl]
      simp only [decide_eq_true (show (i : Int) < (E.length : Int) by omega), nc' (show (0 : Int) ≤ (i : Int) by omega) (show (i : Int) < (E.length : Int) by omega), cond_true, Int.toNat_natCast, nz5', Option.bind_some, wrap1 hi' (show E.length ≤ ncj' by unfold ncj'; omega)]
      cases lessE (E.getD i noE) (keyE F D) <;> rfl
    have hd := nbi' noE hi'
    rw [hd]
    simp only [posF]
    cases hq : lessE (E.getD i noE) (keyE F D) with
    | true =>
      rw [hq] at hs
      refine (ny' hs).trans ?_
      rw [nsb' E hl F D k (i + 1) (by omega), cond_true, show i + 1 + posF (keyE F D) (E.drop (i + 1)) = i + (posF (keyE F D) (E.drop (i + 1)) + 1) by omega]
    | false =>
      rw [hq] at hs
      refine (nr' hs).trans ?_
      rw [cond_false, Nat.add_zero, show Nat.blt i E.length = true from Eq.mpr Nat.blt_eq hi']; rfl
theorem npu' (m : Img) (hl : m.Entries.length ≤ 100000) (F D : Int) : nf2' m.Phases m.Flags m.Leaving m.Entries F D = some ((((posF (keyE F D) m.Entries : Nat) : Int), hasF (keyE F D) m.Entries, ()), ()) := by
  have h := nsb' m.Entries hl F D m.Entries.length 0 (by omega)
  have h' := nv' h (by omega)
  rw [List.drop_zero, Nat.zero_add] at h'
  have hle := nlb' (keyE F D) m.Entries
  unfold nf2' n9' hasF
  rw [show nx' ((m.Entries, (), (m.Entries.length : Int), (0 : Int), ()), ((F, ()), (D, ()), ())) = _ from h']
  cases hq : Nat.blt (posF (keyE F D) m.Entries) m.Entries.length with
  | false =>
    have hge : m.Entries.length ≤ posF (keyE F D) m.Entries := by
      rcases Nat.lt_or_ge (posF (keyE F D) m.Entries) m.Entries.length with g | g
      · rw [Eq.mpr Nat.blt_eq g] at hq; cases hq
      · exact g
    rw [show posF (keyE F D) m.Entries = m.Entries.length by omega]
    rfl
  | true =>
    have hlt : posF (keyE F D) m.Entries < m.Entries.length := Eq.mp Nat.blt_eq hq
    simp only [cond_true, Option.bind_some]
    rw [decide_eq_false (show ¬ ((posF (keyE F D) m.Entries : Nat) : Int) < 0 by omega)]
    simp only [cond_false, nc' (show (0 : Int) ≤ ((posF (keyE F D) m.Entries : Nat) : Int) by omega) (show ((posF (keyE F D) m.Entries : Nat) : Int) < (m.Entries.length : Int) by omega), cond_true, Int.toNat_natCast]
    rw [show Entry.mk 0 0 0 0 false = noE from rfl]
    unfold isC
    show Option.bind (bif (m.Entries.getD (posF (keyE F D) m.Entries) noE).Floor == F then _ else _) _ = some ((_, true && ((m.Entries.getD (posF (keyE F D) m.Entries) noE).Floor == F && (m.Entries.getD (posF (keyE F D) m.Entries) noE).Dir == D), ()), ())
    cases (m.Entries.getD (posF (keyE F D) m.Entries) noE).Floor == F <;> rfl
structure Rnd where
  recs : List Record
  img : Img
  xs : List Int
  lan : Lan
  ref : Int × Int
def Rnd.tup (r : Rnd) : List Record × List Int × List Bool × List Bool × List Entry × List Int × List Calls × List Bool × Int × Int × Int × Int × Unit := (r.recs, r.img.Phases, r.img.Flags, r.img.Leaving, r.img.Entries, r.xs, r.lan.lit, r.lan.gong, r.lan.cl.1, r.lan.cl.2, r.ref.1, r.ref.2, ())
def Rnd.tupB (b : Bldg) (r : Rnd) : List Record × List Int × List Bool × List Bool × List Entry × List Int × List Calls × List Bool × Int × Int × Int × Int × Int × Int × Int × Int × Nat × Nat × Nat × List Car × Unit := (r.recs, r.img.Phases, r.img.Flags, r.img.Leaving, r.img.Entries, r.xs, r.lan.lit, r.lan.gong, r.lan.cl.1, r.lan.cl.2, r.ref.1, r.ref.2, b.Floors, b.Debounce, b.Room, b.Park, b.Empty, b.Full, b.Over, b.Cars, ())
structure Rnd.ok (b : Bldg) (r : Rnd) : Prop where
  img : ImgOK b r.img
  len : r.xs.length = r.img.Entries.length
def noRec : Record := Record.mk 0 0 0 0 0
def stepW (r : Record) (X : Rnd) : Rnd := ⟨X.recs ++ [r], nbl' X.img r, xsV X.img.Entries X.xs r, X.lan, X.ref⟩
def wrL (l : List Record) (X : Rnd) : Rnd := ⟨X.recs ++ l, nbv' X.img l, xsL X.img X.xs l, X.lan, X.ref⟩
theorem nqx' (r : Record) (l : List Record) (X : Rnd) : wrL (r :: l) X = wrL l (stepW r X) := by
  unfold wrL stepW
  simp only [List.append_assoc, List.singleton_append]
  rfl
theorem nqk' {b : Bldg} {X : Rnd} (h : X.ok b) {r : Record} (hv : n3' b r = true) : (stepW r X).ok b := ⟨(nmd' h.img hv).1, n41' h.img.so h.len r⟩
theorem nwf' {b : Bldg} : ∀ {l : List Record} {X : Rnd}, X.ok b → (∀ r ∈ l, n3' b r = true) → (wrL l X).ok b
  | [], X, h, _ => by
    unfold wrL
    rw [List.append_nil]
    exact ⟨h.img, h.len⟩
  | r :: t, X, h, hv => by
    rw [nqx']
    exact nwf' (nqk' h (hv r (List.mem_cons_self ..))) fun x hx => hv x (List.mem_cons_of_mem _ hx)
theorem n57' {xs : List Int} {k : Nat} (h : k < xs.length) (hl : xs.length ≤ 100000) : ncs' xs (k : Int) (IntKind.i64.wrap ((k : Int) + 1)) = some ((xs.take k ++ xs.drop (k + 1), ()), ()) := by
  unfold ncs' delF
  rw [nb' (by omega) (by omega), decide_eq_true (show (0 : Int) ≤ (k : Int) by omega), decide_eq_true (show (k : Int) < (k : Int) + 1 by omega), decide_eq_true (show (k : Int) + 1 ≤ (xs.length : Int) by omega), show Int.toNat ((k : Int) + 1) = k + 1 by omega, Int.toNat_natCast]
  rfl
theorem n54' {xs : List Int} {k : Nat} (h : k ≤ xs.length) (hl : xs.length ≤ 100000) : ncr' xs (k : Int) [0] = some ((xs.take k ++ [0] ++ xs.drop k, ()), ()) := by
  unfold ncr' insF
  rw [decide_eq_true (show (0 : Int) ≤ (k : Int) by omega), decide_eq_true (show (k : Int) ≤ (xs.length : Int) by omega), nbp' (show xs.length + [(0 : Int)].length ≤ 2147483648 by show xs.length + 1 ≤ _; omega), Int.toNat_natCast]
  rfl
section
variable {b : Bldg} (hb : b.small) (hcode : b.code = 0)
include hb hcode
omit hcode in
theorem nd9' {m : Img} (hm : ImgOK b m) : m.Entries.length ≤ 14 := by
  have := n4j' hb hm
  have := hb.hi
  omega
theorem nzf' {X : Rnd} (hX : X.ok b) {l : List Record} (hl : l.length ≤ 100000) {i : Nat} (hi : i < l.length) (hv : n3' b (l.getD i noRec) = true) (hr : X.recs.length ≤ 1000000) : nbh' l (l.length : Int) (i : Int) X.recs X.img.Phases X.img.Flags X.img.Leaving X.img.Entries X.xs X.lan.lit X.lan.gong X.lan.cl.1 X.lan.cl.2 X.ref.1 X.ref.2 b.Floors b.Debounce b.Room b.Park b.Empty b.Full b.Over b.Cars = some (.inl (((), l, (l.length : Int), ((i + 1 : Nat) : Int), ()), ((stepW (l.getD i noRec) X).tupB b, ()))) := by
  have hcc := nke' hcode
  have he := nd9' hb hX.img
  have hlp := hX.img.lp
  have hxl := hX.len
  have hpl := nlb' (keyE (l.getD i noRec).Floor (l.getD i noRec).Dir) X.img.Entries
  have ha := nw5' hb (by omega) X.img (by omega) (by omega) (l.getD i noRec)
  have ha' : nj2' b X.img (l.getD i noRec) = (((), 0, ()), ((nbl' X.img (l.getD i noRec)).tup, ())) := by
    unfold nj2'
    rw [Img.ok_iff.2 hX.img, hv]; rfl
  rw [ha'] at ha
  unfold nbh'
  rw [show Record.mk 0 0 0 0 0 = noRec from rfl]
  simp only [decide_eq_true (show (i : Int) < (l.length : Int) by omega), nc' (show (0 : Int) ≤ (i : Int) by omega) (show (i : Int) < (l.length : Int) by omega), cond_true, Int.toNat_natCast]
  rw [npu' X.img (by omega)]
  simp only [Option.bind_some]
  generalize l.getD i noRec = r at *
  have hbl : Nat.ble (X.recs.length + [Record.mk r.Kind r.Floor r.Dir r.Car r.Value].length) 2147483648 = true := nbp' (by show X.recs.length + 1 ≤ _; omega)
  have hw := wrap1 hi (show l.length ≤ ncj' by unfold ncj'; omega)
  have hxs : ∀ q, xsV X.img.Entries X.xs r = q → (stepW r X).tupB b = (X.recs ++ [Record.mk r.Kind r.Floor r.Dir r.Car r.Value], (nbl' X.img r).Phases, (nbl' X.img r).Flags, (nbl' X.img r).Leaving, (nbl' X.img r).Entries, q, X.lan.lit, X.lan.gong, X.lan.cl.1, X.lan.cl.2, X.ref.1, X.ref.2, b.Floors, b.Debounce, b.Room, b.Park, b.Empty, b.Full, b.Over, b.Cars, ()) := fun q h => by rw [← h]; rfl
  by_cases k2 : r.Kind = 2
  · have k1 : (r.Kind == 1) = false := beq_f (by omega)
    have k2' : (r.Kind == 2) = true := by rw [k2]; rfl
    cases hf : hasF (keyE r.Floor r.Dir) X.img.Entries with
    | true =>
      rw [hxs _ (show _ = X.xs.take (posF (keyE r.Floor r.Dir) X.img.Entries) ++ X.xs.drop (posF (keyE r.Floor r.Dir) X.img.Entries + 1) by unfold xsV; rw [k2', hf]; rfl)]
      have hp := (nyw' hf).1
      simp only [k2', cond_true, Option.bind_some, n57' (show posF (keyE r.Floor r.Dir) X.img.Entries < X.xs.length by omega) (by omega)]
      rw [ha]
      simp only [Option.bind_some, beq_self_eq_true, cond_true, hbl, hw]
      rfl
    | false =>
      rw [hxs X.xs (by unfold xsV; rw [hf, k1, Bool.and_false, Bool.false_and]; rfl)]
      simp only [k2', k1, cond_true, cond_false, Option.bind_some]
      rw [ha]
      simp only [Option.bind_some, beq_self_eq_true, cond_true, hbl, hw]
      rfl
  · have k2' : (r.Kind == 2) = false := beq_f k2
    by_cases k1 : r.Kind = 1
    · have k1' : (r.Kind == 1) = true := by rw [k1]; rfl
      cases hf : hasF (keyE r.Floor r.Dir) X.img.Entries with
      | false =>
        rw [hxs _ (show _ = X.xs.take (posF (keyE r.Floor r.Dir) X.img.Entries) ++ [0] ++ X.xs.drop (posF (keyE r.Floor r.Dir) X.img.Entries) by unfold xsV; rw [k2', k1', hf]; rfl)]
        simp only [k2', k1', cond_true, cond_false, Option.bind_some, Bool.not_false, n54' (show posF (keyE r.Floor r.Dir) X.img.Entries ≤ X.xs.length by omega) (by omega)]
        rw [ha]
        simp only [Option.bind_some, beq_self_eq_true, cond_true, hbl, hw]
        rfl
      | true =>
        rw [hxs X.xs (by unfold xsV; rw [hf, k2', Bool.false_and, Bool.not_true, Bool.and_false]; rfl)]
        simp only [k2', k1', cond_true, cond_false, Option.bind_some, Bool.not_true]
        rw [ha]
        simp only [Option.bind_some, beq_self_eq_true, cond_true, hbl, hw]
        rfl
    · have k1' : (r.Kind == 1) = false := beq_f k1
      rw [hxs X.xs (by unfold xsV; rw [k2', k1', Bool.false_and, Bool.false_and]; rfl)]
      simp only [k2', k1', cond_false, Option.bind_some]
      rw [ha]
      simp only [Option.bind_some, beq_self_eq_true, cond_true, hbl, hw]
      rfl
theorem nqj' {X : Rnd} (hX : X.ok b) {l : List Record} (hl : l.length ≤ 100000) (hv : ∀ r ∈ l, n3' b r = true) (hr : X.recs.length ≤ 100000) : n8' l X.recs X.img.Phases X.img.Flags X.img.Leaving X.img.Entries X.xs X.lan.lit X.lan.gong X.lan.cl.1 X.lan.cl.2 X.ref.1 X.ref.2 b.Floors b.Debounce b.Room b.Park b.Empty b.Full b.Over b.Cars = some ((), ((wrL l X).tupB b, ())) := by
  have key : ∀ (k i : Nat) (Y : Rnd), i + k = l.length → Y.ok b → Y.recs.length ≤ 100000 + i → iter (fun x => nbh' x.1.2.1 x.1.2.2.1 x.1.2.2.2.1 x.2.1.1 x.2.1.2.1 x.2.1.2.2.1 x.2.1.2.2.2.1 x.2.1.2.2.2.2.1 x.2.1.2.2.2.2.2.1 x.2.1.2.2.2.2.2.2.1 x.2.1.2.2.2.2.2.2.2.1 x.2.1.2.2.2.2.2.2.2.2.1 x.2.1.2.2.2.2.2.2.2.2.2.1 x.2.1.2.2.2.2.2.2.2.2.2.2.1 x.2.1.2.2.2.2.2.2.2.2.2.2.2.1 x.2.1.2.2.2.2.2.2.2.2.2.2.2.2.1 x.2.1.2.2.2.2.2.2.2.2.2.2.2.2.2.1 x.2.1.2.2.2.2.2.2.2.2.2.2.2.2.2.2.1 x.2.1.2.2.2.2.2.2.2.2.2.2.2.2.2.2.2.1 x.2.1.2.2.2.2.2.2.2.2.2.2.2.2.2.2.2.2.1 x.2.1.2.2.2.2.2.2.2.2.2.2.2.2.2.2.2.2.2.1 x.2.1.2.2.2.2.2.2.2.2.2.2.2.2.2.2.2.2.2.2.1 x.2.1.2.2.2.2.2.2.2.2.2.2.2.2.2.2.2.2.2.2.2.1) (k + 1) (((), l, (l.length : Int), (i : Int), ()), (Y.tupB b, ())) = some ((), ((wrL (l.drop i) Y).tupB b, ())) := by
    intro k
    induction k with
    | zero =>
      intro i Y hi _ _
      obtain rfl : i = l.length := by omega
      refine nr' ?_
      show nbh' l (l.length : Int) (l.length : Int) Y.recs Y.img.Phases Y.img.Flags Y.img.Leaving Y.img.Entries Y.xs Y.lan.lit Y.lan.gong Y.lan.cl.1 Y.lan.cl.2 Y.ref.1 Y.ref.2 b.Floors b.Debounce b.Room b.Park b.Empty b.Full b.Over b.Cars = _
      unfold nbh'
      rw [decide_eq_false (Int.lt_irrefl (l.length : Int)), List.drop_length]
      unfold wrL
      rw [List.append_nil]
      rfl
    | succ k ih =>
      intro i Y hi hY hr
      have hi' : i < l.length := by omega
      have hv' := hv _ (ndm' noRec hi')
      rw [nbi' noRec hi', nqx']
      exact (ny' (nzf' hb hcode hY hl hi' hv' (by omega))).trans (ih (i + 1) _ (by omega) (nqk' hY hv') (by show (Y.recs ++ [_]).length ≤ _; rw [List.length_append, List.length_singleton]; omega))
  have h := key l.length 0 X (by omega) hX (by omega)
  rw [List.drop_zero] at h
  have h' : nbt' (((), l, (l.length : Int), (0 : Int), ()), (X.tupB b, ())) = _ := nv' h (by omega)
  unfold n8'
  rw [show nbt' (((), l, (l.length : Int), (0 : Int), ()), ((X.recs, X.img.Phases, X.img.Flags, X.img.Leaving, X.img.Entries, X.xs, X.lan.lit, X.lan.gong, X.lan.cl.1, X.lan.cl.2, X.ref.1, X.ref.2, b.Floors, b.Debounce, b.Room, b.Park, b.Empty, b.Full, b.Over, b.Cars, ()), ())) = _ from h']
  rfl
end
end Go.Ovl
namespace Go.Ovl
open Go Go.Ab
set_option maxRecDepth 100000
theorem npe' {F D : Int} {e : Entry} (he : isC F D e = true) (T : List Entry) : ∀ (P : List Entry) (i : Nat), (∀ p ∈ P, isC F D p = false) → findF F D (P ++ e :: T) i = ((i + P.length : Nat) : Int)
  | [], i, _ => by simp only [List.nil_append, findF, he, cond_true, List.length_nil, Nat.add_zero]
  | p :: P, i, h => by
    simp only [List.cons_append, findF, h p (List.mem_cons_self ..), cond_false]
    rw [npe' he T P (i + 1) fun x hx => h x (List.mem_cons_of_mem _ hx), List.length_cons]
    congr 1; omega
theorem nza' {P T : List Entry} {e : Entry} (h : nba' (P ++ e :: T)) : ∀ p ∈ P, isC e.Floor e.Dir p = false := by
  intro p hp
  rw [ncq'] at h
  have h2 := (List.pairwise_append.1 h).2.2 p hp e (List.mem_cons_self ..)
  rw [nef'] at h2
  unfold isC
  simp only [Bool.and_eq_false_iff, beq_eq_false_iff_ne]
  omega
theorem nwe' (P T : List Entry) (e : Entry) : (P ++ e :: T).getD P.length noE = e := by
  simp [List.getD_eq_getElem?_getD]
theorem callC (e : Entry) : isC e.Floor e.Dir e = true := by unfold isC; simp
theorem nxv' {m : Img} {P T : List Entry} {e : Entry} (hE : m.Entries = P ++ e :: T) (hs : ∀ p ∈ P, isC e.Floor e.Dir p = false) (n c : Int) : nbl' m ⟨7, e.Floor, e.Dir, c, n⟩ = m.put (P ++ nn0' e n c :: T) := by
  unfold nbl'
  have hf : findF e.Floor e.Dir m.Entries 0 = (P.length : Int) := by rw [hE, npe' (callC e) T P 0 hs, Nat.zero_add]
  simp only [hf]
  rw [beq_f (show ¬ (P.length : Int) = -1 by omega), hE, Int.toNat_natCast, nwe', nle', nle']
  rfl
theorem nug' {m : Img} {P T : List Entry} {e : Entry} (hE : m.Entries = P ++ e :: T) (hs : ∀ p ∈ P, isC e.Floor e.Dir p = false) (c : Int) : nbl' m ⟨3, e.Floor, e.Dir, c, 0⟩ = m.put (P ++ nu8' e c :: T) := by
  unfold nbl'
  have hf : findF e.Floor e.Dir m.Entries 0 = (P.length : Int) := by rw [hE, npe' (callC e) T P 0 hs, Nat.zero_add]
  simp only [hf]
  rw [beq_f (show ¬ (P.length : Int) = -1 by omega), hE, Int.toNat_natCast, nwe', nle', nle']
  rfl
theorem Img.put_put (m : Img) (l l' : List Entry) : (m.put l).put l' = m.put l' := rfl
theorem Img.put_self (m : Img) : m.put m.Entries = m := rfl
theorem nzt' {m : Img} {P T : List Entry} {e n : Entry} (hE : m.Entries = P ++ e :: T) (hs : ∀ p ∈ P, isC e.Floor e.Dir p = false) (hF : n.Floor = e.Floor) (hD : n.Dir = e.Dir) : nbv' m (recsV e n) = m.put (P ++ n :: T) := by
  obtain ⟨nF, nD, nC, nM, nV⟩ := n
  obtain ⟨eF, eD, eC, eM, eV⟩ := e
  simp only at hF hD
  subst hF hD
  unfold recsV
  simp only
  have mv : ∀ c : Int, nn0' ⟨nF, nD, eC, eM, eV⟩ nM c = ⟨nF, nD, eC, nM, c == 1⟩ := fun _ => rfl
  have cv : ((bif nV then (1 : Int) else 0) == 1) = nV := by cases nV <;> rfl
  cases hp : (eM != nM || !(eV == nV)) with
  | true =>
    have h1 := nxv' hE hs nM (bif nV then 1 else 0)
    rw [mv, cv] at h1
    cases hq : eC != nC with
    | true =>
      have h2 := nug' (m := m.put (P ++ ⟨nF, nD, eC, nM, nV⟩ :: T)) (P := P) (T := T) (e := ⟨nF, nD, eC, nM, nV⟩) rfl hs nC
      simp only [cond_true, List.cons_append, List.nil_append, nbv']
      rw [h1, h2]; rfl
    | false =>
      have : eC = nC := by simpa [bne] using hq
      subst this
      simp only [cond_true, cond_false, List.append_nil, nbv']
      exact h1
  | false =>
    simp only [Bool.or_eq_false_iff, Bool.not_eq_false', bne_eq_false_iff_eq, beq_iff_eq] at hp
    obtain ⟨rfl, rfl⟩ := hp
    cases hq : eC != nC with
    | true =>
      have h2 := nug' hE hs nC
      simp only [cond_true, cond_false, List.nil_append, nbv']
      exact h2
    | false =>
      have : eC = nC := by simpa [bne] using hq
      subst this
      simp only [cond_false, List.append_nil, nbv']
      rw [← hE]; exact (Img.put_self m).symm
theorem nzc' {b : Bldg} {e n : Entry} (hcode : b.code = 0) (hcall : nh' b n.Floor n.Dir = true) (hc : -2 ≤ n.Car ∧ n.Car < (b.Cars.length : Int)) (hm : 0 ≤ n.Moves ∧ n.Moves ≤ 255) : ∀ r ∈ recsV e n, n3' b r = true := by
  intro r hr
  unfold recsV at hr
  rcases List.mem_append.1 hr with h | h
  · cases hp : (e.Moves != n.Moves || !(e.Moved == n.Moved)) with
    | false => rw [hp] at h; cases h
    | true =>
      rw [hp] at h
      rw [List.mem_singleton.1 h]
      unfold n3'
      rw [hcode, hcall, n1'.2 hm]
      cases n.Moved <;> rfl
  · cases hp : e.Car != n.Car with
    | false => rw [hp] at h; cases h
    | true =>
      rw [hp] at h
      rw [List.mem_singleton.1 h]
      unfold n3'
      rw [hcode, hcall, n1'.2 ⟨hc.1, show n.Car ≤ (b.Cars.length : Int) - 1 by omega⟩]
      rfl
noncomputable def decL (b : Bldg) (vs : List View) : List Entry → List Int → List Entry
  | e :: t, x :: xs => decV b vs e x :: decL b vs t xs
  | _, _ => []
theorem nw0' (b : Bldg) (vs : List View) : ∀ (l : List Entry) (xs : List Int), xs.length = l.length → (decL b vs l xs).length = l.length
  | [], _, _ => by simp [decL]
  | _ :: _, [], h => by simp at h
  | e :: t, x :: xs, h => by simp only [decL, List.length_cons, nw0' b vs t xs (by simpa using h)]
theorem nzp' {b : Bldg} (hc : b.Cars.length ≤ 100) {vs : List View} {e : Entry} (hm : 0 ≤ e.Moves ∧ e.Moves ≤ 255) (x : Int) : 0 ≤ (decV b vs e x).Moves ∧ (decV b vs e x).Moves ≤ 255 := by
  unfold decV
  cases e.Car == -2 with
  | true => exact hm
  | false =>
    cases e.Car == -1 with
    | true => exact hm
    | false =>
      cases (nd' vs e.Car).Lost with
      | true =>
        by_cases g : (b.Cars.length : Int) < e.Moves
        · rw [decide_eq_true g]; exact hm
        · rw [decide_eq_false g]; exact ⟨by show 0 ≤ e.Moves + 1; omega, by show e.Moves + 1 ≤ 255; omega⟩
      | false =>
        by_cases g : e.Moves ≤ (b.Cars.length : Int)
        · rw [decide_eq_true g]
          cases e.Moved with
          | true => exact hm
          | false =>
            cases ne2' b vs e x != -1 with
            | true => exact ⟨by show 0 ≤ e.Moves + 1; omega, by show e.Moves + 1 ≤ 255; omega⟩
            | false => exact hm
        · rw [decide_eq_false g, Bool.and_false]; exact hm
theorem nnv' {b : Bldg} (hc : b.Cars.length ≤ 100) {vs : List View} (hlen : (vs.length : Int) = (b.Cars.length : Int)) : ∀ (T : List Entry) (xs : List Int) (P : List Entry) (m : Img), xs.length = T.length → ImgOK b m → m.Entries = P ++ T → nbv' m (planR b vs T xs) = m.put (P ++ decL b vs T xs) ∧ (∀ r ∈ planR b vs T xs, n3' b r = true) ∧ ImgOK b (m.put (P ++ decL b vs T xs))
  | [], xs, P, m, _, hm, hE => by
    have : decL b vs [] xs = [] := by simp [decL]
    have h2 : planR b vs [] xs = [] := by simp [planR]
    rw [this, h2, ← hE]
    exact ⟨rfl, (fun _ h => by cases h), hm⟩
  | _ :: _, [], _, _, h, _, _ => by simp at h
  | e :: T, x :: xs, P, m, h, hm, hE => by
    have hent := ncy'.1 (hm.en e (by rw [hE]; simp))
    have hso := hm.so
    rw [hE] at hso
    have hs := nza' hso
    obtain ⟨c1, c2⟩ := n1u' b vs e x
    have hin := nyh' b (vs := vs) (e := e) (by omega) x
    have hmv := nzp' hc (vs := vs) hent.2.2 x
    have hval := nzc' (b := b) (e := e) (n := decV b vs e x) hm.code (by rw [c1, c2]; exact hent.1) (by omega) hmv
    have hap := nzt' hE hs c1 c2
    have hok : ImgOK b (m.put (P ++ decV b vs e x :: T)) := by
      rw [← hap]; exact (noh' hm hval).1
    obtain ⟨g1, g2, g3⟩ := nnv' hc hlen T xs (P ++ [decV b vs e x]) (m.put (P ++ decV b vs e x :: T)) (by simpa using h) hok (by simp [Img.put])
    simp only [planR, decL]
    have app : ∀ (rs qs : List Record) (m : Img), nbv' m (rs ++ qs) = nbv' (nbv' m rs) qs := fun rs => by
      induction rs with
      | nil => intro _ _; rfl
      | cons r rs ih => intro qs m; exact ih qs (nbl' m r)
    rw [app, hap, g1, Img.put_put]
    rw [Img.put_put] at g3
    simp only [List.append_assoc, List.singleton_append] at g3 ⊢
    exact ⟨trivial, (fun r hr => by
      rcases List.mem_append.1 hr with hr | hr
      · exact hval r hr
      · exact g2 r hr), g3⟩
end Go.Ovl
namespace Go.Ovl
open Go Go.Ab
set_option maxRecDepth 100000
theorem nxu' {l : List Entry} (hl : l.length ≤ 100000) : nk0' l = some (((), ()), (((ofC l (0, 0)).1, (ofC l (0, 0)).2, ()), ())) := by
  have e2 : ∀ (k i : Nat) (c : Int × Int), i + k = l.length → iter (fun x => nfo' x.1.2.2.1 x.1.2.2.2.1 x.1.2.2.2.2.1 x.2.1.1 x.2.1.2.1 x.2.2.1.1 x.2.2.1.2.1) (k + 1) (((), (), l, (l.length : Int), (i : Int), ()), (((0 : Int), (0 : Int), ()), (c.1, c.2, ()), ())) = some (((), (), ()), (((0 : Int), (0 : Int), ()), ((ofC (l.drop i) c).1, (ofC (l.drop i) c).2, ()), ())) := by
    intro k
    induction k with
    | zero =>
      intro i c hi
      obtain rfl : i = l.length := by omega
      refine nr' ?_
      show nfo' l (l.length : Int) (l.length : Int) 0 0 c.1 c.2 = _
      unfold nfo'
      rw [decide_eq_false (Int.lt_irrefl (l.length : Int)), List.drop_length]; rfl
    | succ k ih =>
      intro i c hi
      have hi' : i < l.length := by omega
      rw [nbi' noE hi']
      refine (ny' (x' := (((), (), l, (l.length : Int), ((i + 1 : Nat) : Int), ()), (((0 : Int), (0 : Int), ()), ((nb0' c (oneC (l.getD i noE).Floor (l.getD i noE).Dir)).1, (nb0' c (oneC (l.getD i noE).Floor (l.getD i noE).Dir)).2, ()), ()))) ?_).trans (ih (i + 1) _ (by omega))
      show nfo' l (l.length : Int) (i : Int) 0 0 c.1 c.2 = _
      unfold nfo'
      rw [show Entry.mk 0 0 0 0 false = noE from rfl]
      have hu := nhj' c (oneC (l.getD i noE).Floor (l.getD i noE).Dir)
      simp only [decide_eq_true (show (i : Int) < (l.length : Int) by omega), nc' (show (0 : Int) ≤ (i : Int) by omega) (show (i : Int) < (l.length : Int) by omega), cond_true, Int.toNat_natCast, nlf', Option.bind_some, hu, wrap1 hi' (show l.length ≤ ncj' by unfold ncj'; omega)]
  have h := e2 l.length 0 (0, 0) (by omega)
  rw [List.drop_zero] at h
  have h' : ni3' (((), (), l, (l.length : Int), (0 : Int), ()), (((0 : Int), (0 : Int), ()), ((0 : Int), (0 : Int), ()), ())) = _ := nv' h (by omega)
  unfold nk0'
  rw [h']; rfl
def regR (e : Entry) : Record := Record.mk 1 e.Floor e.Dir 0 0
def stepG (b : Bldg) (e : Entry) (X : Rnd) : Rnd := bif roomV b X.img then stepW (regR e) X else ⟨X.recs, X.img, X.xs, X.lan, nb0' X.ref (oneC e.Floor e.Dir)⟩
def regL (b : Bldg) : List Entry → Rnd → Rnd
  | [], X => X
  | e :: t, X => regL b t (stepG b e X)
theorem n5g' (r : Record) (X : Rnd) : wrL [r] X = stepW r X := by
  rw [nqx']
  unfold wrL
  rw [List.append_nil]
  rfl
theorem nox' {b : Bldg} {e : Entry} (h : nh' b e.Floor e.Dir = true) : n3' b (regR e) = true := by
  have hc : (b.code == 0) = true := by
    unfold nh' at h
    rw [Bool.and_eq_true] at h
    exact h.1
  unfold n3' regR
  rw [hc]
  simp only [beq_self_eq_true, cond_true, h, Bool.and_self]
theorem nvv' {b : Bldg} {X : Rnd} (h : X.ok b) {e : Entry} (he : nh' b e.Floor e.Dir = true) : (stepG b e X).ok b := by
  unfold stepG
  cases roomV b X.img with
  | true => exact nqk' h (nox' he)
  | false => exact ⟨h.img, h.len⟩
theorem nyi' {b : Bldg} : ∀ {l : List Entry} {X : Rnd}, X.ok b → (∀ e ∈ l, nh' b e.Floor e.Dir = true) → (regL b l X).ok b
  | [], _, h, _ => h
  | e :: t, X, h, hv => by
    show (regL b t (stepG b e X)).ok b
    exact nyi' (nvv' h (hv e (List.mem_cons_self ..))) fun x hx => hv x (List.mem_cons_of_mem _ hx)
theorem nrg' (b : Bldg) (e : Entry) (X : Rnd) : (stepG b e X).recs.length ≤ X.recs.length + 1 := by
  unfold stepG
  cases roomV b X.img with
  | true => show (X.recs ++ [_]).length ≤ _; rw [List.length_append, List.length_singleton]; exact Nat.le_refl _
  | false => exact Nat.le_succ _
theorem nto' (b : Bldg) : ∀ (l : List Entry) (X : Rnd), (regL b l X).recs.length ≤ X.recs.length + l.length
  | [], _ => Nat.le_refl _
  | e :: t, X => by
    have h1 := nto' b t (stepG b e X)
    have h2 := nrg' b e X
    show (regL b t (stepG b e X)).recs.length ≤ _
    rw [List.length_cons]
    omega
theorem ntg' (c : Int × Int) : (listC c).length ≤ 64 := by
  have h : ∀ k i : Nat, ((List.range' i k).flatMap (nhc' c)).length ≤ 2 * k := by
    intro k
    induction k with
    | zero => intro i; exact Nat.le_refl _
    | succ k ih =>
      intro i
      rw [List.range'_succ, List.flatMap_cons, List.length_append]
      have := ih (i + 1)
      have := nz3' c i
      omega
  exact h 32 0
theorem nth' {c : Int × Int} {e : Entry} (h : e ∈ listC c) : (0 ≤ e.Floor ∧ e.Floor < 32) ∧ (e.Dir = 1 ∨ e.Dir = 2) ∧ bitC c e.Floor.toNat e.Dir = true := by
  obtain ⟨f, h1, h2, h3, h4⟩ := mem_range.1 (List.mem_map.2 ⟨e, h, rfl⟩)
  simp only [nbm'] at h2 h3 h4
  refine ⟨by omega, h3, ?_⟩
  rw [h2, Int.toNat_natCast]; exact h4
def nb5' (b : Bldg) (m : Img) (press : Int × Int) : Int × Int := n5' (bothC press (hallC b)) (ofC m.Entries (0, 0))
theorem nne' {b : Bldg} (hb : b.small) (hcode : b.code = 0) {press old : Int × Int} {e : Entry} (h : e ∈ listC (n5' (bothC press (hallC b)) old)) : nh' b e.Floor e.Dir = true := by
  obtain ⟨h1, h2, h3⟩ := nth' h
  rw [nea' _ _ (by omega), nok', Bool.and_eq_true, Bool.and_eq_true, nvk' hb hcode (by omega) h2, Int.toNat_of_nonneg h1.1] at h3
  exact h3.1.2
section
variable {b : Bldg} (hb : b.small) (hcode : b.code = 0)
include hb hcode
theorem num' {es : List Entry} (hl : es.length ≤ 1000) (hv : ∀ e ∈ es, nh' b e.Floor e.Dir = true) : ∀ (k i : Nat) (Y : Rnd), i + k = es.length → Y.ok b → Y.recs.length ≤ 1000 + i → iter (fun x => n6' x.1.2.1 x.1.2.2.1 x.1.2.2.2.1 x.2.1.1 x.2.1.2.1 x.2.1.2.2.1 x.2.1.2.2.2.1 x.2.1.2.2.2.2.1 x.2.1.2.2.2.2.2.1 x.2.1.2.2.2.2.2.2.1 x.2.1.2.2.2.2.2.2.2.1 x.2.1.2.2.2.2.2.2.2.2.1 x.2.1.2.2.2.2.2.2.2.2.2.1 x.2.1.2.2.2.2.2.2.2.2.2.2.1 x.2.1.2.2.2.2.2.2.2.2.2.2.2.1 x.2.1.2.2.2.2.2.2.2.2.2.2.2.2.1 x.2.1.2.2.2.2.2.2.2.2.2.2.2.2.2.1 x.2.1.2.2.2.2.2.2.2.2.2.2.2.2.2.2.1 x.2.1.2.2.2.2.2.2.2.2.2.2.2.2.2.2.2.1 x.2.1.2.2.2.2.2.2.2.2.2.2.2.2.2.2.2.2.1 x.2.1.2.2.2.2.2.2.2.2.2.2.2.2.2.2.2.2.2.1 x.2.1.2.2.2.2.2.2.2.2.2.2.2.2.2.2.2.2.2.2.1 x.2.1.2.2.2.2.2.2.2.2.2.2.2.2.2.2.2.2.2.2.2.1) (k + 1) (((), es, (es.length : Int), (i : Int), ()), (Y.tupB b, ())) = some ((), ((regL b (es.drop i) Y).tupB b, ())) := by
  intro k
  induction k with
  | zero =>
    intro i Y hi _ _
    obtain rfl : i = es.length := by omega
    refine nr' ?_
    show n6' es (es.length : Int) (es.length : Int) Y.recs Y.img.Phases Y.img.Flags Y.img.Leaving Y.img.Entries Y.xs Y.lan.lit Y.lan.gong Y.lan.cl.1 Y.lan.cl.2 Y.ref.1 Y.ref.2 b.Floors b.Debounce b.Room b.Park b.Empty b.Full b.Over b.Cars = _
    unfold n6'
    rw [decide_eq_false (Int.lt_irrefl (es.length : Int)), List.drop_length]
    rfl
  | succ k ih =>
    intro i Y hi hY hr
    have hi' : i < es.length := by omega
    have hv' := hv _ (ndm' noE hi')
    have hcc := nke' hcode
    have he := nd9' hb hY.img
    have hlp := hY.img.lp
    rw [nbi' noE hi']
    refine (ny' (x' := (((), es, (es.length : Int), ((i + 1 : Nat) : Int), ()), ((stepG b (es.getD i noE) Y).tupB b, ()))) ?_).trans (ih (i + 1) _ (by omega) (nvv' hY hv') (by have := nrg' b (es.getD i noE) Y; omega))
    show n6' es (es.length : Int) (i : Int) Y.recs Y.img.Phases Y.img.Flags Y.img.Leaving Y.img.Entries Y.xs Y.lan.lit Y.lan.gong Y.lan.cl.1 Y.lan.cl.2 Y.ref.1 Y.ref.2 b.Floors b.Debounce b.Room b.Park b.Empty b.Full b.Over b.Cars = _
    unfold n6' stepG
    rw [show Entry.mk 0 0 0 0 false = noE from rfl, nx1' hb Y.img (by omega) (by omega) (by omega)]
    simp only [decide_eq_true (show (i : Int) < (es.length : Int) by omega), nc' (show (0 : Int) ≤ (i : Int) by omega) (show (i : Int) < (es.length : Int) by omega), cond_true, Int.toNat_natCast, Option.bind_some, wrap1 hi' (show es.length ≤ ncj' by unfold ncj'; omega)]
    cases roomV b Y.img with
    | true =>
      have hw := nqj' hb hcode hY (l := [regR (es.getD i noE)]) (by show 1 ≤ 100000; omega) (by
        intro r hr
        rw [List.mem_singleton.1 hr]
        exact nox' hv') (by omega)
      rw [n5g'] at hw
      unfold regR at hw
      simp only [cond_true, hw, Option.bind_some]
      rfl
    | false =>
      have hu := nhj' Y.ref (oneC (es.getD i noE).Floor (es.getD i noE).Dir)
      simp only [cond_false, nlf', Option.bind_some, hu]
      rfl
theorem nxz' (press old : Int × Int) {X : Rnd} (hX : X.ok b) (hr : X.recs.length ≤ 1000) : nb8' press.1 press.2 old.1 old.2 X.recs X.img.Phases X.img.Flags X.img.Leaving X.img.Entries X.xs X.lan.lit X.lan.gong X.lan.cl.1 X.lan.cl.2 X.ref.1 X.ref.2 b.Floors b.Debounce b.Room b.Park b.Empty b.Full b.Over b.Cars = some ((), ((regL b (listC (n5' (bothC press (hallC b)) old)) X).tupB b, ())) := by
  have hl := ntg' (n5' (bothC press (hallC b)) old)
  have h := num' hb hcode (es := listC (n5' (bothC press (hallC b)) old)) (by omega) (fun e he => nne' hb hcode he) _ 0 X (Nat.zero_add _) hX (by omega)
  rw [List.drop_zero] at h
  have h' : nb2' (((), listC (n5' (bothC press (hallC b)) old), ((listC (n5' (bothC press (hallC b)) old)).length : Int), (0 : Int), ()), (X.tupB b, ())) = _ := nv' h (by omega)
  unfold nb8'
  rw [nl4' hb hcode]
  simp only [Option.bind_some]
  rw [nkg' press (hallC b)]
  simp only [Option.bind_some]
  rw [njk' (bothC press (hallC b)) old]
  simp only [Option.bind_some]
  rw [nuy']
  simp only [Option.bind_some]
  unfold Rnd.tupB at h'
  rw [h']
  rfl
end
theorem nuq' (n : Int) : nd2' n = some ((!inR 0 1000000 n, ()), ()) := by
  unfold nd2' inR
  by_cases g : n < 0
  · rw [decide_eq_true g, decide_eq_false (show ¬ 0 ≤ n by omega)]; rfl
  · rw [decide_eq_false g, decide_eq_true (show 0 ≤ n by omega)]
    by_cases g' : 1000000 < n
    · rw [decide_eq_true g', decide_eq_false (show ¬ n ≤ 1000000 by omega)]; rfl
    · rw [decide_eq_false g', decide_eq_true (show n ≤ 1000000 by omega)]; rfl
theorem nwk' {xs : List Int} (hl : xs.length ≤ maxLen) : n2' xs = some ((!expOK xs, ()), ()) := by
  have hm : maxLen ≤ 9223372036854775807 := by decide
  have key : ∀ (k i : Nat), i + k = xs.length → ∃ y, iter (fun x => nq' x.1.1 x.1.2.2.1 x.1.2.2.2.1) (k + 1) ((xs, (), (xs.length : Int), (i : Int), ()), ()) = some y ∧ (match y with | .inl _ => (xs.drop i).all (inR 0 1000000) = true | .inr z => 0 ≤ z.1.1 ∧ (xs.drop i).all (inR 0 1000000) = false) := by
    intro k
    induction k with
    | zero =>
      intro i hi
      refine ⟨.inl ((), ()), nr' ?_, ?_⟩
      · show nq' xs (xs.length : Int) (i : Int) = _
        unfold nq'
        rw [show decide ((i : Int) < (xs.length : Int)) = false by simp; omega]; rfl
      · rw [show i = xs.length by omega, List.drop_length]; rfl
    | succ k ih =>
      intro i hi
      have hi' : i < xs.length := by omega
      have hs : nq' xs (xs.length : Int) (i : Int) = some (bif inR 0 1000000 (xs.getD i 0) then .inl ((xs, (), (xs.length : Int), ((i + 1 : Nat) : Int), ()), ()) else .inr (.inr (((i : Int), ()), ()))) := by
        unfold nq'
        have w : IntKind.i64.wrap ((i : Int) + 1) = ((i + 1 : Nat) : Int) := by rw [nb' (by omega) (by omega)]; omega
        rw [show decide ((i : Int) < (xs.length : Int)) = true by simp; omega, nc' (by omega) (by omega), nuq', w]
        simp only [cond_true, Int.toNat_natCast, Option.bind_some]
        cases inR 0 1000000 (xs.getD i 0) <;> rfl
      rw [nbi' (0 : Int) hi', List.all_cons]
      cases hq : inR 0 1000000 (xs.getD i 0) with
      | true =>
        rw [hq] at hs
        obtain ⟨y, h1, h2⟩ := ih (i + 1) (by omega)
        exact ⟨y, (ny' hs).trans h1, by rw [Bool.true_and]; exact h2⟩
      | false =>
        rw [hq] at hs
        exact ⟨_, nr' hs, by show (0 : Int) ≤ (i : Int) ∧ _; exact ⟨by omega, rfl⟩⟩
  obtain ⟨y, h1, h2⟩ := key xs.length 0 (by omega)
  have h1' : n4' ((xs, (), (xs.length : Int), (0 : Int), ()), ()) = some y := nv' h1 (by omega)
  rw [List.drop_zero] at h2
  unfold n2' nbr' expOK
  rw [h1']
  cases y with
  | inl z => simp only at h2; rw [h2]; rfl
  | inr z =>
    simp only at h2
    rw [h2.2]
    simp only [Option.bind_some]
    rw [decide_eq_true h2.1]; rfl
theorem nn1' (m : Img) {xs : List Int} (hl : xs.length ≤ maxLen) : neo' m.Phases m.Flags m.Leaving m.Entries xs = some (((((xs.length : Int) == (m.Entries.length : Int)) && expOK xs), ()), ()) := by
  unfold neo'
  rw [nwk' hl]
  cases ((xs.length : Int) == (m.Entries.length : Int)) with
  | false => rfl
  | true => simp only [cond_true, Option.bind_some, Bool.true_and, Bool.not_not]
theorem nlk' {α : Type} (l : List α) (h : l.length ≤ 100000) : cloF l = some ((l, ()), ()) := by
  unfold cloF
  rw [nbp' (show l.length ≤ 2147483648 by omega)]; rfl
def darkV (n : Nat) : Lan := ⟨List.replicate n noP, List.replicate n false, (0, 0)⟩
def tickX (b : Bldg) (m : Img) (xs : List Int) (vs : List View) (ps : List Calls) (press : Int × Int) (good : Bool) : Rnd :=
  bif good then regL b (listC (nb5' b m press)) (wrL (servL b vs m.Entries) ⟨[], m, xs, nch' b vs ps, (0, 0)⟩) else ⟨[], m, xs, darkV vs.length, (0, 0)⟩
noncomputable def tickP (b : Bldg) (m : Img) (xs : List Int) (vs : List View) (ps : List Calls) (press : Int × Int) (good : Bool) : List Record × List Int × Int × Unit := planV b (tickX b m xs vs ps press good).img (tickX b m xs vs ps press good).xs vs
noncomputable def tickV (b : Bldg) (m : Img) (xs : List Int) (vs : List View) (ps : List Calls) (press : Int × Int) (good : Bool) : Rnd := { wrL (tickP b m xs vs ps press good).1 (tickX b m xs vs ps press good) with xs := (tickP b m xs vs ps press good).2.1 }
theorem nmv' {b : Bldg} (hcode : b.code = 0) (vs : List View) : ∀ {l : List Entry}, (∀ e ∈ l, nh' b e.Floor e.Dir = true) → ∀ r ∈ servL b vs l, n3' b r = true ∧ r.Kind = 2 := fun h r hr => by
  obtain ⟨e, he, hr⟩ := List.mem_flatMap.1 hr
  have hc := h e he
  cases hs : servB b vs e.Floor e.Dir with
  | false => rw [hs] at hr; cases hr
  | true =>
    rw [hs] at hr
    rw [List.mem_singleton.1 hr]
    refine ⟨?_, rfl⟩
    unfold n3'
    rw [hcode]
    simp only [show ((2 : Int) == 1) = false from rfl, cond_false, beq_self_eq_true, cond_true, hc, Bool.and_self]
theorem np3' {b : Bldg} (hcode : b.code = 0) {vs : List View} {m : Img} (hm : ImgOK b m) (xs : List Int) : ∀ r ∈ (planV b m xs vs).1, n3' b r = true := by
  have hcc := nke' hcode
  unfold planV
  rw [Img.ok_iff.2 hm]
  cases hq : ((xs.length : Int) == (m.Entries.length : Int)) with
  | false => exact fun r hr => by cases hr
  | true =>
    cases hv : ((vs.length : Int) == (b.Cars.length : Int)) with
    | false => exact fun r hr => by cases hr
    | true =>
      cases expOK xs with
      | false => exact fun r hr => by cases hr
      | true =>
        have h1 : (xs.length : Int) = (m.Entries.length : Int) := by simpa using hq
        have h2 : (vs.length : Int) = (b.Cars.length : Int) := by simpa using hv
        exact (nnv' (b := b) (by omega) h2 m.Entries xs [] m (by omega) hm rfl).2.1
section
variable {b : Bldg} (hb : b.small) (hcode : b.code = 0) {m : Img} (hm : ImgOK b m) {xs : List Int} (hx : xs.length = m.Entries.length) {vs : List View} (ps : List Calls) (press : Int × Int) (good : Bool)
include hb hcode hm hx
theorem nic' : (tickX b m xs vs ps press good).ok b ∧ (tickX b m xs vs ps press good).recs.length ≤ 100 := by
  have he := nd9' hb hm
  have hX : ∀ L : Lan, Rnd.ok b ⟨[], m, xs, L, (0, 0)⟩ := fun L => ⟨hm, hx⟩
  unfold tickX
  cases good with
  | false => exact ⟨hX _, Nat.zero_le _⟩
  | true =>
    have hv := nmv' hcode vs (l := m.Entries) fun e he => (ncy'.1 (hm.en e he)).1
    refine ⟨nyi' (nwf' (hX _) fun r hr => (hv r hr).1) fun e he => nne' hb hcode he, ?_⟩
    have h1 := nto' b (listC (nb5' b m press)) (wrL (servL b vs m.Entries) ⟨[], m, xs, nch' b vs ps, (0, 0)⟩)
    have h2 := ntg' (nb5' b m press)
    have h3 := no8' b vs m.Entries
    have h4 : (wrL (servL b vs m.Entries) ⟨[], m, xs, nch' b vs ps, (0, 0)⟩).recs.length = (servL b vs m.Entries).length := rfl
    show (regL b (listC (nb5' b m press)) (wrL (servL b vs m.Entries) ⟨[], m, xs, nch' b vs ps, (0, 0)⟩)).recs.length ≤ 100
    omega
theorem nqw' (hexp : expOK xs = true) (hv : okViews vs) (hvl : vs.length = b.Cars.length) (hp : ps.length = b.Cars.length) : nbw' b.Floors b.Debounce b.Room b.Park b.Empty b.Full b.Over b.Cars m.Phases m.Flags m.Leaving m.Entries xs vs ps press.1 press.2 good = some (((), 0, ()), ((tickV b m xs vs ps press good).tup, ())) := by
  have hcc := nke' hcode
  have he := nd9' hb hm
  have hlp := hm.lp
  have hlf := hm.lf
  have hll := hm.ll
  have hmx : 100000 ≤ maxLen := by decide
  have hX : ∀ L : Lan, Rnd.ok b ⟨[], m, xs, L, (0, 0)⟩ := fun L => ⟨hm, hx⟩
  obtain ⟨hok, hrl⟩ := nic' hb hcode hm hx (vs := vs) ps press good
  have hlight := nqn' hb hcode vs ps (by omega)
  unfold nr6' at hlight
  rw [show ((vs.length : Int) == (b.Cars.length : Int)) = true by rw [hvl]; exact beq_self_eq_true _, show ((ps.length : Int) == (b.Cars.length : Int)) = true by rw [hp]; exact beq_self_eq_true _] at hlight
  simp only [Bool.and_self, cond_true] at hlight
  have hXl := nd9' hb hok.img
  have hXp := hok.img.lp
  have hXx := hok.len
  have hplan := nsw' hb hv (by omega) (tickX b m xs vs ps press good).img (by omega) (by omega) (tickX b m xs vs ps press good).xs (by omega)
  have hpl := (n02' b (tickX b m xs vs ps press good).img (tickX b m xs vs ps press good).xs vs).1
  have hwr := nqj' hb hcode hok (l := (planV b (tickX b m xs vs ps press good).img (tickX b m xs vs ps press good).xs vs).1) (by omega) (np3' hcode hok.img _) (by omega)
  unfold nbw'
  rw [hlight]
  simp only [Option.bind_some, bne_self_eq_false, cond_false, Lan.tup]
  rw [nfw' hb m (by omega) (by omega), Img.ok_iff.2 hm]
  simp only [Option.bind_some, Bool.not_true, cond_false]
  rw [nn1' m (by omega), show ((xs.length : Int) == (m.Entries.length : Int)) = true by rw [hx]; exact beq_self_eq_true _, hexp]
  unfold nfj' nbz' nbj' nbf' nip'
  rw [nlk' m.Phases (by omega), nlk' m.Flags (by omega), nlk' m.Leaving (by omega), nlk' m.Entries (by omega), nlk' xs (by omega)]
  simp only [Option.bind_some, Bool.and_self, Bool.not_true, cond_false, decide_eq_true (show (0 : Int) ≤ (vs.length : Int) by omega), decide_eq_true (Int.le_refl (vs.length : Int)), decide_eq_true (show (vs.length : Int) ≤ 2147483648 by omega), cond_true, Int.toNat_natCast]
  cases good with
  | false =>
    simp only [cond_false, Option.bind_some]
    rw [show ney' b.Floors b.Debounce b.Room b.Park b.Empty b.Full b.Over b.Cars m.Phases m.Flags m.Leaving m.Entries xs vs = _ from hplan]
    simp only [Option.bind_some]
    rw [show n8' (planV b (tickX b m xs vs ps press false).img (tickX b m xs vs ps press false).xs vs).1 [] m.Phases m.Flags m.Leaving m.Entries xs (List.replicate vs.length (Calls.mk 0 0)) (List.replicate vs.length false) 0 0 0 0 b.Floors b.Debounce b.Room b.Park b.Empty b.Full b.Over b.Cars = _ from hwr]
    rfl
  | true =>
    have hsv := nmv' hcode vs (l := m.Entries) fun e he => (ncy'.1 (hm.en e he)).1
    have hsl := no8' b vs m.Entries
    have hw1 := nqj' hb hcode (hX (nch' b vs ps)) (l := servL b vs m.Entries) (by omega) (fun r hr => (hsv r hr).1) (Nat.zero_le _)
    have hrg := nxz' hb hcode press (ofC m.Entries (0, 0)) (X := wrL (servL b vs m.Entries) ⟨[], m, xs, nch' b vs ps, (0, 0)⟩) (nwf' (hX _) fun r hr => (hsv r hr).1) (by show ([] ++ servL b vs m.Entries).length ≤ _; rw [List.nil_append]; omega)
    unfold nik'
    simp only [cond_true]
    rw [nqp' hb hcode hm (by omega) vs (by omega)]
    simp only [Option.bind_some]
    simp only at hw1
    rw [hw1]
    simp only [Option.bind_some, nxu' (show m.Entries.length ≤ 100000 by omega), Rnd.tupB]
    rw [hrg]
    simp only [Option.bind_some, Rnd.tupB]
    rw [show ney' b.Floors b.Debounce b.Room b.Park b.Empty b.Full b.Over b.Cars (regL b (listC (n5' (bothC press (hallC b)) (ofC m.Entries (0, 0)))) (wrL (servL b vs m.Entries) ⟨[], m, xs, nch' b vs ps, (0, 0)⟩)).img.Phases (regL b (listC (n5' (bothC press (hallC b)) (ofC m.Entries (0, 0)))) (wrL (servL b vs m.Entries) ⟨[], m, xs, nch' b vs ps, (0, 0)⟩)).img.Flags (regL b (listC (n5' (bothC press (hallC b)) (ofC m.Entries (0, 0)))) (wrL (servL b vs m.Entries) ⟨[], m, xs, nch' b vs ps, (0, 0)⟩)).img.Leaving (regL b (listC (n5' (bothC press (hallC b)) (ofC m.Entries (0, 0)))) (wrL (servL b vs m.Entries) ⟨[], m, xs, nch' b vs ps, (0, 0)⟩)).img.Entries (regL b (listC (n5' (bothC press (hallC b)) (ofC m.Entries (0, 0)))) (wrL (servL b vs m.Entries) ⟨[], m, xs, nch' b vs ps, (0, 0)⟩)).xs vs = _ from hplan]
    simp only [Option.bind_some]
    refine Eq.trans (congrArg (fun o => Option.bind o _) (show _ = some ((), ((wrL (planV b (tickX b m xs vs ps press true).img (tickX b m xs vs ps press true).xs vs).1 (tickX b m xs vs ps press true)).tupB b, ())) from hwr)) ?_
    rfl
end
end Go.Ovl
