/- Plan as a whole (layer 22), and sameness of records and numbers: the program and the reference say the same. -/
import Derived.Test.YthdomhdippmaiaaGreatDoorOvD
import Derived.Test.YthdomhdippmaiaaGreatDoorOvC
import Derived.Test.YthdomhdippmaiaaGreatDoorOvB
namespace Go.Ovl
open Go Go.Ab
set_option maxRecDepth 100000
def expOK (xs : List Int) : Bool := xs.all (inR 0 1000000)
theorem nzr' (n : Int) : ngt' n = some ((!inR 0 1000000 n, ()), ()) := by
  unfold ngt' inR
  by_cases g : n < 0
  · rw [decide_eq_true g, decide_eq_false (show ¬ 0 ≤ n by omega)]; rfl
  · rw [decide_eq_false g, decide_eq_true (show 0 ≤ n by omega)]
    by_cases g' : 1000000 < n
    · rw [decide_eq_true g', decide_eq_false (show ¬ n ≤ 1000000 by omega)]; rfl
    · rw [decide_eq_false g', decide_eq_true (show n ≤ 1000000 by omega)]; rfl
theorem nw1' {xs : List Int} (hl : xs.length ≤ maxLen) : nbc' xs = some ((!expOK xs, ()), ()) := by
  have hm : maxLen ≤ 9223372036854775807 := by decide
  have key : ∀ (k i : Nat), i + k = xs.length → ∃ y, iter (fun x => nv' x.1.1 x.1.2.2.1 x.1.2.2.2.1) (k + 1) ((xs, (), (xs.length : Int), (i : Int), ()), ()) = some y ∧ (match y with | .inl _ => (xs.drop i).all (inR 0 1000000) = true | .inr z => 0 ≤ z.1.1 ∧ (xs.drop i).all (inR 0 1000000) = false) := by
    intro k
    induction k with
    | zero =>
      intro i hi
      refine ⟨.inl ((), ()), nj' ?_, ?_⟩
      · show nv' xs (xs.length : Int) (i : Int) = _
        unfold nv'
        rw [show decide ((i : Int) < (xs.length : Int)) = false by simp; omega]; rfl
      · rw [show i = xs.length by omega, List.drop_length]; rfl
    | succ k ih =>
      intro i hi
      have hi' : i < xs.length := by omega
      have hs : nv' xs (xs.length : Int) (i : Int) = some (bif inR 0 1000000 (xs.getD i 0) then .inl ((xs, (), (xs.length : Int), ((i + 1 : Nat) : Int), ()), ()) else .inr (.inr (((i : Int), ()), ()))) := by
        unfold nv'
        have w : IntKind.i64.wrap ((i : Int) + 1) = ((i + 1 : Nat) : Int) := by rw [nb' (by omega) (by omega)]; omega
        rw [show decide ((i : Int) < (xs.length : Int)) = true by simp; omega, nc' (by omega) (by omega), nzr', w]
        simp only [cond_true, Int.toNat_natCast, Option.bind_some]
        cases inR 0 1000000 (xs.getD i 0) <;> rfl
      rw [n8' (0 : Int) hi', List.all_cons]
      cases hq : inR 0 1000000 (xs.getD i 0) with
      | true =>
        rw [hq] at hs
        obtain ⟨y, h1, h2⟩ := ih (i + 1) (by omega)
        exact ⟨y, (ny' hs).trans h1, by rw [Bool.true_and]; exact h2⟩
      | false =>
        rw [hq] at hs
        exact ⟨_, nj' hs, by show (0 : Int) ≤ (i : Int) ∧ _; exact ⟨by omega, rfl⟩⟩
  obtain ⟨y, h1, h2⟩ := key xs.length 0 (by omega)
  have h1' : nbd' ((xs, (), (xs.length : Int), (0 : Int), ()), ()) = some y := ns' h1 (by omega)
  rw [List.drop_zero] at h2
  unfold nbc' nbx' expOK
  rw [h1']
  cases y with
  | inl z => simp only at h2; rw [h2]; rfl
  | inr z =>
    simp only at h2
    rw [h2.2]
    simp only [Option.bind_some]
    rw [decide_eq_true h2.1]; rfl
noncomputable def planV (b : Bldg) (m : Img) (xs : List Int) (vs : List View) : List Record × List Int × Int × Unit :=
  bif m.ok b && ((xs.length : Int) == (m.Entries.length : Int) && ((vs.length : Int) == (b.Cars.length : Int) && expOK xs)) then (planR b vs m.Entries xs, planN b vs m.Entries xs, 0, ()) else ([], [], 1, ())
theorem Img.ok_all {b : Bldg} {m : Img} (h : m.ok b = true) : b.code = 0 ∧ m.Phases.length = b.Cars.length ∧ m.Flags.length = b.Cars.length ∧ m.Leaving.length = b.Cars.length ∧ (∀ p ∈ m.Phases, 0 ≤ p ∧ p ≤ 4) ∧ (∀ e ∈ m.Entries, entOK b e = true) ∧ entsF b Option.none m.Entries = true := by
  unfold Img.ok at h
  simp only [Bool.and_eq_true, beq_iff_eq] at h
  obtain ⟨h0, h1, h2, h3, h4, h5⟩ := h
  exact ⟨h0, by omega, by omega, by omega, fun p hp => n4'.1 (List.all_eq_true.1 h4 p hp), nto' h5, h5⟩
section
variable {b : Bldg} (hb : b.small) {vs : List View} (hv : okViews vs) (hl : vs.length ≤ 100) (m : Img) (hm : m.Entries.length ≤ 1000) (hp : m.Phases.length ≤ maxLen) (xs : List Int) (hx : xs.length ≤ maxLen)
include hb hv hl hm hp hx
theorem nr7' : ner' b.Floors b.Debounce b.Room b.Park b.Empty b.Full b.Over b.Cars m.Phases m.Flags m.Leaving m.Entries xs vs = some (planV b m xs vs, ()) := by
  have hmx : 1000 ≤ maxLen := by decide
  unfold ner' planV
  rw [nfx' hb m hp (by omega), nw1' hx]
  simp only [Option.bind_some, bne]
  cases hok : m.ok b with
  | false => rfl
  | true =>
    cases hq : (xs.length : Int) == (m.Entries.length : Int) with
    | false => rfl
    | true =>
      cases hr : (vs.length : Int) == (b.Cars.length : Int) with
      | false => rfl
      | true =>
        cases expOK xs with
        | false => rfl
        | true =>
          have hq' : (xs.length : Int) = (m.Entries.length : Int) := by simpa using hq
          have hr' : (vs.length : Int) = (b.Cars.length : Int) := by simpa using hr
          obtain ⟨_, _, _, _, _, hall, _⟩ := Img.ok_all hok
          have hlp := ns' (nla' hb hv hl hr' hall hm (xs := xs) (by omega) m.Entries.length 0 [] [] (by omega) rfl (by simp)) (by omega)
          have hlp' : ngy' ((xs, vs, (), (), ([] : List Record), List.replicate m.Entries.length (0 : Int), m.Entries, (m.Entries.length : Int), (0 : Int), ()), (b.tup, (b.Floors, b.Debounce, b.Room, b.Park, b.Empty, b.Full, b.Over, b.Cars, vs, ()), ())) = _ := hlp
          unfold Bldg.tup at hlp'
          simp only [Bool.not_true, cond_false, hq', decide_eq_true (show (0 : Int) ≤ (m.Entries.length : Int) by omega), decide_eq_true (Int.le_refl (m.Entries.length : Int)), decide_eq_true (show (m.Entries.length : Int) ≤ 2147483648 by omega), Bool.and_self, cond_true, Int.toNat_natCast, hlp', Option.bind_some, List.drop_zero, List.nil_append]
end
theorem nom' (b : Bldg) (vs : List View) : ∀ (l : List Entry) (xs : List Int), (planR b vs l xs).length ≤ 2 * l.length
  | [], _ => by simp [planR]
  | _ :: _, [] => by simp [planR]
  | e :: t, x :: xs => by
    have h1 := nom' b vs t xs
    have h2 := nti' e (decV b vs e x)
    simp only [planR, List.length_append, List.length_cons]
    omega
theorem nor' (b : Bldg) (vs : List View) : ∀ (l : List Entry) (xs : List Int), xs.length = l.length → (planN b vs l xs).length = l.length
  | [], _, _ => by simp [planN]
  | _ :: _, [], h => by simp at h
  | e :: t, x :: xs, h => by
    simp only [planN, List.length_cons, nor' b vs t xs (by simpa using h)]
theorem n2l' (b : Bldg) (m : Img) (xs : List Int) (vs : List View) : (planV b m xs vs).1.length ≤ 2 * m.Entries.length ∧ (planV b m xs vs).2.1.length ≤ m.Entries.length := by
  unfold planV
  cases hq : (m.ok b && ((xs.length : Int) == (m.Entries.length : Int) && ((vs.length : Int) == (b.Cars.length : Int) && expOK xs))) with
  | false => exact ⟨by simp, by simp⟩
  | true =>
    simp only [Bool.and_eq_true, beq_iff_eq] at hq
    refine ⟨nom' b vs m.Entries xs, ?_⟩
    show (planN b vs m.Entries xs).length ≤ _
    rw [nor' b vs m.Entries xs (by omega)]
    exact Nat.le_refl _
end Go.Ovl
namespace Go.Ovl
open Go Go.Ab
set_option maxRecDepth 100000
def noV : View := View.mk false false false false 0 0 0 0 0 0 0 0
def noP : Calls := Calls.mk 0 0
structure Lan where
  lit : List Calls
  gong : List Bool
  cl : Int × Int
def Lan.tup (l : Lan) : List Calls × List Bool × Int × Int × Unit := (l.lit, l.gong, l.cl.1, l.cl.2, ())
def Lan.none : Lan := ⟨[], [], (0, 0)⟩
def litC (b : Bldg) (vs : List View) (i : Nat) (s : Lan) : Int × Int := ncb' (ncc' b (vs.getD i noV)) s.cl
def litS (b : Bldg) (vs : List View) (ps : List Calls) (i : Nat) (s : Lan) : Lan := ⟨s.lit ++ [Calls.mk (litC b vs i s).1 (litC b vs i s).2], s.gong ++ [!isZ (ncb' (litC b vs i s) ((ps.getD i noP).Up, (ps.getD i noP).Down))], nej' s.cl (litC b vs i s)⟩
def neh' (b : Bldg) (vs : List View) (ps : List Calls) : Lan := foldN (litS b vs ps) vs.length 0 Lan.none
def nrj' (b : Bldg) (vs : List View) (ps : List Calls) : Lan × Int := bif (vs.length : Int) == (b.Cars.length : Int) && ((ps.length : Int) == (b.Cars.length : Int)) then (neh' b vs ps, 0) else (Lan.none, 1)
section
variable {b : Bldg} (hb : b.small) (hcode : b.code = 0)
include hb hcode
theorem no0' (vs : List View) (ps : List Calls) (hl : vs.length ≤ 1000) (hp : ps.length = vs.length) : nfd' ((ps, (), (), (), vs, (vs.length : Int), (0 : Int), ()), (b.tup, Lan.none.tup, Lan.none.tup, ())) = some (((), (), ()), (Lan.none.tup, (neh' b vs ps).tup, ())) ∧ (neh' b vs ps).lit.length = vs.length ∧ (neh' b vs ps).gong.length = vs.length := by
  have key := fun (step : _ → _) (h1 : ∀ (i : Nat) (s : Lan), i < vs.length → (s.lit.length = i ∧ s.gong.length = i) → step ((ps, (), (), (), vs, (vs.length : Int), (i : Int), ()), (b.tup, Lan.none.tup, s.tup, ())) = some (.inl ((ps, (), (), (), vs, (vs.length : Int), ((i + 1 : Nat) : Int), ()), (b.tup, Lan.none.tup, (litS b vs ps i s).tup, ())))) h2 => nkx' (step := step) vs.length (fun i (s : Lan) => ((ps, (), (), (), vs, (vs.length : Int), (i : Int), ()), (b.tup, Lan.none.tup, s.tup, ()))) (litS b vs ps) (fun i s => s.lit.length = i ∧ s.gong.length = i) (fun s => (((), (), ()), (Lan.none.tup, s.tup, ()))) (fun i s hi hs => ⟨h1 i s hi hs, by
      constructor
      · show (s.lit ++ [_]).length = _; rw [List.length_append, List.length_singleton, hs.1]
      · show (s.gong ++ [_]).length = _; rw [List.length_append, List.length_singleton, hs.2]⟩) h2 vs.length 0 Lan.none (by omega) ⟨rfl, rfl⟩
  have h := key (fun x => nc5' x.1.1 x.1.2.2.2.2.1 x.1.2.2.2.2.2.1 x.1.2.2.2.2.2.2.1 x.2.1.1 x.2.1.2.1 x.2.1.2.2.1 x.2.1.2.2.2.1 x.2.1.2.2.2.2.1 x.2.1.2.2.2.2.2.1 x.2.1.2.2.2.2.2.2.1 x.2.1.2.2.2.2.2.2.2.1 x.2.2.1.1 x.2.2.1.2.1 x.2.2.1.2.2.1 x.2.2.1.2.2.2.1 x.2.2.2.1.1 x.2.2.2.1.2.1 x.2.2.2.1.2.2.1 x.2.2.2.1.2.2.2.1) (fun i s hi hs => by
    show nc5' ps vs (vs.length : Int) (i : Int) b.Floors b.Debounce b.Room b.Park b.Empty b.Full b.Over b.Cars [] [] 0 0 s.lit s.gong s.cl.1 s.cl.2 = _
    unfold nc5'
    rw [show View.mk false false false false 0 0 0 0 0 0 0 0 = noV from rfl, show Calls.mk 0 0 = noP from rfl]
    simp only [decide_eq_true (show (i : Int) < (vs.length : Int) by omega), nc' (show (0 : Int) ≤ (i : Int) by omega) (show (i : Int) < (vs.length : Int) by omega), nc' (show (0 : Int) ≤ (i : Int) by omega) (show (i : Int) < (ps.length : Int) by omega), cond_true, Int.toNat_natCast, nkj' hb hcode, Option.bind_some, wrap1 hi (show vs.length ≤ nbw' by unfold nbw'; omega)]
    have e1 := ni9' (ncc' b (vs.getD i noV)) s.cl
    have e2 := ni9' (litC b vs i s) ((ps.getD i noP).Up, (ps.getD i noP).Down)
    have e3 := nhe' s.cl (litC b vs i s)
    unfold litC at e2 e3
    simp only at e2
    simp only [e1, Option.bind_some, e2, e3]
    rw [nbp' (show s.lit.length + [Calls.mk (ncb' (ncc' b (vs.getD i noV)) s.cl).1 (ncb' (ncc' b (vs.getD i noV)) s.cl).2].length ≤ 2147483648 by show s.lit.length + 1 ≤ _; omega)]
    rw [nbp' (show s.gong.length + [!((ncb' (ncb' (ncc' b (vs.getD i noV)) s.cl) ((ps.getD i noP).Up, (ps.getD i noP).Down)).1 == 0 && ((ncb' (ncb' (ncc' b (vs.getD i noV)) s.cl) ((ps.getD i noP).Up, (ps.getD i noP).Down)).2 == 0 && true))].length ≤ 2147483648 by show s.gong.length + 1 ≤ _; omega)]
    rfl) (fun s _ => by
    show nc5' ps vs (vs.length : Int) (vs.length : Int) b.Floors b.Debounce b.Room b.Park b.Empty b.Full b.Over b.Cars [] [] 0 0 s.lit s.gong s.cl.1 s.cl.2 = _
    unfold nc5'
    simp only [decide_eq_false (Int.lt_irrefl (vs.length : Int)), cond_false]
    rfl)
  exact ⟨ns' h.1 (by omega), h.2.1, h.2.2⟩
theorem npz' (vs : List View) (ps : List Calls) (hl : vs.length ≤ 1000) : ng3' b.Floors b.Debounce b.Room b.Park b.Empty b.Full b.Over b.Cars vs ps = some (((), (nrj' b vs ps).2, ()), ((nrj' b vs ps).1.tup, ())) := by
  unfold ng3' nrj'
  rw [nb8', hcode]
  simp only [Option.bind_some, bne_self_eq_false, cond_false]
  by_cases h1 : vs.length = b.Cars.length
  · by_cases h2 : ps.length = b.Cars.length
    · have h := (no0' hb hcode vs ps hl (by omega)).1
      simp only [Bldg.tup, Lan.tup, Lan.none] at h
      rw [h1] at h ⊢
      rw [h2]
      simp only [bne_self_eq_false, cond_false, beq_self_eq_true, Bool.and_self, cond_true, h]
      rfl
    · rw [h1, bne_self_eq_false, bne_t (show ¬ (ps.length : Int) = (b.Cars.length : Int) by omega), beq_f (show ¬ (ps.length : Int) = (b.Cars.length : Int) by omega), Bool.and_false]
      rfl
  · rw [bne_t (show ¬ (vs.length : Int) = (b.Cars.length : Int) by omega), beq_f (show ¬ (vs.length : Int) = (b.Cars.length : Int) by omega)]
    rfl
end
def servB (b : Bldg) (vs : List View) (F D : Int) : Bool := vs.any fun v => bitC (ncc' b v) F.toNat D
def servL (b : Bldg) (vs : List View) (l : List Entry) : List Record := l.flatMap fun e => bif servB b vs e.Floor e.Dir then [Record.mk 2 e.Floor e.Dir 0 0] else []
theorem nvr' (b : Bldg) (vs : List View) {f : Nat} {d : Int} : ∀ (k i : Nat) (s : Int × Int), i + k = vs.length → bitC (foldN (fun i s => nej' s (ncc' b (vs.getD i noV))) k i s) f d = (bitC s f d || (vs.drop i).any fun v => bitC (ncc' b v) f d)
  | 0, i, s, hi => by rw [show i = vs.length by omega, List.drop_length]; simp [foldN]
  | k + 1, i, s, hi => by
    show bitC (foldN (fun i s => nej' s (ncc' b (vs.getD i noV))) k (i + 1) (nej' s (ncc' b (vs.getD i noV)))) f d = _
    rw [nvr' b vs k (i + 1) _ (by omega), nzj', n8' noV (show i < vs.length by omega), List.any_cons, Bool.or_assoc]
theorem noe' (b : Bldg) (vs : List View) : ∀ l : List Entry, (servL b vs l).length ≤ l.length
  | [] => Nat.le_refl _
  | e :: t => by
    have h := noe' b vs t
    show ((bif servB b vs e.Floor e.Dir then [Record.mk 2 e.Floor e.Dir 0 0] else []) ++ servL b vs t).length ≤ _
    rw [List.length_append, List.length_cons]
    cases servB b vs e.Floor e.Dir <;> simp <;> omega
theorem n3i' {b : Bldg} (hb : b.small) {e : Entry} (h : nu' b e.Floor e.Dir = true) : callE e := by
  have lo := hb.lo
  have hi := hb.hi
  unfold nu' callB at h
  simp only [Bool.and_eq_true, Bool.or_eq_true, beq_iff_eq, n4'] at h
  unfold callE
  omega
section
variable {b : Bldg} (hb : b.small) (hcode : b.code = 0) {m : Img} (hm : ImgOK b m) (hl : m.Entries.length ≤ 100000) (vs : List View) (hv : (vs.length : Int) = (b.Cars.length : Int))
include hb hcode hm hl hv
theorem nqg' : ngr' b.Floors b.Debounce b.Room b.Park b.Empty b.Full b.Over b.Cars m.Phases m.Flags m.Leaving m.Entries vs = some ((servL b vs m.Entries, ()), ()) := by
  have hcc := nf2' hcode
  have hmx : 100000 ≤ maxLen := by decide
  have hlp := hm.lp
  have h0 := nkx' (step := fun x => nc7' x.1.2.2.2.1 x.1.2.2.2.2.1 x.1.2.2.2.2.2.1 x.2.1.1 x.2.1.2.1 x.2.1.2.2.1 x.2.1.2.2.2.1 x.2.1.2.2.2.2.1 x.2.1.2.2.2.2.2.1 x.2.1.2.2.2.2.2.2.1 x.2.1.2.2.2.2.2.2.2.1 x.2.2.1.1 x.2.2.1.2.1 x.2.2.1.2.2.1 x.2.2.1.2.2.2.1 x.2.2.2.1.1 x.2.2.2.1.2.1) vs.length (fun i (s : Int × Int) => (((), (), (), vs, (vs.length : Int), (i : Int), ()), (b.tup, m.tup, (s.1, s.2, ()), ()))) (fun i s => nej' s (ncc' b (vs.getD i noV))) (fun _ _ => True) (fun s => (((), (), ()), (m.tup, (s.1, s.2, ()), ()))) (fun i s hi _ => ⟨by
    show nc7' vs (vs.length : Int) (i : Int) b.Floors b.Debounce b.Room b.Park b.Empty b.Full b.Over b.Cars m.Phases m.Flags m.Leaving m.Entries s.1 s.2 = _
    unfold nc7'
    rw [show View.mk false false false false 0 0 0 0 0 0 0 0 = noV from rfl]
    have e3 := nhe' s (ncc' b (vs.getD i noV))
    simp only [decide_eq_true (show (i : Int) < (vs.length : Int) by omega), nc' (show (0 : Int) ≤ (i : Int) by omega) (show (i : Int) < (vs.length : Int) by omega), cond_true, Int.toNat_natCast, nkj' hb hcode, Option.bind_some, e3, wrap1 hi (show vs.length ≤ nbw' by unfold nbw'; omega)]
    rfl, trivial⟩) (fun s _ => by
    show nc7' vs (vs.length : Int) (vs.length : Int) b.Floors b.Debounce b.Room b.Park b.Empty b.Full b.Over b.Cars m.Phases m.Flags m.Leaving m.Entries s.1 s.2 = _
    unfold nc7'
    simp only [decide_eq_false (Int.lt_irrefl (vs.length : Int)), cond_false]
    rfl) vs.length 0 (0, 0) (by omega) trivial
  have h0' : nfg' (((), (), (), vs, (vs.length : Int), (0 : Int), ()), (b.tup, m.tup, ((0 : Int), (0 : Int), ()), ())) = _ := ns' h0.1 (by omega)
  have hbit : ∀ (f : Nat) (d : Int), bitC (foldN (fun i s => nej' s (ncc' b (vs.getD i noV))) vs.length 0 (0, 0)) f d = vs.any fun v => bitC (ncc' b v) f d := fun f d => by
    rw [nvr' b vs vs.length 0 (0, 0) (by omega), noh', Bool.false_or, List.drop_zero]
  generalize foldN (fun i s => nej' s (ncc' b (vs.getD i noV))) vs.length 0 (0, 0) = u at h0' hbit
  have h1 := nkx' (step := fun x => nc9' x.1.2.1 x.1.2.2.1 x.1.2.2.2.1 x.1.2.2.2.2.1 x.2.1.1 x.2.1.2.1) m.Entries.length (fun i (out : List Record) => (((), out, m.Entries, (m.Entries.length : Int), (i : Int), ()), ((u.1, u.2, ()), ()))) (fun i out => out ++ (bif servB b vs (m.Entries.getD i noE).Floor (m.Entries.getD i noE).Dir then [Record.mk 2 (m.Entries.getD i noE).Floor (m.Entries.getD i noE).Dir 0 0] else [])) (fun i out => out.length ≤ i) (fun out => ((out, ()), ())) (fun i out hi ho => by
    have hc := n3i' hb (nea'.1 (hm.en _ (nd2' noE hi))).1
    refine ⟨?_, ?_⟩
    · show nc9' out m.Entries (m.Entries.length : Int) (i : Int) u.1 u.2 = _
      unfold nc9'
      rw [show Entry.mk 0 0 0 0 false = noE from rfl]
      simp only [decide_eq_true (show (i : Int) < (m.Entries.length : Int) by omega), nc' (show (0 : Int) ≤ (i : Int) by omega) (show (i : Int) < (m.Entries.length : Int) by omega), cond_true, Int.toNat_natCast, nn4' u hc.1 hc.2, Option.bind_some, wrap1 hi (show m.Entries.length ≤ nbw' by unfold nbw'; omega), hbit]
      rw [nbp' (show out.length + [Record.mk 2 (m.Entries.getD i noE).Floor (m.Entries.getD i noE).Dir 0 0].length ≤ 2147483648 by show out.length + 1 ≤ _; omega)]
      unfold servB
      cases vs.any fun v => bitC (ncc' b v) (m.Entries.getD i noE).Floor.toNat (m.Entries.getD i noE).Dir
      · simp
      · rfl
    · rw [List.length_append]
      cases servB b vs (m.Entries.getD i noE).Floor (m.Entries.getD i noE).Dir <;> simp <;> omega) (fun out _ => by
    show nc9' out m.Entries (m.Entries.length : Int) (m.Entries.length : Int) u.1 u.2 = _
    unfold nc9'
    simp only [decide_eq_false (Int.lt_irrefl (m.Entries.length : Int)), cond_false]) m.Entries.length 0 [] (by omega) (by simp)
  have h1' := ns' h1.1 (by omega)
  rw [ntc', List.nil_append, nr4' (fun e => bif servB b vs e.Floor e.Dir then [Record.mk 2 e.Floor e.Dir 0 0] else []) noE m.Entries 0 m.Entries.length (by omega), List.drop_zero] at h1'
  unfold ngr'
  rw [nfx' hb m (by omega) (by omega), Img.ok_iff.2 hm]
  simp only [Option.bind_some, Bool.not_true, cond_false]
  rw [show ((vs.length : Int) != (b.Cars.length : Int)) = false by rw [hv, bne_self_eq_false]]
  simp only [Bldg.tup, Img.tup] at h0'
  simp only [cond_false, h0', Option.bind_some]
  rw [show nfe' (((), ([] : List Record), m.Entries, (m.Entries.length : Int), (0 : Int), ()), ((u.1, u.2, ()), ())) = _ from h1']
  rfl
end
end Go.Ovl
namespace Go.Ovl
open Go Go.Ab
set_option maxRecDepth 100000
def xsV (E : List Entry) (xs : List Int) (r : Record) : List Int :=
  bif (r.Kind == 2) && hasF (keyE r.Floor r.Dir) E then xs.take (posF (keyE r.Floor r.Dir) E) ++ xs.drop (posF (keyE r.Floor r.Dir) E + 1)
  else bif (r.Kind == 1) && !hasF (keyE r.Floor r.Dir) E then xs.take (posF (keyE r.Floor r.Dir) E) ++ [0] ++ xs.drop (posF (keyE r.Floor r.Dir) E)
  else xs
def numK (E : List Entry) (xs : List Int) (F D : Int) : Int := bif hasF (keyE F D) E then xs.getD (posF (keyE F D) E) 0 else 0
def numV (E : List Entry) (xs : List Int) (e : Entry) : Int := numK E xs e.Floor e.Dir
theorem nu3' (e : Entry) : isC e.Floor e.Dir e = true := by unfold isC; simp
theorem nya' {E : List Entry} (hs : nbi' E) {i : Nat} (hi : i < E.length) : posF (E.getD i noE) E = i := by
  have hp := nco'.1 hs
  rcases Nat.lt_trichotomy (posF (E.getD i noE) E) i with h | h | h
  · have h1 := nsy' hs (posF (E.getD i noE) E) (Nat.le_refl _) (by omega)
    have h2 : lessE (E.getD (posF (E.getD i noE) E) noE) (E.getD i noE) = true := by
      generalize posF (E.getD i noE) E = p at h
      have hg : ∀ j (hj : j < E.length), E.getD j noE = E[j] := fun j hj => by simp [List.getD_eq_getElem?_getD, hj]
      rw [hg p (by omega), hg i hi]
      exact List.pairwise_iff_getElem.1 hp p i (by omega) hi h
    rw [h1] at h2; cases h2
  · exact h
  · have h1 := nsl' (E.getD i noE) E i h
    have h2 := (np1' (nu3' (E.getD i noE))).1
    rw [h1] at h2; cases h2
theorem n4o' {E : List Entry} (hs : nbi' E) {i : Nat} (hi : i < E.length) : hasF (keyE (E.getD i noE).Floor (E.getD i noE).Dir) E = true := by
  unfold hasF
  rw [nlk', nya' hs hi, Bool.and_eq_true]
  exact ⟨Eq.mpr Nat.blt_eq hi, nu3' _⟩
theorem nx0' {E : List Entry} (hs : nbi' E) (xs : List Int) {i : Nat} (hi : i < E.length) : numV E xs (E.getD i noE) = xs.getD i 0 := by
  unfold numV numK
  rw [n4o' hs hi, nlk', nya' hs hi]; rfl
theorem nwf' {α : Type} {a b : List α} (d : α) (hl : a.length = b.length) (h : ∀ i, i < a.length → a.getD i d = b.getD i d) : a = b := by
  refine List.ext_getElem hl fun i h1 h2 => ?_
  have := h i h1
  simpa [List.getD_eq_getElem?_getD, h1, h2] using this
theorem n2o' {α β : Type} (f : α → β) {l : List α} {i : Nat} (hi : i < l.length) (d : α) (d' : β) : (l.map f).getD i d' = f (l.getD i d) := by
  simp [List.getD_eq_getElem?_getD, hi]
theorem n4m' {E : List Entry} (hs : nbi' E) {xs : List Int} (hl : xs.length = E.length) : E.map (numV E xs) = xs := by
  refine nwf' 0 (by rw [List.length_map, hl]) fun i hi => ?_
  rw [List.length_map] at hi
  rw [n2o' _ hi noE, nx0' hs xs hi]
theorem n3h' {α : Type} {l : List α} {k : Nat} {a : α} (d : α) (h : a = l.getD k d) : l.set k a = l := by
  by_cases hk : k < l.length
  · refine nwf' d (List.length_set ..) fun i hi => ?_
    by_cases hik : k = i
    · subst hik
      rw [h]; simp [List.getD_eq_getElem?_getD, hk]
    · simp [List.getD_eq_getElem?_getD, hik]
  · rw [List.set_eq_of_length_le (by omega)]
theorem nxs' {c : Entry} {l : List Entry} (h : hasF c l = true) : posF c l < l.length ∧ isC c.Floor c.Dir (l.getD (posF c l) noE) = true := by
  unfold hasF at h
  rw [Bool.and_eq_true] at h
  exact ⟨Eq.mp Nat.blt_eq h.1, h.2⟩
theorem n2a' {m : Img} (hs : nbi' m.Entries) {xs : List Int} (hl : xs.length = m.Entries.length) (r : Record) : xsV m.Entries xs r = (nbj' m r).Entries.map (numV m.Entries xs) := by
  have hbase := n4m' hs hl
  have hfp := nl0' (c := keyE r.Floor r.Dir) 0 hs
  rw [Nat.zero_add] at hfp
  have hfp' : findF r.Floor r.Dir m.Entries 0 = _ := hfp
  unfold nbj' xsV
  by_cases k4 : r.Kind = 4
  · rw [k4]; exact hbase.symm
  by_cases k5 : r.Kind = 5
  · rw [k5]; exact hbase.symm
  by_cases k6 : r.Kind = 6
  · rw [k6]; exact hbase.symm
  rw [beq_f k4, beq_f k5, beq_f k6, hfp']
  simp only [cond_false]
  cases hh : hasF (keyE r.Floor r.Dir) m.Entries with
  | false =>
    simp only [cond_false, beq_self_eq_true, cond_true, Bool.and_false, Bool.not_false, Bool.and_true]
    cases k1 : r.Kind == 1 with
    | false => exact hbase.symm
    | true =>
      simp only [cond_true]
      show _ = (insL (Entry.mk r.Floor r.Dir (-1) 0 false) false m.Entries).map (numV m.Entries xs)
      have hnone := ntw' hs hh
      rw [nqm' (c := Entry.mk r.Floor r.Dir (-1) 0 false) (fun x hx => hnone x hx)]
      have hp : posF (Entry.mk r.Floor r.Dir (-1) 0 false) m.Entries = posF (keyE r.Floor r.Dir) m.Entries := (nlk' (Entry.mk r.Floor r.Dir (-1) 0 false) m.Entries).symm
      have hn : numV m.Entries xs (Entry.mk r.Floor r.Dir (-1) 0 false) = 0 := by
        unfold numV numK
        rw [hh]; rfl
      rw [hp, List.map_append, List.map_append, List.map_take, List.map_drop, hbase, List.map_singleton, hn]
  | true =>
    obtain ⟨p1, p2⟩ := nxs' hh
    simp only [cond_true, Bool.and_true, Bool.not_true, Bool.and_false, cond_false]
    rw [beq_f (show ¬ ((posF (keyE r.Floor r.Dir) m.Entries : Nat) : Int) = -1 by omega)]
    simp only [cond_false, Int.toNat_natCast]
    generalize posF (keyE r.Floor r.Dir) m.Entries = p at p1 p2 ⊢
    have hset : ∀ e' : Entry, e'.Floor = (m.Entries.getD p noE).Floor → e'.Dir = (m.Entries.getD p noE).Dir → (m.Entries.set p e').map (numV m.Entries xs) = xs := fun e' h1 h2 => by
      rw [List.map_set, hbase]
      refine n3h' 0 ?_
      have : numV m.Entries xs e' = numV m.Entries xs (m.Entries.getD p noE) := by
        unfold numV
        rw [h1, h2]
      rw [this, nx0' hs xs p1]
    cases k2 : r.Kind == 2 with
    | true =>
      simp only [cond_true]
      show _ = (m.Entries.take p ++ m.Entries.drop (p + 1)).map (numV m.Entries xs)
      rw [List.map_append, List.map_take, List.map_drop, hbase]
    | false =>
      simp only [cond_false]
      cases k3 : r.Kind == 3 with
      | true => exact (hset (nve' (m.Entries.getD p noE) r.Car) rfl rfl).symm
      | false =>
        simp only [cond_false]
        cases k7 : r.Kind == 7 with
        | true => exact (hset (nne' (m.Entries.getD p noE) r.Value r.Car) rfl rfl).symm
        | false => exact hbase.symm
theorem n4j' {m : Img} (hs : nbi' m.Entries) {xs : List Int} (hl : xs.length = m.Entries.length) (r : Record) : (xsV m.Entries xs r).length = (nbj' m r).Entries.length := by rw [n2a' hs hl, List.length_map]
def xsL : Img → List Int → List Record → List Int
  | _, xs, [] => xs
  | m, xs, r :: t => xsL (nbj' m r) (xsV m.Entries xs r) t
end Go.Ovl
namespace Go.Ovl
open Go Go.Ab
set_option maxRecDepth 100000
theorem nxn' : ∀ {l : List Nat} {a n : Nat}, l.Pairwise (· < ·) → (∀ x ∈ l, a ≤ x ∧ x < n) → l.length + a ≤ n ∨ l = []
  | [], _, _, _, _ => .inr rfl
  | x :: t, a, n, h, hr => by
    left
    obtain ⟨h1, h2⟩ := List.pairwise_cons.1 h
    have hx := hr x (List.mem_cons_self ..)
    rcases nxn' (a := x + 1) (n := n) h2 (fun y hy => ⟨h1 y hy, (hr y (List.mem_cons_of_mem _ hy)).2⟩) with q | q
    · rw [List.length_cons]; omega
    · subst q
      simp; omega
theorem n33' {b : Bldg} (hb : b.small) {m : Img} (hm : ImgOK b m) : (m.Entries.length : Int) ≤ 2 * (b.Floors - 1) := by
  have lo := hb.lo
  have hi := hb.hi
  let ix : Int × Int → Nat := fun p => if p.1 = 0 then 0 else if p.1 = b.Floors - 1 then (2 * b.Floors - 3).toNat else (2 * p.1 + p.2 - 2).toNat
  have hv : ∀ p ∈ m.Entries.map ne3', (p.2 = 1 ∧ 0 ≤ p.1 ∧ p.1 ≤ b.Floors - 2) ∨ (p.2 = 2 ∧ 1 ≤ p.1 ∧ p.1 ≤ b.Floors - 1) := fun p hp => by
    obtain ⟨e, he, rfl⟩ := List.mem_map.1 hp
    have h1 := (nea'.1 (hm.en e he)).1
    unfold nu' callB at h1
    simp only [Bool.and_eq_true, Bool.or_eq_true, beq_iff_eq, n4'] at h1
    show (e.Dir = 1 ∧ 0 ≤ e.Floor ∧ e.Floor ≤ b.Floors - 2) ∨ (e.Dir = 2 ∧ 1 ≤ e.Floor ∧ e.Floor ≤ b.Floors - 1)
    omega
  have hp : ((m.Entries.map ne3').map ix).Pairwise (· < ·) := by
    rw [List.pairwise_map]
    refine List.Pairwise.imp_of_mem (fun {p q} hp hq h => ?_) hm.so
    have v1 := hv p hp
    have v2 := hv q hq
    unfold ltC at h
    show ix p < ix q
    simp only [ix]
    split <;> split <;> (try split) <;> (try split) <;> omega
  rcases nxn' (a := 0) (n := (2 * b.Floors - 2).toNat) hp (fun x hx => by
    obtain ⟨p, hp, rfl⟩ := List.mem_map.1 hx
    have v1 := hv p hp
    refine ⟨Nat.zero_le _, ?_⟩
    show ix p < _
    simp only [ix]
    split
    · omega
    · split <;> omega) with q | q
  · rw [List.length_map, List.length_map] at q; omega
  · have := congrArg List.length q
    rw [List.length_map, List.length_map, List.length_nil] at this; omega
end Go.Ovl
namespace Go.Ovl
open Go Go.Ab
set_option maxRecDepth 100000
theorem nze' (e : Entry) (F D : Int) : ne2' e.Floor e.Dir e.Car e.Moves e.Moved F D = some ((!lessE e (keyE F D), ()), ((F, ()), (D, ()), ())) := by
  unfold ne2' lessE keyE
  by_cases h1 : F < e.Floor
  · rw [decide_eq_true h1, decide_eq_false (show ¬ e.Floor < F by omega), beq_f (show ¬ e.Floor = F by omega)]; rfl
  · rw [decide_eq_false h1]
    by_cases h2 : e.Floor = F
    · rw [h2, decide_eq_false (Int.lt_irrefl F), beq_self_eq_true]
      by_cases h3 : e.Dir < D
      · rw [decide_eq_true h3, decide_eq_false (show ¬ D ≤ e.Dir by omega)]; rfl
      · rw [decide_eq_false h3, decide_eq_true (show D ≤ e.Dir by omega)]; rfl
    · rw [beq_f h2, decide_eq_true (show e.Floor < F by omega)]; rfl
theorem nqv' (E : List Entry) (hl : E.length ≤ 100000) (F D : Int) : ∀ (k i : Nat), i + k = E.length → iter (fun x => ng' x.1.1 x.1.2.2.1 x.1.2.2.2.1 x.2.1.1 x.2.2.1.1) (k + 1) ((E, (), (E.length : Int), (i : Int), ()), ((F, ()), (D, ()), ())) = some (bif Nat.blt (i + posF (keyE F D) (E.drop i)) E.length then .inr ((((i + posF (keyE F D) (E.drop i) : Nat) : Int), ()), ((F, ()), (D, ()), ())) else .inl ((), ((F, ()), (D, ()), ())))
  | 0, i, hi => by
    obtain rfl : i = E.length := by omega
    refine nj' ?_
    show ng' E (E.length : Int) (E.length : Int) F D = _
    unfold ng'
    rw [decide_eq_false (Int.lt_irrefl (E.length : Int)), List.drop_length]
    have : Nat.blt (E.length + posF (keyE F D) []) E.length = false := by
      cases h : Nat.blt (E.length + posF (keyE F D) []) E.length with
      | false => rfl
      | true => have := Eq.mp Nat.blt_eq h; omega
    rw [this]; rfl
  | k + 1, i, hi => by
    have hi' : i < E.length := by omega
    have hs : ng' E (E.length : Int) (i : Int) F D = some (bif lessE (E.getD i noE) (keyE F D) then .inl ((E, (), (E.length : Int), ((i + 1 : Nat) : Int), ()), ((F, ()), (D, ()), ())) else .inr (.inr (((i : Int), ()), ((F, ()), (D, ()), ())))) := by
      unfold ng'
      rw [show Entry.mk 0 0 0 0 false = noE from rfl]
      simp only [decide_eq_true (show (i : Int) < (E.length : Int) by omega), nc' (show (0 : Int) ≤ (i : Int) by omega) (show (i : Int) < (E.length : Int) by omega), cond_true, Int.toNat_natCast, nze', Option.bind_some, wrap1 hi' (show E.length ≤ nbw' by unfold nbw'; omega)]
      cases lessE (E.getD i noE) (keyE F D) <;> rfl
    have hd := n8' noE hi'
    rw [hd]
    simp only [posF]
    cases hq : lessE (E.getD i noE) (keyE F D) with
    | true =>
      rw [hq] at hs
      refine (ny' hs).trans ?_
      rw [nqv' E hl F D k (i + 1) (by omega), cond_true, show i + 1 + posF (keyE F D) (E.drop (i + 1)) = i + (posF (keyE F D) (E.drop (i + 1)) + 1) by omega]
    | false =>
      rw [hq] at hs
      refine (nj' hs).trans ?_
      rw [cond_false, Nat.add_zero, show Nat.blt i E.length = true from Eq.mpr Nat.blt_eq hi']; rfl
theorem npi' (m : Img) (hl : m.Entries.length ≤ 100000) (F D : Int) : nf7' m.Phases m.Flags m.Leaving m.Entries F D = some ((((posF (keyE F D) m.Entries : Nat) : Int), hasF (keyE F D) m.Entries, ()), ()) := by
  have h := nqv' m.Entries hl F D m.Entries.length 0 (by omega)
  have h' := ns' h (by omega)
  rw [List.drop_zero, Nat.zero_add] at h'
  have hle := nk5' (keyE F D) m.Entries
  unfold nf7' nbb' hasF
  rw [show nx' ((m.Entries, (), (m.Entries.length : Int), (0 : Int), ()), ((F, ()), (D, ()), ())) = _ from h']
  cases hq : Nat.blt (posF (keyE F D) m.Entries) m.Entries.length with
  | false =>
    have hge : m.Entries.length ≤ posF (keyE F D) m.Entries := by
      rcases Nat.lt_or_ge (posF (keyE F D) m.Entries) m.Entries.length with g | g
      · rw [Eq.mpr Nat.blt_eq g] at hq; cases hq
      · exact g
    rw [show posF (keyE F D) m.Entries = m.Entries.length by omega]
    rfl
  | true =>
    have hlt : posF (keyE F D) m.Entries < m.Entries.length := Eq.mp Nat.blt_eq hq
    simp only [cond_true, Option.bind_some]
    rw [decide_eq_false (show ¬ ((posF (keyE F D) m.Entries : Nat) : Int) < 0 by omega)]
    simp only [cond_false, nc' (show (0 : Int) ≤ ((posF (keyE F D) m.Entries : Nat) : Int) by omega) (show ((posF (keyE F D) m.Entries : Nat) : Int) < (m.Entries.length : Int) by omega), cond_true, Int.toNat_natCast]
    rw [show Entry.mk 0 0 0 0 false = noE from rfl]
    unfold isC
    show Option.bind (bif (m.Entries.getD (posF (keyE F D) m.Entries) noE).Floor == F then _ else _) _ = some ((_, true && ((m.Entries.getD (posF (keyE F D) m.Entries) noE).Floor == F && (m.Entries.getD (posF (keyE F D) m.Entries) noE).Dir == D), ()), ())
    cases (m.Entries.getD (posF (keyE F D) m.Entries) noE).Floor == F <;> rfl
structure Rnd where
  recs : List Record
  img : Img
  xs : List Int
  lan : Lan
  ref : Int × Int
def Rnd.tup (r : Rnd) : List Record × List Int × List Bool × List Bool × List Entry × List Int × List Calls × List Bool × Int × Int × Int × Int × Unit := (r.recs, r.img.Phases, r.img.Flags, r.img.Leaving, r.img.Entries, r.xs, r.lan.lit, r.lan.gong, r.lan.cl.1, r.lan.cl.2, r.ref.1, r.ref.2, ())
def Rnd.tupB (b : Bldg) (r : Rnd) : List Record × List Int × List Bool × List Bool × List Entry × List Int × List Calls × List Bool × Int × Int × Int × Int × Int × Int × Int × Int × Nat × Nat × Nat × List Car × Unit := (r.recs, r.img.Phases, r.img.Flags, r.img.Leaving, r.img.Entries, r.xs, r.lan.lit, r.lan.gong, r.lan.cl.1, r.lan.cl.2, r.ref.1, r.ref.2, b.Floors, b.Debounce, b.Room, b.Park, b.Empty, b.Full, b.Over, b.Cars, ())
structure Rnd.ok (b : Bldg) (r : Rnd) : Prop where
  img : ImgOK b r.img
  len : r.xs.length = r.img.Entries.length
def noRec : Record := Record.mk 0 0 0 0 0
def stepW (r : Record) (X : Rnd) : Rnd := ⟨X.recs ++ [r], nbj' X.img r, xsV X.img.Entries X.xs r, X.lan, X.ref⟩
def wrL (l : List Record) (X : Rnd) : Rnd := ⟨X.recs ++ l, nbv' X.img l, xsL X.img X.xs l, X.lan, X.ref⟩
theorem np5' (r : Record) (l : List Record) (X : Rnd) : wrL (r :: l) X = wrL l (stepW r X) := by
  unfold wrL stepW
  simp only [List.append_assoc, List.singleton_append]
  rfl
theorem np8' {b : Bldg} {X : Rnd} (h : X.ok b) {r : Record} (hv : nz' b r = true) : (stepW r X).ok b := ⟨(nic' h.img hv).1, n4j' h.img.so h.len r⟩
theorem nvv' {b : Bldg} : ∀ {l : List Record} {X : Rnd}, X.ok b → (∀ r ∈ l, nz' b r = true) → (wrL l X).ok b
  | [], X, h, _ => by
    unfold wrL
    rw [List.append_nil]
    exact ⟨h.img, h.len⟩
  | r :: t, X, h, hv => by
    rw [np5']
    exact nvv' (np8' h (hv r (List.mem_cons_self ..))) fun x hx => hv x (List.mem_cons_of_mem _ hx)
theorem n5n' {xs : List Int} {k : Nat} (h : k < xs.length) (hl : xs.length ≤ 100000) : ncn' xs (k : Int) (IntKind.i64.wrap ((k : Int) + 1)) = some ((xs.take k ++ xs.drop (k + 1), ()), ()) := by
  unfold ncn' delF
  rw [nb' (by omega) (by omega), decide_eq_true (show (0 : Int) ≤ (k : Int) by omega), decide_eq_true (show (k : Int) < (k : Int) + 1 by omega), decide_eq_true (show (k : Int) + 1 ≤ (xs.length : Int) by omega), show Int.toNat ((k : Int) + 1) = k + 1 by omega, Int.toNat_natCast]
  rfl
theorem n5q' {xs : List Int} {k : Nat} (h : k ≤ xs.length) (hl : xs.length ≤ 100000) : ncp' xs (k : Int) [0] = some ((xs.take k ++ [0] ++ xs.drop k, ()), ()) := by
  unfold ncp' insF
  rw [decide_eq_true (show (0 : Int) ≤ (k : Int) by omega), decide_eq_true (show (k : Int) ≤ (xs.length : Int) by omega), nbp' (show xs.length + [(0 : Int)].length ≤ 2147483648 by show xs.length + 1 ≤ _; omega), Int.toNat_natCast]
  rfl
section
variable {b : Bldg} (hb : b.small) (hcode : b.code = 0)
include hb hcode
omit hcode in
theorem ncx' {m : Img} (hm : ImgOK b m) : m.Entries.length ≤ 14 := by
  have := n33' hb hm
  have := hb.hi
  omega
theorem nzf' {X : Rnd} (hX : X.ok b) {l : List Record} (hl : l.length ≤ 100000) {i : Nat} (hi : i < l.length) (hv : nz' b (l.getD i noRec) = true) (hr : X.recs.length ≤ 1000000) : nbg' l (l.length : Int) (i : Int) X.recs X.img.Phases X.img.Flags X.img.Leaving X.img.Entries X.xs X.lan.lit X.lan.gong X.lan.cl.1 X.lan.cl.2 X.ref.1 X.ref.2 b.Floors b.Debounce b.Room b.Park b.Empty b.Full b.Over b.Cars = some (.inl (((), l, (l.length : Int), ((i + 1 : Nat) : Int), ()), ((stepW (l.getD i noRec) X).tupB b, ()))) := by
  have hcc := nf2' hcode
  have he := ncx' hb hX.img
  have hlp := hX.img.lp
  have hxl := hX.len
  have hpl := nk5' (keyE (l.getD i noRec).Floor (l.getD i noRec).Dir) X.img.Entries
  have ha := noz' hb (by omega) X.img (by omega) (by omega) (l.getD i noRec)
  have ha' : nhp' b X.img (l.getD i noRec) = (((), 0, ()), ((nbj' X.img (l.getD i noRec)).tup, ())) := by
    unfold nhp'
    rw [Img.ok_iff.2 hX.img, hv]; rfl
  rw [ha'] at ha
  unfold nbg'
  rw [show Record.mk 0 0 0 0 0 = noRec from rfl]
  simp only [decide_eq_true (show (i : Int) < (l.length : Int) by omega), nc' (show (0 : Int) ≤ (i : Int) by omega) (show (i : Int) < (l.length : Int) by omega), cond_true, Int.toNat_natCast]
  rw [npi' X.img (by omega)]
  simp only [Option.bind_some]
  generalize l.getD i noRec = r at *
  have hbl : Nat.ble (X.recs.length + [Record.mk r.Kind r.Floor r.Dir r.Car r.Value].length) 2147483648 = true := nbp' (by show X.recs.length + 1 ≤ _; omega)
  have hw := wrap1 hi (show l.length ≤ nbw' by unfold nbw'; omega)
  have hxs : ∀ q, xsV X.img.Entries X.xs r = q → (stepW r X).tupB b = (X.recs ++ [Record.mk r.Kind r.Floor r.Dir r.Car r.Value], (nbj' X.img r).Phases, (nbj' X.img r).Flags, (nbj' X.img r).Leaving, (nbj' X.img r).Entries, q, X.lan.lit, X.lan.gong, X.lan.cl.1, X.lan.cl.2, X.ref.1, X.ref.2, b.Floors, b.Debounce, b.Room, b.Park, b.Empty, b.Full, b.Over, b.Cars, ()) := fun q h => by rw [← h]; rfl
  by_cases k2 : r.Kind = 2
  · have k1 : (r.Kind == 1) = false := beq_f (by omega)
    have k2' : (r.Kind == 2) = true := by rw [k2]; rfl
    cases hf : hasF (keyE r.Floor r.Dir) X.img.Entries with
    | true =>
      rw [hxs _ (show _ = X.xs.take (posF (keyE r.Floor r.Dir) X.img.Entries) ++ X.xs.drop (posF (keyE r.Floor r.Dir) X.img.Entries + 1) by unfold xsV; rw [k2', hf]; rfl)]
      have hp := (nxs' hf).1
      simp only [k2', cond_true, Option.bind_some, n5n' (show posF (keyE r.Floor r.Dir) X.img.Entries < X.xs.length by omega) (by omega)]
      rw [ha]
      simp only [Option.bind_some, beq_self_eq_true, cond_true, hbl, hw]
      rfl
    | false =>
      rw [hxs X.xs (by unfold xsV; rw [hf, k1, Bool.and_false, Bool.false_and]; rfl)]
      simp only [k2', k1, cond_true, cond_false, Option.bind_some]
      rw [ha]
      simp only [Option.bind_some, beq_self_eq_true, cond_true, hbl, hw]
      rfl
  · have k2' : (r.Kind == 2) = false := beq_f k2
    by_cases k1 : r.Kind = 1
    · have k1' : (r.Kind == 1) = true := by rw [k1]; rfl
      cases hf : hasF (keyE r.Floor r.Dir) X.img.Entries with
      | false =>
        rw [hxs _ (show _ = X.xs.take (posF (keyE r.Floor r.Dir) X.img.Entries) ++ [0] ++ X.xs.drop (posF (keyE r.Floor r.Dir) X.img.Entries) by unfold xsV; rw [k2', k1', hf]; rfl)]
        simp only [k2', k1', cond_true, cond_false, Option.bind_some, Bool.not_false, n5q' (show posF (keyE r.Floor r.Dir) X.img.Entries ≤ X.xs.length by omega) (by omega)]
        rw [ha]
        simp only [Option.bind_some, beq_self_eq_true, cond_true, hbl, hw]
        rfl
      | true =>
        rw [hxs X.xs (by unfold xsV; rw [hf, k2', Bool.false_and, Bool.not_true, Bool.and_false]; rfl)]
        simp only [k2', k1', cond_true, cond_false, Option.bind_some, Bool.not_true]
        rw [ha]
        simp only [Option.bind_some, beq_self_eq_true, cond_true, hbl, hw]
        rfl
    · have k1' : (r.Kind == 1) = false := beq_f k1
      rw [hxs X.xs (by unfold xsV; rw [k2', k1', Bool.false_and, Bool.false_and]; rfl)]
      simp only [k2', k1', cond_false, Option.bind_some]
      rw [ha]
      simp only [Option.bind_some, beq_self_eq_true, cond_true, hbl, hw]
      rfl
theorem nqh' {X : Rnd} (hX : X.ok b) {l : List Record} (hl : l.length ≤ 100000) (hv : ∀ r ∈ l, nz' b r = true) (hr : X.recs.length ≤ 100000) : nba' l X.recs X.img.Phases X.img.Flags X.img.Leaving X.img.Entries X.xs X.lan.lit X.lan.gong X.lan.cl.1 X.lan.cl.2 X.ref.1 X.ref.2 b.Floors b.Debounce b.Room b.Park b.Empty b.Full b.Over b.Cars = some ((), ((wrL l X).tupB b, ())) := by
  have key : ∀ (k i : Nat) (Y : Rnd), i + k = l.length → Y.ok b → Y.recs.length ≤ 100000 + i → iter (fun x => nbg' x.1.2.1 x.1.2.2.1 x.1.2.2.2.1 x.2.1.1 x.2.1.2.1 x.2.1.2.2.1 x.2.1.2.2.2.1 x.2.1.2.2.2.2.1 x.2.1.2.2.2.2.2.1 x.2.1.2.2.2.2.2.2.1 x.2.1.2.2.2.2.2.2.2.1 x.2.1.2.2.2.2.2.2.2.2.1 x.2.1.2.2.2.2.2.2.2.2.2.1 x.2.1.2.2.2.2.2.2.2.2.2.2.1 x.2.1.2.2.2.2.2.2.2.2.2.2.2.1 x.2.1.2.2.2.2.2.2.2.2.2.2.2.2.1 x.2.1.2.2.2.2.2.2.2.2.2.2.2.2.2.1 x.2.1.2.2.2.2.2.2.2.2.2.2.2.2.2.2.1 x.2.1.2.2.2.2.2.2.2.2.2.2.2.2.2.2.2.1 x.2.1.2.2.2.2.2.2.2.2.2.2.2.2.2.2.2.2.1 x.2.1.2.2.2.2.2.2.2.2.2.2.2.2.2.2.2.2.2.1 x.2.1.2.2.2.2.2.2.2.2.2.2.2.2.2.2.2.2.2.2.1 x.2.1.2.2.2.2.2.2.2.2.2.2.2.2.2.2.2.2.2.2.2.1) (k + 1) (((), l, (l.length : Int), (i : Int), ()), (Y.tupB b, ())) = some ((), ((wrL (l.drop i) Y).tupB b, ())) := by
    intro k
    induction k with
    | zero =>
      intro i Y hi _ _
      obtain rfl : i = l.length := by omega
      refine nj' ?_
      show nbg' l (l.length : Int) (l.length : Int) Y.recs Y.img.Phases Y.img.Flags Y.img.Leaving Y.img.Entries Y.xs Y.lan.lit Y.lan.gong Y.lan.cl.1 Y.lan.cl.2 Y.ref.1 Y.ref.2 b.Floors b.Debounce b.Room b.Park b.Empty b.Full b.Over b.Cars = _
      unfold nbg'
      rw [decide_eq_false (Int.lt_irrefl (l.length : Int)), List.drop_length]
      unfold wrL
      rw [List.append_nil]
      rfl
    | succ k ih =>
      intro i Y hi hY hr
      have hi' : i < l.length := by omega
      have hv' := hv _ (nd2' noRec hi')
      rw [n8' noRec hi', np5']
      exact (ny' (nzf' hb hcode hY hl hi' hv' (by omega))).trans (ih (i + 1) _ (by omega) (np8' hY hv') (by show (Y.recs ++ [_]).length ≤ _; rw [List.length_append, List.length_singleton]; omega))
  have h := key l.length 0 X (by omega) hX (by omega)
  rw [List.drop_zero] at h
  have h' : nbs' (((), l, (l.length : Int), (0 : Int), ()), (X.tupB b, ())) = _ := ns' h (by omega)
  unfold nba'
  rw [show nbs' (((), l, (l.length : Int), (0 : Int), ()), ((X.recs, X.img.Phases, X.img.Flags, X.img.Leaving, X.img.Entries, X.xs, X.lan.lit, X.lan.gong, X.lan.cl.1, X.lan.cl.2, X.ref.1, X.ref.2, b.Floors, b.Debounce, b.Room, b.Park, b.Empty, b.Full, b.Over, b.Cars, ()), ())) = _ from h']
  rfl
end
end Go.Ovl
namespace Go.Ovl
open Go Go.Ab
set_option maxRecDepth 100000
theorem nou' {F D : Int} {e : Entry} (he : isC F D e = true) (T : List Entry) : ∀ (P : List Entry) (i : Nat), (∀ p ∈ P, isC F D p = false) → findF F D (P ++ e :: T) i = ((i + P.length : Nat) : Int)
  | [], i, _ => by simp only [List.nil_append, findF, he, cond_true, List.length_nil, Nat.add_zero]
  | p :: P, i, h => by
    simp only [List.cons_append, findF, h p (List.mem_cons_self ..), cond_false]
    rw [nou' he T P (i + 1) fun x hx => h x (List.mem_cons_of_mem _ hx), List.length_cons]
    congr 1; omega
theorem ny8' {P T : List Entry} {e : Entry} (h : nbi' (P ++ e :: T)) : ∀ p ∈ P, isC e.Floor e.Dir p = false := by
  intro p hp
  rw [nco'] at h
  have h2 := (List.pairwise_append.1 h).2.2 p hp e (List.mem_cons_self ..)
  rw [nd9'] at h2
  unfold isC
  simp only [Bool.and_eq_false_iff, beq_eq_false_iff_ne]
  omega
theorem nwi' (P T : List Entry) (e : Entry) : (P ++ e :: T).getD P.length noE = e := by
  simp [List.getD_eq_getElem?_getD]
theorem callC (e : Entry) : isC e.Floor e.Dir e = true := by unfold isC; simp
theorem nw7' {m : Img} {P T : List Entry} {e : Entry} (hE : m.Entries = P ++ e :: T) (hs : ∀ p ∈ P, isC e.Floor e.Dir p = false) (n c : Int) : nbj' m ⟨7, e.Floor, e.Dir, c, n⟩ = m.put (P ++ nne' e n c :: T) := by
  unfold nbj'
  have hf : findF e.Floor e.Dir m.Entries 0 = (P.length : Int) := by rw [hE, nou' (callC e) T P 0 hs, Nat.zero_add]
  simp only [hf]
  rw [beq_f (show ¬ (P.length : Int) = -1 by omega), hE, Int.toNat_natCast, nwi', nk6', nk6']
  rfl
theorem ntl' {m : Img} {P T : List Entry} {e : Entry} (hE : m.Entries = P ++ e :: T) (hs : ∀ p ∈ P, isC e.Floor e.Dir p = false) (c : Int) : nbj' m ⟨3, e.Floor, e.Dir, c, 0⟩ = m.put (P ++ nve' e c :: T) := by
  unfold nbj'
  have hf : findF e.Floor e.Dir m.Entries 0 = (P.length : Int) := by rw [hE, nou' (callC e) T P 0 hs, Nat.zero_add]
  simp only [hf]
  rw [beq_f (show ¬ (P.length : Int) = -1 by omega), hE, Int.toNat_natCast, nwi', nk6', nk6']
  rfl
theorem Img.put_put (m : Img) (l l' : List Entry) : (m.put l).put l' = m.put l' := rfl
theorem Img.put_self (m : Img) : m.put m.Entries = m := rfl
theorem nyh' {m : Img} {P T : List Entry} {e n : Entry} (hE : m.Entries = P ++ e :: T) (hs : ∀ p ∈ P, isC e.Floor e.Dir p = false) (hF : n.Floor = e.Floor) (hD : n.Dir = e.Dir) : nbv' m (recsV e n) = m.put (P ++ n :: T) := by
  obtain ⟨nF, nD, nC, nM, nV⟩ := n
  obtain ⟨eF, eD, eC, eM, eV⟩ := e
  simp only at hF hD
  subst hF hD
  unfold recsV
  simp only
  have mv : ∀ c : Int, nne' ⟨nF, nD, eC, eM, eV⟩ nM c = ⟨nF, nD, eC, nM, c == 1⟩ := fun _ => rfl
  have cv : ((bif nV then (1 : Int) else 0) == 1) = nV := by cases nV <;> rfl
  cases hp : (eM != nM || !(eV == nV)) with
  | true =>
    have h1 := nw7' hE hs nM (bif nV then 1 else 0)
    rw [mv, cv] at h1
    cases hq : eC != nC with
    | true =>
      have h2 := ntl' (m := m.put (P ++ ⟨nF, nD, eC, nM, nV⟩ :: T)) (P := P) (T := T) (e := ⟨nF, nD, eC, nM, nV⟩) rfl hs nC
      simp only [cond_true, List.cons_append, List.nil_append, nbv']
      rw [h1, h2]; rfl
    | false =>
      have : eC = nC := by simpa [bne] using hq
      subst this
      simp only [cond_true, cond_false, List.append_nil, nbv']
      exact h1
  | false =>
    simp only [Bool.or_eq_false_iff, Bool.not_eq_false', bne_eq_false_iff_eq, beq_iff_eq] at hp
    obtain ⟨rfl, rfl⟩ := hp
    cases hq : eC != nC with
    | true =>
      have h2 := ntl' hE hs nC
      simp only [cond_true, cond_false, List.nil_append, nbv']
      exact h2
    | false =>
      have : eC = nC := by simpa [bne] using hq
      subst this
      simp only [cond_false, List.append_nil, nbv']
      rw [← hE]; exact (Img.put_self m).symm
theorem nyj' {b : Bldg} {e n : Entry} (hcode : b.code = 0) (hcall : nu' b n.Floor n.Dir = true) (hc : -2 ≤ n.Car ∧ n.Car < (b.Cars.length : Int)) (hm : 0 ≤ n.Moves ∧ n.Moves ≤ 255) : ∀ r ∈ recsV e n, nz' b r = true := by
  intro r hr
  unfold recsV at hr
  rcases List.mem_append.1 hr with h | h
  · cases hp : (e.Moves != n.Moves || !(e.Moved == n.Moved)) with
    | false => rw [hp] at h; cases h
    | true =>
      rw [hp] at h
      rw [List.mem_singleton.1 h]
      unfold nz'
      rw [hcode, hcall, n4'.2 hm]
      cases n.Moved <;> rfl
  · cases hp : e.Car != n.Car with
    | false => rw [hp] at h; cases h
    | true =>
      rw [hp] at h
      rw [List.mem_singleton.1 h]
      unfold nz'
      rw [hcode, hcall, n4'.2 ⟨hc.1, show n.Car ≤ (b.Cars.length : Int) - 1 by omega⟩]
      rfl
noncomputable def decL (b : Bldg) (vs : List View) : List Entry → List Int → List Entry
  | e :: t, x :: xs => decV b vs e x :: decL b vs t xs
  | _, _ => []
theorem nv4' (b : Bldg) (vs : List View) : ∀ (l : List Entry) (xs : List Int), xs.length = l.length → (decL b vs l xs).length = l.length
  | [], _, _ => by simp [decL]
  | _ :: _, [], h => by simp at h
  | e :: t, x :: xs, h => by simp only [decL, List.length_cons, nv4' b vs t xs (by simpa using h)]
theorem nzo' {b : Bldg} (hc : b.Cars.length ≤ 100) {vs : List View} {e : Entry} (hm : 0 ≤ e.Moves ∧ e.Moves ≤ 255) (x : Int) : 0 ≤ (decV b vs e x).Moves ∧ (decV b vs e x).Moves ≤ 255 := by
  unfold decV
  cases e.Car == -2 with
  | true => exact hm
  | false =>
    cases e.Car == -1 with
    | true => exact hm
    | false =>
      cases (nd' vs e.Car).Lost with
      | true =>
        by_cases g : (b.Cars.length : Int) < e.Moves
        · rw [decide_eq_true g]; exact hm
        · rw [decide_eq_false g]; exact ⟨by show 0 ≤ e.Moves + 1; omega, by show e.Moves + 1 ≤ 255; omega⟩
      | false =>
        by_cases g : e.Moves ≤ (b.Cars.length : Int)
        · rw [decide_eq_true g]
          cases e.Moved with
          | true => exact hm
          | false =>
            cases ne4' b vs e x != -1 with
            | true => exact ⟨by show 0 ≤ e.Moves + 1; omega, by show e.Moves + 1 ≤ 255; omega⟩
            | false => exact hm
        · rw [decide_eq_false g, Bool.and_false]; exact hm
theorem nnq' {b : Bldg} (hc : b.Cars.length ≤ 100) {vs : List View} (hlen : (vs.length : Int) = (b.Cars.length : Int)) : ∀ (T : List Entry) (xs : List Int) (P : List Entry) (m : Img), xs.length = T.length → ImgOK b m → m.Entries = P ++ T → nbv' m (planR b vs T xs) = m.put (P ++ decL b vs T xs) ∧ (∀ r ∈ planR b vs T xs, nz' b r = true) ∧ ImgOK b (m.put (P ++ decL b vs T xs))
  | [], xs, P, m, _, hm, hE => by
    have : decL b vs [] xs = [] := by simp [decL]
    have h2 : planR b vs [] xs = [] := by simp [planR]
    rw [this, h2, ← hE]
    exact ⟨rfl, (fun _ h => by cases h), hm⟩
  | _ :: _, [], _, _, h, _, _ => by simp at h
  | e :: T, x :: xs, P, m, h, hm, hE => by
    have hent := nea'.1 (hm.en e (by rw [hE]; simp))
    have hso := hm.so
    rw [hE] at hso
    have hs := ny8' hso
    obtain ⟨c1, c2⟩ := n0u' b vs e x
    have hin := nxw' b (vs := vs) (e := e) (by omega) x
    have hmv := nzo' hc (vs := vs) hent.2.2 x
    have hval := nyj' (b := b) (e := e) (n := decV b vs e x) hm.code (by rw [c1, c2]; exact hent.1) (by omega) hmv
    have hap := nyh' hE hs c1 c2
    have hok : ImgOK b (m.put (P ++ decV b vs e x :: T)) := by
      rw [← hap]; exact (nn9' hm hval).1
    obtain ⟨g1, g2, g3⟩ := nnq' hc hlen T xs (P ++ [decV b vs e x]) (m.put (P ++ decV b vs e x :: T)) (by simpa using h) hok (by simp [Img.put])
    simp only [planR, decL]
    have app : ∀ (rs qs : List Record) (m : Img), nbv' m (rs ++ qs) = nbv' (nbv' m rs) qs := fun rs => by
      induction rs with
      | nil => intro _ _; rfl
      | cons r rs ih => intro qs m; exact ih qs (nbj' m r)
    rw [app, hap, g1, Img.put_put]
    rw [Img.put_put] at g3
    simp only [List.append_assoc, List.singleton_append] at g3 ⊢
    exact ⟨trivial, (fun r hr => by
      rcases List.mem_append.1 hr with hr | hr
      · exact hval r hr
      · exact g2 r hr), g3⟩
end Go.Ovl
