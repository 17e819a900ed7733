/- Layer 26: equal machines, the program's way and the reference's. -/
import Derived.Test.YthdomhdippmaiaaGreatOvLog3
import Derived.Test.YthdomhdippmaiaaGreatOvStoreP
namespace Go.Ovl
open Go Go.Ab
set_option maxRecDepth 100000
def ndl' (x y : Debounced) : Bool := ((x.Contacts_Floors == y.Contacts_Floors) && ((x.Contacts_Up == y.Contacts_Up) && ((x.Contacts_Down == y.Contacts_Down) && ((x.Contacts_Open == y.Contacts_Open) && ((x.Contacts_Closed == y.Contacts_Closed) && ((x.Count_0 == y.Count_0) && ((x.Count_1 == y.Count_1) && ((x.Count_2 == y.Count_2) && ((x.Count_3 == y.Count_3) && ((x.Count_4 == y.Count_4) && ((x.Count_5 == y.Count_5) && ((x.Count_6 == y.Count_6) && ((x.Count_7 == y.Count_7) && ((x.Count_8 == y.Count_8) && ((x.Count_9 == y.Count_9) && ((x.Count_10 == y.Count_10) && ((x.Count_11 == y.Count_11) && ((x.Count_12 == y.Count_12) && ((x.Count_13 == y.Count_13) && ((x.Count_14 == y.Count_14) && ((x.Count_15 == y.Count_15) && ((x.Count_16 == y.Count_16) && ((x.Count_17 == y.Count_17) && ((x.Count_18 == y.Count_18) && ((x.Count_19 == y.Count_19) && ((x.Count_20 == y.Count_20) && ((x.Count_21 == y.Count_21) && ((x.Count_22 == y.Count_22) && ((x.Count_23 == y.Count_23) && ((x.Count_24 == y.Count_24) && ((x.Count_25 == y.Count_25) && ((x.Count_26 == y.Count_26) && ((x.Count_27 == y.Count_27) && ((x.Count_28 == y.Count_28) && ((x.Count_29 == y.Count_29) && ((x.Count_30 == y.Count_30) && ((x.Count_31 == y.Count_31) && ((x.Count_32 == y.Count_32) && ((x.Count_33 == y.Count_33) && ((x.Count_34 == y.Count_34) && ((x.Count_35 == y.Count_35) && true)))))))))))))))))))))))))))))))))))))))))
theorem nna' (x y : Debounced) : ndl' x y = true ↔ x = y := by
  cases x; cases y
  simp [ndl']
def nn' : Debounced := Debounced.mk 0 false false false false 0 0 0 0 0 0 0 0 0 0 0 0 0 0 0 0 0 0 0 0 0 0 0 0 0 0 0 0 0 0 0 0 0 0 0 0
theorem nnq' {a b : List Debounced} (ha : a.length ≤ ng') : nbs' a b = some ((eqL a b, ()), ()) := by
  unfold nbs'
  by_cases hl : a.length = b.length
  · rw [show (((a.length : Nat) : Int) != ((b.length : Nat) : Int)) = false by simp [hl], cond_false]
    have h := nf' (nbb' (step := fun x => n0' x.1.1 x.1.2.1 x.1.2.2.1 x.1.2.2.2.1) a.length (fun i => ((a, b, (a.length : Int), (i : Int), ()), ())) (fun i => ndl' (a.getD i nn') (b.getD i nn')) (Sum.inl ((), ())) (Sum.inr ((false, ()), ())) (fun i hi => by
      show n0' a b (a.length : Int) (i : Int) = _
      unfold n0'
      simp only [decide_eq_true (show (i : Int) < (a.length : Int) by omega), nc' (show (0 : Int) ≤ (i : Int) by omega) (show (i : Int) < (a.length : Int) by omega), nc' (show (0 : Int) ≤ (i : Int) by omega) (show (i : Int) < (b.length : Int) by omega), cond_true, Int.toNat_natCast, wrap1 hi ha]
      show (bif !(ndl' (a.getD i nn') (b.getD i nn')) then _ else _) = _
      cases ndl' (a.getD i nn') (b.getD i nn') <;> rfl) (by
      show n0' a b (a.length : Int) (a.length : Int) = _
      unfold n0'
      simp only [decide_eq_false (Int.lt_irrefl (a.length : Int)), cond_false]) a.length 0 (by omega)) (by unfold ng' at ha; omega)
    rw [ndh' ndl' nna' nn' hl] at h
    rw [show nbq' ((a, b, (a.length : Int), (0 : Int), ()), ()) = _ from h]
    cases eqL a b <;> rfl
  · rw [(ne8' a b).2 hl, ncx' hl]; rfl
def niz' (x y : Duty) : Bool := ((x.Floor == y.Floor) && ((x.Dir == y.Dir) && ((x.Age == y.Age) && true)))
theorem nse' (x y : Duty) : niz' x y = true ↔ x = y := by
  cases x; cases y
  simp [niz']
def n1' : Duty := Duty.mk 0 0 0
theorem nqt' {a b : List Duty} (ha : a.length ≤ ng') : nck' a b = some ((eqL a b, ()), ()) := by
  unfold nck'
  by_cases hl : a.length = b.length
  · rw [show (((a.length : Nat) : Int) != ((b.length : Nat) : Int)) = false by simp [hl], cond_false]
    have h := nf' (nbb' (step := fun x => nbm' x.1.1 x.1.2.1 x.1.2.2.1 x.1.2.2.2.1) a.length (fun i => ((a, b, (a.length : Int), (i : Int), ()), ())) (fun i => niz' (a.getD i n1') (b.getD i n1')) (Sum.inl ((), ())) (Sum.inr ((false, ()), ())) (fun i hi => by
      show nbm' a b (a.length : Int) (i : Int) = _
      unfold nbm'
      simp only [decide_eq_true (show (i : Int) < (a.length : Int) by omega), nc' (show (0 : Int) ≤ (i : Int) by omega) (show (i : Int) < (a.length : Int) by omega), nc' (show (0 : Int) ≤ (i : Int) by omega) (show (i : Int) < (b.length : Int) by omega), cond_true, Int.toNat_natCast, wrap1 hi ha]
      show (bif !(niz' (a.getD i n1') (b.getD i n1')) then _ else _) = _
      cases niz' (a.getD i n1') (b.getD i n1') <;> rfl) (by
      show nbm' a b (a.length : Int) (a.length : Int) = _
      unfold nbm'
      simp only [decide_eq_false (Int.lt_irrefl (a.length : Int)), cond_false]) a.length 0 (by omega)) (by unfold ng' at ha; omega)
    rw [ndh' niz' nse' n1' hl] at h
    rw [show nce' ((a, b, (a.length : Int), (0 : Int), ()), ()) = _ from h]
    cases eqL a b <;> rfl
  · rw [(ne8' a b).2 hl, ncx' hl]; rfl
def nf2' (x y : NewCar) : Bool := ((x.Sweep_Dir == y.Sweep_Dir) && ((x.Sweep_Opened == y.Sweep_Opened) && ((x.Door_Stage == y.Door_Stage) && ((x.Door_Time == y.Door_Time) && ((x.Door_Since == y.Door_Since) && ((x.Door_Nudge == y.Door_Nudge) && ((x.Door_Cycles == y.Door_Cycles) && ((x.Motion_Command == y.Motion_Command) && ((x.Motion_Time == y.Motion_Time) && ((x.Motion_Floor == y.Motion_Floor) && ((x.Calls == y.Calls) && ((x.Shown == y.Shown) && ((x.Idle == y.Idle) && ((x.Fault == y.Fault) && true))))))))))))))
theorem np9' (x y : NewCar) : nf2' x y = true ↔ x = y := by
  cases x; cases y
  simp [nf2']
def noNewCar : NewCar := NewCar.mk 0 0 0 0 0 false 0 0 0 0 0 0 0 false
theorem no5' {a b : List NewCar} (ha : a.length ≤ ng') : nb6' a b = some ((eqL a b, ()), ()) := by
  unfold nb6'
  by_cases hl : a.length = b.length
  · rw [show (((a.length : Nat) : Int) != ((b.length : Nat) : Int)) = false by simp [hl], cond_false]
    have h := nf' (nbb' (step := fun x => n8' x.1.1 x.1.2.1 x.1.2.2.1 x.1.2.2.2.1) a.length (fun i => ((a, b, (a.length : Int), (i : Int), ()), ())) (fun i => nf2' (a.getD i noNewCar) (b.getD i noNewCar)) (Sum.inl ((), ())) (Sum.inr ((false, ()), ())) (fun i hi => by
      show n8' a b (a.length : Int) (i : Int) = _
      unfold n8'
      simp only [decide_eq_true (show (i : Int) < (a.length : Int) by omega), nc' (show (0 : Int) ≤ (i : Int) by omega) (show (i : Int) < (a.length : Int) by omega), nc' (show (0 : Int) ≤ (i : Int) by omega) (show (i : Int) < (b.length : Int) by omega), cond_true, Int.toNat_natCast, wrap1 hi ha]
      show (bif !(nf2' (a.getD i noNewCar) (b.getD i noNewCar)) then _ else _) = _
      cases nf2' (a.getD i noNewCar) (b.getD i noNewCar) <;> rfl) (by
      show n8' a b (a.length : Int) (a.length : Int) = _
      unfold n8'
      simp only [decide_eq_false (Int.lt_irrefl (a.length : Int)), cond_false]) a.length 0 (by omega)) (by unfold ng' at ha; omega)
    rw [ndh' nf2' np9' noNewCar hl] at h
    rw [show nbz' ((a, b, (a.length : Int), (0 : Int), ()), ()) = _ from h]
    cases eqL a b <;> rfl
  · rw [(ne8' a b).2 hl, ncx' hl]; rfl
def nfx' (x y : Loaded) : Bool := ((x.Class == y.Class) && true)
theorem npr' (x y : Loaded) : nfx' x y = true ↔ x = y := by
  cases x; cases y
  simp [nfx']
def n3' : Loaded := Loaded.mk 0
theorem no6' {a b : List Loaded} (ha : a.length ≤ ng') : nb8' a b = some ((eqL a b, ()), ()) := by
  unfold nb8'
  by_cases hl : a.length = b.length
  · rw [show (((a.length : Nat) : Int) != ((b.length : Nat) : Int)) = false by simp [hl], cond_false]
    have h := nf' (nbb' (step := fun x => n7' x.1.1 x.1.2.1 x.1.2.2.1 x.1.2.2.2.1) a.length (fun i => ((a, b, (a.length : Int), (i : Int), ()), ())) (fun i => nfx' (a.getD i n3') (b.getD i n3')) (Sum.inl ((), ())) (Sum.inr ((false, ()), ())) (fun i hi => by
      show n7' a b (a.length : Int) (i : Int) = _
      unfold n7'
      simp only [decide_eq_true (show (i : Int) < (a.length : Int) by omega), nc' (show (0 : Int) ≤ (i : Int) by omega) (show (i : Int) < (a.length : Int) by omega), nc' (show (0 : Int) ≤ (i : Int) by omega) (show (i : Int) < (b.length : Int) by omega), cond_true, Int.toNat_natCast, wrap1 hi ha]
      show (bif !(nfx' (a.getD i n3') (b.getD i n3')) then _ else _) = _
      cases nfx' (a.getD i n3') (b.getD i n3') <;> rfl) (by
      show n7' a b (a.length : Int) (a.length : Int) = _
      unfold n7'
      simp only [decide_eq_false (Int.lt_irrefl (a.length : Int)), cond_false]) a.length 0 (by omega)) (by unfold ng' at ha; omega)
    rw [ndh' nfx' npr' n3' hl] at h
    rw [show nby' ((a, b, (a.length : Int), (0 : Int), ()), ()) = _ from h]
    cases eqL a b <;> rfl
  · rw [(ne8' a b).2 hl, ncx' hl]; rfl
def nhr' (x y : Calls) : Bool := ((x.Up == y.Up) && ((x.Down == y.Down) && true))
theorem nrd' (x y : Calls) : nhr' x y = true ↔ x = y := by
  cases x; cases y
  simp [nhr']
def ncw' : Calls := Calls.mk 0 0
theorem npt' {a b : List Calls} (ha : a.length ≤ ng') : ncf' a b = some ((eqL a b, ()), ()) := by
  unfold ncf'
  by_cases hl : a.length = b.length
  · rw [show (((a.length : Nat) : Int) != ((b.length : Nat) : Int)) = false by simp [hl], cond_false]
    have h := nf' (nbb' (step := fun x => nbe' x.1.1 x.1.2.1 x.1.2.2.1 x.1.2.2.2.1) a.length (fun i => ((a, b, (a.length : Int), (i : Int), ()), ())) (fun i => nhr' (a.getD i ncw') (b.getD i ncw')) (Sum.inl ((), ())) (Sum.inr ((false, ()), ())) (fun i hi => by
      show nbe' a b (a.length : Int) (i : Int) = _
      unfold nbe'
      simp only [decide_eq_true (show (i : Int) < (a.length : Int) by omega), nc' (show (0 : Int) ≤ (i : Int) by omega) (show (i : Int) < (a.length : Int) by omega), nc' (show (0 : Int) ≤ (i : Int) by omega) (show (i : Int) < (b.length : Int) by omega), cond_true, Int.toNat_natCast, wrap1 hi ha]
      show (bif !(nhr' (a.getD i ncw') (b.getD i ncw')) then _ else _) = _
      cases nhr' (a.getD i ncw') (b.getD i ncw') <;> rfl) (by
      show nbe' a b (a.length : Int) (a.length : Int) = _
      unfold nbe'
      simp only [decide_eq_false (Int.lt_irrefl (a.length : Int)), cond_false]) a.length 0 (by omega)) (by unfold ng' at ha; omega)
    rw [ndh' nhr' nrd' ncw' hl] at h
    rw [show nb9' ((a, b, (a.length : Int), (0 : Int), ()), ()) = _ from h]
    cases eqL a b <;> rfl
  · rw [(ne8' a b).2 hl, ncx' hl]; rfl
theorem nr1' {a b : List Calls} (ha : a.length ≤ ng') : nhz' a b = some ((eqL a b, ()), ()) := by
  unfold nhz'
  by_cases hl : a.length = b.length
  · rw [show (((a.length : Nat) : Int) != ((b.length : Nat) : Int)) = false by simp [hl], cond_false]
    have h := nf' (nbb' (step := fun x => ndy' x.1.1 x.1.2.1 x.1.2.2.1) a.length (fun i => ((a, b, (i : Int), ()), ())) (fun i => nhr' (a.getD i ncw') (b.getD i ncw')) (Sum.inl ((), ())) (Sum.inr ((false, ()), ())) (fun i hi => by
      show ndy' a b (i : Int) = _
      unfold ndy'
      simp only [decide_eq_true (show (i : Int) < (a.length : Int) by omega), nc' (show (0 : Int) ≤ (i : Int) by omega) (show (i : Int) < (a.length : Int) by omega), nc' (show (0 : Int) ≤ (i : Int) by omega) (show (i : Int) < (b.length : Int) by omega), cond_true, Int.toNat_natCast, wrap1 hi ha]
      show (bif !(nhr' (a.getD i ncw') (b.getD i ncw')) then _ else _) = _
      cases nhr' (a.getD i ncw') (b.getD i ncw') <;> rfl) (by
      show ndy' a b (a.length : Int) = _
      unfold ndy'
      simp only [decide_eq_false (Int.lt_irrefl (a.length : Int)), cond_false]) a.length 0 (by omega)) (by unfold ng' at ha; omega)
    rw [ndh' nhr' nrd' ncw' hl] at h
    rw [show nf5' ((a, b, (0 : Int), ()), ()) = _ from h]
    cases eqL a b <;> rfl
  · rw [(ne8' a b).2 hl, ncx' hl]; rfl
def eqInt (x y : Int) : Bool := x == y
theorem n1w' (x y : Int) : eqInt x y = true ↔ x = y := beq_iff_eq
theorem ns2' {a b : List Int} (ha : a.length ≤ ng') : nir' a b = some ((eqL a b, ()), ()) := by
  unfold nir'
  by_cases hl : a.length = b.length
  · rw [show (((a.length : Nat) : Int) != ((b.length : Nat) : Int)) = false by simp [hl], cond_false]
    have h := nf' (nbb' (step := fun x => nec' x.1.1 x.1.2.1 x.1.2.2.1) a.length (fun i => ((a, b, (i : Int), ()), ())) (fun i => eqInt (a.getD i 0) (b.getD i 0)) (Sum.inl ((), ())) (Sum.inr ((false, ()), ())) (fun i hi => by
      show nec' a b (i : Int) = _
      unfold nec'
      simp only [decide_eq_true (show (i : Int) < (a.length : Int) by omega), nc' (show (0 : Int) ≤ (i : Int) by omega) (show (i : Int) < (a.length : Int) by omega), nc' (show (0 : Int) ≤ (i : Int) by omega) (show (i : Int) < (b.length : Int) by omega), cond_true, Int.toNat_natCast, wrap1 hi ha]
      show (bif !(eqInt (a.getD i 0) (b.getD i 0)) then _ else _) = _
      cases eqInt (a.getD i 0) (b.getD i 0) <;> rfl) (by
      show nec' a b (a.length : Int) = _
      unfold nec'
      simp only [decide_eq_false (Int.lt_irrefl (a.length : Int)), cond_false]) a.length 0 (by omega)) (by unfold ng' at ha; omega)
    rw [ndh' eqInt n1w' 0 hl] at h
    rw [show ngz' ((a, b, (0 : Int), ()), ()) = _ from h]
    cases eqL a b <;> rfl
  · rw [(ne8' a b).2 hl, ncx' hl]; rfl
noncomputable def eqBel (x y : Belief) : Bool := (x.Floor == y.Floor) && ((x.Dir == y.Dir) && ((x.Door == y.Door) && (eqL x.Duties y.Duties && ((x.Still == y.Still) && (x.Late == y.Late)))))
theorem nvp' (x y : Belief) : eqBel x y = true ↔ x = y := by
  cases x; cases y
  simp [eqBel, n4v']
def noBel : Belief := Belief.mk 0 0 0 [] 0 false
theorem nt4' (x y : Belief) (hd : x.Duties.length ≤ ng') : njd' x.Floor x.Dir x.Door x.Duties x.Still x.Late y.Floor y.Dir y.Door y.Duties y.Still y.Late = some ((eqBel x y, ()), ()) := by
  unfold njd' eqBel
  rw [nqt' hd]
  cases x.Floor == y.Floor
  · rfl
  cases x.Dir == y.Dir
  · rfl
  cases x.Door == y.Door
  · rfl
  cases eqL x.Duties y.Duties
  · rfl
  cases x.Still == y.Still <;> rfl
def Belief.tup (x : Belief) : Int × Int × Int × List Duty × Int × Bool × Unit := (x.Floor, x.Dir, x.Door, x.Duties, x.Still, x.Late, ())
theorem nv1' (x y : Belief) (hd : x.Duties.length ≤ ng') (hl : x.Duties.length = y.Duties.length) : nkp' (((), (), (0 : Int), ()), (x.tup, y.tup, ())) = some (bif eqL x.Duties y.Duties then .inl ((), ()) else .inr ((false, ()), ())) := by
  have h := nf' (nbb' (step := fun x => ngb' x.1.2.2.1 x.2.1.1 x.2.1.2.1 x.2.1.2.2.1 x.2.1.2.2.2.1 x.2.1.2.2.2.2.1 x.2.1.2.2.2.2.2.1 x.2.2.1.1 x.2.2.1.2.1 x.2.2.1.2.2.1 x.2.2.1.2.2.2.1 x.2.2.1.2.2.2.2.1 x.2.2.1.2.2.2.2.2.1) x.Duties.length (fun i => (((), (), (i : Int), ()), (x.tup, y.tup, ()))) (fun i => niz' (x.Duties.getD i n1') (y.Duties.getD i n1')) (Sum.inl ((), ())) (Sum.inr ((false, ()), ())) (fun i hi => by
    show ngb' (i : Int) x.Floor x.Dir x.Door x.Duties x.Still x.Late y.Floor y.Dir y.Door y.Duties y.Still y.Late = _
    unfold ngb'
    simp only [decide_eq_true (show (i : Int) < (x.Duties.length : Int) by omega), nc' (show (0 : Int) ≤ (i : Int) by omega) (show (i : Int) < (x.Duties.length : Int) by omega), nc' (show (0 : Int) ≤ (i : Int) by omega) (show (i : Int) < (y.Duties.length : Int) by omega), cond_true, Int.toNat_natCast, wrap1 hi hd]
    show (bif !(niz' (x.Duties.getD i n1') (y.Duties.getD i n1')) then _ else _) = _
    cases niz' (x.Duties.getD i n1') (y.Duties.getD i n1') <;> rfl) (by
    show ngb' (x.Duties.length : Int) x.Floor x.Dir x.Door x.Duties x.Still x.Late y.Floor y.Dir y.Door y.Duties y.Still y.Late = _
    unfold ngb'
    simp only [decide_eq_false (Int.lt_irrefl (x.Duties.length : Int)), cond_false]) x.Duties.length 0 (by omega)) (by unfold ng' at hd; omega)
  rw [ndh' niz' nse' n1' hl] at h
  exact h
theorem nyg' (x y : Belief) (hd : x.Duties.length ≤ ng') : nl7' x.Floor x.Dir x.Door x.Duties x.Still x.Late y.Floor y.Dir y.Door y.Duties y.Still y.Late = some ((eqBel x y, ()), ()) := by
  unfold nl7' eqBel
  simp only [bne]
  cases x.Floor == y.Floor
  · rfl
  cases x.Dir == y.Dir
  · rfl
  cases x.Door == y.Door
  · rfl
  simp only [Bool.not_true, cond_false, Bool.true_and]
  cases x.Still == y.Still
  · simp
  cases x.Late == y.Late
  · simp
  simp only [Bool.not_true, cond_false, Bool.and_true]
  by_cases hl : x.Duties.length = y.Duties.length
  · have h := nv1' x y hd hl
    simp only [Belief.tup] at h
    rw [show (((x.Duties.length : Nat) : Int) == ((y.Duties.length : Nat) : Int)) = true by simp [hl], Bool.not_true, cond_false, h]
    cases eqL x.Duties y.Duties <;> rfl
  · rw [show (((x.Duties.length : Nat) : Int) == ((y.Duties.length : Nat) : Int)) = false by simp; omega, ncx' hl]
    rfl
theorem nxm' {a b : List Belief} (ha : a.length ≤ ng') (hd : ∀ x ∈ a, x.Duties.length ≤ ng') : np' a b = some ((eqL a b, ()), ()) := by
  unfold np'
  by_cases hl : a.length = b.length
  · rw [show (((a.length : Nat) : Int) != ((b.length : Nat) : Int)) = false by simp [hl], cond_false]
    have h := nf' (nbb' (step := fun x => ne' x.1.1 x.1.2.2.1 x.1.2.2.2.1 x.1.2.2.2.2.1) a.length (fun i => ((b, (), a, (a.length : Int), (i : Int), ()), ())) (fun i => eqBel (a.getD i noBel) (b.getD i noBel)) (Sum.inl ((), ())) (Sum.inr ((false, ()), ())) (fun i hi => by
      show ne' b a (a.length : Int) (i : Int) = _
      have hs := nt4' (a.getD i noBel) (b.getD i noBel) (hd _ (List.mem_of_getElem? (i := i) (by simp [List.getD_eq_getElem?_getD, hi])))
      unfold noBel at hs
      unfold ne'
      simp only [decide_eq_true (show (i : Int) < (a.length : Int) by omega), nc' (show (0 : Int) ≤ (i : Int) by omega) (show (i : Int) < (a.length : Int) by omega), nc' (show (0 : Int) ≤ (i : Int) by omega) (show (i : Int) < (b.length : Int) by omega), cond_true, Int.toNat_natCast, hs, Option.bind_some, wrap1 hi ha]
      show (bif !(eqBel (a.getD i noBel) (b.getD i noBel)) then _ else _) = _
      cases eqBel (a.getD i noBel) (b.getD i noBel) <;> rfl) (by
      show ne' b a (a.length : Int) (a.length : Int) = _
      unfold ne'
      simp only [decide_eq_false (Int.lt_irrefl (a.length : Int)), cond_false]) a.length 0 (by omega)) (by unfold ng' at ha; omega)
    rw [ndh' eqBel nvp' noBel hl] at h
    rw [show no' ((b, (), a, (a.length : Int), (0 : Int), ()), ()) = _ from h]
    cases eqL a b <;> rfl
  · rw [(ne8' a b).2 hl, ncx' hl]; rfl
structure Mch where
  Image : Img
  Store : Sto
  Contacts : List Debounced
  Beliefs : List Belief
  Cars : List NewCar
  Loads : List Loaded
  Expect : List Int
  Lit : List Calls
  Tick : Int
  Faults : Int
  Refused : Int
def Mch.tup (m : Mch) : List Int × List Bool × List Bool × List Entry × ByteArray × ByteArray × Int × List Debounced × List Belief × List NewCar × List Loaded × List Int × List Calls × Int × Int × Int × Unit := (m.Image.Phases, m.Image.Flags, m.Image.Leaving, m.Image.Entries, m.Store.h0, m.Store.h1, m.Store.sel, m.Contacts, m.Beliefs, m.Cars, m.Loads, m.Expect, m.Lit, m.Tick, m.Faults, m.Refused, ())
structure Mch.fit (m : Mch) : Prop where
  im : m.Image.fit
  co : m.Contacts.length ≤ 100000
  be : m.Beliefs.length ≤ 100000
  du : ∀ x ∈ m.Beliefs, x.Duties.length ≤ 100000
  ca : m.Cars.length ≤ 100000
  lo : m.Loads.length ≤ 100000
  ex : m.Expect.length ≤ 100000
  li : m.Lit.length ≤ 100000
def sameS (a c : Sto) : Bool := eqB a.h0 c.h0 && (eqB a.h1 c.h1 && ((a.sel == c.sel) && true))
theorem nzw' (a : Sto) : sameS a a = true := by unfold sameS; simp [n38']
noncomputable def sameM (a c : Mch) : Bool :=
  sameI a.Image c.Image && (sameS a.Store c.Store && (eqL a.Contacts c.Contacts && (eqL a.Beliefs c.Beliefs && (eqL a.Cars c.Cars && (eqL a.Loads c.Loads && (eqL a.Lit c.Lit && (eqL a.Expect c.Expect && ((a.Tick == c.Tick) && ((a.Faults == c.Faults) && (a.Refused == c.Refused))))))))))
theorem nsg' (a : Mch) : sameM a a = true := by unfold sameM; simp [nxr', nz0', nzw']
section
variable {a c : Mch} (ha : a.fit)
include ha
theorem nt5' (hl : a.Contacts.length = c.Contacts.length) : nkd' (((), (), (0 : Int), ()), (a.tup, c.tup, ())) = some (bif eqL a.Contacts c.Contacts then .inl (((), (), ()), (a.tup, c.tup, ())) else .inr ((false, ()), ())) := by
  have hl0 := ha.co
  have h5 : 100000 ≤ ng' := by decide
  have h := nf' (nbb' (step := fun x => nga' x.1.2.2.1 x.2.1.1 x.2.1.2.1 x.2.1.2.2.1 x.2.1.2.2.2.1 x.2.1.2.2.2.2.1 x.2.1.2.2.2.2.2.1 x.2.1.2.2.2.2.2.2.1 x.2.1.2.2.2.2.2.2.2.1 x.2.1.2.2.2.2.2.2.2.2.1 x.2.1.2.2.2.2.2.2.2.2.2.1 x.2.1.2.2.2.2.2.2.2.2.2.2.1 x.2.1.2.2.2.2.2.2.2.2.2.2.2.1 x.2.1.2.2.2.2.2.2.2.2.2.2.2.2.1 x.2.1.2.2.2.2.2.2.2.2.2.2.2.2.2.1 x.2.1.2.2.2.2.2.2.2.2.2.2.2.2.2.2.1 x.2.1.2.2.2.2.2.2.2.2.2.2.2.2.2.2.2.1 x.2.2.1.1 x.2.2.1.2.1 x.2.2.1.2.2.1 x.2.2.1.2.2.2.1 x.2.2.1.2.2.2.2.1 x.2.2.1.2.2.2.2.2.1 x.2.2.1.2.2.2.2.2.2.1 x.2.2.1.2.2.2.2.2.2.2.1 x.2.2.1.2.2.2.2.2.2.2.2.1 x.2.2.1.2.2.2.2.2.2.2.2.2.1 x.2.2.1.2.2.2.2.2.2.2.2.2.2.1 x.2.2.1.2.2.2.2.2.2.2.2.2.2.2.1 x.2.2.1.2.2.2.2.2.2.2.2.2.2.2.2.1 x.2.2.1.2.2.2.2.2.2.2.2.2.2.2.2.2.1 x.2.2.1.2.2.2.2.2.2.2.2.2.2.2.2.2.2.1 x.2.2.1.2.2.2.2.2.2.2.2.2.2.2.2.2.2.2.1) a.Contacts.length (fun i => (((), (), (i : Int), ()), (a.tup, c.tup, ()))) (fun i => ndl' (a.Contacts.getD i nn') (c.Contacts.getD i nn')) (Sum.inl (((), (), ()), (a.tup, c.tup, ()))) (Sum.inr ((false, ()), ())) (fun i hi => by
    show nga' (i : Int) a.Image.Phases a.Image.Flags a.Image.Leaving a.Image.Entries a.Store.h0 a.Store.h1 a.Store.sel a.Contacts a.Beliefs a.Cars a.Loads a.Expect a.Lit a.Tick a.Faults a.Refused c.Image.Phases c.Image.Flags c.Image.Leaving c.Image.Entries c.Store.h0 c.Store.h1 c.Store.sel c.Contacts c.Beliefs c.Cars c.Loads c.Expect c.Lit c.Tick c.Faults c.Refused = _
    unfold nga'
    simp only [decide_eq_true (show (i : Int) < (a.Contacts.length : Int) by omega), nc' (show (0 : Int) ≤ (i : Int) by omega) (show (i : Int) < (a.Contacts.length : Int) by omega), nc' (show (0 : Int) ≤ (i : Int) by omega) (show (i : Int) < (c.Contacts.length : Int) by omega), cond_true, Int.toNat_natCast, wrap1 hi (show a.Contacts.length ≤ ng' by omega)]
    show (bif !(ndl' (a.Contacts.getD i nn') (c.Contacts.getD i nn')) then _ else _) = _
    cases ndl' (a.Contacts.getD i nn') (c.Contacts.getD i nn') <;> rfl) (by
    show nga' (a.Contacts.length : Int) a.Image.Phases a.Image.Flags a.Image.Leaving a.Image.Entries a.Store.h0 a.Store.h1 a.Store.sel a.Contacts a.Beliefs a.Cars a.Loads a.Expect a.Lit a.Tick a.Faults a.Refused c.Image.Phases c.Image.Flags c.Image.Leaving c.Image.Entries c.Store.h0 c.Store.h1 c.Store.sel c.Contacts c.Beliefs c.Cars c.Loads c.Expect c.Lit c.Tick c.Faults c.Refused = _
    unfold nga'
    simp only [decide_eq_false (Int.lt_irrefl (a.Contacts.length : Int)), cond_false]; rfl) a.Contacts.length 0 (by omega)) (by omega)
  rw [ndh' ndl' nna' nn' hl] at h
  exact h
theorem ntz' (hl : a.Beliefs.length = c.Beliefs.length) : nki' (((), (), (0 : Int), ()), (a.tup, c.tup, ())) = some (bif eqL a.Beliefs c.Beliefs then .inl (((), (), ()), (a.tup, c.tup, ())) else .inr ((false, ()), ())) := by
  have hl0 := ha.be
  have h5 : 100000 ≤ ng' := by decide
  have h := nf' (nbb' (step := fun x => ngs' x.1.2.2.1 x.2.1.1 x.2.1.2.1 x.2.1.2.2.1 x.2.1.2.2.2.1 x.2.1.2.2.2.2.1 x.2.1.2.2.2.2.2.1 x.2.1.2.2.2.2.2.2.1 x.2.1.2.2.2.2.2.2.2.1 x.2.1.2.2.2.2.2.2.2.2.1 x.2.1.2.2.2.2.2.2.2.2.2.1 x.2.1.2.2.2.2.2.2.2.2.2.2.1 x.2.1.2.2.2.2.2.2.2.2.2.2.2.1 x.2.1.2.2.2.2.2.2.2.2.2.2.2.2.1 x.2.1.2.2.2.2.2.2.2.2.2.2.2.2.2.1 x.2.1.2.2.2.2.2.2.2.2.2.2.2.2.2.2.1 x.2.1.2.2.2.2.2.2.2.2.2.2.2.2.2.2.2.1 x.2.2.1.1 x.2.2.1.2.1 x.2.2.1.2.2.1 x.2.2.1.2.2.2.1 x.2.2.1.2.2.2.2.1 x.2.2.1.2.2.2.2.2.1 x.2.2.1.2.2.2.2.2.2.1 x.2.2.1.2.2.2.2.2.2.2.1 x.2.2.1.2.2.2.2.2.2.2.2.1 x.2.2.1.2.2.2.2.2.2.2.2.2.1 x.2.2.1.2.2.2.2.2.2.2.2.2.2.1 x.2.2.1.2.2.2.2.2.2.2.2.2.2.2.1 x.2.2.1.2.2.2.2.2.2.2.2.2.2.2.2.1 x.2.2.1.2.2.2.2.2.2.2.2.2.2.2.2.2.1 x.2.2.1.2.2.2.2.2.2.2.2.2.2.2.2.2.2.1 x.2.2.1.2.2.2.2.2.2.2.2.2.2.2.2.2.2.2.1) a.Beliefs.length (fun i => (((), (), (i : Int), ()), (a.tup, c.tup, ()))) (fun i => eqBel (a.Beliefs.getD i noBel) (c.Beliefs.getD i noBel)) (Sum.inl (((), (), ()), (a.tup, c.tup, ()))) (Sum.inr ((false, ()), ())) (fun i hi => by
    show ngs' (i : Int) a.Image.Phases a.Image.Flags a.Image.Leaving a.Image.Entries a.Store.h0 a.Store.h1 a.Store.sel a.Contacts a.Beliefs a.Cars a.Loads a.Expect a.Lit a.Tick a.Faults a.Refused c.Image.Phases c.Image.Flags c.Image.Leaving c.Image.Entries c.Store.h0 c.Store.h1 c.Store.sel c.Contacts c.Beliefs c.Cars c.Loads c.Expect c.Lit c.Tick c.Faults c.Refused = _
    have hs := nyg' (a.Beliefs.getD i noBel) (c.Beliefs.getD i noBel) (by
      have := ha.du _ (List.mem_of_getElem? (l := a.Beliefs) (i := i) (a := a.Beliefs.getD i noBel) (by simp [List.getD_eq_getElem?_getD, hi]))
      omega)
    unfold noBel at hs
    unfold ngs'
    simp only [decide_eq_true (show (i : Int) < (a.Beliefs.length : Int) by omega), nc' (show (0 : Int) ≤ (i : Int) by omega) (show (i : Int) < (a.Beliefs.length : Int) by omega), nc' (show (0 : Int) ≤ (i : Int) by omega) (show (i : Int) < (c.Beliefs.length : Int) by omega), cond_true, Int.toNat_natCast, wrap1 hi (show a.Beliefs.length ≤ ng' by omega), hs, Option.bind_some]
    show (bif !(eqBel (a.Beliefs.getD i noBel) (c.Beliefs.getD i noBel)) then _ else _) = _
    cases eqBel (a.Beliefs.getD i noBel) (c.Beliefs.getD i noBel) <;> rfl) (by
    show ngs' (a.Beliefs.length : Int) a.Image.Phases a.Image.Flags a.Image.Leaving a.Image.Entries a.Store.h0 a.Store.h1 a.Store.sel a.Contacts a.Beliefs a.Cars a.Loads a.Expect a.Lit a.Tick a.Faults a.Refused c.Image.Phases c.Image.Flags c.Image.Leaving c.Image.Entries c.Store.h0 c.Store.h1 c.Store.sel c.Contacts c.Beliefs c.Cars c.Loads c.Expect c.Lit c.Tick c.Faults c.Refused = _
    unfold ngs'
    simp only [decide_eq_false (Int.lt_irrefl (a.Beliefs.length : Int)), cond_false]; rfl) a.Beliefs.length 0 (by omega)) (by omega)
  rw [ndh' eqBel nvp' noBel hl] at h
  exact h
theorem nub' (hl : a.Cars.length = c.Cars.length) : nkg' (((), (), (0 : Int), ()), (a.tup, c.tup, ())) = some (bif eqL a.Cars c.Cars then .inl (((), (), ()), (a.tup, c.tup, ())) else .inr ((false, ()), ())) := by
  have hl0 := ha.ca
  have h5 : 100000 ≤ ng' := by decide
  have h := nf' (nbb' (step := fun x => ngg' x.1.2.2.1 x.2.1.1 x.2.1.2.1 x.2.1.2.2.1 x.2.1.2.2.2.1 x.2.1.2.2.2.2.1 x.2.1.2.2.2.2.2.1 x.2.1.2.2.2.2.2.2.1 x.2.1.2.2.2.2.2.2.2.1 x.2.1.2.2.2.2.2.2.2.2.1 x.2.1.2.2.2.2.2.2.2.2.2.1 x.2.1.2.2.2.2.2.2.2.2.2.2.1 x.2.1.2.2.2.2.2.2.2.2.2.2.2.1 x.2.1.2.2.2.2.2.2.2.2.2.2.2.2.1 x.2.1.2.2.2.2.2.2.2.2.2.2.2.2.2.1 x.2.1.2.2.2.2.2.2.2.2.2.2.2.2.2.2.1 x.2.1.2.2.2.2.2.2.2.2.2.2.2.2.2.2.2.1 x.2.2.1.1 x.2.2.1.2.1 x.2.2.1.2.2.1 x.2.2.1.2.2.2.1 x.2.2.1.2.2.2.2.1 x.2.2.1.2.2.2.2.2.1 x.2.2.1.2.2.2.2.2.2.1 x.2.2.1.2.2.2.2.2.2.2.1 x.2.2.1.2.2.2.2.2.2.2.2.1 x.2.2.1.2.2.2.2.2.2.2.2.2.1 x.2.2.1.2.2.2.2.2.2.2.2.2.2.1 x.2.2.1.2.2.2.2.2.2.2.2.2.2.2.1 x.2.2.1.2.2.2.2.2.2.2.2.2.2.2.2.1 x.2.2.1.2.2.2.2.2.2.2.2.2.2.2.2.2.1 x.2.2.1.2.2.2.2.2.2.2.2.2.2.2.2.2.2.1 x.2.2.1.2.2.2.2.2.2.2.2.2.2.2.2.2.2.2.1) a.Cars.length (fun i => (((), (), (i : Int), ()), (a.tup, c.tup, ()))) (fun i => nf2' (a.Cars.getD i noNewCar) (c.Cars.getD i noNewCar)) (Sum.inl (((), (), ()), (a.tup, c.tup, ()))) (Sum.inr ((false, ()), ())) (fun i hi => by
    show ngg' (i : Int) a.Image.Phases a.Image.Flags a.Image.Leaving a.Image.Entries a.Store.h0 a.Store.h1 a.Store.sel a.Contacts a.Beliefs a.Cars a.Loads a.Expect a.Lit a.Tick a.Faults a.Refused c.Image.Phases c.Image.Flags c.Image.Leaving c.Image.Entries c.Store.h0 c.Store.h1 c.Store.sel c.Contacts c.Beliefs c.Cars c.Loads c.Expect c.Lit c.Tick c.Faults c.Refused = _
    unfold ngg'
    simp only [decide_eq_true (show (i : Int) < (a.Cars.length : Int) by omega), nc' (show (0 : Int) ≤ (i : Int) by omega) (show (i : Int) < (a.Cars.length : Int) by omega), nc' (show (0 : Int) ≤ (i : Int) by omega) (show (i : Int) < (c.Cars.length : Int) by omega), cond_true, Int.toNat_natCast, wrap1 hi (show a.Cars.length ≤ ng' by omega)]
    show (bif !(nf2' (a.Cars.getD i noNewCar) (c.Cars.getD i noNewCar)) then _ else _) = _
    cases nf2' (a.Cars.getD i noNewCar) (c.Cars.getD i noNewCar) <;> rfl) (by
    show ngg' (a.Cars.length : Int) a.Image.Phases a.Image.Flags a.Image.Leaving a.Image.Entries a.Store.h0 a.Store.h1 a.Store.sel a.Contacts a.Beliefs a.Cars a.Loads a.Expect a.Lit a.Tick a.Faults a.Refused c.Image.Phases c.Image.Flags c.Image.Leaving c.Image.Entries c.Store.h0 c.Store.h1 c.Store.sel c.Contacts c.Beliefs c.Cars c.Loads c.Expect c.Lit c.Tick c.Faults c.Refused = _
    unfold ngg'
    simp only [decide_eq_false (Int.lt_irrefl (a.Cars.length : Int)), cond_false]; rfl) a.Cars.length 0 (by omega)) (by omega)
  rw [ndh' nf2' np9' noNewCar hl] at h
  exact h
theorem nt2' (hl : a.Loads.length = c.Loads.length) : nj0' (((), (), (0 : Int), ()), (a.tup, c.tup, ())) = some (bif eqL a.Loads c.Loads then .inl ((), ()) else .inr ((false, ()), ())) := by
  have hl0 := ha.lo
  have h5 : 100000 ≤ ng' := by decide
  have h := nf' (nbb' (step := fun x => ngl' x.1.2.2.1 x.2.1.1 x.2.1.2.1 x.2.1.2.2.1 x.2.1.2.2.2.1 x.2.1.2.2.2.2.1 x.2.1.2.2.2.2.2.1 x.2.1.2.2.2.2.2.2.1 x.2.1.2.2.2.2.2.2.2.1 x.2.1.2.2.2.2.2.2.2.2.1 x.2.1.2.2.2.2.2.2.2.2.2.1 x.2.1.2.2.2.2.2.2.2.2.2.2.1 x.2.1.2.2.2.2.2.2.2.2.2.2.2.1 x.2.1.2.2.2.2.2.2.2.2.2.2.2.2.1 x.2.1.2.2.2.2.2.2.2.2.2.2.2.2.2.1 x.2.1.2.2.2.2.2.2.2.2.2.2.2.2.2.2.1 x.2.1.2.2.2.2.2.2.2.2.2.2.2.2.2.2.2.1 x.2.2.1.1 x.2.2.1.2.1 x.2.2.1.2.2.1 x.2.2.1.2.2.2.1 x.2.2.1.2.2.2.2.1 x.2.2.1.2.2.2.2.2.1 x.2.2.1.2.2.2.2.2.2.1 x.2.2.1.2.2.2.2.2.2.2.1 x.2.2.1.2.2.2.2.2.2.2.2.1 x.2.2.1.2.2.2.2.2.2.2.2.2.1 x.2.2.1.2.2.2.2.2.2.2.2.2.2.1 x.2.2.1.2.2.2.2.2.2.2.2.2.2.2.1 x.2.2.1.2.2.2.2.2.2.2.2.2.2.2.2.1 x.2.2.1.2.2.2.2.2.2.2.2.2.2.2.2.2.1 x.2.2.1.2.2.2.2.2.2.2.2.2.2.2.2.2.2.1 x.2.2.1.2.2.2.2.2.2.2.2.2.2.2.2.2.2.2.1) a.Loads.length (fun i => (((), (), (i : Int), ()), (a.tup, c.tup, ()))) (fun i => nfx' (a.Loads.getD i n3') (c.Loads.getD i n3')) (Sum.inl ((), ())) (Sum.inr ((false, ()), ())) (fun i hi => by
    show ngl' (i : Int) a.Image.Phases a.Image.Flags a.Image.Leaving a.Image.Entries a.Store.h0 a.Store.h1 a.Store.sel a.Contacts a.Beliefs a.Cars a.Loads a.Expect a.Lit a.Tick a.Faults a.Refused c.Image.Phases c.Image.Flags c.Image.Leaving c.Image.Entries c.Store.h0 c.Store.h1 c.Store.sel c.Contacts c.Beliefs c.Cars c.Loads c.Expect c.Lit c.Tick c.Faults c.Refused = _
    unfold ngl'
    simp only [decide_eq_true (show (i : Int) < (a.Loads.length : Int) by omega), nc' (show (0 : Int) ≤ (i : Int) by omega) (show (i : Int) < (a.Loads.length : Int) by omega), nc' (show (0 : Int) ≤ (i : Int) by omega) (show (i : Int) < (c.Loads.length : Int) by omega), cond_true, Int.toNat_natCast, wrap1 hi (show a.Loads.length ≤ ng' by omega)]
    show (bif !(nfx' (a.Loads.getD i n3') (c.Loads.getD i n3')) then _ else _) = _
    cases nfx' (a.Loads.getD i n3') (c.Loads.getD i n3') <;> rfl) (by
    show ngl' (a.Loads.length : Int) a.Image.Phases a.Image.Flags a.Image.Leaving a.Image.Entries a.Store.h0 a.Store.h1 a.Store.sel a.Contacts a.Beliefs a.Cars a.Loads a.Expect a.Lit a.Tick a.Faults a.Refused c.Image.Phases c.Image.Flags c.Image.Leaving c.Image.Entries c.Store.h0 c.Store.h1 c.Store.sel c.Contacts c.Beliefs c.Cars c.Loads c.Expect c.Lit c.Tick c.Faults c.Refused = _
    unfold ngl'
    simp only [decide_eq_false (Int.lt_irrefl (a.Loads.length : Int)), cond_false]) a.Loads.length 0 (by omega)) (by omega)
  rw [ndh' nfx' npr' n3' hl] at h
  exact h
theorem nkm' : ncn' a.Image.Phases a.Image.Flags a.Image.Leaving a.Image.Entries a.Store.h0 a.Store.h1 a.Store.sel a.Contacts a.Beliefs a.Cars a.Loads a.Expect a.Lit a.Tick a.Faults a.Refused c.Image.Phases c.Image.Flags c.Image.Leaving c.Image.Entries c.Store.h0 c.Store.h1 c.Store.sel c.Contacts c.Beliefs c.Cars c.Loads c.Expect c.Lit c.Tick c.Faults c.Refused = some ((sameM a c, ()), ()) := by
  have h5 : 100000 ≤ ng' := by decide
  have hco := ha.co
  have hbe := ha.be
  have hca := ha.ca
  have hlo := ha.lo
  have hex := ha.ex
  have hli := ha.li
  unfold ncn' sameM sameS
  rw [nnq' (by omega), nxm' (by omega) (fun x hx => by have := ha.du x hx; omega), no5' (by omega), no6' (by omega), npt' (by omega)]
  have hi := nyw' ha.im (c := c.Image)
  simp only [Option.bind_some]
  cases eqL a.Contacts c.Contacts
  · simp
  simp only [cond_true]
  cases eqL a.Beliefs c.Beliefs
  · simp
  simp only [cond_true]
  cases eqL a.Cars c.Cars
  · simp
  simp only [cond_true]
  cases eqL a.Loads c.Loads
  · simp
  simp only [cond_true, Option.bind_some]
  cases eqL a.Lit c.Lit
  · simp
  simp only [cond_true, Option.bind_some, hi, nm1' (show a.Expect.length ≤ ng' by omega)]
  generalize (eqB a.Store.h0 c.Store.h0 && (eqB a.Store.h1 c.Store.h1 && ((a.Store.sel == c.Store.sel) && true))) = q
  cases sameI a.Image c.Image
  · simp
  cases q
  · simp
  cases eqL a.Expect c.Expect
  · simp
  cases a.Tick == c.Tick
  · simp
  cases a.Faults == c.Faults <;> simp
theorem nyd' : nit' a.Image.Phases a.Image.Flags a.Image.Leaving a.Image.Entries a.Store.h0 a.Store.h1 a.Store.sel a.Contacts a.Beliefs a.Cars a.Loads a.Expect a.Lit a.Tick a.Faults a.Refused c.Image.Phases c.Image.Flags c.Image.Leaving c.Image.Entries c.Store.h0 c.Store.h1 c.Store.sel c.Contacts c.Beliefs c.Cars c.Loads c.Expect c.Lit c.Tick c.Faults c.Refused = some ((sameM a c, ()), ()) := by
  have h5 : 100000 ≤ ng' := by decide
  have hex := ha.ex
  have hli := ha.li
  unfold nit' sameM sameS
  rw [nyo' ha.im (c := c.Image), nr1' (by omega), ns2' (by omega)]
  simp only [Option.bind_some, bne]
  generalize (eqB a.Store.h0 c.Store.h0 && (eqB a.Store.h1 c.Store.h1 && ((a.Store.sel == c.Store.sel) && true))) = q
  cases sameI a.Image c.Image
  · simp
  cases q
  · simp
  by_cases h0 : a.Contacts.length = c.Contacts.length
  · have l0 := nt5' ha (c := c) h0
    rw [show (((a.Contacts.length : Nat) : Int) == ((c.Contacts.length : Nat) : Int)) = true by simp [h0]]
    by_cases h1 : a.Beliefs.length = c.Beliefs.length
    · have l1 := ntz' ha (c := c) h1
      rw [show (((a.Beliefs.length : Nat) : Int) == ((c.Beliefs.length : Nat) : Int)) = true by simp [h1]]
      by_cases h2 : a.Cars.length = c.Cars.length
      · have l2 := nub' ha (c := c) h2
        rw [show (((a.Cars.length : Nat) : Int) == ((c.Cars.length : Nat) : Int)) = true by simp [h2]]
        by_cases h3 : a.Loads.length = c.Loads.length
        · have l3 := nt2' ha (c := c) h3
          rw [show (((a.Loads.length : Nat) : Int) == ((c.Loads.length : Nat) : Int)) = true by simp [h3]]
          simp only [Mch.tup] at l0 l1 l2 l3
          simp only [Bool.not_true, cond_false, Bool.true_and]
          cases eqL a.Lit c.Lit
          · simp
          cases eqL a.Expect c.Expect
          · simp
          cases a.Tick == c.Tick
          · simp
          cases a.Faults == c.Faults
          · simp
          cases a.Refused == c.Refused
          · simp
          simp only [Bool.not_true, cond_false, Bool.and_true, l0]
          cases eqL a.Contacts c.Contacts
          · rfl
          simp only [cond_true, Option.bind_some, Bool.true_and, l1]
          cases eqL a.Beliefs c.Beliefs
          · rfl
          simp only [cond_true, Option.bind_some, Bool.true_and, l2]
          cases eqL a.Cars c.Cars
          · rfl
          simp only [cond_true, Option.bind_some, Bool.true_and, l3]
          cases eqL a.Loads c.Loads <;> rfl
        · rw [show (((a.Loads.length : Nat) : Int) == ((c.Loads.length : Nat) : Int)) = false by simp; omega, ncx' h3]; simp
      · rw [show (((a.Cars.length : Nat) : Int) == ((c.Cars.length : Nat) : Int)) = false by simp; omega, ncx' h2]; simp
    · rw [show (((a.Beliefs.length : Nat) : Int) == ((c.Beliefs.length : Nat) : Int)) = false by simp; omega, ncx' h1]; simp
  · rw [show (((a.Contacts.length : Nat) : Int) == ((c.Contacts.length : Nat) : Int)) = false by simp; omega, ncx' h0]; simp
end
end Go.Ovl
