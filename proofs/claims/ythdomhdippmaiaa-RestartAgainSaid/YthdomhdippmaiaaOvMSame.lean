/- Layer 26: equal machines, the program's way and the reference's. -/
import Derived.Test.YthdomhdippmaiaaOvLog3
import Derived.Test.YthdomhdippmaiaaOvStoreP
namespace Go.Ovl
open Go Go.Ab
set_option maxRecDepth 100000
def nc0' (x y : Debounced) : Bool := ((x.Contacts_Floors == y.Contacts_Floors) && ((x.Contacts_Up == y.Contacts_Up) && ((x.Contacts_Down == y.Contacts_Down) && ((x.Contacts_Open == y.Contacts_Open) && ((x.Contacts_Closed == y.Contacts_Closed) && ((x.Count_0 == y.Count_0) && ((x.Count_1 == y.Count_1) && ((x.Count_2 == y.Count_2) && ((x.Count_3 == y.Count_3) && ((x.Count_4 == y.Count_4) && ((x.Count_5 == y.Count_5) && ((x.Count_6 == y.Count_6) && ((x.Count_7 == y.Count_7) && ((x.Count_8 == y.Count_8) && ((x.Count_9 == y.Count_9) && ((x.Count_10 == y.Count_10) && ((x.Count_11 == y.Count_11) && ((x.Count_12 == y.Count_12) && ((x.Count_13 == y.Count_13) && ((x.Count_14 == y.Count_14) && ((x.Count_15 == y.Count_15) && ((x.Count_16 == y.Count_16) && ((x.Count_17 == y.Count_17) && ((x.Count_18 == y.Count_18) && ((x.Count_19 == y.Count_19) && ((x.Count_20 == y.Count_20) && ((x.Count_21 == y.Count_21) && ((x.Count_22 == y.Count_22) && ((x.Count_23 == y.Count_23) && ((x.Count_24 == y.Count_24) && ((x.Count_25 == y.Count_25) && ((x.Count_26 == y.Count_26) && ((x.Count_27 == y.Count_27) && ((x.Count_28 == y.Count_28) && ((x.Count_29 == y.Count_29) && ((x.Count_30 == y.Count_30) && ((x.Count_31 == y.Count_31) && ((x.Count_32 == y.Count_32) && ((x.Count_33 == y.Count_33) && ((x.Count_34 == y.Count_34) && ((x.Count_35 == y.Count_35) && true)))))))))))))))))))))))))))))))))))))))))
theorem nlw' (x y : Debounced) : nc0' x y = true ↔ x = y := by
  cases x; cases y
  simp [nc0']
def nbj' : Debounced := Debounced.mk 0 false false false false 0 0 0 0 0 0 0 0 0 0 0 0 0 0 0 0 0 0 0 0 0 0 0 0 0 0 0 0 0 0 0 0 0 0 0 0
theorem nl7' {a b : List Debounced} (ha : a.length ≤ ni') : nbc' a b = some ((eqL a b, ()), ()) := by
  unfold nbc'
  by_cases hl : a.length = b.length
  · rw [show (((a.length : Nat) : Int) != ((b.length : Nat) : Int)) = false by simp [hl], cond_false]
    have h := nf' (nbp' (step := fun x => nq' x.1.1 x.1.2.1 x.1.2.2.1 x.1.2.2.2.1) a.length (fun i => ((a, b, (a.length : Int), (i : Int), ()), ())) (fun i => nc0' (a.getD i nbj') (b.getD i nbj')) (Sum.inl ((), ())) (Sum.inr ((false, ()), ())) (fun i hi => by
      show nq' a b (a.length : Int) (i : Int) = _
      unfold nq'
      simp only [decide_eq_true (show (i : Int) < (a.length : Int) by omega), nc' (show (0 : Int) ≤ (i : Int) by omega) (show (i : Int) < (a.length : Int) by omega), nc' (show (0 : Int) ≤ (i : Int) by omega) (show (i : Int) < (b.length : Int) by omega), cond_true, Int.toNat_natCast, wrap1 hi ha]
      show (bif !(nc0' (a.getD i nbj') (b.getD i nbj')) then _ else _) = _
      cases nc0' (a.getD i nbj') (b.getD i nbj') <;> rfl) (by
      show nq' a b (a.length : Int) (a.length : Int) = _
      unfold nq'
      simp only [decide_eq_false (Int.lt_irrefl (a.length : Int)), cond_false]) a.length 0 (by omega)) (by unfold ni' at ha; omega)
    rw [ncw' nc0' nlw' nbj' hl] at h
    rw [show nba' ((a, b, (a.length : Int), (0 : Int), ()), ()) = _ from h]
    cases eqL a b <;> rfl
  · rw [(nd8' a b).2 hl, nci' hl]; rfl
def nhh' (x y : Duty) : Bool := ((x.Floor == y.Floor) && ((x.Dir == y.Dir) && ((x.Age == y.Age) && true)))
theorem nqd' (x y : Duty) : nhh' x y = true ↔ x = y := by
  cases x; cases y
  simp [nhh']
def nep' : Duty := Duty.mk 0 0 0
theorem no6' {a b : List Duty} (ha : a.length ≤ ni') : nb7' a b = some ((eqL a b, ()), ()) := by
  unfold nb7'
  by_cases hl : a.length = b.length
  · rw [show (((a.length : Nat) : Int) != ((b.length : Nat) : Int)) = false by simp [hl], cond_false]
    have h := nf' (nbp' (step := fun x => n7' x.1.1 x.1.2.1 x.1.2.2.1 x.1.2.2.2.1) a.length (fun i => ((a, b, (a.length : Int), (i : Int), ()), ())) (fun i => nhh' (a.getD i nep') (b.getD i nep')) (Sum.inl ((), ())) (Sum.inr ((false, ()), ())) (fun i hi => by
      show n7' a b (a.length : Int) (i : Int) = _
      unfold n7'
      simp only [decide_eq_true (show (i : Int) < (a.length : Int) by omega), nc' (show (0 : Int) ≤ (i : Int) by omega) (show (i : Int) < (a.length : Int) by omega), nc' (show (0 : Int) ≤ (i : Int) by omega) (show (i : Int) < (b.length : Int) by omega), cond_true, Int.toNat_natCast, wrap1 hi ha]
      show (bif !(nhh' (a.getD i nep') (b.getD i nep')) then _ else _) = _
      cases nhh' (a.getD i nep') (b.getD i nep') <;> rfl) (by
      show n7' a b (a.length : Int) (a.length : Int) = _
      unfold n7'
      simp only [decide_eq_false (Int.lt_irrefl (a.length : Int)), cond_false]) a.length 0 (by omega)) (by unfold ni' at ha; omega)
    rw [ncw' nhh' nqd' nep' hl] at h
    rw [show nb1' ((a, b, (a.length : Int), (0 : Int), ()), ()) = _ from h]
    cases eqL a b <;> rfl
  · rw [(nd8' a b).2 hl, nci' hl]; rfl
def ne2' (x y : NewCar) : Bool := ((x.Sweep_Dir == y.Sweep_Dir) && ((x.Sweep_Opened == y.Sweep_Opened) && ((x.Door_Stage == y.Door_Stage) && ((x.Door_Time == y.Door_Time) && ((x.Door_Since == y.Door_Since) && ((x.Door_Nudge == y.Door_Nudge) && ((x.Door_Cycles == y.Door_Cycles) && ((x.Motion_Command == y.Motion_Command) && ((x.Motion_Time == y.Motion_Time) && ((x.Motion_Floor == y.Motion_Floor) && ((x.Calls == y.Calls) && ((x.Shown == y.Shown) && ((x.Idle == y.Idle) && ((x.Fault == y.Fault) && true))))))))))))))
theorem nop' (x y : NewCar) : ne2' x y = true ↔ x = y := by
  cases x; cases y
  simp [ne2']
def ncc' : NewCar := NewCar.mk 0 0 0 0 0 false 0 0 0 0 0 0 0 false
theorem nnp' {a b : List NewCar} (ha : a.length ≤ ni') : nbu' a b = some ((eqL a b, ()), ()) := by
  unfold nbu'
  by_cases hl : a.length = b.length
  · rw [show (((a.length : Nat) : Int) != ((b.length : Nat) : Int)) = false by simp [hl], cond_false]
    have h := nf' (nbp' (step := fun x => nv' x.1.1 x.1.2.1 x.1.2.2.1 x.1.2.2.2.1) a.length (fun i => ((a, b, (a.length : Int), (i : Int), ()), ())) (fun i => ne2' (a.getD i ncc') (b.getD i ncc')) (Sum.inl ((), ())) (Sum.inr ((false, ()), ())) (fun i hi => by
      show nv' a b (a.length : Int) (i : Int) = _
      unfold nv'
      simp only [decide_eq_true (show (i : Int) < (a.length : Int) by omega), nc' (show (0 : Int) ≤ (i : Int) by omega) (show (i : Int) < (a.length : Int) by omega), nc' (show (0 : Int) ≤ (i : Int) by omega) (show (i : Int) < (b.length : Int) by omega), cond_true, Int.toNat_natCast, wrap1 hi ha]
      show (bif !(ne2' (a.getD i ncc') (b.getD i ncc')) then _ else _) = _
      cases ne2' (a.getD i ncc') (b.getD i ncc') <;> rfl) (by
      show nv' a b (a.length : Int) (a.length : Int) = _
      unfold nv'
      simp only [decide_eq_false (Int.lt_irrefl (a.length : Int)), cond_false]) a.length 0 (by omega)) (by unfold ni' at ha; omega)
    rw [ncw' ne2' nop' ncc' hl] at h
    rw [show nbk' ((a, b, (a.length : Int), (0 : Int), ()), ()) = _ from h]
    cases eqL a b <;> rfl
  · rw [(nd8' a b).2 hl, nci' hl]; rfl
def ne3' (x y : Loaded) : Bool := ((x.Class == y.Class) && true)
theorem noh' (x y : Loaded) : ne3' x y = true ↔ x = y := by
  cases x; cases y
  simp [ne3']
def ncf' : Loaded := Loaded.mk 0
theorem nns' {a b : List Loaded} (ha : a.length ≤ ni') : nbs' a b = some ((eqL a b, ()), ()) := by
  unfold nbs'
  by_cases hl : a.length = b.length
  · rw [show (((a.length : Nat) : Int) != ((b.length : Nat) : Int)) = false by simp [hl], cond_false]
    have h := nf' (nbp' (step := fun x => nw' x.1.1 x.1.2.1 x.1.2.2.1 x.1.2.2.2.1) a.length (fun i => ((a, b, (a.length : Int), (i : Int), ()), ())) (fun i => ne3' (a.getD i ncf') (b.getD i ncf')) (Sum.inl ((), ())) (Sum.inr ((false, ()), ())) (fun i hi => by
      show nw' a b (a.length : Int) (i : Int) = _
      unfold nw'
      simp only [decide_eq_true (show (i : Int) < (a.length : Int) by omega), nc' (show (0 : Int) ≤ (i : Int) by omega) (show (i : Int) < (a.length : Int) by omega), nc' (show (0 : Int) ≤ (i : Int) by omega) (show (i : Int) < (b.length : Int) by omega), cond_true, Int.toNat_natCast, wrap1 hi ha]
      show (bif !(ne3' (a.getD i ncf') (b.getD i ncf')) then _ else _) = _
      cases ne3' (a.getD i ncf') (b.getD i ncf') <;> rfl) (by
      show nw' a b (a.length : Int) (a.length : Int) = _
      unfold nw'
      simp only [decide_eq_false (Int.lt_irrefl (a.length : Int)), cond_false]) a.length 0 (by omega)) (by unfold ni' at ha; omega)
    rw [ncw' ne3' noh' ncf' hl] at h
    rw [show nbl' ((a, b, (a.length : Int), (0 : Int), ()), ()) = _ from h]
    cases eqL a b <;> rfl
  · rw [(nd8' a b).2 hl, nci' hl]; rfl
def nge' (x y : Calls) : Bool := ((x.Up == y.Up) && ((x.Down == y.Down) && true))
theorem npe' (x y : Calls) : nge' x y = true ↔ x = y := by
  cases x; cases y
  simp [nge']
def ncq' : Calls := Calls.mk 0 0
theorem nog' {a b : List Calls} (ha : a.length ≤ ni') : nb0' a b = some ((eqL a b, ()), ()) := by
  unfold nb0'
  by_cases hl : a.length = b.length
  · rw [show (((a.length : Nat) : Int) != ((b.length : Nat) : Int)) = false by simp [hl], cond_false]
    have h := nf' (nbp' (step := fun x => n2' x.1.1 x.1.2.1 x.1.2.2.1 x.1.2.2.2.1) a.length (fun i => ((a, b, (a.length : Int), (i : Int), ()), ())) (fun i => nge' (a.getD i ncq') (b.getD i ncq')) (Sum.inl ((), ())) (Sum.inr ((false, ()), ())) (fun i hi => by
      show n2' a b (a.length : Int) (i : Int) = _
      unfold n2'
      simp only [decide_eq_true (show (i : Int) < (a.length : Int) by omega), nc' (show (0 : Int) ≤ (i : Int) by omega) (show (i : Int) < (a.length : Int) by omega), nc' (show (0 : Int) ≤ (i : Int) by omega) (show (i : Int) < (b.length : Int) by omega), cond_true, Int.toNat_natCast, wrap1 hi ha]
      show (bif !(nge' (a.getD i ncq') (b.getD i ncq')) then _ else _) = _
      cases nge' (a.getD i ncq') (b.getD i ncq') <;> rfl) (by
      show n2' a b (a.length : Int) (a.length : Int) = _
      unfold n2'
      simp only [decide_eq_false (Int.lt_irrefl (a.length : Int)), cond_false]) a.length 0 (by omega)) (by unfold ni' at ha; omega)
    rw [ncw' nge' npe' ncq' hl] at h
    rw [show nbt' ((a, b, (a.length : Int), (0 : Int), ()), ()) = _ from h]
    cases eqL a b <;> rfl
  · rw [(nd8' a b).2 hl, nci' hl]; rfl
theorem npq' {a b : List Calls} (ha : a.length ≤ ni') : ngq' a b = some ((eqL a b, ()), ()) := by
  unfold ngq'
  by_cases hl : a.length = b.length
  · rw [show (((a.length : Nat) : Int) != ((b.length : Nat) : Int)) = false by simp [hl], cond_false]
    have h := nf' (nbp' (step := fun x => nda' x.1.1 x.1.2.1 x.1.2.2.1) a.length (fun i => ((a, b, (i : Int), ()), ())) (fun i => nge' (a.getD i ncq') (b.getD i ncq')) (Sum.inl ((), ())) (Sum.inr ((false, ()), ())) (fun i hi => by
      show nda' a b (i : Int) = _
      unfold nda'
      simp only [decide_eq_true (show (i : Int) < (a.length : Int) by omega), nc' (show (0 : Int) ≤ (i : Int) by omega) (show (i : Int) < (a.length : Int) by omega), nc' (show (0 : Int) ≤ (i : Int) by omega) (show (i : Int) < (b.length : Int) by omega), cond_true, Int.toNat_natCast, wrap1 hi ha]
      show (bif !(nge' (a.getD i ncq') (b.getD i ncq')) then _ else _) = _
      cases nge' (a.getD i ncq') (b.getD i ncq') <;> rfl) (by
      show nda' a b (a.length : Int) = _
      unfold nda'
      simp only [decide_eq_false (Int.lt_irrefl (a.length : Int)), cond_false]) a.length 0 (by omega)) (by unfold ni' at ha; omega)
    rw [ncw' nge' npe' ncq' hl] at h
    rw [show ne5' ((a, b, (0 : Int), ()), ()) = _ from h]
    cases eqL a b <;> rfl
  · rw [(nd8' a b).2 hl, nci' hl]; rfl
def eqInt (x y : Int) : Bool := x == y
theorem nxx' (x y : Int) : eqInt x y = true ↔ x = y := beq_iff_eq
theorem nqp' {a b : List Int} (ha : a.length ≤ ni') : ng8' a b = some ((eqL a b, ()), ()) := by
  unfold ng8'
  by_cases hl : a.length = b.length
  · rw [show (((a.length : Nat) : Int) != ((b.length : Nat) : Int)) = false by simp [hl], cond_false]
    have h := nf' (nbp' (step := fun x => ndn' x.1.1 x.1.2.1 x.1.2.2.1) a.length (fun i => ((a, b, (i : Int), ()), ())) (fun i => eqInt (a.getD i 0) (b.getD i 0)) (Sum.inl ((), ())) (Sum.inr ((false, ()), ())) (fun i hi => by
      show ndn' a b (i : Int) = _
      unfold ndn'
      simp only [decide_eq_true (show (i : Int) < (a.length : Int) by omega), nc' (show (0 : Int) ≤ (i : Int) by omega) (show (i : Int) < (a.length : Int) by omega), nc' (show (0 : Int) ≤ (i : Int) by omega) (show (i : Int) < (b.length : Int) by omega), cond_true, Int.toNat_natCast, wrap1 hi ha]
      show (bif !(eqInt (a.getD i 0) (b.getD i 0)) then _ else _) = _
      cases eqInt (a.getD i 0) (b.getD i 0) <;> rfl) (by
      show ndn' a b (a.length : Int) = _
      unfold ndn'
      simp only [decide_eq_false (Int.lt_irrefl (a.length : Int)), cond_false]) a.length 0 (by omega)) (by unfold ni' at ha; omega)
    rw [ncw' eqInt nxx' 0 hl] at h
    rw [show nf0' ((a, b, (0 : Int), ()), ()) = _ from h]
    cases eqL a b <;> rfl
  · rw [(nd8' a b).2 hl, nci' hl]; rfl
noncomputable def eqBel (x y : Belief) : Bool := (x.Floor == y.Floor) && ((x.Dir == y.Dir) && ((x.Door == y.Door) && (eqL x.Duties y.Duties && ((x.Still == y.Still) && (x.Late == y.Late)))))
theorem nsn' (x y : Belief) : eqBel x y = true ↔ x = y := by
  cases x; cases y
  simp [eqBel, nwp']
def noBel : Belief := Belief.mk 0 0 0 [] 0 false
theorem nrq' (x y : Belief) (hd : x.Duties.length ≤ ni') : nhs' x.Floor x.Dir x.Door x.Duties x.Still x.Late y.Floor y.Dir y.Door y.Duties y.Still y.Late = some ((eqBel x y, ()), ()) := by
  unfold nhs' eqBel
  rw [no6' hd]
  cases x.Floor == y.Floor
  · rfl
  cases x.Dir == y.Dir
  · rfl
  cases x.Door == y.Door
  · rfl
  cases eqL x.Duties y.Duties
  · rfl
  cases x.Still == y.Still <;> rfl
def Belief.tup (x : Belief) : Int × Int × Int × List Duty × Int × Bool × Unit := (x.Floor, x.Dir, x.Door, x.Duties, x.Still, x.Late, ())
theorem ntu' (x y : Belief) (hd : x.Duties.length ≤ ni') (hl : x.Duties.length = y.Duties.length) : nie' (((), (), (0 : Int), ()), (x.tup, y.tup, ())) = some (bif eqL x.Duties y.Duties then .inl ((), ()) else .inr ((false, ()), ())) := by
  have h := nf' (nbp' (step := fun x => ne9' x.1.2.2.1 x.2.1.1 x.2.1.2.1 x.2.1.2.2.1 x.2.1.2.2.2.1 x.2.1.2.2.2.2.1 x.2.1.2.2.2.2.2.1 x.2.2.1.1 x.2.2.1.2.1 x.2.2.1.2.2.1 x.2.2.1.2.2.2.1 x.2.2.1.2.2.2.2.1 x.2.2.1.2.2.2.2.2.1) x.Duties.length (fun i => (((), (), (i : Int), ()), (x.tup, y.tup, ()))) (fun i => nhh' (x.Duties.getD i nep') (y.Duties.getD i nep')) (Sum.inl ((), ())) (Sum.inr ((false, ()), ())) (fun i hi => by
    show ne9' (i : Int) x.Floor x.Dir x.Door x.Duties x.Still x.Late y.Floor y.Dir y.Door y.Duties y.Still y.Late = _
    unfold ne9'
    simp only [decide_eq_true (show (i : Int) < (x.Duties.length : Int) by omega), nc' (show (0 : Int) ≤ (i : Int) by omega) (show (i : Int) < (x.Duties.length : Int) by omega), nc' (show (0 : Int) ≤ (i : Int) by omega) (show (i : Int) < (y.Duties.length : Int) by omega), cond_true, Int.toNat_natCast, wrap1 hi hd]
    show (bif !(nhh' (x.Duties.getD i nep') (y.Duties.getD i nep')) then _ else _) = _
    cases nhh' (x.Duties.getD i nep') (y.Duties.getD i nep') <;> rfl) (by
    show ne9' (x.Duties.length : Int) x.Floor x.Dir x.Door x.Duties x.Still x.Late y.Floor y.Dir y.Door y.Duties y.Still y.Late = _
    unfold ne9'
    simp only [decide_eq_false (Int.lt_irrefl (x.Duties.length : Int)), cond_false]) x.Duties.length 0 (by omega)) (by unfold ni' at hd; omega)
  rw [ncw' nhh' nqd' nep' hl] at h
  exact h
theorem nvw' (x y : Belief) (hd : x.Duties.length ≤ ni') : nkl' x.Floor x.Dir x.Door x.Duties x.Still x.Late y.Floor y.Dir y.Door y.Duties y.Still y.Late = some ((eqBel x y, ()), ()) := by
  unfold nkl' eqBel
  simp only [bne]
  cases x.Floor == y.Floor
  · rfl
  cases x.Dir == y.Dir
  · rfl
  cases x.Door == y.Door
  · rfl
  simp only [Bool.not_true, cond_false, Bool.true_and]
  cases x.Still == y.Still
  · simp
  cases x.Late == y.Late
  · simp
  simp only [Bool.not_true, cond_false, Bool.and_true]
  by_cases hl : x.Duties.length = y.Duties.length
  · have h := ntu' x y hd hl
    simp only [Belief.tup] at h
    rw [show (((x.Duties.length : Nat) : Int) == ((y.Duties.length : Nat) : Int)) = true by simp [hl], Bool.not_true, cond_false, h]
    cases eqL x.Duties y.Duties <;> rfl
  · rw [show (((x.Duties.length : Nat) : Int) == ((y.Duties.length : Nat) : Int)) = false by simp; omega, nci' hl]
    rfl
theorem nuj' {a b : List Belief} (ha : a.length ≤ ni') (hd : ∀ x ∈ a, x.Duties.length ≤ ni') : nh' a b = some ((eqL a b, ()), ()) := by
  unfold nh'
  by_cases hl : a.length = b.length
  · rw [show (((a.length : Nat) : Int) != ((b.length : Nat) : Int)) = false by simp [hl], cond_false]
    have h := nf' (nbp' (step := fun x => nd' x.1.1 x.1.2.2.1 x.1.2.2.2.1 x.1.2.2.2.2.1) a.length (fun i => ((b, (), a, (a.length : Int), (i : Int), ()), ())) (fun i => eqBel (a.getD i noBel) (b.getD i noBel)) (Sum.inl ((), ())) (Sum.inr ((false, ()), ())) (fun i hi => by
      show nd' b a (a.length : Int) (i : Int) = _
      have hs := nrq' (a.getD i noBel) (b.getD i noBel) (hd _ (List.mem_of_getElem? (i := i) (by simp [List.getD_eq_getElem?_getD, hi])))
      unfold noBel at hs
      unfold nd'
      simp only [decide_eq_true (show (i : Int) < (a.length : Int) by omega), nc' (show (0 : Int) ≤ (i : Int) by omega) (show (i : Int) < (a.length : Int) by omega), nc' (show (0 : Int) ≤ (i : Int) by omega) (show (i : Int) < (b.length : Int) by omega), cond_true, Int.toNat_natCast, hs, Option.bind_some, wrap1 hi ha]
      show (bif !(eqBel (a.getD i noBel) (b.getD i noBel)) then _ else _) = _
      cases eqBel (a.getD i noBel) (b.getD i noBel) <;> rfl) (by
      show nd' b a (a.length : Int) (a.length : Int) = _
      unfold nd'
      simp only [decide_eq_false (Int.lt_irrefl (a.length : Int)), cond_false]) a.length 0 (by omega)) (by unfold ni' at ha; omega)
    rw [ncw' eqBel nsn' noBel hl] at h
    rw [show ng' ((b, (), a, (a.length : Int), (0 : Int), ()), ()) = _ from h]
    cases eqL a b <;> rfl
  · rw [(nd8' a b).2 hl, nci' hl]; rfl
structure Mch where
  Image : Img
  Store : Sto
  Contacts : List Debounced
  Beliefs : List Belief
  Cars : List NewCar
  Loads : List Loaded
  Expect : List Int
  Lit : List Calls
  Tick : Int
  Faults : Int
  Refused : Int
def Mch.tup (m : Mch) : List Int × List Bool × List Bool × List Entry × ByteArray × ByteArray × Int × List Debounced × List Belief × List NewCar × List Loaded × List Int × List Calls × Int × Int × Int × Unit := (m.Image.Phases, m.Image.Flags, m.Image.Leaving, m.Image.Entries, m.Store.h0, m.Store.h1, m.Store.sel, m.Contacts, m.Beliefs, m.Cars, m.Loads, m.Expect, m.Lit, m.Tick, m.Faults, m.Refused, ())
structure Mch.fit (m : Mch) : Prop where
  im : m.Image.fit
  co : m.Contacts.length ≤ 100000
  be : m.Beliefs.length ≤ 100000
  du : ∀ x ∈ m.Beliefs, x.Duties.length ≤ 100000
  ca : m.Cars.length ≤ 100000
  lo : m.Loads.length ≤ 100000
  ex : m.Expect.length ≤ 100000
  li : m.Lit.length ≤ 100000
def sameS (a c : Sto) : Bool := eqB a.h0 c.h0 && (eqB a.h1 c.h1 && ((a.sel == c.sel) && true))
theorem nxi' (a : Sto) : sameS a a = true := by unfold sameS; simp [nuo']
noncomputable def sameM (a c : Mch) : Bool :=
  sameI a.Image c.Image && (sameS a.Store c.Store && (eqL a.Contacts c.Contacts && (eqL a.Beliefs c.Beliefs && (eqL a.Cars c.Cars && (eqL a.Loads c.Loads && (eqL a.Lit c.Lit && (eqL a.Expect c.Expect && ((a.Tick == c.Tick) && ((a.Faults == c.Faults) && (a.Refused == c.Refused))))))))))
theorem nq7' (a : Mch) : sameM a a = true := by unfold sameM; simp [nu3', nrf', nxi']
section
variable {a c : Mch} (ha : a.fit)
include ha
theorem nrv' (hl : a.Contacts.length = c.Contacts.length) : ni6' (((), (), (0 : Int), ()), (a.tup, c.tup, ())) = some (bif eqL a.Contacts c.Contacts then .inl (((), (), ()), (a.tup, c.tup, ())) else .inr ((false, ()), ())) := by
  have hl0 := ha.co
  have h5 : 100000 ≤ ni' := by decide
  have h := nf' (nbp' (step := fun x => nfp' x.1.2.2.1 x.2.1.1 x.2.1.2.1 x.2.1.2.2.1 x.2.1.2.2.2.1 x.2.1.2.2.2.2.1 x.2.1.2.2.2.2.2.1 x.2.1.2.2.2.2.2.2.1 x.2.1.2.2.2.2.2.2.2.1 x.2.1.2.2.2.2.2.2.2.2.1 x.2.1.2.2.2.2.2.2.2.2.2.1 x.2.1.2.2.2.2.2.2.2.2.2.2.1 x.2.1.2.2.2.2.2.2.2.2.2.2.2.1 x.2.1.2.2.2.2.2.2.2.2.2.2.2.2.1 x.2.1.2.2.2.2.2.2.2.2.2.2.2.2.2.1 x.2.1.2.2.2.2.2.2.2.2.2.2.2.2.2.2.1 x.2.1.2.2.2.2.2.2.2.2.2.2.2.2.2.2.2.1 x.2.2.1.1 x.2.2.1.2.1 x.2.2.1.2.2.1 x.2.2.1.2.2.2.1 x.2.2.1.2.2.2.2.1 x.2.2.1.2.2.2.2.2.1 x.2.2.1.2.2.2.2.2.2.1 x.2.2.1.2.2.2.2.2.2.2.1 x.2.2.1.2.2.2.2.2.2.2.2.1 x.2.2.1.2.2.2.2.2.2.2.2.2.1 x.2.2.1.2.2.2.2.2.2.2.2.2.2.1 x.2.2.1.2.2.2.2.2.2.2.2.2.2.2.1 x.2.2.1.2.2.2.2.2.2.2.2.2.2.2.2.1 x.2.2.1.2.2.2.2.2.2.2.2.2.2.2.2.2.1 x.2.2.1.2.2.2.2.2.2.2.2.2.2.2.2.2.2.1 x.2.2.1.2.2.2.2.2.2.2.2.2.2.2.2.2.2.2.1) a.Contacts.length (fun i => (((), (), (i : Int), ()), (a.tup, c.tup, ()))) (fun i => nc0' (a.Contacts.getD i nbj') (c.Contacts.getD i nbj')) (Sum.inl (((), (), ()), (a.tup, c.tup, ()))) (Sum.inr ((false, ()), ())) (fun i hi => by
    show nfp' (i : Int) a.Image.Phases a.Image.Flags a.Image.Leaving a.Image.Entries a.Store.h0 a.Store.h1 a.Store.sel a.Contacts a.Beliefs a.Cars a.Loads a.Expect a.Lit a.Tick a.Faults a.Refused c.Image.Phases c.Image.Flags c.Image.Leaving c.Image.Entries c.Store.h0 c.Store.h1 c.Store.sel c.Contacts c.Beliefs c.Cars c.Loads c.Expect c.Lit c.Tick c.Faults c.Refused = _
    unfold nfp'
    simp only [decide_eq_true (show (i : Int) < (a.Contacts.length : Int) by omega), nc' (show (0 : Int) ≤ (i : Int) by omega) (show (i : Int) < (a.Contacts.length : Int) by omega), nc' (show (0 : Int) ≤ (i : Int) by omega) (show (i : Int) < (c.Contacts.length : Int) by omega), cond_true, Int.toNat_natCast, wrap1 hi (show a.Contacts.length ≤ ni' by omega)]
    show (bif !(nc0' (a.Contacts.getD i nbj') (c.Contacts.getD i nbj')) then _ else _) = _
    cases nc0' (a.Contacts.getD i nbj') (c.Contacts.getD i nbj') <;> rfl) (by
    show nfp' (a.Contacts.length : Int) a.Image.Phases a.Image.Flags a.Image.Leaving a.Image.Entries a.Store.h0 a.Store.h1 a.Store.sel a.Contacts a.Beliefs a.Cars a.Loads a.Expect a.Lit a.Tick a.Faults a.Refused c.Image.Phases c.Image.Flags c.Image.Leaving c.Image.Entries c.Store.h0 c.Store.h1 c.Store.sel c.Contacts c.Beliefs c.Cars c.Loads c.Expect c.Lit c.Tick c.Faults c.Refused = _
    unfold nfp'
    simp only [decide_eq_false (Int.lt_irrefl (a.Contacts.length : Int)), cond_false]; rfl) a.Contacts.length 0 (by omega)) (by omega)
  rw [ncw' nc0' nlw' nbj' hl] at h
  exact h
theorem nr1' (hl : a.Beliefs.length = c.Beliefs.length) : nir' (((), (), (0 : Int), ()), (a.tup, c.tup, ())) = some (bif eqL a.Beliefs c.Beliefs then .inl (((), (), ()), (a.tup, c.tup, ())) else .inr ((false, ()), ())) := by
  have hl0 := ha.be
  have h5 : 100000 ≤ ni' := by decide
  have h := nf' (nbp' (step := fun x => nfo' x.1.2.2.1 x.2.1.1 x.2.1.2.1 x.2.1.2.2.1 x.2.1.2.2.2.1 x.2.1.2.2.2.2.1 x.2.1.2.2.2.2.2.1 x.2.1.2.2.2.2.2.2.1 x.2.1.2.2.2.2.2.2.2.1 x.2.1.2.2.2.2.2.2.2.2.1 x.2.1.2.2.2.2.2.2.2.2.2.1 x.2.1.2.2.2.2.2.2.2.2.2.2.1 x.2.1.2.2.2.2.2.2.2.2.2.2.2.1 x.2.1.2.2.2.2.2.2.2.2.2.2.2.2.1 x.2.1.2.2.2.2.2.2.2.2.2.2.2.2.2.1 x.2.1.2.2.2.2.2.2.2.2.2.2.2.2.2.2.1 x.2.1.2.2.2.2.2.2.2.2.2.2.2.2.2.2.2.1 x.2.2.1.1 x.2.2.1.2.1 x.2.2.1.2.2.1 x.2.2.1.2.2.2.1 x.2.2.1.2.2.2.2.1 x.2.2.1.2.2.2.2.2.1 x.2.2.1.2.2.2.2.2.2.1 x.2.2.1.2.2.2.2.2.2.2.1 x.2.2.1.2.2.2.2.2.2.2.2.1 x.2.2.1.2.2.2.2.2.2.2.2.2.1 x.2.2.1.2.2.2.2.2.2.2.2.2.2.1 x.2.2.1.2.2.2.2.2.2.2.2.2.2.2.1 x.2.2.1.2.2.2.2.2.2.2.2.2.2.2.2.1 x.2.2.1.2.2.2.2.2.2.2.2.2.2.2.2.2.1 x.2.2.1.2.2.2.2.2.2.2.2.2.2.2.2.2.2.1 x.2.2.1.2.2.2.2.2.2.2.2.2.2.2.2.2.2.2.1) a.Beliefs.length (fun i => (((), (), (i : Int), ()), (a.tup, c.tup, ()))) (fun i => eqBel (a.Beliefs.getD i noBel) (c.Beliefs.getD i noBel)) (Sum.inl (((), (), ()), (a.tup, c.tup, ()))) (Sum.inr ((false, ()), ())) (fun i hi => by
    show nfo' (i : Int) a.Image.Phases a.Image.Flags a.Image.Leaving a.Image.Entries a.Store.h0 a.Store.h1 a.Store.sel a.Contacts a.Beliefs a.Cars a.Loads a.Expect a.Lit a.Tick a.Faults a.Refused c.Image.Phases c.Image.Flags c.Image.Leaving c.Image.Entries c.Store.h0 c.Store.h1 c.Store.sel c.Contacts c.Beliefs c.Cars c.Loads c.Expect c.Lit c.Tick c.Faults c.Refused = _
    have hs := nvw' (a.Beliefs.getD i noBel) (c.Beliefs.getD i noBel) (by
      have := ha.du _ (List.mem_of_getElem? (l := a.Beliefs) (i := i) (a := a.Beliefs.getD i noBel) (by simp [List.getD_eq_getElem?_getD, hi]))
      omega)
    unfold noBel at hs
    unfold nfo'
    simp only [decide_eq_true (show (i : Int) < (a.Beliefs.length : Int) by omega), nc' (show (0 : Int) ≤ (i : Int) by omega) (show (i : Int) < (a.Beliefs.length : Int) by omega), nc' (show (0 : Int) ≤ (i : Int) by omega) (show (i : Int) < (c.Beliefs.length : Int) by omega), cond_true, Int.toNat_natCast, wrap1 hi (show a.Beliefs.length ≤ ni' by omega), hs, Option.bind_some]
    show (bif !(eqBel (a.Beliefs.getD i noBel) (c.Beliefs.getD i noBel)) then _ else _) = _
    cases eqBel (a.Beliefs.getD i noBel) (c.Beliefs.getD i noBel) <;> rfl) (by
    show nfo' (a.Beliefs.length : Int) a.Image.Phases a.Image.Flags a.Image.Leaving a.Image.Entries a.Store.h0 a.Store.h1 a.Store.sel a.Contacts a.Beliefs a.Cars a.Loads a.Expect a.Lit a.Tick a.Faults a.Refused c.Image.Phases c.Image.Flags c.Image.Leaving c.Image.Entries c.Store.h0 c.Store.h1 c.Store.sel c.Contacts c.Beliefs c.Cars c.Loads c.Expect c.Lit c.Tick c.Faults c.Refused = _
    unfold nfo'
    simp only [decide_eq_false (Int.lt_irrefl (a.Beliefs.length : Int)), cond_false]; rfl) a.Beliefs.length 0 (by omega)) (by omega)
  rw [ncw' eqBel nsn' noBel hl] at h
  exact h
theorem nsa' (hl : a.Cars.length = c.Cars.length) : niq' (((), (), (0 : Int), ()), (a.tup, c.tup, ())) = some (bif eqL a.Cars c.Cars then .inl (((), (), ()), (a.tup, c.tup, ())) else .inr ((false, ()), ())) := by
  have hl0 := ha.ca
  have h5 : 100000 ≤ ni' := by decide
  have h := nf' (nbp' (step := fun x => nfb' x.1.2.2.1 x.2.1.1 x.2.1.2.1 x.2.1.2.2.1 x.2.1.2.2.2.1 x.2.1.2.2.2.2.1 x.2.1.2.2.2.2.2.1 x.2.1.2.2.2.2.2.2.1 x.2.1.2.2.2.2.2.2.2.1 x.2.1.2.2.2.2.2.2.2.2.1 x.2.1.2.2.2.2.2.2.2.2.2.1 x.2.1.2.2.2.2.2.2.2.2.2.2.1 x.2.1.2.2.2.2.2.2.2.2.2.2.2.1 x.2.1.2.2.2.2.2.2.2.2.2.2.2.2.1 x.2.1.2.2.2.2.2.2.2.2.2.2.2.2.2.1 x.2.1.2.2.2.2.2.2.2.2.2.2.2.2.2.2.1 x.2.1.2.2.2.2.2.2.2.2.2.2.2.2.2.2.2.1 x.2.2.1.1 x.2.2.1.2.1 x.2.2.1.2.2.1 x.2.2.1.2.2.2.1 x.2.2.1.2.2.2.2.1 x.2.2.1.2.2.2.2.2.1 x.2.2.1.2.2.2.2.2.2.1 x.2.2.1.2.2.2.2.2.2.2.1 x.2.2.1.2.2.2.2.2.2.2.2.1 x.2.2.1.2.2.2.2.2.2.2.2.2.1 x.2.2.1.2.2.2.2.2.2.2.2.2.2.1 x.2.2.1.2.2.2.2.2.2.2.2.2.2.2.1 x.2.2.1.2.2.2.2.2.2.2.2.2.2.2.2.1 x.2.2.1.2.2.2.2.2.2.2.2.2.2.2.2.2.1 x.2.2.1.2.2.2.2.2.2.2.2.2.2.2.2.2.2.1 x.2.2.1.2.2.2.2.2.2.2.2.2.2.2.2.2.2.2.1) a.Cars.length (fun i => (((), (), (i : Int), ()), (a.tup, c.tup, ()))) (fun i => ne2' (a.Cars.getD i ncc') (c.Cars.getD i ncc')) (Sum.inl (((), (), ()), (a.tup, c.tup, ()))) (Sum.inr ((false, ()), ())) (fun i hi => by
    show nfb' (i : Int) a.Image.Phases a.Image.Flags a.Image.Leaving a.Image.Entries a.Store.h0 a.Store.h1 a.Store.sel a.Contacts a.Beliefs a.Cars a.Loads a.Expect a.Lit a.Tick a.Faults a.Refused c.Image.Phases c.Image.Flags c.Image.Leaving c.Image.Entries c.Store.h0 c.Store.h1 c.Store.sel c.Contacts c.Beliefs c.Cars c.Loads c.Expect c.Lit c.Tick c.Faults c.Refused = _
    unfold nfb'
    simp only [decide_eq_true (show (i : Int) < (a.Cars.length : Int) by omega), nc' (show (0 : Int) ≤ (i : Int) by omega) (show (i : Int) < (a.Cars.length : Int) by omega), nc' (show (0 : Int) ≤ (i : Int) by omega) (show (i : Int) < (c.Cars.length : Int) by omega), cond_true, Int.toNat_natCast, wrap1 hi (show a.Cars.length ≤ ni' by omega)]
    show (bif !(ne2' (a.Cars.getD i ncc') (c.Cars.getD i ncc')) then _ else _) = _
    cases ne2' (a.Cars.getD i ncc') (c.Cars.getD i ncc') <;> rfl) (by
    show nfb' (a.Cars.length : Int) a.Image.Phases a.Image.Flags a.Image.Leaving a.Image.Entries a.Store.h0 a.Store.h1 a.Store.sel a.Contacts a.Beliefs a.Cars a.Loads a.Expect a.Lit a.Tick a.Faults a.Refused c.Image.Phases c.Image.Flags c.Image.Leaving c.Image.Entries c.Store.h0 c.Store.h1 c.Store.sel c.Contacts c.Beliefs c.Cars c.Loads c.Expect c.Lit c.Tick c.Faults c.Refused = _
    unfold nfb'
    simp only [decide_eq_false (Int.lt_irrefl (a.Cars.length : Int)), cond_false]; rfl) a.Cars.length 0 (by omega)) (by omega)
  rw [ncw' ne2' nop' ncc' hl] at h
  exact h
theorem nsb' (hl : a.Loads.length = c.Loads.length) : ni5' (((), (), (0 : Int), ()), (a.tup, c.tup, ())) = some (bif eqL a.Loads c.Loads then .inl ((), ()) else .inr ((false, ()), ())) := by
  have hl0 := ha.lo
  have h5 : 100000 ≤ ni' := by decide
  have h := nf' (nbp' (step := fun x => nfg' x.1.2.2.1 x.2.1.1 x.2.1.2.1 x.2.1.2.2.1 x.2.1.2.2.2.1 x.2.1.2.2.2.2.1 x.2.1.2.2.2.2.2.1 x.2.1.2.2.2.2.2.2.1 x.2.1.2.2.2.2.2.2.2.1 x.2.1.2.2.2.2.2.2.2.2.1 x.2.1.2.2.2.2.2.2.2.2.2.1 x.2.1.2.2.2.2.2.2.2.2.2.2.1 x.2.1.2.2.2.2.2.2.2.2.2.2.2.1 x.2.1.2.2.2.2.2.2.2.2.2.2.2.2.1 x.2.1.2.2.2.2.2.2.2.2.2.2.2.2.2.1 x.2.1.2.2.2.2.2.2.2.2.2.2.2.2.2.2.1 x.2.1.2.2.2.2.2.2.2.2.2.2.2.2.2.2.2.1 x.2.2.1.1 x.2.2.1.2.1 x.2.2.1.2.2.1 x.2.2.1.2.2.2.1 x.2.2.1.2.2.2.2.1 x.2.2.1.2.2.2.2.2.1 x.2.2.1.2.2.2.2.2.2.1 x.2.2.1.2.2.2.2.2.2.2.1 x.2.2.1.2.2.2.2.2.2.2.2.1 x.2.2.1.2.2.2.2.2.2.2.2.2.1 x.2.2.1.2.2.2.2.2.2.2.2.2.2.1 x.2.2.1.2.2.2.2.2.2.2.2.2.2.2.1 x.2.2.1.2.2.2.2.2.2.2.2.2.2.2.2.1 x.2.2.1.2.2.2.2.2.2.2.2.2.2.2.2.2.1 x.2.2.1.2.2.2.2.2.2.2.2.2.2.2.2.2.2.1 x.2.2.1.2.2.2.2.2.2.2.2.2.2.2.2.2.2.2.1) a.Loads.length (fun i => (((), (), (i : Int), ()), (a.tup, c.tup, ()))) (fun i => ne3' (a.Loads.getD i ncf') (c.Loads.getD i ncf')) (Sum.inl ((), ())) (Sum.inr ((false, ()), ())) (fun i hi => by
    show nfg' (i : Int) a.Image.Phases a.Image.Flags a.Image.Leaving a.Image.Entries a.Store.h0 a.Store.h1 a.Store.sel a.Contacts a.Beliefs a.Cars a.Loads a.Expect a.Lit a.Tick a.Faults a.Refused c.Image.Phases c.Image.Flags c.Image.Leaving c.Image.Entries c.Store.h0 c.Store.h1 c.Store.sel c.Contacts c.Beliefs c.Cars c.Loads c.Expect c.Lit c.Tick c.Faults c.Refused = _
    unfold nfg'
    simp only [decide_eq_true (show (i : Int) < (a.Loads.length : Int) by omega), nc' (show (0 : Int) ≤ (i : Int) by omega) (show (i : Int) < (a.Loads.length : Int) by omega), nc' (show (0 : Int) ≤ (i : Int) by omega) (show (i : Int) < (c.Loads.length : Int) by omega), cond_true, Int.toNat_natCast, wrap1 hi (show a.Loads.length ≤ ni' by omega)]
    show (bif !(ne3' (a.Loads.getD i ncf') (c.Loads.getD i ncf')) then _ else _) = _
    cases ne3' (a.Loads.getD i ncf') (c.Loads.getD i ncf') <;> rfl) (by
    show nfg' (a.Loads.length : Int) a.Image.Phases a.Image.Flags a.Image.Leaving a.Image.Entries a.Store.h0 a.Store.h1 a.Store.sel a.Contacts a.Beliefs a.Cars a.Loads a.Expect a.Lit a.Tick a.Faults a.Refused c.Image.Phases c.Image.Flags c.Image.Leaving c.Image.Entries c.Store.h0 c.Store.h1 c.Store.sel c.Contacts c.Beliefs c.Cars c.Loads c.Expect c.Lit c.Tick c.Faults c.Refused = _
    unfold nfg'
    simp only [decide_eq_false (Int.lt_irrefl (a.Loads.length : Int)), cond_false]) a.Loads.length 0 (by omega)) (by omega)
  rw [ncw' ne3' noh' ncf' hl] at h
  exact h
theorem nq8' : ne7' a.Image.Phases a.Image.Flags a.Image.Leaving a.Image.Entries a.Store.h0 a.Store.h1 a.Store.sel a.Contacts a.Beliefs a.Cars a.Loads a.Expect a.Lit a.Tick a.Faults a.Refused c.Image.Phases c.Image.Flags c.Image.Leaving c.Image.Entries c.Store.h0 c.Store.h1 c.Store.sel c.Contacts c.Beliefs c.Cars c.Loads c.Expect c.Lit c.Tick c.Faults c.Refused = some ((sameM a c, ()), ()) := by
  have h5 : 100000 ≤ ni' := by decide
  have hco := ha.co
  have hbe := ha.be
  have hca := ha.ca
  have hlo := ha.lo
  have hex := ha.ex
  have hli := ha.li
  unfold ne7' sameM sameS
  rw [nl7' (by omega), nuj' (by omega) (fun x hx => by have := ha.du x hx; omega), nnp' (by omega), nns' (by omega), nog' (by omega)]
  have hi := npb' ha.im (c := c.Image)
  simp only [Option.bind_some]
  cases eqL a.Contacts c.Contacts
  · simp
  simp only [cond_true]
  cases eqL a.Beliefs c.Beliefs
  · simp
  simp only [cond_true]
  cases eqL a.Cars c.Cars
  · simp
  simp only [cond_true]
  cases eqL a.Loads c.Loads
  · simp
  simp only [cond_true, Option.bind_some]
  cases eqL a.Lit c.Lit
  · simp
  simp only [cond_true, Option.bind_some, hi, nk2' (show a.Expect.length ≤ ni' by omega)]
  generalize (eqB a.Store.h0 c.Store.h0 && (eqB a.Store.h1 c.Store.h1 && ((a.Store.sel == c.Store.sel) && true))) = q
  cases sameI a.Image c.Image
  · simp
  cases q
  · simp
  cases eqL a.Expect c.Expect
  · simp
  cases a.Tick == c.Tick
  · simp
  cases a.Faults == c.Faults <;> simp
theorem nvx' : ng6' a.Image.Phases a.Image.Flags a.Image.Leaving a.Image.Entries a.Store.h0 a.Store.h1 a.Store.sel a.Contacts a.Beliefs a.Cars a.Loads a.Expect a.Lit a.Tick a.Faults a.Refused c.Image.Phases c.Image.Flags c.Image.Leaving c.Image.Entries c.Store.h0 c.Store.h1 c.Store.sel c.Contacts c.Beliefs c.Cars c.Loads c.Expect c.Lit c.Tick c.Faults c.Refused = some ((sameM a c, ()), ()) := by
  have h5 : 100000 ≤ ni' := by decide
  have hex := ha.ex
  have hli := ha.li
  unfold ng6' sameM sameS
  rw [nv4' ha.im (c := c.Image), npq' (by omega), nqp' (by omega)]
  simp only [Option.bind_some, bne]
  generalize (eqB a.Store.h0 c.Store.h0 && (eqB a.Store.h1 c.Store.h1 && ((a.Store.sel == c.Store.sel) && true))) = q
  cases sameI a.Image c.Image
  · simp
  cases q
  · simp
  by_cases h0 : a.Contacts.length = c.Contacts.length
  · have l0 := nrv' ha (c := c) h0
    rw [show (((a.Contacts.length : Nat) : Int) == ((c.Contacts.length : Nat) : Int)) = true by simp [h0]]
    by_cases h1 : a.Beliefs.length = c.Beliefs.length
    · have l1 := nr1' ha (c := c) h1
      rw [show (((a.Beliefs.length : Nat) : Int) == ((c.Beliefs.length : Nat) : Int)) = true by simp [h1]]
      by_cases h2 : a.Cars.length = c.Cars.length
      · have l2 := nsa' ha (c := c) h2
        rw [show (((a.Cars.length : Nat) : Int) == ((c.Cars.length : Nat) : Int)) = true by simp [h2]]
        by_cases h3 : a.Loads.length = c.Loads.length
        · have l3 := nsb' ha (c := c) h3
          rw [show (((a.Loads.length : Nat) : Int) == ((c.Loads.length : Nat) : Int)) = true by simp [h3]]
          simp only [Mch.tup] at l0 l1 l2 l3
          simp only [Bool.not_true, cond_false, Bool.true_and]
          cases eqL a.Lit c.Lit
          · simp
          cases eqL a.Expect c.Expect
          · simp
          cases a.Tick == c.Tick
          · simp
          cases a.Faults == c.Faults
          · simp
          cases a.Refused == c.Refused
          · simp
          simp only [Bool.not_true, cond_false, Bool.and_true, l0]
          cases eqL a.Contacts c.Contacts
          · rfl
          simp only [cond_true, Option.bind_some, Bool.true_and, l1]
          cases eqL a.Beliefs c.Beliefs
          · rfl
          simp only [cond_true, Option.bind_some, Bool.true_and, l2]
          cases eqL a.Cars c.Cars
          · rfl
          simp only [cond_true, Option.bind_some, Bool.true_and, l3]
          cases eqL a.Loads c.Loads <;> rfl
        · rw [show (((a.Loads.length : Nat) : Int) == ((c.Loads.length : Nat) : Int)) = false by simp; omega, nci' h3]; simp
      · rw [show (((a.Cars.length : Nat) : Int) == ((c.Cars.length : Nat) : Int)) = false by simp; omega, nci' h2]; simp
    · rw [show (((a.Beliefs.length : Nat) : Int) == ((c.Beliefs.length : Nat) : Int)) = false by simp; omega, nci' h1]; simp
  · rw [show (((a.Contacts.length : Nat) : Int) == ((c.Contacts.length : Nat) : Int)) = false by simp; omega, nci' h0]; simp
end
end Go.Ovl
