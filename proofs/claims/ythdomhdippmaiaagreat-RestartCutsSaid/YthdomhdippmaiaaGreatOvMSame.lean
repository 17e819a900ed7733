/- Layer 26: equal machines, the program's way and the reference's. -/
import Derived.Test.YthdomhdippmaiaaGreatOvLog3
import Derived.Test.YthdomhdippmaiaaGreatOvStoreP
namespace Go.Ovl
open Go Go.Ab
set_option maxRecDepth 100000
def ngw' (x y : Debounced) : Bool := ((x.Contacts_Floors == y.Contacts_Floors) && ((x.Contacts_Up == y.Contacts_Up) && ((x.Contacts_Down == y.Contacts_Down) && ((x.Contacts_Open == y.Contacts_Open) && ((x.Contacts_Closed == y.Contacts_Closed) && ((x.Count_0 == y.Count_0) && ((x.Count_1 == y.Count_1) && ((x.Count_2 == y.Count_2) && ((x.Count_3 == y.Count_3) && ((x.Count_4 == y.Count_4) && ((x.Count_5 == y.Count_5) && ((x.Count_6 == y.Count_6) && ((x.Count_7 == y.Count_7) && ((x.Count_8 == y.Count_8) && ((x.Count_9 == y.Count_9) && ((x.Count_10 == y.Count_10) && ((x.Count_11 == y.Count_11) && ((x.Count_12 == y.Count_12) && ((x.Count_13 == y.Count_13) && ((x.Count_14 == y.Count_14) && ((x.Count_15 == y.Count_15) && ((x.Count_16 == y.Count_16) && ((x.Count_17 == y.Count_17) && ((x.Count_18 == y.Count_18) && ((x.Count_19 == y.Count_19) && ((x.Count_20 == y.Count_20) && ((x.Count_21 == y.Count_21) && ((x.Count_22 == y.Count_22) && ((x.Count_23 == y.Count_23) && ((x.Count_24 == y.Count_24) && ((x.Count_25 == y.Count_25) && ((x.Count_26 == y.Count_26) && ((x.Count_27 == y.Count_27) && ((x.Count_28 == y.Count_28) && ((x.Count_29 == y.Count_29) && ((x.Count_30 == y.Count_30) && ((x.Count_31 == y.Count_31) && ((x.Count_32 == y.Count_32) && ((x.Count_33 == y.Count_33) && ((x.Count_34 == y.Count_34) && ((x.Count_35 == y.Count_35) && true)))))))))))))))))))))))))))))))))))))))))
theorem nq0' (x y : Debounced) : ngw' x y = true ↔ x = y := by
  cases x; cases y
  simp [ngw']
def nbe' : Debounced := Debounced.mk 0 false false false false 0 0 0 0 0 0 0 0 0 0 0 0 0 0 0 0 0 0 0 0 0 0 0 0 0 0 0 0 0 0 0 0 0 0 0 0
theorem nmo' {a b : List Debounced} (ha : a.length ≤ nl') : nbn' a b = some ((eqL a b, ()), ()) := by
  unfold nbn'
  by_cases hl : a.length = b.length
  · rw [show (((a.length : Nat) : Int) != ((b.length : Nat) : Int)) = false by simp [hl], cond_false]
    have h := nf' (nb6' (step := fun x => ny' x.1.1 x.1.2.1 x.1.2.2.1 x.1.2.2.2.1) a.length (fun i => ((a, b, (a.length : Int), (i : Int), ()), ())) (fun i => ngw' (a.getD i nbe') (b.getD i nbe')) (Sum.inl ((), ())) (Sum.inr ((false, ()), ())) (fun i hi => by
      show ny' a b (a.length : Int) (i : Int) = _
      unfold ny'
      simp only [decide_eq_true (show (i : Int) < (a.length : Int) by omega), nc' (show (0 : Int) ≤ (i : Int) by omega) (show (i : Int) < (a.length : Int) by omega), nc' (show (0 : Int) ≤ (i : Int) by omega) (show (i : Int) < (b.length : Int) by omega), cond_true, Int.toNat_natCast, wrap1 hi ha]
      show (bif !(ngw' (a.getD i nbe') (b.getD i nbe')) then _ else _) = _
      cases ngw' (a.getD i nbe') (b.getD i nbe') <;> rfl) (by
      show ny' a b (a.length : Int) (a.length : Int) = _
      unfold ny'
      simp only [decide_eq_false (Int.lt_irrefl (a.length : Int)), cond_false]) a.length 0 (by omega)) (by unfold nl' at ha; omega)
    rw [nft' ngw' nq0' nbe' hl] at h
    rw [show nbm' ((a, b, (a.length : Int), (0 : Int), ()), ()) = _ from h]
    cases eqL a b <;> rfl
  · rw [(nf7' a b).2 hl, nel' hl]; rfl
def nmz' (x y : Duty) : Bool := ((x.Floor == y.Floor) && ((x.Dir == y.Dir) && ((x.Age == y.Age) && true)))
theorem nyc' (x y : Duty) : nmz' x y = true ↔ x = y := by
  cases x; cases y
  simp [nmz']
def ndc' : Duty := Duty.mk 0 0 0
theorem npi' {a b : List Duty} (ha : a.length ≤ nl') : nch' a b = some ((eqL a b, ()), ()) := by
  unfold nch'
  by_cases hl : a.length = b.length
  · rw [show (((a.length : Nat) : Int) != ((b.length : Nat) : Int)) = false by simp [hl], cond_false]
    have h := nf' (nb6' (step := fun x => nbh' x.1.1 x.1.2.1 x.1.2.2.1 x.1.2.2.2.1) a.length (fun i => ((a, b, (a.length : Int), (i : Int), ()), ())) (fun i => nmz' (a.getD i ndc') (b.getD i ndc')) (Sum.inl ((), ())) (Sum.inr ((false, ()), ())) (fun i hi => by
      show nbh' a b (a.length : Int) (i : Int) = _
      unfold nbh'
      simp only [decide_eq_true (show (i : Int) < (a.length : Int) by omega), nc' (show (0 : Int) ≤ (i : Int) by omega) (show (i : Int) < (a.length : Int) by omega), nc' (show (0 : Int) ≤ (i : Int) by omega) (show (i : Int) < (b.length : Int) by omega), cond_true, Int.toNat_natCast, wrap1 hi ha]
      show (bif !(nmz' (a.getD i ndc') (b.getD i ndc')) then _ else _) = _
      cases nmz' (a.getD i ndc') (b.getD i ndc') <;> rfl) (by
      show nbh' a b (a.length : Int) (a.length : Int) = _
      unfold nbh'
      simp only [decide_eq_false (Int.lt_irrefl (a.length : Int)), cond_false]) a.length 0 (by omega)) (by unfold nl' at ha; omega)
    rw [nft' nmz' nyc' ndc' hl] at h
    rw [show nb9' ((a, b, (a.length : Int), (0 : Int), ()), ()) = _ from h]
    cases eqL a b <;> rfl
  · rw [(nf7' a b).2 hl, nel' hl]; rfl
def njj' (x y : NewCar) : Bool := ((x.Sweep_Dir == y.Sweep_Dir) && ((x.Sweep_Opened == y.Sweep_Opened) && ((x.Door_Stage == y.Door_Stage) && ((x.Door_Time == y.Door_Time) && ((x.Door_Since == y.Door_Since) && ((x.Door_Nudge == y.Door_Nudge) && ((x.Door_Cycles == y.Door_Cycles) && ((x.Motion_Command == y.Motion_Command) && ((x.Motion_Time == y.Motion_Time) && ((x.Motion_Floor == y.Motion_Floor) && ((x.Calls == y.Calls) && ((x.Shown == y.Shown) && ((x.Idle == y.Idle) && ((x.Fault == y.Fault) && true))))))))))))))
theorem nuy' (x y : NewCar) : njj' x y = true ↔ x = y := by
  cases x; cases y
  simp [njj']
def noNewCar : NewCar := NewCar.mk 0 0 0 0 0 false 0 0 0 0 0 0 0 false
theorem nnz' {a b : List NewCar} (ha : a.length ≤ nl') : nb1' a b = some ((eqL a b, ()), ()) := by
  unfold nb1'
  by_cases hl : a.length = b.length
  · rw [show (((a.length : Nat) : Int) != ((b.length : Nat) : Int)) = false by simp [hl], cond_false]
    have h := nf' (nb6' (step := fun x => n3' x.1.1 x.1.2.1 x.1.2.2.1 x.1.2.2.2.1) a.length (fun i => ((a, b, (a.length : Int), (i : Int), ()), ())) (fun i => njj' (a.getD i noNewCar) (b.getD i noNewCar)) (Sum.inl ((), ())) (Sum.inr ((false, ()), ())) (fun i hi => by
      show n3' a b (a.length : Int) (i : Int) = _
      unfold n3'
      simp only [decide_eq_true (show (i : Int) < (a.length : Int) by omega), nc' (show (0 : Int) ≤ (i : Int) by omega) (show (i : Int) < (a.length : Int) by omega), nc' (show (0 : Int) ≤ (i : Int) by omega) (show (i : Int) < (b.length : Int) by omega), cond_true, Int.toNat_natCast, wrap1 hi ha]
      show (bif !(njj' (a.getD i noNewCar) (b.getD i noNewCar)) then _ else _) = _
      cases njj' (a.getD i noNewCar) (b.getD i noNewCar) <;> rfl) (by
      show n3' a b (a.length : Int) (a.length : Int) = _
      unfold n3'
      simp only [decide_eq_false (Int.lt_irrefl (a.length : Int)), cond_false]) a.length 0 (by omega)) (by unfold nl' at ha; omega)
    rw [nft' njj' nuy' noNewCar hl] at h
    rw [show nbu' ((a, b, (a.length : Int), (0 : Int), ()), ()) = _ from h]
    cases eqL a b <;> rfl
  · rw [(nf7' a b).2 hl, nel' hl]; rfl
def njo' (x y : Loaded) : Bool := ((x.Class == y.Class) && true)
theorem nvr' (x y : Loaded) : njo' x y = true ↔ x = y := by
  cases x; cases y
  simp [njo']
def ncg' : Loaded := Loaded.mk 0
theorem nny' {a b : List Loaded} (ha : a.length ≤ nl') : nb2' a b = some ((eqL a b, ()), ()) := by
  unfold nb2'
  by_cases hl : a.length = b.length
  · rw [show (((a.length : Nat) : Int) != ((b.length : Nat) : Int)) = false by simp [hl], cond_false]
    have h := nf' (nb6' (step := fun x => n2' x.1.1 x.1.2.1 x.1.2.2.1 x.1.2.2.2.1) a.length (fun i => ((a, b, (a.length : Int), (i : Int), ()), ())) (fun i => njo' (a.getD i ncg') (b.getD i ncg')) (Sum.inl ((), ())) (Sum.inr ((false, ()), ())) (fun i hi => by
      show n2' a b (a.length : Int) (i : Int) = _
      unfold n2'
      simp only [decide_eq_true (show (i : Int) < (a.length : Int) by omega), nc' (show (0 : Int) ≤ (i : Int) by omega) (show (i : Int) < (a.length : Int) by omega), nc' (show (0 : Int) ≤ (i : Int) by omega) (show (i : Int) < (b.length : Int) by omega), cond_true, Int.toNat_natCast, wrap1 hi ha]
      show (bif !(njo' (a.getD i ncg') (b.getD i ncg')) then _ else _) = _
      cases njo' (a.getD i ncg') (b.getD i ncg') <;> rfl) (by
      show n2' a b (a.length : Int) (a.length : Int) = _
      unfold n2'
      simp only [decide_eq_false (Int.lt_irrefl (a.length : Int)), cond_false]) a.length 0 (by omega)) (by unfold nl' at ha; omega)
    rw [nft' njo' nvr' ncg' hl] at h
    rw [show nbt' ((a, b, (a.length : Int), (0 : Int), ()), ()) = _ from h]
    cases eqL a b <;> rfl
  · rw [(nf7' a b).2 hl, nel' hl]; rfl
def nk7' (x y : Calls) : Bool := ((x.Up == y.Up) && ((x.Down == y.Down) && true))
theorem nwd' (x y : Calls) : nk7' x y = true ↔ x = y := by
  cases x; cases y
  simp [nk7']
def nf8' : Calls := Calls.mk 0 0
theorem nn4' {a b : List Calls} (ha : a.length ≤ nl') : nb8' a b = some ((eqL a b, ()), ()) := by
  unfold nb8'
  by_cases hl : a.length = b.length
  · rw [show (((a.length : Nat) : Int) != ((b.length : Nat) : Int)) = false by simp [hl], cond_false]
    have h := nf' (nb6' (step := fun x => n8' x.1.1 x.1.2.1 x.1.2.2.1 x.1.2.2.2.1) a.length (fun i => ((a, b, (a.length : Int), (i : Int), ()), ())) (fun i => nk7' (a.getD i nf8') (b.getD i nf8')) (Sum.inl ((), ())) (Sum.inr ((false, ()), ())) (fun i hi => by
      show n8' a b (a.length : Int) (i : Int) = _
      unfold n8'
      simp only [decide_eq_true (show (i : Int) < (a.length : Int) by omega), nc' (show (0 : Int) ≤ (i : Int) by omega) (show (i : Int) < (a.length : Int) by omega), nc' (show (0 : Int) ≤ (i : Int) by omega) (show (i : Int) < (b.length : Int) by omega), cond_true, Int.toNat_natCast, wrap1 hi ha]
      show (bif !(nk7' (a.getD i nf8') (b.getD i nf8')) then _ else _) = _
      cases nk7' (a.getD i nf8') (b.getD i nf8') <;> rfl) (by
      show n8' a b (a.length : Int) (a.length : Int) = _
      unfold n8'
      simp only [decide_eq_false (Int.lt_irrefl (a.length : Int)), cond_false]) a.length 0 (by omega)) (by unfold nl' at ha; omega)
    rw [nft' nk7' nwd' nf8' hl] at h
    rw [show nb3' ((a, b, (a.length : Int), (0 : Int), ()), ()) = _ from h]
    cases eqL a b <;> rfl
  · rw [(nf7' a b).2 hl, nel' hl]; rfl
noncomputable def eqBel (x y : Belief) : Bool := (x.Floor == y.Floor) && ((x.Dir == y.Dir) && ((x.Door == y.Door) && (eqL x.Duties y.Duties && ((x.Still == y.Still) && (x.Late == y.Late)))))
theorem ny8' (x y : Belief) : eqBel x y = true ↔ x = y := by
  cases x; cases y
  simp [eqBel, n2p']
def noBel : Belief := Belief.mk 0 0 0 [] 0 false
theorem nsu' (x y : Belief) (hd : x.Duties.length ≤ nl') : nh4' x.Floor x.Dir x.Door x.Duties x.Still x.Late y.Floor y.Dir y.Door y.Duties y.Still y.Late = some ((eqBel x y, ()), ()) := by
  unfold nh4' eqBel
  rw [npi' hd]
  cases x.Floor == y.Floor
  · rfl
  cases x.Dir == y.Dir
  · rfl
  cases x.Door == y.Door
  · rfl
  cases eqL x.Duties y.Duties
  · rfl
  cases x.Still == y.Still <;> rfl
def Belief.tup (x : Belief) : Int × Int × Int × List Duty × Int × Bool × Unit := (x.Floor, x.Dir, x.Door, x.Duties, x.Still, x.Late, ())
theorem nvv' {a b : List Belief} (ha : a.length ≤ nl') (hd : ∀ x ∈ a, x.Duties.length ≤ nl') : nj' a b = some ((eqL a b, ()), ()) := by
  unfold nj'
  by_cases hl : a.length = b.length
  · rw [show (((a.length : Nat) : Int) != ((b.length : Nat) : Int)) = false by simp [hl], cond_false]
    have h := nf' (nb6' (step := fun x => nd' x.1.1 x.1.2.2.1 x.1.2.2.2.1 x.1.2.2.2.2.1) a.length (fun i => ((b, (), a, (a.length : Int), (i : Int), ()), ())) (fun i => eqBel (a.getD i noBel) (b.getD i noBel)) (Sum.inl ((), ())) (Sum.inr ((false, ()), ())) (fun i hi => by
      show nd' b a (a.length : Int) (i : Int) = _
      have hs := nsu' (a.getD i noBel) (b.getD i noBel) (hd _ (List.mem_of_getElem? (i := i) (by simp [List.getD_eq_getElem?_getD, hi])))
      unfold noBel at hs
      unfold nd'
      simp only [decide_eq_true (show (i : Int) < (a.length : Int) by omega), nc' (show (0 : Int) ≤ (i : Int) by omega) (show (i : Int) < (a.length : Int) by omega), nc' (show (0 : Int) ≤ (i : Int) by omega) (show (i : Int) < (b.length : Int) by omega), cond_true, Int.toNat_natCast, hs, Option.bind_some, wrap1 hi ha]
      show (bif !(eqBel (a.getD i noBel) (b.getD i noBel)) then _ else _) = _
      cases eqBel (a.getD i noBel) (b.getD i noBel) <;> rfl) (by
      show nd' b a (a.length : Int) (a.length : Int) = _
      unfold nd'
      simp only [decide_eq_false (Int.lt_irrefl (a.length : Int)), cond_false]) a.length 0 (by omega)) (by unfold nl' at ha; omega)
    rw [nft' eqBel ny8' noBel hl] at h
    rw [show ni' ((b, (), a, (a.length : Int), (0 : Int), ()), ()) = _ from h]
    cases eqL a b <;> rfl
  · rw [(nf7' a b).2 hl, nel' hl]; rfl
structure Mch where
  Image : Img
  Store : Sto
  Contacts : List Debounced
  Beliefs : List Belief
  Cars : List NewCar
  Loads : List Loaded
  Expect : List Int
  Lit : List Calls
  Tick : Int
  Faults : Int
  Refused : Int
def Mch.tup (m : Mch) : List Int × List Bool × List Bool × List Entry × ByteArray × ByteArray × Int × List Debounced × List Belief × List NewCar × List Loaded × List Int × List Calls × Int × Int × Int × Unit := (m.Image.Phases, m.Image.Flags, m.Image.Leaving, m.Image.Entries, m.Store.h0, m.Store.h1, m.Store.sel, m.Contacts, m.Beliefs, m.Cars, m.Loads, m.Expect, m.Lit, m.Tick, m.Faults, m.Refused, ())
structure Mch.fit (m : Mch) : Prop where
  im : m.Image.fit
  co : m.Contacts.length ≤ 100000
  be : m.Beliefs.length ≤ 100000
  du : ∀ x ∈ m.Beliefs, x.Duties.length ≤ 100000
  ca : m.Cars.length ≤ 100000
  lo : m.Loads.length ≤ 100000
  ex : m.Expect.length ≤ 100000
  li : m.Lit.length ≤ 100000
def sameS (a c : Sto) : Bool := eqB a.h0 c.h0 && (eqB a.h1 c.h1 && ((a.sel == c.sel) && true))
theorem nx2' (a : Sto) : sameS a a = true := by unfold sameS; simp [n05']
noncomputable def sameM (a c : Mch) : Bool :=
  sameI a.Image c.Image && (sameS a.Store c.Store && (eqL a.Contacts c.Contacts && (eqL a.Beliefs c.Beliefs && (eqL a.Cars c.Cars && (eqL a.Loads c.Loads && (eqL a.Lit c.Lit && (eqL a.Expect c.Expect && ((a.Tick == c.Tick) && ((a.Faults == c.Faults) && (a.Refused == c.Refused))))))))))
theorem nx9' (a : Mch) : sameM a a = true := by unfold sameM; simp [nup', nng', nx2']
section
variable {a c : Mch} (ha : a.fit)
include ha
theorem nrb' : nfq' a.Image.Phases a.Image.Flags a.Image.Leaving a.Image.Entries a.Store.h0 a.Store.h1 a.Store.sel a.Contacts a.Beliefs a.Cars a.Loads a.Expect a.Lit a.Tick a.Faults a.Refused c.Image.Phases c.Image.Flags c.Image.Leaving c.Image.Entries c.Store.h0 c.Store.h1 c.Store.sel c.Contacts c.Beliefs c.Cars c.Loads c.Expect c.Lit c.Tick c.Faults c.Refused = some ((sameM a c, ()), ()) := by
  have h5 : 100000 ≤ nl' := by decide
  have hco := ha.co
  have hbe := ha.be
  have hca := ha.ca
  have hlo := ha.lo
  have hex := ha.ex
  have hli := ha.li
  unfold nfq' sameM sameS
  rw [nmo' (by omega), nvv' (by omega) (fun x hx => by have := ha.du x hx; omega), nnz' (by omega), nny' (by omega), nn4' (by omega)]
  have hi := nwf' ha.im (c := c.Image)
  simp only [Option.bind_some]
  cases eqL a.Contacts c.Contacts
  · simp
  simp only [cond_true]
  cases eqL a.Beliefs c.Beliefs
  · simp
  simp only [cond_true]
  cases eqL a.Cars c.Cars
  · simp
  simp only [cond_true]
  cases eqL a.Loads c.Loads
  · simp
  simp only [cond_true, Option.bind_some]
  cases eqL a.Lit c.Lit
  · simp
  simp only [cond_true, Option.bind_some, hi, nle' (show a.Expect.length ≤ nl' by omega)]
  generalize (eqB a.Store.h0 c.Store.h0 && (eqB a.Store.h1 c.Store.h1 && ((a.Store.sel == c.Store.sel) && true))) = q
  cases sameI a.Image c.Image
  · simp
  cases q
  · simp
  cases eqL a.Expect c.Expect
  · simp
  cases a.Tick == c.Tick
  · simp
  cases a.Faults == c.Faults <;> simp
end
end Go.Ovl
