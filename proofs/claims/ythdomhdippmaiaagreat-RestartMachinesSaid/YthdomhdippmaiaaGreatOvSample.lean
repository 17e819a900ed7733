/- The buildings that the laws make. -/
import Derived.Test.YthdomhdippmaiaaGreatOvBuilding
namespace Go.Ovl
open Go Go.Ab
set_option maxRecDepth 100000
def nnk' (fl i : Nat) : Car := ⟨100, 2, 6, 5, 4, 2, 3, 10, ((i % fl : Nat) : Int)⟩
def nbv' (fl ca : Nat) : Bldg := ⟨fl, 1, 4000, 30, 4591870180066957722, 4605380978949069210, 4607632778762754458, (List.range ca).map (nnk' fl)⟩
def Bldg.none : Bldg := ⟨0, 0, 0, 0, 0, 0, 0, []⟩
theorem nnd' {fl ca : Nat} (h1 : 1 ≤ fl) (h2 : ca ≤ 8) : nkh' fl ca = some (((), ()), ((nbv' fl ca).tup, ())) := by
  have key : ∀ (m i : Nat), i + m = ca → iter (fun x => nez' x.1.1 x.1.2.1 x.1.2.2.2.2.1 x.2.1.1 x.2.1.2.1 x.2.1.2.2.1 x.2.1.2.2.2.1 x.2.1.2.2.2.2.1 x.2.1.2.2.2.2.2.1 x.2.1.2.2.2.2.2.2.1 x.2.1.2.2.2.2.2.2.2.1 x.2.2.1.1 x.2.2.1.2.1 x.2.2.1.2.2.1 x.2.2.1.2.2.2.1 x.2.2.1.2.2.2.2.1 x.2.2.1.2.2.2.2.2.1 x.2.2.1.2.2.2.2.2.2.1 x.2.2.1.2.2.2.2.2.2.2.1) (m + 1) (((fl : Int), (ca : Int), (), (), (i : Int), ()), (Bldg.none.tup, (nbv' fl i).tup, ())) = some (((), (), ()), (Bldg.none.tup, (nbv' fl ca).tup, ())) := by
    intro m
    induction m with
    | zero =>
      intro i hi'
      refine n6' ?_
      show nez' (fl : Int) (ca : Int) (i : Int) Bldg.none.Floors Bldg.none.Debounce Bldg.none.Room Bldg.none.Park Bldg.none.Empty Bldg.none.Full Bldg.none.Over Bldg.none.Cars (nbv' fl i).Floors (nbv' fl i).Debounce (nbv' fl i).Room (nbv' fl i).Park (nbv' fl i).Empty (nbv' fl i).Full (nbv' fl i).Over (nbv' fl i).Cars = _
      unfold nez'
      have e : decide ((i : Int) < (ca : Int)) = false := by simp; omega
      rw [e, show i = ca by omega]; rfl
    | succ m ih =>
      intro i hi'
      refine (nb4' (x' := (((fl : Int), (ca : Int), (), (), ((i + 1 : Nat) : Int), ()), (Bldg.none.tup, (nbv' fl (i + 1)).tup, ()))) ?_).trans (ih (i + 1) (by omega))
      show nez' (fl : Int) (ca : Int) (i : Int) Bldg.none.Floors Bldg.none.Debounce Bldg.none.Room Bldg.none.Park Bldg.none.Empty Bldg.none.Full Bldg.none.Over Bldg.none.Cars (nbv' fl i).Floors (nbv' fl i).Debounce (nbv' fl i).Room (nbv' fl i).Park (nbv' fl i).Empty (nbv' fl i).Full (nbv' fl i).Over (nbv' fl i).Cars = _
      unfold nez'
      have e : decide ((i : Int) < (ca : Int)) = true := by simp; omega
      have w : IntKind.i64.wrap ((i : Int) + 1) = ((i + 1 : Nat) : Int) := by rw [nb' (by omega) (by omega)]; omega
      have hz : ((fl : Int) != 0) = true := by simp; omega
      have hc : ∀ c : Car, Nat.ble ((nbv' fl i).Cars.length + [c].length) 2147483648 = true := fun c => nbn' (by simp [nbv']; omega)
      have ht : Int.tmod (i : Int) (fl : Int) = ((i % fl : Nat) : Int) := by rw [Int.tmod_eq_emod_of_nonneg (by omega)]; norm_cast
      simp only [e, hz, hc, w, ht, cond_true]
      have hs : (nbv' fl (i + 1)).Cars = (nbv' fl i).Cars ++ [nnk' fl i] := by simp [nbv', List.range_succ]
      simp only [Bldg.tup, hs]
      rfl
  unfold nkh'
  have h0 : ngd' (((fl : Int), (ca : Int), (), (), (0 : Int), ()), (Bldg.none.tup, (nbv' fl 0).tup, ())) = _ := nf' (key ca 0 (by omega)) (by omega)
  rw [show ngd' (((fl : Int), (ca : Int), (), (), (0 : Int), ()), (((0 : Int), (0 : Int), (0 : Int), (0 : Int), 0, 0, 0, ([] : List (Car)), ()), ((fl : Int), (1 : Int), (4000 : Int), (30 : Int), 4591870180066957722, 4605380978949069210, 4607632778762754458, ([] : List (Car)), ()), ())) = _ from h0]
  rfl
def bld10 (fl ca : Nat) (room : Int) : Bldg := { nbv' fl ca with Room := 18 * (ca : Int) + 24 + room }
theorem nqu' {n room : Int} (hn : 0 ≤ n ∧ n < 256) (hr : 0 ≤ room ∧ room < 256) :
    ∃ fl ca : Nat, 2 ≤ fl ∧ fl ≤ 8 ∧ 1 ≤ ca ∧ ca ≤ 3 ∧ nc3' n room = some (((), ()), ((bld10 fl ca room).tup, ())) := by
  have a1 := Int.tmod_nonneg (7 : Int) hn.1
  have a2 := Int.tmod_lt_of_pos n (b := 7) (by omega)
  have hd : Int.tdiv n 7 = n / 7 := Int.tdiv_eq_ediv_of_nonneg hn.1
  have hw8 : IntKind.u8.wrap (n / 7) = n / 7 := by
    simp only [IntKind.wrap, IntKind.signed, IntKind.bits]; simp; omega
  have b1 := Int.tmod_nonneg (3 : Int) (show 0 ≤ n / 7 by omega)
  have b2 := Int.tmod_lt_of_pos (n / 7) (b := 3) (by omega)
  refine ⟨(2 + Int.tmod n 7).toNat, (1 + Int.tmod (n / 7) 3).toNat, by omega, by omega, by omega, by omega, ?_⟩
  unfold nc3'
  rw [hd, hw8, nb' (n := Int.tmod n 7) (by omega) (by omega), nb' (n := 2 + Int.tmod n 7) (by omega) (by omega), nb' (n := Int.tmod (n / 7) 3) (by omega) (by omega), nb' (n := 1 + Int.tmod (n / 7) 3) (by omega) (by omega)]
  generalize hfl : (2 + Int.tmod n 7).toNat = fl
  generalize hca : (1 + Int.tmod (n / 7) 3).toNat = ca
  rw [show 2 + Int.tmod n 7 = (fl : Int) by omega, show 1 + Int.tmod (n / 7) 3 = (ca : Int) by omega, nnd' (by omega) (by omega)]
  simp only [Option.bind_some, Bldg.tup, bld10]
  have hl : (nbv' fl ca).Cars.length = ca := by simp [nbv']
  rw [hl, nb' (n := 18 * (ca : Int)) (by omega) (by omega), nb' (n := 18 * (ca : Int) + 24) (by omega) (by omega), nb' (n := room) (by omega) (by omega), nb' (by omega) (by omega)]
theorem nsy' {fl ca : Nat} (h1 : 2 ≤ fl) (h2 : fl ≤ 8) (h3 : 1 ≤ ca) (h4 : ca ≤ 3) {room : Int} (hr : 0 ≤ room ∧ room < 256) : (bld10 fl ca room).code = 0 := by
  have hl : (bld10 fl ca room).Cars.length = ca := by simp [bld10, nbv']
  unfold Bldg.code
  have e1 : inR 2 32 (bld10 fl ca room).Floors = true := nv'.2 (by simp only [bld10, nbv']; omega)
  have e2 : inR 1 8 ((bld10 fl ca room).Cars.length : Int) = true := nv'.2 (by omega)
  have e3 : inR 1 16 (bld10 fl ca room).Debounce = true := rfl
  have e4 : inR 1 10000 (bld10 fl ca room).Park = true := rfl
  have e5 : (bld10 fl ca room).Cars.all (ncy' (bld10 fl ca room).Floors) = true := by
    rw [List.all_eq_true]
    intro c hc
    obtain ⟨i, _, rfl⟩ := List.mem_map.1 hc
    have hm : i % fl < fl := Nat.mod_lt _ (by omega)
    have : inR 0 (IntKind.i64.wrap ((fl : Int) - 1)) ((i % fl : Nat) : Int) = true := by
      rw [nb' (by omega) (by omega)]; exact nv'.2 (by omega)
    show ncy' (fl : Int) (nnk' fl i) = true
    unfold ncy' nnk'
    simp only [this]
    rfl
  have e6 : (bld10 fl ca room).loadsOK = true := by
    show (nbv' 2 1).loadsOK = true
    kernel_rfl
  have e7 : inR (18 * ((bld10 fl ca room).Cars.length : Int) + 24) 65536 (bld10 fl ca room).Room = true := nv'.2 (by rw [hl]; simp only [bld10]; omega)
  rw [e1, e2, e3, e4, e5, e6, e7]; rfl
end Go.Ovl
