/- RestartForgets: what a restart keeps and what it does not. -/
import Derived.Test.YthdomhdippmaiaaOvSane26
namespace Go.Ovl
open Go Go.Ab
set_option maxRecDepth 100000
theorem n0x' {α : Type} {a d : α} {n i : Nat} (h : i < n) : (List.replicate n a).getD i d = a := by simp [h]
theorem nto' (b : Bldg) (hc : b.Cars.length ≤ 1000) (m : Img) (s : Sto) : ncv' (((), (), (), (0 : Int), ()), (b.tup, m.tup, (nd' b m s).tup, ())) = some (.inl (((), (), (), ()), (b.tup, m.tup, (nd' b m s).tup, ()))) := by
  have h := ncc' (step := fun x => nce' x.1.2.2.2.1 x.2.1.1 x.2.1.2.1 x.2.1.2.2.1 x.2.1.2.2.2.1 x.2.1.2.2.2.2.1 x.2.1.2.2.2.2.2.1 x.2.1.2.2.2.2.2.2.1 x.2.1.2.2.2.2.2.2.2.1 x.2.2.1.1 x.2.2.1.2.1 x.2.2.1.2.2.1 x.2.2.1.2.2.2.1 x.2.2.2.1.1 x.2.2.2.1.2.1 x.2.2.2.1.2.2.1 x.2.2.2.1.2.2.2.1 x.2.2.2.1.2.2.2.2.1 x.2.2.2.1.2.2.2.2.2.1 x.2.2.2.1.2.2.2.2.2.2.1 x.2.2.2.1.2.2.2.2.2.2.2.1 x.2.2.2.1.2.2.2.2.2.2.2.2.1 x.2.2.2.1.2.2.2.2.2.2.2.2.2.1 x.2.2.2.1.2.2.2.2.2.2.2.2.2.2.1 x.2.2.2.1.2.2.2.2.2.2.2.2.2.2.2.1 x.2.2.2.1.2.2.2.2.2.2.2.2.2.2.2.2.1 x.2.2.2.1.2.2.2.2.2.2.2.2.2.2.2.2.2.1 x.2.2.2.1.2.2.2.2.2.2.2.2.2.2.2.2.2.2.1 x.2.2.2.1.2.2.2.2.2.2.2.2.2.2.2.2.2.2.2.1) b.Cars.length (fun i (_ : Unit) => (((), (), (), (i : Int), ()), (b.tup, m.tup, (nd' b m s).tup, ()))) (fun _ u => u) (fun _ _ => True) (fun _ => Sum.inl (((), (), (), ()), (b.tup, m.tup, (nd' b m s).tup, ()))) (fun i u hi _ => by
    refine ⟨?_, trivial⟩
    show nce' (i : Int) b.Floors b.Debounce b.Room b.Park b.Empty b.Full b.Over b.Cars m.Phases m.Flags m.Leaving m.Entries (nd' b m s).Image.Phases (nd' b m s).Image.Flags (nd' b m s).Image.Leaving (nd' b m s).Image.Entries (nd' b m s).Store.h0 (nd' b m s).Store.h1 (nd' b m s).Store.sel (nd' b m s).Contacts (nd' b m s).Beliefs (nd' b m s).Cars (nd' b m s).Loads (nd' b m s).Expect (nd' b m s).Lit (nd' b m s).Tick (nd' b m s).Faults (nd' b m s).Refused = _
    have ib : ∀ {α : Type} (a : α), inB (i : Int) (List.replicate b.Cars.length a).length = true := fun a => nc' (by omega) (by rw [List.length_replicate]; omega)
    unfold nce'
    rw [show (nd' b m s).Contacts = List.replicate b.Cars.length nbe' from rfl, show (nd' b m s).Beliefs = List.replicate b.Cars.length nhi' from rfl, show (nd' b m s).Cars = List.replicate b.Cars.length ncb' from rfl, show (nd' b m s).Loads = List.replicate b.Cars.length nca' from rfl, show (nd' b m s).Lit = List.replicate b.Cars.length ncm' from rfl]
    simp only [decide_eq_true (show (i : Int) < (b.Cars.length : Int) by omega), ib, cond_true, Int.toNat_natCast, n0x' hi, wrap1 hi (show b.Cars.length ≤ nh' by unfold nh'; omega)]
    rfl) (fun u _ => by
    show nce' (b.Cars.length : Int) b.Floors b.Debounce b.Room b.Park b.Empty b.Full b.Over b.Cars m.Phases m.Flags m.Leaving m.Entries (nd' b m s).Image.Phases (nd' b m s).Image.Flags (nd' b m s).Image.Leaving (nd' b m s).Image.Entries (nd' b m s).Store.h0 (nd' b m s).Store.h1 (nd' b m s).Store.sel (nd' b m s).Contacts (nd' b m s).Beliefs (nd' b m s).Cars (nd' b m s).Loads (nd' b m s).Expect (nd' b m s).Lit (nd' b m s).Tick (nd' b m s).Faults (nd' b m s).Refused = _
    unfold nce'
    simp only [decide_eq_false (Int.lt_irrefl (b.Cars.length : Int)), cond_false]
    rfl) b.Cars.length 0 () (by omega) trivial
  exact ng' h.1 (by omega)
theorem ntj' (b : Bldg) (m : Img) (hm : ImgOK b m) (hl : m.Entries.length ≤ 1000) (s : Sto) : ncw' (((), (), (), (0 : Int), ()), (b.tup, m.tup, (nd' b m s).tup, ())) = some (.inl (((), ()), ((nd' b m s).tup, ()))) := by
  have h := ncc' (step := fun x => ncf' x.1.2.2.2.1 x.2.1.1 x.2.1.2.1 x.2.1.2.2.1 x.2.1.2.2.2.1 x.2.1.2.2.2.2.1 x.2.1.2.2.2.2.2.1 x.2.1.2.2.2.2.2.2.1 x.2.1.2.2.2.2.2.2.2.1 x.2.2.1.1 x.2.2.1.2.1 x.2.2.1.2.2.1 x.2.2.1.2.2.2.1 x.2.2.2.1.1 x.2.2.2.1.2.1 x.2.2.2.1.2.2.1 x.2.2.2.1.2.2.2.1 x.2.2.2.1.2.2.2.2.1 x.2.2.2.1.2.2.2.2.2.1 x.2.2.2.1.2.2.2.2.2.2.1 x.2.2.2.1.2.2.2.2.2.2.2.1 x.2.2.2.1.2.2.2.2.2.2.2.2.1 x.2.2.2.1.2.2.2.2.2.2.2.2.2.1 x.2.2.2.1.2.2.2.2.2.2.2.2.2.2.1 x.2.2.2.1.2.2.2.2.2.2.2.2.2.2.2.1 x.2.2.2.1.2.2.2.2.2.2.2.2.2.2.2.2.1 x.2.2.2.1.2.2.2.2.2.2.2.2.2.2.2.2.2.1 x.2.2.2.1.2.2.2.2.2.2.2.2.2.2.2.2.2.2.1 x.2.2.2.1.2.2.2.2.2.2.2.2.2.2.2.2.2.2.2.1) m.Entries.length (fun i (_ : Unit) => (((), (), (), (i : Int), ()), (b.tup, m.tup, (nd' b m s).tup, ()))) (fun _ u => u) (fun _ _ => True) (fun _ => Sum.inl (((), ()), ((nd' b m s).tup, ()))) (fun i u hi _ => by
    refine ⟨?_, trivial⟩
    show ncf' (i : Int) b.Floors b.Debounce b.Room b.Park b.Empty b.Full b.Over b.Cars m.Phases m.Flags m.Leaving m.Entries (nd' b m s).Image.Phases (nd' b m s).Image.Flags (nd' b m s).Image.Leaving (nd' b m s).Image.Entries (nd' b m s).Store.h0 (nd' b m s).Store.h1 (nd' b m s).Store.sel (nd' b m s).Contacts (nd' b m s).Beliefs (nd' b m s).Cars (nd' b m s).Loads (nd' b m s).Expect (nd' b m s).Lit (nd' b m s).Tick (nd' b m s).Faults (nd' b m s).Refused = _
    have hc := (nfx'.1 (hm.en _ (ng5' noE hi))).2.1
    have ix : inB (i : Int) (nd' b m s).Expect.length = true := nc' (by omega) (by show (i : Int) < (((m.Entries.map (nfp' b)).length : Nat) : Int); rw [List.length_map]; omega)
    have hx : (nd' b m s).Expect.getD i 0 = nfp' b (m.Entries.getD i noE) := by
      show (m.Entries.map (nfp' b)).getD i 0 = _
      simp [List.getD_eq_getElem?_getD, hi]
    have hex : nfp' b (m.Entries.getD i noE) = bif decide (0 ≤ (m.Entries.getD i noE).Car) then (carAt b (m.Entries.getD i noE).Car.toNat).Deadline else 0 := rfl
    unfold ncf'
    rw [show Entry.mk 0 0 0 0 false = noE from rfl]
    simp only [decide_eq_true (show (i : Int) < (m.Entries.length : Int) by omega), nc' (show (0 : Int) ≤ (i : Int) by omega) (show (i : Int) < (m.Entries.length : Int) by omega), cond_true, Int.toNat_natCast]
    by_cases g : 0 ≤ (m.Entries.getD i noE).Car
    · rw [decide_eq_true g] at hex
      rw [decide_eq_true g, nc' g hc.2]
      simp only [cond_true, Option.bind_some, ix, Int.toNat_natCast, hx, hex]
      rw [show carAt b (m.Entries.getD i noE).Car.toNat = b.Cars.getD (m.Entries.getD i noE).Car.toNat ⟨0, 0, 0, 0, 0, 0, 0, 0, 0⟩ from rfl]
      simp only [bne_self_eq_false, cond_false, wrap1 hi (show m.Entries.length ≤ nh' by unfold nh'; omega)]
      rfl
    · rw [decide_eq_false g] at hex
      rw [decide_eq_false g]
      simp only [cond_false, cond_true, Option.bind_some, ix, Int.toNat_natCast, hx, hex, bne_self_eq_false, wrap1 hi (show m.Entries.length ≤ nh' by unfold nh'; omega)]
      rfl) (fun u _ => by
    show ncf' (m.Entries.length : Int) b.Floors b.Debounce b.Room b.Park b.Empty b.Full b.Over b.Cars m.Phases m.Flags m.Leaving m.Entries (nd' b m s).Image.Phases (nd' b m s).Image.Flags (nd' b m s).Image.Leaving (nd' b m s).Image.Entries (nd' b m s).Store.h0 (nd' b m s).Store.h1 (nd' b m s).Store.sel (nd' b m s).Contacts (nd' b m s).Beliefs (nd' b m s).Cars (nd' b m s).Loads (nd' b m s).Expect (nd' b m s).Lit (nd' b m s).Tick (nd' b m s).Faults (nd' b m s).Refused = _
    unfold ncf'
    simp only [decide_eq_false (Int.lt_irrefl (m.Entries.length : Int)), cond_false]
    rfl) m.Entries.length 0 () (by omega) trivial
  exact ng' h.1 (by omega)
theorem noc' (n_f0 : Int) (n_f1 : Int) (l : List (Int)) (h_n_f0 : 0 ≤ n_f0 ∧ n_f0 < 256) (_h_n_f1 : 0 ≤ n_f1 ∧ n_f1 < 256) (h_l : l.length ≤ maxLen ∧ ∀ e ∈ l, (0 ≤ e ∧ e < 256)) : F_l26_RestartForgets n_f0 n_f1 l = some ((true, ()), ()) := by
  obtain ⟨fl, ca, f1, f2, c1, c2, hbd⟩ := npa' (n := n_f0) (room := 250) h_n_f0 (by omega)
  have hcode := nmw' f1 f2 c1 c2 (room := 250) (by omega)
  have hb : (bld10 fl ca 250).small := ⟨by show (2 : Int) ≤ (fl : Int); omega, by show (fl : Int) ≤ 8; omega⟩
  have hroom : (bld10 fl ca 250).Room = 18 * (ca : Int) + 24 + 250 := rfl
  have hca : (bld10 fl ca 250).Cars.length = ca := by simp [bld10, nbg']
  generalize bld10 fl ca 250 = b at *
  have hcars := ndu' hcode
  have hhi := hb.hi
  obtain ⟨m, hi, hm, hme⟩ := nrs' hb hcode (by omega) (l := l) h_l.2
  have hle := n0z' hb hm
  have hlp := hm.lp
  have hlf := hm.lf
  have hll := hm.ll
  have hf : m.fit := ⟨by omega, by omega, by omega, by omega⟩
  have hfr := nle' hb m hf (by omega) Sto.no
  rw [nmm' hm (by omega) (Jst.first hcode).ok] at hfr
  have hsm := npg' hf (c := m)
  rw [nnh'] at hsm
  have l0 := nto' b (by omega) m Sto.no
  have l1 := ntj' b m hm (by omega) Sto.no
  have n1 : (nd' b m Sto.no).Contacts.length = b.Cars.length := List.length_replicate
  have n2 : (nd' b m Sto.no).Beliefs.length = b.Cars.length := List.length_replicate
  have n3 : (nd' b m Sto.no).Cars.length = b.Cars.length := List.length_replicate
  have n4 : (nd' b m Sto.no).Loads.length = b.Cars.length := List.length_replicate
  have n5 : (nd' b m Sto.no).Lit.length = b.Cars.length := List.length_replicate
  have n6 : (nd' b m Sto.no).Expect.length = m.Entries.length := List.length_map _
  unfold F_l26_RestartForgets
  rw [hbd]
  simp only [Option.bind_some, Bldg.tup]
  rw [hi]
  simp only [Option.bind_some, Img.tup]
  rw [show nc8' b.Floors b.Debounce b.Room b.Park b.Empty b.Full b.Over b.Cars m.Phases m.Flags m.Leaving m.Entries (ByteArray.mk (Array.mk [])) (ByteArray.mk (Array.mk [])) 0 = _ from hfr]
  simp only [Option.bind_some, Mch.tup, bne_self_eq_false, cond_false]
  rw [show (nd' b m Sto.no).Image = m from rfl, hsm]
  simp only [Option.bind_some, Bool.not_true, cond_false, n1, n2, n3, n4, n5, n6, bne_self_eq_false]
  simp only [Mch.tup, Img.tup, Bldg.tup] at l0 l1
  rw [show (nd' b m Sto.no).Image = m from rfl] at l0 l1
  rw [l0]
  simp only [Option.bind_some]
  rw [l1]
  simp only [Option.bind_some]
  rw [show (nd' b m Sto.no).Tick = 0 from rfl, show (nd' b m Sto.no).Faults = 0 from rfl, show (nd' b m Sto.no).Refused = 0 from rfl, nzs']
  rfl
end Go.Ovl
