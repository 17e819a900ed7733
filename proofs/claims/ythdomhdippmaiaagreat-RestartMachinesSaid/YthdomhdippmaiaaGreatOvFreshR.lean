/- Layer 26: the machine that begins anew, and the machine of a store: the reference's side. -/
import Derived.Test.YthdomhdippmaiaaGreatOvFresh
import Derived.Test.YthdomhdippmaiaaGreatOvRefJ
namespace Go.Ovl
open Go Go.Ab
set_option maxRecDepth 100000
theorem nwt' {X Y : Type} {step : X → Option (Sum X Y)} (N : Nat) (g : Nat → X) (y : Y) (h1 : ∀ i, i < N → step (g i) = some (.inl (g (i + 1)))) (h2 : step (g N) = some (.inr y)) : ∀ m i : Nat, i + m = N → iter step (m + 1) (g i) = some y
  | 0, i, hi => by
    obtain rfl : i = N := by omega
    exact n6' h2
  | m + 1, i, hi => (nb4' (h1 i (by omega))).trans (nwt' N g y h1 h2 m (i + 1) (by omega))
theorem nra' {b : Bldg} (hb : b.small) (m : Img) (hc : b.Cars.length ≤ 100000) (hf : m.fit) : nip' b.Floors b.Debounce b.Room b.Park b.Empty b.Full b.Over b.Cars m.Phases m.Flags m.Leaving m.Entries = some ((fitsV b m, ()), ()) := by
  have hmx : 100000 ≤ maxLen := by decide
  have hp := hf.p
  have he := hf.e
  unfold nip' fitsV
  rw [nn7' hb m (by omega) (by omega)]
  simp only [Option.bind_some, fitW hc he]
  cases m.ok b <;> rfl
theorem nw7' (b : Bldg) (hc : b.Cars.length ≤ 1000) (m : Img) (z o : Mch) (ho : o.Beliefs = []) : nhd' (((), (), (), (b.Cars.length : Int), (), (0 : Int), ()), (b.tup, m.tup, z.tup, o.tup, ())) = some (((), (), (), (), ()), (b.tup, m.tup, z.tup, (o.withB (List.replicate b.Cars.length newBel)).tup, ())) := by
  have h := ndr' (step := fun x => nfj' x.1.2.2.2.1 x.1.2.2.2.2.2.1 x.2.1.1 x.2.1.2.1 x.2.1.2.2.1 x.2.1.2.2.2.1 x.2.1.2.2.2.2.1 x.2.1.2.2.2.2.2.1 x.2.1.2.2.2.2.2.2.1 x.2.1.2.2.2.2.2.2.2.1 x.2.2.1.1 x.2.2.1.2.1 x.2.2.1.2.2.1 x.2.2.1.2.2.2.1 x.2.2.2.1.1 x.2.2.2.1.2.1 x.2.2.2.1.2.2.1 x.2.2.2.1.2.2.2.1 x.2.2.2.1.2.2.2.2.1 x.2.2.2.1.2.2.2.2.2.1 x.2.2.2.1.2.2.2.2.2.2.1 x.2.2.2.1.2.2.2.2.2.2.2.1 x.2.2.2.1.2.2.2.2.2.2.2.2.1 x.2.2.2.1.2.2.2.2.2.2.2.2.2.1 x.2.2.2.1.2.2.2.2.2.2.2.2.2.2.1 x.2.2.2.1.2.2.2.2.2.2.2.2.2.2.2.1 x.2.2.2.1.2.2.2.2.2.2.2.2.2.2.2.2.1 x.2.2.2.1.2.2.2.2.2.2.2.2.2.2.2.2.2.1 x.2.2.2.1.2.2.2.2.2.2.2.2.2.2.2.2.2.2.1 x.2.2.2.1.2.2.2.2.2.2.2.2.2.2.2.2.2.2.2.1 x.2.2.2.2.1.1 x.2.2.2.2.1.2.1 x.2.2.2.2.1.2.2.1 x.2.2.2.2.1.2.2.2.1 x.2.2.2.2.1.2.2.2.2.1 x.2.2.2.2.1.2.2.2.2.2.1 x.2.2.2.2.1.2.2.2.2.2.2.1 x.2.2.2.2.1.2.2.2.2.2.2.2.1 x.2.2.2.2.1.2.2.2.2.2.2.2.2.1 x.2.2.2.2.1.2.2.2.2.2.2.2.2.2.1 x.2.2.2.2.1.2.2.2.2.2.2.2.2.2.2.1 x.2.2.2.2.1.2.2.2.2.2.2.2.2.2.2.2.1 x.2.2.2.2.1.2.2.2.2.2.2.2.2.2.2.2.2.1 x.2.2.2.2.1.2.2.2.2.2.2.2.2.2.2.2.2.2.1 x.2.2.2.2.1.2.2.2.2.2.2.2.2.2.2.2.2.2.2.1 x.2.2.2.2.1.2.2.2.2.2.2.2.2.2.2.2.2.2.2.2.1) b.Cars.length (fun i (l : List Belief) => (((), (), (), (b.Cars.length : Int), (), (i : Int), ()), (b.tup, m.tup, z.tup, (o.withB l).tup, ()))) (fun _ l => l ++ [newBel]) (fun i l => l.length ≤ i) (fun l => (((), (), (), (), ()), (b.tup, m.tup, z.tup, (o.withB l).tup, ()))) (fun i l hi hl => by
    refine ⟨?_, by rw [List.length_append, List.length_singleton]; omega⟩
    show nfj' (b.Cars.length : Int) (i : Int) b.Floors b.Debounce b.Room b.Park b.Empty b.Full b.Over b.Cars m.Phases m.Flags m.Leaving m.Entries z.Image.Phases z.Image.Flags z.Image.Leaving z.Image.Entries z.Store.h0 z.Store.h1 z.Store.sel z.Contacts z.Beliefs z.Cars z.Loads z.Expect z.Lit z.Tick z.Faults z.Refused (o.withB l).Image.Phases (o.withB l).Image.Flags (o.withB l).Image.Leaving (o.withB l).Image.Entries (o.withB l).Store.h0 (o.withB l).Store.h1 (o.withB l).Store.sel (o.withB l).Contacts (o.withB l).Beliefs (o.withB l).Cars (o.withB l).Loads (o.withB l).Expect (o.withB l).Lit (o.withB l).Tick (o.withB l).Faults (o.withB l).Refused = _
    unfold nfj' njr'
    simp only [decide_eq_true (show (i : Int) < (b.Cars.length : Int) by omega), cond_true, Option.bind_some, wrap1 hi (show b.Cars.length ≤ ng' by unfold ng'; omega)]
    rw [nbn' (show (o.withB l).Beliefs.length + [Belief.mk (-1) 0 0 [] 0 false].length ≤ 2147483648 by show l.length + 1 ≤ _; omega)]
    rfl) (fun l _ => by
    show nfj' (b.Cars.length : Int) (b.Cars.length : Int) b.Floors b.Debounce b.Room b.Park b.Empty b.Full b.Over b.Cars m.Phases m.Flags m.Leaving m.Entries z.Image.Phases z.Image.Flags z.Image.Leaving z.Image.Entries z.Store.h0 z.Store.h1 z.Store.sel z.Contacts z.Beliefs z.Cars z.Loads z.Expect z.Lit z.Tick z.Faults z.Refused (o.withB l).Image.Phases (o.withB l).Image.Flags (o.withB l).Image.Leaving (o.withB l).Image.Entries (o.withB l).Store.h0 (o.withB l).Store.h1 (o.withB l).Store.sel (o.withB l).Contacts (o.withB l).Beliefs (o.withB l).Cars (o.withB l).Loads (o.withB l).Expect (o.withB l).Lit (o.withB l).Tick (o.withB l).Faults (o.withB l).Refused = _
    unfold nfj'
    simp only [decide_eq_false (Int.lt_irrefl (b.Cars.length : Int)), cond_false]
    rfl) b.Cars.length 0 [] (by omega) (by simp)
  have h' := nf' h.1 (by omega)
  rw [ngt' (fun _ => [newBel]), nrl', List.nil_append] at h'
  rw [show o.tup = (o.withB []).tup by unfold Mch.withB Mch.tup; rw [ho]]
  exact h'
theorem nxf' (b : Bldg) (m : Img) (hl : m.Entries.length ≤ 100000) (hcar : ∀ e ∈ m.Entries, e.Car < (b.Cars.length : Int)) (z o : Mch) (ho : o.Expect = []) : ng9' (((), (), (), (), (0 : Int), ()), (b.tup, m.tup, z.tup, o.tup, ())) = some (((), (), ()), (z.tup, (o.withE (m.Entries.map (nea' b))).tup, ())) := by
  have h := ndr' (step := fun x => nfh' x.1.2.2.2.2.1 x.2.1.1 x.2.1.2.1 x.2.1.2.2.1 x.2.1.2.2.2.1 x.2.1.2.2.2.2.1 x.2.1.2.2.2.2.2.1 x.2.1.2.2.2.2.2.2.1 x.2.1.2.2.2.2.2.2.2.1 x.2.2.1.1 x.2.2.1.2.1 x.2.2.1.2.2.1 x.2.2.1.2.2.2.1 x.2.2.2.1.1 x.2.2.2.1.2.1 x.2.2.2.1.2.2.1 x.2.2.2.1.2.2.2.1 x.2.2.2.1.2.2.2.2.1 x.2.2.2.1.2.2.2.2.2.1 x.2.2.2.1.2.2.2.2.2.2.1 x.2.2.2.1.2.2.2.2.2.2.2.1 x.2.2.2.1.2.2.2.2.2.2.2.2.1 x.2.2.2.1.2.2.2.2.2.2.2.2.2.1 x.2.2.2.1.2.2.2.2.2.2.2.2.2.2.1 x.2.2.2.1.2.2.2.2.2.2.2.2.2.2.2.1 x.2.2.2.1.2.2.2.2.2.2.2.2.2.2.2.2.1 x.2.2.2.1.2.2.2.2.2.2.2.2.2.2.2.2.2.1 x.2.2.2.1.2.2.2.2.2.2.2.2.2.2.2.2.2.2.1 x.2.2.2.1.2.2.2.2.2.2.2.2.2.2.2.2.2.2.2.1 x.2.2.2.2.1.1 x.2.2.2.2.1.2.1 x.2.2.2.2.1.2.2.1 x.2.2.2.2.1.2.2.2.1 x.2.2.2.2.1.2.2.2.2.1 x.2.2.2.2.1.2.2.2.2.2.1 x.2.2.2.2.1.2.2.2.2.2.2.1 x.2.2.2.2.1.2.2.2.2.2.2.2.1 x.2.2.2.2.1.2.2.2.2.2.2.2.2.1 x.2.2.2.2.1.2.2.2.2.2.2.2.2.2.1 x.2.2.2.2.1.2.2.2.2.2.2.2.2.2.2.1 x.2.2.2.2.1.2.2.2.2.2.2.2.2.2.2.2.1 x.2.2.2.2.1.2.2.2.2.2.2.2.2.2.2.2.2.1 x.2.2.2.2.1.2.2.2.2.2.2.2.2.2.2.2.2.2.1 x.2.2.2.2.1.2.2.2.2.2.2.2.2.2.2.2.2.2.2.1 x.2.2.2.2.1.2.2.2.2.2.2.2.2.2.2.2.2.2.2.2.1) m.Entries.length (fun i (q : List Int) => (((), (), (), (), (i : Int), ()), (b.tup, m.tup, z.tup, (o.withE q).tup, ()))) (fun i q => q ++ [nea' b (m.Entries.getD i noE)]) (fun i q => q.length ≤ i) (fun q => (((), (), ()), (z.tup, (o.withE q).tup, ()))) (fun i q hi hq => by
    refine ⟨?_, by rw [List.length_append, List.length_singleton]; omega⟩
    have hc := hcar _ (nes' noE hi)
    have b1 : ∀ v : Int, Nat.ble ((o.withE q).Expect.length + [v].length) 2147483648 = true := fun v => nbn' (by show q.length + 1 ≤ _; omega)
    show nfh' (i : Int) b.Floors b.Debounce b.Room b.Park b.Empty b.Full b.Over b.Cars m.Phases m.Flags m.Leaving m.Entries z.Image.Phases z.Image.Flags z.Image.Leaving z.Image.Entries z.Store.h0 z.Store.h1 z.Store.sel z.Contacts z.Beliefs z.Cars z.Loads z.Expect z.Lit z.Tick z.Faults z.Refused (o.withE q).Image.Phases (o.withE q).Image.Flags (o.withE q).Image.Leaving (o.withE q).Image.Entries (o.withE q).Store.h0 (o.withE q).Store.h1 (o.withE q).Store.sel (o.withE q).Contacts (o.withE q).Beliefs (o.withE q).Cars (o.withE q).Loads (o.withE q).Expect (o.withE q).Lit (o.withE q).Tick (o.withE q).Faults (o.withE q).Refused = _
    unfold nfh'
    rw [show Entry.mk 0 0 0 0 false = noE from rfl]
    simp only [decide_eq_true (show (i : Int) < (m.Entries.length : Int) by omega), nc' (show (0 : Int) ≤ (i : Int) by omega) (show (i : Int) < (m.Entries.length : Int) by omega), cond_true, Int.toNat_natCast]
    have hex : nea' b (m.Entries.getD i noE) = bif decide (0 ≤ (m.Entries.getD i noE).Car) then (carAt b (m.Entries.getD i noE).Car.toNat).Deadline else 0 := rfl
    rw [hex]
    by_cases g : 0 ≤ (m.Entries.getD i noE).Car
    · rw [decide_eq_true g, nc' g hc]
      simp only [cond_true, Option.bind_some, b1, wrap1 hi (show m.Entries.length ≤ ng' by unfold ng'; omega)]
      rfl
    · rw [decide_eq_false g]
      simp only [cond_false, cond_true, Option.bind_some, b1, wrap1 hi (show m.Entries.length ≤ ng' by unfold ng'; omega)]
      rfl) (fun q _ => by
    show nfh' (m.Entries.length : Int) b.Floors b.Debounce b.Room b.Park b.Empty b.Full b.Over b.Cars m.Phases m.Flags m.Leaving m.Entries z.Image.Phases z.Image.Flags z.Image.Leaving z.Image.Entries z.Store.h0 z.Store.h1 z.Store.sel z.Contacts z.Beliefs z.Cars z.Loads z.Expect z.Lit z.Tick z.Faults z.Refused (o.withE q).Image.Phases (o.withE q).Image.Flags (o.withE q).Image.Leaving (o.withE q).Image.Entries (o.withE q).Store.h0 (o.withE q).Store.h1 (o.withE q).Store.sel (o.withE q).Contacts (o.withE q).Beliefs (o.withE q).Cars (o.withE q).Loads (o.withE q).Expect (o.withE q).Lit (o.withE q).Tick (o.withE q).Faults (o.withE q).Refused = _
    unfold nfh'
    simp only [decide_eq_false (Int.lt_irrefl (m.Entries.length : Int)), cond_false]
    rfl) m.Entries.length 0 [] (by omega) (by simp)
  have h' := nf' h.1 (by omega)
  rw [ngt' (fun i => [nea' b (m.Entries.getD i noE)]), nkb' (fun e => [nea' b e]) noE m.Entries 0 m.Entries.length (by omega), List.drop_zero, nxe', List.nil_append] at h'
  rw [show o.tup = (o.withE []).tup by unfold Mch.withE Mch.tup; rw [ho]]
  exact h'
theorem nw4' {b : Bldg} (hb : b.small) (m : Img) (hf : m.fit) (hc : b.Cars.length ≤ 1000) (s : Sto) : nf3' b.Floors b.Debounce b.Room b.Park b.Empty b.Full b.Over b.Cars m.Phases m.Flags m.Leaving m.Entries s.h0 s.h1 s.sel = some (((), (nhb' b m s).2, ()), ((nhb' b m s).1.tup, ())) := by
  unfold nf3' nhb'
  rw [nra' hb m (by omega) hf, nm2']
  simp only [Option.bind_some]
  cases hq : fitsV b m with
  | false => rfl
  | true =>
    have hm : ImgOK b m := by
      unfold fitsV at hq
      rw [Bool.and_eq_true] at hq
      exact Img.ok_iff.1 hq.1
    by_cases hs : s.ok b.Room
    · rw [decide_eq_true (show Sto.ok b.Room ⟨s.h0, s.h1, s.sel⟩ from hs)]
      have e := hf.e
      let o : Mch := ⟨m, s, List.replicate b.Cars.length nn', [], List.replicate b.Cars.length noNewCar, List.replicate b.Cars.length n3', [], List.replicate b.Cars.length ncw', 0, 0, 0⟩
      have l0 := nw7' b hc m Mch.none o rfl
      have l1 := nxf' b m e (fun x hx => (nfw'.1 (hm.en x hx)).2.1.2) Mch.none (o.withB (List.replicate b.Cars.length newBel)) rfl
      simp only [Mch.tup, Img.tup, Bldg.tup, Mch.withB, Mch.withE, Mch.none, Img.none, Sto.no, noB, o] at l0 l1
      have dl : ∀ n : Nat, n ≤ 1000 → (decide ((0 : Int) ≤ (n : Int)) && decide ((n : Int) ≤ (n : Int)) && decide ((n : Int) ≤ (2147483648 : Int))) = true := fun n hn => by
        rw [decide_eq_true (show (0 : Int) ≤ (n : Int) by omega), decide_eq_true (Int.le_refl (n : Int)), decide_eq_true (show (n : Int) ≤ 2147483648 by omega)]; rfl
      simp only [Bool.not_true, cond_false, cond_true, dl _ hc, Int.toNat_natCast]
      rw [show Debounced.mk 0 false false false false 0 0 0 0 0 0 0 0 0 0 0 0 0 0 0 0 0 0 0 0 0 0 0 0 0 0 0 0 0 0 0 0 0 0 0 0 = nn' from rfl, show NewCar.mk 0 0 0 0 0 false 0 0 0 0 0 0 0 false = noNewCar from rfl, show Loaded.mk 0 = n3' from rfl, show Calls.mk 0 0 = ncw' from rfl]
      rw [l0]
      simp only [Option.bind_some]
      rw [l1]
      rfl
    · rw [decide_eq_false (show ¬ Sto.ok b.Room ⟨s.h0, s.h1, s.sel⟩ from hs)]
      rfl
theorem n4j' (s : Sto) : Mch.fit { Mch.none with Store := s } := ⟨⟨Nat.zero_le _, Nat.zero_le _, Nat.zero_le _, Nat.zero_le _⟩, Nat.zero_le _, Nat.zero_le _, (fun x h => by cases h), Nat.zero_le _, Nat.zero_le _, Nat.zero_le _, Nat.zero_le _⟩
end Go.Ovl
