/- Layer 26: the machine that begins anew, and the machine of a store: the program's side. -/
import Derived.Test.YthdomhdippmaiaaGreatOvMSame
import Derived.Test.YthdomhdippmaiaaGreatOvRecov
namespace Go.Ovl
open Go Go.Ab
set_option maxRecDepth 100000
def fitsV (b : Bldg) (m : Img) : Bool := m.ok b && decide (18 * ((b.Cars.length : Int) + (m.Entries.length : Int)) + 6 ≤ b.Room)
theorem fitW {a b : Nat} (h : a ≤ 100000) (h' : b ≤ 100000) : IntKind.i64.wrap (IntKind.i64.wrap (18 * IntKind.i64.wrap ((a : Int) + (b : Int))) + 6) = 18 * ((a : Int) + (b : Int)) + 6 := by
  rw [nb' (n := (a : Int) + (b : Int)) (by omega) (by omega), nb' (n := 18 * ((a : Int) + (b : Int))) (by omega) (by omega), nb' (by omega) (by omega)]
theorem nm8' {b : Bldg} (hb : b.small) (m : Img) (hc : b.Cars.length ≤ 100000) (hf : m.fit) : ney' b.Floors b.Debounce b.Room b.Park b.Empty b.Full b.Over b.Cars m.Phases m.Flags m.Leaving m.Entries = some ((fitsV b m, ()), ()) := by
  have hmx : 100000 ≤ maxLen := by decide
  have hp := hf.p
  have he := hf.e
  unfold ney' fitsV
  rw [nkz' hb m (by omega) (by omega)]
  simp only [Option.bind_some, fitW hc he]
  cases m.ok b <;> rfl
theorem nqo' (m : Img) (hf : m.fit) : ne9' m.Phases m.Flags m.Leaving m.Entries = some (((), ()), (m.tup, ())) := by
  have k : ∀ {α : Type} (l : List α), l.length ≤ 100000 → cloF l = some ((l, ()), ()) := fun l h => by
    unfold cloF
    rw [nbn' (show l.length ≤ 2147483648 by omega)]; rfl
  unfold ne9' nex' nc9' ncv'
  rw [k _ hf.p, k _ hf.f, k _ hf.l, k _ hf.e]
  rfl
def newBel : Belief := ⟨-1, 0, 0, [], 0, false⟩
def carAt (b : Bldg) (i : Nat) : Car := b.Cars.getD i ⟨0, 0, 0, 0, 0, 0, 0, 0, 0⟩
def nea' (b : Bldg) (e : Entry) : Int := bif decide (0 ≤ e.Car) then (carAt b e.Car.toNat).Deadline else 0
def Mch.none : Mch := ⟨Img.none, Sto.no, [], [], [], [], [], [], 0, 0, 0⟩
def nfa' (b : Bldg) (m : Img) (s : Sto) : Mch := ⟨m, s, List.replicate b.Cars.length nn', List.replicate b.Cars.length newBel, List.replicate b.Cars.length noNewCar, List.replicate b.Cars.length n3', m.Entries.map (nea' b), List.replicate b.Cars.length ncw', 0, 0, 0⟩
def Mch.withB (m : Mch) (l : List Belief) : Mch := { m with Beliefs := l }
def Mch.withE (m : Mch) (l : List Int) : Mch := { m with Expect := l }
theorem nrl' {α : Type} (a : α) : ∀ k i : Nat, (List.range' i k).flatMap (fun _ => [a]) = List.replicate k a
  | 0, _ => rfl
  | k + 1, i => by rw [List.range'_succ, List.flatMap_cons, nrl' a k (i + 1), List.replicate_succ]; rfl
theorem nxe' {α β : Type} (f : α → β) (l : List α) : l.flatMap (fun x => [f x]) = l.map f := by
  induction l with
  | nil => rfl
  | cons a t ih => rw [List.flatMap_cons, ih]; rfl
theorem nyy' (b : Bldg) (hc : b.Cars.length ≤ 1000) (m : Img) (z o : Mch) (ho : o.Beliefs = []) : nev' (((), (), (), (), (b.Cars.length : Int), (0 : Int), ()), (b.tup, m.tup, z.tup, o.tup, ())) = some (((), (), (), (), ()), (b.tup, m.tup, z.tup, (o.withB (List.replicate b.Cars.length newBel)).tup, ())) := by
  have h := ndr' (step := fun x => ndw' x.1.2.2.2.2.1 x.1.2.2.2.2.2.1 x.2.1.1 x.2.1.2.1 x.2.1.2.2.1 x.2.1.2.2.2.1 x.2.1.2.2.2.2.1 x.2.1.2.2.2.2.2.1 x.2.1.2.2.2.2.2.2.1 x.2.1.2.2.2.2.2.2.2.1 x.2.2.1.1 x.2.2.1.2.1 x.2.2.1.2.2.1 x.2.2.1.2.2.2.1 x.2.2.2.1.1 x.2.2.2.1.2.1 x.2.2.2.1.2.2.1 x.2.2.2.1.2.2.2.1 x.2.2.2.1.2.2.2.2.1 x.2.2.2.1.2.2.2.2.2.1 x.2.2.2.1.2.2.2.2.2.2.1 x.2.2.2.1.2.2.2.2.2.2.2.1 x.2.2.2.1.2.2.2.2.2.2.2.2.1 x.2.2.2.1.2.2.2.2.2.2.2.2.2.1 x.2.2.2.1.2.2.2.2.2.2.2.2.2.2.1 x.2.2.2.1.2.2.2.2.2.2.2.2.2.2.2.1 x.2.2.2.1.2.2.2.2.2.2.2.2.2.2.2.2.1 x.2.2.2.1.2.2.2.2.2.2.2.2.2.2.2.2.2.1 x.2.2.2.1.2.2.2.2.2.2.2.2.2.2.2.2.2.2.1 x.2.2.2.1.2.2.2.2.2.2.2.2.2.2.2.2.2.2.2.1 x.2.2.2.2.1.1 x.2.2.2.2.1.2.1 x.2.2.2.2.1.2.2.1 x.2.2.2.2.1.2.2.2.1 x.2.2.2.2.1.2.2.2.2.1 x.2.2.2.2.1.2.2.2.2.2.1 x.2.2.2.2.1.2.2.2.2.2.2.1 x.2.2.2.2.1.2.2.2.2.2.2.2.1 x.2.2.2.2.1.2.2.2.2.2.2.2.2.1 x.2.2.2.2.1.2.2.2.2.2.2.2.2.2.1 x.2.2.2.2.1.2.2.2.2.2.2.2.2.2.2.1 x.2.2.2.2.1.2.2.2.2.2.2.2.2.2.2.2.1 x.2.2.2.2.1.2.2.2.2.2.2.2.2.2.2.2.2.1 x.2.2.2.2.1.2.2.2.2.2.2.2.2.2.2.2.2.2.1 x.2.2.2.2.1.2.2.2.2.2.2.2.2.2.2.2.2.2.2.1 x.2.2.2.2.1.2.2.2.2.2.2.2.2.2.2.2.2.2.2.2.1) b.Cars.length (fun i (l : List Belief) => (((), (), (), (), (b.Cars.length : Int), (i : Int), ()), (b.tup, m.tup, z.tup, (o.withB l).tup, ()))) (fun _ l => l ++ [newBel]) (fun i l => l.length ≤ i) (fun l => (((), (), (), (), ()), (b.tup, m.tup, z.tup, (o.withB l).tup, ()))) (fun i l hi hl => by
    refine ⟨?_, by rw [List.length_append, List.length_singleton]; omega⟩
    show ndw' (b.Cars.length : Int) (i : Int) b.Floors b.Debounce b.Room b.Park b.Empty b.Full b.Over b.Cars m.Phases m.Flags m.Leaving m.Entries z.Image.Phases z.Image.Flags z.Image.Leaving z.Image.Entries z.Store.h0 z.Store.h1 z.Store.sel z.Contacts z.Beliefs z.Cars z.Loads z.Expect z.Lit z.Tick z.Faults z.Refused (o.withB l).Image.Phases (o.withB l).Image.Flags (o.withB l).Image.Leaving (o.withB l).Image.Entries (o.withB l).Store.h0 (o.withB l).Store.h1 (o.withB l).Store.sel (o.withB l).Contacts (o.withB l).Beliefs (o.withB l).Cars (o.withB l).Loads (o.withB l).Expect (o.withB l).Lit (o.withB l).Tick (o.withB l).Faults (o.withB l).Refused = _
    unfold ndw' nf9'
    simp only [decide_eq_true (show (i : Int) < (b.Cars.length : Int) by omega), cond_true, Option.bind_some, wrap1 hi (show b.Cars.length ≤ ng' by unfold ng'; omega)]
    rw [nbn' (show (o.withB l).Beliefs.length + [Belief.mk (-1) 0 0 [] 0 false].length ≤ 2147483648 by show l.length + 1 ≤ _; omega)]
    rfl) (fun l _ => by
    show ndw' (b.Cars.length : Int) (b.Cars.length : Int) b.Floors b.Debounce b.Room b.Park b.Empty b.Full b.Over b.Cars m.Phases m.Flags m.Leaving m.Entries z.Image.Phases z.Image.Flags z.Image.Leaving z.Image.Entries z.Store.h0 z.Store.h1 z.Store.sel z.Contacts z.Beliefs z.Cars z.Loads z.Expect z.Lit z.Tick z.Faults z.Refused (o.withB l).Image.Phases (o.withB l).Image.Flags (o.withB l).Image.Leaving (o.withB l).Image.Entries (o.withB l).Store.h0 (o.withB l).Store.h1 (o.withB l).Store.sel (o.withB l).Contacts (o.withB l).Beliefs (o.withB l).Cars (o.withB l).Loads (o.withB l).Expect (o.withB l).Lit (o.withB l).Tick (o.withB l).Faults (o.withB l).Refused = _
    unfold ndw'
    simp only [decide_eq_false (Int.lt_irrefl (b.Cars.length : Int)), cond_false]
    rfl) b.Cars.length 0 [] (by omega) (by simp)
  have h' := nf' h.1 (by omega)
  rw [ngt' (fun _ => [newBel]), nrl', List.nil_append] at h'
  rw [show o.tup = (o.withB []).tup by unfold Mch.withB Mch.tup; rw [ho]]
  exact h'
theorem nyl' (b : Bldg) {l : List Entry} (hl : l.length ≤ 100000) (hcar : ∀ e ∈ l, e.Car < (b.Cars.length : Int)) (z o : Mch) (ho : o.Expect = []) : neu' (((), (), (), l, (l.length : Int), (0 : Int), ()), (b.tup, z.tup, o.tup, ())) = some (((), (), ()), (z.tup, (o.withE (l.map (nea' b))).tup, ())) := by
  have h := ndr' (step := fun x => ndu' x.1.2.2.2.1 x.1.2.2.2.2.1 x.1.2.2.2.2.2.1 x.2.1.1 x.2.1.2.1 x.2.1.2.2.1 x.2.1.2.2.2.1 x.2.1.2.2.2.2.1 x.2.1.2.2.2.2.2.1 x.2.1.2.2.2.2.2.2.1 x.2.1.2.2.2.2.2.2.2.1 x.2.2.1.1 x.2.2.1.2.1 x.2.2.1.2.2.1 x.2.2.1.2.2.2.1 x.2.2.1.2.2.2.2.1 x.2.2.1.2.2.2.2.2.1 x.2.2.1.2.2.2.2.2.2.1 x.2.2.1.2.2.2.2.2.2.2.1 x.2.2.1.2.2.2.2.2.2.2.2.1 x.2.2.1.2.2.2.2.2.2.2.2.2.1 x.2.2.1.2.2.2.2.2.2.2.2.2.2.1 x.2.2.1.2.2.2.2.2.2.2.2.2.2.2.1 x.2.2.1.2.2.2.2.2.2.2.2.2.2.2.2.1 x.2.2.1.2.2.2.2.2.2.2.2.2.2.2.2.2.1 x.2.2.1.2.2.2.2.2.2.2.2.2.2.2.2.2.2.1 x.2.2.1.2.2.2.2.2.2.2.2.2.2.2.2.2.2.2.1 x.2.2.2.1.1 x.2.2.2.1.2.1 x.2.2.2.1.2.2.1 x.2.2.2.1.2.2.2.1 x.2.2.2.1.2.2.2.2.1 x.2.2.2.1.2.2.2.2.2.1 x.2.2.2.1.2.2.2.2.2.2.1 x.2.2.2.1.2.2.2.2.2.2.2.1 x.2.2.2.1.2.2.2.2.2.2.2.2.1 x.2.2.2.1.2.2.2.2.2.2.2.2.2.1 x.2.2.2.1.2.2.2.2.2.2.2.2.2.2.1 x.2.2.2.1.2.2.2.2.2.2.2.2.2.2.2.1 x.2.2.2.1.2.2.2.2.2.2.2.2.2.2.2.2.1 x.2.2.2.1.2.2.2.2.2.2.2.2.2.2.2.2.2.1 x.2.2.2.1.2.2.2.2.2.2.2.2.2.2.2.2.2.2.1 x.2.2.2.1.2.2.2.2.2.2.2.2.2.2.2.2.2.2.2.1) l.length (fun i (q : List Int) => (((), (), (), l, (l.length : Int), (i : Int), ()), (b.tup, z.tup, (o.withE q).tup, ()))) (fun i q => q ++ [nea' b (l.getD i noE)]) (fun i q => q.length ≤ i) (fun q => (((), (), ()), (z.tup, (o.withE q).tup, ()))) (fun i q hi hq => by
    refine ⟨?_, by rw [List.length_append, List.length_singleton]; omega⟩
    have hc := hcar _ (nes' noE hi)
    have b1 : ∀ v : Int, Nat.ble ((o.withE q).Expect.length + [v].length) 2147483648 = true := fun v => nbn' (by show q.length + 1 ≤ _; omega)
    show ndu' l (l.length : Int) (i : Int) b.Floors b.Debounce b.Room b.Park b.Empty b.Full b.Over b.Cars z.Image.Phases z.Image.Flags z.Image.Leaving z.Image.Entries z.Store.h0 z.Store.h1 z.Store.sel z.Contacts z.Beliefs z.Cars z.Loads z.Expect z.Lit z.Tick z.Faults z.Refused (o.withE q).Image.Phases (o.withE q).Image.Flags (o.withE q).Image.Leaving (o.withE q).Image.Entries (o.withE q).Store.h0 (o.withE q).Store.h1 (o.withE q).Store.sel (o.withE q).Contacts (o.withE q).Beliefs (o.withE q).Cars (o.withE q).Loads (o.withE q).Expect (o.withE q).Lit (o.withE q).Tick (o.withE q).Faults (o.withE q).Refused = _
    unfold ndu'
    rw [show Entry.mk 0 0 0 0 false = noE from rfl]
    simp only [decide_eq_true (show (i : Int) < (l.length : Int) by omega), nc' (show (0 : Int) ≤ (i : Int) by omega) (show (i : Int) < (l.length : Int) by omega), cond_true, Int.toNat_natCast]
    have hex : nea' b (l.getD i noE) = bif decide (0 ≤ (l.getD i noE).Car) then (carAt b (l.getD i noE).Car.toNat).Deadline else 0 := rfl
    rw [hex]
    by_cases g : 0 ≤ (l.getD i noE).Car
    · rw [decide_eq_true g, nc' g hc]
      simp only [cond_true, Option.bind_some, b1, wrap1 hi (show l.length ≤ ng' by unfold ng'; omega)]
      rfl
    · rw [decide_eq_false g]
      simp only [cond_false, cond_true, Option.bind_some, b1, wrap1 hi (show l.length ≤ ng' by unfold ng'; omega)]
      rfl) (fun q _ => by
    show ndu' l (l.length : Int) (l.length : Int) b.Floors b.Debounce b.Room b.Park b.Empty b.Full b.Over b.Cars z.Image.Phases z.Image.Flags z.Image.Leaving z.Image.Entries z.Store.h0 z.Store.h1 z.Store.sel z.Contacts z.Beliefs z.Cars z.Loads z.Expect z.Lit z.Tick z.Faults z.Refused (o.withE q).Image.Phases (o.withE q).Image.Flags (o.withE q).Image.Leaving (o.withE q).Image.Entries (o.withE q).Store.h0 (o.withE q).Store.h1 (o.withE q).Store.sel (o.withE q).Contacts (o.withE q).Beliefs (o.withE q).Cars (o.withE q).Loads (o.withE q).Expect (o.withE q).Lit (o.withE q).Tick (o.withE q).Faults (o.withE q).Refused = _
    unfold ndu'
    simp only [decide_eq_false (Int.lt_irrefl (l.length : Int)), cond_false]
    rfl) l.length 0 [] (by omega) (by simp)
  have h' := nf' h.1 (by omega)
  rw [ngt' (fun i => [nea' b (l.getD i noE)]), nkb' (fun e => [nea' b e]) noE l 0 l.length (by omega), List.drop_zero, nxe', List.nil_append] at h'
  rw [show o.tup = (o.withE []).tup by unfold Mch.withE Mch.tup; rw [ho]]
  exact h'
def nhb' (b : Bldg) (m : Img) (s : Sto) : Mch × Int := bif fitsV b m && decide (s.ok b.Room) then (nfa' b m s, 0) else (Mch.none, 1)
theorem nrw' {b : Bldg} (hb : b.small) (m : Img) (hf : m.fit) (hc : b.Cars.length ≤ 1000) (s : Sto) : nhy' b.Floors b.Debounce b.Room b.Park b.Empty b.Full b.Over b.Cars m.Phases m.Flags m.Leaving m.Entries s.h0 s.h1 s.sel = some (((), (nhb' b m s).2, ()), ((nhb' b m s).1.tup, ())) := by
  unfold nhy' nhb'
  rw [nm8' hb m (by omega) hf, nee', nqo' m hf]
  simp only [Option.bind_some]
  cases hq : fitsV b m with
  | false => rfl
  | true =>
    have hm : ImgOK b m := by
      unfold fitsV at hq
      rw [Bool.and_eq_true] at hq
      exact Img.ok_iff.1 hq.1
    by_cases hs : s.ok b.Room
    · rw [decide_eq_true (show Sto.ok b.Room ⟨s.h0, s.h1, s.sel⟩ from hs)]
      have e := hf.e
      let o : Mch := ⟨m, s, List.replicate b.Cars.length nn', [], List.replicate b.Cars.length noNewCar, List.replicate b.Cars.length n3', [], List.replicate b.Cars.length ncw', 0, 0, 0⟩
      have l0 := nyy' b hc m Mch.none o rfl
      have l1 := nyl' b (l := m.Entries) e (fun x hx => (nfw'.1 (hm.en x hx)).2.1.2) Mch.none (o.withB (List.replicate b.Cars.length newBel)) rfl
      simp only [Mch.tup, Img.tup, Bldg.tup, Mch.withB, Mch.withE, Mch.none, Img.none, Sto.no, noB, o] at l0 l1
      have dl : ∀ n : Nat, n ≤ 1000 → (decide ((0 : Int) ≤ (n : Int)) && decide ((n : Int) ≤ (n : Int)) && decide ((n : Int) ≤ (2147483648 : Int))) = true := fun n hn => by
        rw [decide_eq_true (show (0 : Int) ≤ (n : Int) by omega), decide_eq_true (Int.le_refl (n : Int)), decide_eq_true (show (n : Int) ≤ 2147483648 by omega)]; rfl
      simp only [Bool.not_true, cond_false, Bool.and_self, cond_true, dl _ hc, Int.toNat_natCast, Img.tup]
      rw [show Debounced.mk 0 false false false false 0 0 0 0 0 0 0 0 0 0 0 0 0 0 0 0 0 0 0 0 0 0 0 0 0 0 0 0 0 0 0 0 0 0 0 0 = nn' from rfl, show NewCar.mk 0 0 0 0 0 false 0 0 0 0 0 0 0 false = noNewCar from rfl, show Loaded.mk 0 = n3' from rfl, show Calls.mk 0 0 = ncw' from rfl]
      rw [l0]
      simp only [Option.bind_some]
      rw [l1]
      rfl
    · rw [decide_eq_false (show ¬ Sto.ok b.Room ⟨s.h0, s.h1, s.sel⟩ from hs)]
      rfl
def bootV (b : Bldg) (s : Sto) (bud : Int) : Mch × Int × Int :=
  bif (ncq' b s bud).2.2.2 != 0 then ({ Mch.none with Store := (ncq' b s bud).1 }, 0, (ncq' b s bud).2.2.2)
  else bif (nhb' b (ncq' b s bud).2.1 (ncq' b s bud).1).2 != 0 then (Mch.none, 0, (nhb' b (ncq' b s bud).2.1 (ncq' b s bud).1).2)
  else ((nhb' b (ncq' b s bud).2.1 (ncq' b s bud).1).1, (ncq' b s bud).2.2.1, 0)
theorem n4w' {b : Bldg} (hcode : b.code = 0) (s : Sto) (hs : s.cur.size ≤ 500000) (bud : Int) : (ncq' b s bud).2.1.fit := by
  obtain ⟨_, _, hf⟩ := nvm' hcode s hs
  unfold ncq'
  cases (net' b s (ndc' b s) bud).2.2 != 0 with
  | true => exact ⟨Nat.zero_le _, Nat.zero_le _, Nat.zero_le _, Nat.zero_le _⟩
  | false => exact hf
theorem nka' {b : Bldg} (hb : b.small) (hcode : b.code = 0) (s : Sto) (hs : s.cur.size ≤ 500000) {bud : Int} (hbud : bud < 9223372036854775808) : ndj' b.Floors b.Debounce b.Room b.Park b.Empty b.Full b.Over b.Cars s.h0 s.h1 s.sel bud = some (((), (bootV b s bud).2.1, (bootV b s bud).2.2, ()), ((bootV b s bud).1.tup, ())) := by
  have hc := ncj' hcode
  unfold ndj' bootV
  rw [ntx' hb hcode s hs hbud]
  have hf := n4w' hcode s hs bud
  simp only [Option.bind_some, n1v', Img.tup]
  generalize ncq' b s bud = w at hf ⊢
  cases w.2.2.2 != 0 with
  | true => rfl
  | false =>
    simp only [cond_false]
    rw [nrw' hb w.2.1 hf (by omega) w.1]
    simp only [Option.bind_some, Mch.tup]
    generalize nhb' b w.2.1 w.1 = f
    cases f.2 != 0 <;> rfl
def npz' (b : Bldg) : Mch × Int := bif b.code == 0 then ((bootV b Sto.no 1048576).1, (bootV b Sto.no 1048576).2.2) else (Mch.none, 1)
theorem nr2' {b : Bldg} (hb : b.small) (hcode : b.code = 0) : nfu' b.Floors b.Debounce b.Room b.Park b.Empty b.Full b.Over b.Cars = some (((), (npz' b).2, ()), ((npz' b).1.tup, ())) := by
  unfold nfu' npz'
  rw [ncm', hcode]
  simp only [Option.bind_some, bne_self_eq_false, cond_false, beq_self_eq_true, cond_true]
  rw [show ndj' b.Floors b.Debounce b.Room b.Park b.Empty b.Full b.Over b.Cars (ByteArray.mk (Array.mk [])) (ByteArray.mk (Array.mk [])) 0 1048576 = _ from nka' hb hcode Sto.no (by decide) (bud := 1048576) (by omega)]
  rfl
theorem nu3' {b : Bldg} {m : Img} (hf : m.fit) (hc : b.Cars.length ≤ 1000) (s : Sto) : (nfa' b m s).fit := by
  have he := hf.e
  refine ⟨hf, ?_, ?_, fun x hx => ?_, ?_, ?_, ?_, ?_⟩
  · show (List.replicate b.Cars.length nn').length ≤ _; rw [List.length_replicate]; omega
  · show (List.replicate b.Cars.length newBel).length ≤ _; rw [List.length_replicate]; omega
  · rw [List.eq_of_mem_replicate (show x ∈ List.replicate b.Cars.length newBel from hx)]; exact Nat.zero_le _
  · show (List.replicate b.Cars.length noNewCar).length ≤ _; rw [List.length_replicate]; omega
  · show (List.replicate b.Cars.length n3').length ≤ _; rw [List.length_replicate]; omega
  · show (m.Entries.map (nea' b)).length ≤ _; rw [List.length_map]; omega
  · show (List.replicate b.Cars.length ncw').length ≤ _; rw [List.length_replicate]; omega
end Go.Ovl
