/- Layer 10: the snapshot of an image, the program's and the reference's; applied to the first image it makes the image again. -/
import Derived.Test.YthdomhdippmaiaaOvLog3
namespace Go.Ovl
open Go Go.Ab
set_option maxRecDepth 100000
def numB (on : Bool) : Int := bif on then 1 else 0
theorem nnk' (on : Bool) : nfe' on = some ((numB on, ()), ()) := by unfold nfe' numB; cases on <;> rfl
theorem nrg' (on : Bool) : nh8' on = some ((numB on, ()), ()) := by unfold nh8' numB; cases on <;> rfl
def snapC (m : Img) (i : Nat) : List Record := [⟨4, 0, 0, i, m.Phases.getD i 0⟩, ⟨5, 0, 0, i, numB (m.Flags.getD i false)⟩, ⟨6, 0, 0, i, numB (m.Leaving.getD i false)⟩]
def snapE (e : Entry) : List Record := [⟨1, e.Floor, e.Dir, 0, 0⟩, ⟨3, e.Floor, e.Dir, e.Car, 0⟩, ⟨7, e.Floor, e.Dir, numB e.Moved, e.Moves⟩]
def snapV (m : Img) : List Record := (List.range' 0 m.Phases.length).flatMap (snapC m) ++ m.Entries.flatMap snapE
theorem nel' {α : Type} (f : Nat → List α) : ∀ (k i : Nat) (s : List α), foldN (fun i s => s ++ f i) k i s = s ++ (List.range' i k).flatMap f
  | 0, i, s => by simp [foldN]
  | k + 1, i, s => by
    simp only [foldN]
    rw [nel' f k (i + 1), List.range'_succ, List.flatMap_cons, List.append_assoc]
theorem ni1' {α β : Type} (f : α → List β) (d : α) : ∀ (l : List α) (i k : Nat), i + k = l.length → (List.range' i k).flatMap (fun i => f (l.getD i d)) = (l.drop i).flatMap f
  | l, i, 0, h => by
    obtain rfl : i = l.length := by omega
    simp
  | l, i, k + 1, h => by
    rw [List.range'_succ, List.flatMap_cons, ni1' f d l (i + 1) k (by omega), ncx' d (show i < l.length by omega), List.flatMap_cons]
theorem nq9' (l : List Entry) : (List.range' 0 l.length).flatMap (fun i => snapE (l.getD i noE)) = l.flatMap snapE := by
  rw [ni1' snapE noE l 0 l.length (by omega), List.drop_zero]
section
variable {m : Img} (hf : m.fit)
include hf
theorem nny' {out : List Record} (ho : out.length ≤ 300000) : nfy' (((), out, (0 : Int), ()), (m.tup, ())) = some ((out ++ m.Entries.flatMap snapE, ()), ()) := by
  have hl := hf.e
  have h := nch' (step := fun x => ndk' x.1.2.1 x.1.2.2.1 x.2.1.1 x.2.1.2.1 x.2.1.2.2.1 x.2.1.2.2.2.1) m.Entries.length (fun i s => (((), s, (i : Int), ()), (m.tup, ()))) (fun i s => s ++ snapE (m.Entries.getD i noE)) (fun i s => s.length = out.length + 3 * i) (fun s => ((s, ()), ())) (fun i s hi hs => by
    refine ⟨?_, by rw [List.length_append, hs]; show _ + 3 = _; omega⟩
    have b1 : ∀ r r' r'' : Record, Nat.ble (s.length + [r, r', r''].length) 2147483648 = true := fun r r' r'' => n9' (by show s.length + 3 ≤ _; omega)
    show ndk' s (i : Int) m.Phases m.Flags m.Leaving m.Entries = _
    unfold ndk'
    simp only [decide_eq_true (show (i : Int) < (m.Entries.length : Int) by omega), nc' (show (0 : Int) ≤ (i : Int) by omega) (show (i : Int) < (m.Entries.length : Int) by omega), cond_true, Int.toNat_natCast, nrg', Option.bind_some, b1, wrap1 hi (show m.Entries.length ≤ ni' by unfold ni'; omega)]
    rfl) (fun s _ => by
    show ndk' s (m.Entries.length : Int) m.Phases m.Flags m.Leaving m.Entries = _
    unfold ndk'
    simp only [decide_eq_false (Int.lt_irrefl (m.Entries.length : Int)), cond_false]) m.Entries.length 0 out (by omega) rfl
  have h' := nf' h.1 (by omega)
  rw [nel', nq9'] at h'
  exact h'
theorem nn0' (h1 : m.Flags.length = m.Phases.length) (h2 : m.Leaving.length = m.Phases.length) : nfx' (((), [], (0 : Int), ()), (m.tup, ())) = some (((), (List.range' 0 m.Phases.length).flatMap (snapC m), ()), (m.tup, ())) := by
  have hl := hf.p
  have h := nch' (step := fun x => ndm' x.1.2.1 x.1.2.2.1 x.2.1.1 x.2.1.2.1 x.2.1.2.2.1 x.2.1.2.2.2.1) m.Phases.length (fun i s => (((), s, (i : Int), ()), (m.tup, ()))) (fun i s => s ++ snapC m i) (fun i s => s.length = 3 * i) (fun s => (((), s, ()), (m.tup, ()))) (fun i s hi hs => by
    refine ⟨?_, by rw [List.length_append, hs]; show _ + 3 = _; omega⟩
    have b1 : ∀ r r' r'' : Record, Nat.ble (s.length + [r, r', r''].length) 2147483648 = true := fun r r' r'' => n9' (by show s.length + 3 ≤ _; omega)
    show ndm' s (i : Int) m.Phases m.Flags m.Leaving m.Entries = _
    unfold ndm'
    simp only [decide_eq_true (show (i : Int) < (m.Phases.length : Int) by omega), nc' (show (0 : Int) ≤ (i : Int) by omega) (show (i : Int) < (m.Phases.length : Int) by omega), nc' (show (0 : Int) ≤ (i : Int) by omega) (show (i : Int) < (m.Flags.length : Int) by omega), nc' (show (0 : Int) ≤ (i : Int) by omega) (show (i : Int) < (m.Leaving.length : Int) by omega), cond_true, Int.toNat_natCast, nrg', Option.bind_some, b1, wrap1 hi (show m.Phases.length ≤ ni' by unfold ni'; omega)]
    rfl) (fun s _ => by
    show ndm' s (m.Phases.length : Int) m.Phases m.Flags m.Leaving m.Entries = _
    unfold ndm'
    simp only [decide_eq_false (Int.lt_irrefl (m.Phases.length : Int)), cond_false]; rfl) m.Phases.length 0 [] (by omega) rfl
  have h' := nf' h.1 (by omega)
  rw [nel', List.nil_append] at h'
  exact h'
theorem nn5' {out : List Record} (ho : out.length ≤ 300000) : nf5' (((), m.Entries, (m.Entries.length : Int), (0 : Int), ()), ((out, ()), ())) = some (((), ()), ((out ++ m.Entries.flatMap snapE, ()), ())) := by
  have hl := hf.e
  have h := nch' (step := fun x => ndg' x.1.2.1 x.1.2.2.1 x.1.2.2.2.1 x.2.1.1) m.Entries.length (fun i s => (((), m.Entries, (m.Entries.length : Int), (i : Int), ()), ((s, ()), ()))) (fun i s => s ++ snapE (m.Entries.getD i noE)) (fun i s => s.length = out.length + 3 * i) (fun s => (((), ()), ((s, ()), ()))) (fun i s hi hs => by
    refine ⟨?_, by rw [List.length_append, hs]; show _ + 3 = _; omega⟩
    show ndg' m.Entries (m.Entries.length : Int) (i : Int) s = _
    have b1 : ∀ r : Record, Nat.ble (s.length + [r].length) 2147483648 = true := fun r => n9' (by rw [List.length_singleton]; omega)
    have b2 : ∀ r r' : Record, Nat.ble ((s ++ [r]).length + [r'].length) 2147483648 = true := fun r r' => n9' (by rw [List.length_append, List.length_singleton, List.length_singleton]; omega)
    have b3 : ∀ r r' r'' : Record, Nat.ble ((s ++ [r] ++ [r']).length + [r''].length) 2147483648 = true := fun r r' r'' => n9' (by rw [List.length_append, List.length_append, List.length_singleton, List.length_singleton, List.length_singleton]; omega)
    unfold ndg' nd7'
    simp only [decide_eq_true (show (i : Int) < (m.Entries.length : Int) by omega), nc' (show (0 : Int) ≤ (i : Int) by omega) (show (i : Int) < (m.Entries.length : Int) by omega), cond_true, Int.toNat_natCast, nnk', Option.bind_some, b1, b2, b3, wrap1 hi (show m.Entries.length ≤ ni' by unfold ni'; omega)]
    simp only [List.append_assoc]
    rfl) (fun s _ => by
    show ndg' m.Entries (m.Entries.length : Int) (m.Entries.length : Int) s = _
    unfold ndg'
    simp only [decide_eq_false (Int.lt_irrefl (m.Entries.length : Int)), cond_false]) m.Entries.length 0 out (by omega) rfl
  have h' := nf' h.1 (by omega)
  rw [nel', nq9'] at h'
  exact h'
theorem nov' (h1 : m.Flags.length = m.Phases.length) (h2 : m.Leaving.length = m.Phases.length) : nfw' (((), (), (m.Phases.length : Int), (0 : Int), ()), (m.tup, (([] : List Record), ()), ())) = some (((), (), ()), (m.tup, ((List.range' 0 m.Phases.length).flatMap (snapC m), ()), ())) := by
  have hl := hf.p
  have h := nch' (step := fun x => ndj' x.1.2.2.1 x.1.2.2.2.1 x.2.1.1 x.2.1.2.1 x.2.1.2.2.1 x.2.1.2.2.2.1 x.2.2.1.1) m.Phases.length (fun i s => (((), (), (m.Phases.length : Int), (i : Int), ()), (m.tup, (s, ()), ()))) (fun i s => s ++ snapC m i) (fun i s => s.length = 3 * i) (fun s => (((), (), ()), (m.tup, (s, ()), ()))) (fun i s hi hs => by
    refine ⟨?_, by rw [List.length_append, hs]; show _ + 3 = _; omega⟩
    show ndj' (m.Phases.length : Int) (i : Int) m.Phases m.Flags m.Leaving m.Entries s = _
    have b1 : ∀ r : Record, Nat.ble (s.length + [r].length) 2147483648 = true := fun r => n9' (by rw [List.length_singleton]; omega)
    have b2 : ∀ r r' : Record, Nat.ble ((s ++ [r]).length + [r'].length) 2147483648 = true := fun r r' => n9' (by rw [List.length_append, List.length_singleton, List.length_singleton]; omega)
    have b3 : ∀ r r' r'' : Record, Nat.ble ((s ++ [r] ++ [r']).length + [r''].length) 2147483648 = true := fun r r' r'' => n9' (by rw [List.length_append, List.length_append, List.length_singleton, List.length_singleton, List.length_singleton]; omega)
    unfold ndj' nea'
    simp only [decide_eq_true (show (i : Int) < (m.Phases.length : Int) by omega), nc' (show (0 : Int) ≤ (i : Int) by omega) (show (i : Int) < (m.Phases.length : Int) by omega), nc' (show (0 : Int) ≤ (i : Int) by omega) (show (i : Int) < (m.Flags.length : Int) by omega), nc' (show (0 : Int) ≤ (i : Int) by omega) (show (i : Int) < (m.Leaving.length : Int) by omega), cond_true, Int.toNat_natCast, nnk', Option.bind_some, b1, b2, b3, wrap1 hi (show m.Phases.length ≤ ni' by unfold ni'; omega)]
    simp only [List.append_assoc]
    rfl) (fun s _ => by
    show ndj' (m.Phases.length : Int) (m.Phases.length : Int) m.Phases m.Flags m.Leaving m.Entries s = _
    unfold ndj'
    simp only [decide_eq_false (Int.lt_irrefl (m.Phases.length : Int)), cond_false]; rfl) m.Phases.length 0 [] (by omega) rfl
  have h' := nf' h.1 (by omega)
  rw [nel', List.nil_append] at h'
  exact h'
end
theorem nk8' {α β : Type} (f : α → List β) (hf : ∀ x, (f x).length = 3) : ∀ l : List α, (l.flatMap f).length = 3 * l.length
  | [] => rfl
  | a :: t => by rw [List.flatMap_cons, List.length_append, hf, nk8' f hf t, List.length_cons]; omega
theorem noa' (m : Img) (n : Nat) : ((List.range' 0 n).flatMap (snapC m)).length = 3 * n := by rw [nk8' _ fun _ => rfl, List.length_range']
theorem not' (m : Img) : (snapV m).length = 3 * (m.Phases.length + m.Entries.length) := by
  unfold snapV
  rw [List.length_append, noa', nk8' _ fun _ => rfl]; omega
def snapR (b : Bldg) (m : Img) : List Record := bif m.ok b then snapV m else []
section
variable {b : Bldg} (hb : b.small) {m : Img} (hf : m.fit)
include hb hf
theorem nql' : nhb' b.Floors b.Debounce b.Room b.Park b.Empty b.Full b.Over b.Cars m.Phases m.Flags m.Leaving m.Entries = some ((snapR b m, ()), ()) := by
  have hmx : 100000 ≤ maxLen := by decide
  have hp := hf.p
  have he := hf.e
  unfold nhb' snapR
  rw [nfj' hb m (by omega) (by omega)]
  simp only [Option.bind_some]
  cases hok : m.ok b with
  | false => rfl
  | true =>
    have hm := Img.ok_iff.1 hok
    have l0 := nov' hf (by rw [hm.lf, hm.lp]) (by rw [hm.ll, hm.lp])
    have l1 := nn5' hf (out := (List.range' 0 m.Phases.length).flatMap (snapC m)) (by rw [noa']; omega)
    simp only [Img.tup] at l0
    simp only [Bool.not_true, cond_false, cond_true, l0, l1, Option.bind_some]
    rfl
theorem nqu' : nfn' b.Floors b.Debounce b.Room b.Park b.Empty b.Full b.Over b.Cars m.Phases m.Flags m.Leaving m.Entries = some ((snapR b m, ()), ()) := by
  have hmx : 100000 ≤ maxLen := by decide
  have hp := hf.p
  have he := hf.e
  unfold nfn' snapR
  rw [nmj' hb m (by omega) (by omega)]
  simp only [Option.bind_some]
  cases hok : m.ok b with
  | false => rfl
  | true =>
    have hm := Img.ok_iff.1 hok
    have l0 := nn0' hf (by rw [hm.lf, hm.lp]) (by rw [hm.ll, hm.lp])
    have l1 := nny' hf (out := (List.range' 0 m.Phases.length).flatMap (snapC m)) (by rw [noa']; omega)
    simp only [Img.tup] at l0 l1
    simp only [Bool.not_true, cond_false, cond_true, l0, l1, Option.bind_some]
    rfl
end
theorem nf6' (m : Img) : ∀ (a c : List Record), nb4' m (a ++ c) = nb4' (nb4' m a) c
  | [], _ => rfl
  | r :: t, c => by
    show nb4' (nu' m r) (t ++ c) = nb4' (nb4' (nu' m r) t) c
    exact nf6' (nu' m r) t c
theorem nr8' {α : Type} (l : List α) (z d : α) {k n : Nat} (hk : k < n) (hl : l.length = n) : (l.take k ++ List.replicate (n - k) z).set k (l.getD k d) = l.take (k + 1) ++ List.replicate (n - (k + 1)) z := by
  have h1 : (l.take k).length = k := by rw [List.length_take]; omega
  rw [List.set_append_right _ _ (by omega), h1, Nat.sub_self, show n - k = (n - (k + 1)) + 1 by omega, List.replicate_succ, List.set_cons_zero]
  have h2 : k < l.length := by omega
  rw [show l.getD k d = l[k] by simp [h2]]
  rw [List.take_succ_eq_append_getElem h2, List.append_assoc]
  rfl
theorem nwy' (m : Img) (a c d : Record) : nb4' m [a, c, d] = nu' (nu' (nu' m a) c) d := rfl
theorem nwb' (on : Bool) : (numB on == 1) = on := by cases on <;> rfl
theorem nvp' {m : Img} {n k : Nat} (hk : k < n) (h1 : m.Phases.length = n) (h2 : m.Flags.length = n) (h3 : m.Leaving.length = n) :
    nb4' ⟨m.Phases.take k ++ List.replicate (n - k) 0, m.Flags.take k ++ List.replicate (n - k) false, m.Leaving.take k ++ List.replicate (n - k) false, []⟩ (snapC m k) = ⟨m.Phases.take (k + 1) ++ List.replicate (n - (k + 1)) 0, m.Flags.take (k + 1) ++ List.replicate (n - (k + 1)) false, m.Leaving.take (k + 1) ++ List.replicate (n - (k + 1)) false, []⟩ := by
  have e1 := nr8' m.Phases 0 0 hk h1
  have e2 := nr8' m.Flags false false hk h2
  have e3 := nr8' m.Leaving false false hk h3
  unfold snapC
  rw [nwy']
  unfold nu'
  simp only [show ((4 : Int) == 4) = true from rfl, show ((5 : Int) == 4) = false from rfl, show ((5 : Int) == 5) = true from rfl, show ((6 : Int) == 4) = false from rfl, show ((6 : Int) == 5) = false from rfl, show ((6 : Int) == 6) = true from rfl, cond_true, cond_false, Int.toNat_natCast, nwb', e1, e2, e3]
theorem nst' {m : Img} {n : Nat} (h1 : m.Phases.length = n) (h2 : m.Flags.length = n) (h3 : m.Leaving.length = n) : ∀ j k : Nat, k + j = n →
    nb4' ⟨m.Phases.take k ++ List.replicate (n - k) 0, m.Flags.take k ++ List.replicate (n - k) false, m.Leaving.take k ++ List.replicate (n - k) false, []⟩ ((List.range' k j).flatMap (snapC m)) = ⟨m.Phases, m.Flags, m.Leaving, []⟩
  | 0, k, h => by
    obtain rfl : k = n := by omega
    rw [Nat.sub_self]
    simp only [List.replicate_zero, List.append_nil]
    rw [List.take_of_length_le (by omega), List.take_of_length_le (by omega), List.take_of_length_le (by omega)]
    rfl
  | j + 1, k, h => by
    rw [List.range'_succ, List.flatMap_cons, nf6', nvp' (by omega) h1 h2 h3]
    exact nst' h1 h2 h3 j (k + 1) (by omega)
theorem ns6' {F D : Int} {x : Entry} (hx : isC F D x = true) : ∀ (l : List Entry) (i : Nat), (∀ e ∈ l, isC F D e = false) → findF F D (l ++ [x]) i = ((i + l.length : Nat) : Int)
  | [], i, _ => by simp [findF, hx]
  | e :: t, i, h => by
    rw [List.cons_append]
    simp only [findF]
    rw [h e (List.mem_cons_self ..), cond_false, ns6' hx t (i + 1) fun y hy => h y (List.mem_cons_of_mem _ hy), List.length_cons]
    congr 1; omega
theorem nu0' {x : Entry} : ∀ {l : List Entry}, (∀ e ∈ l, lessE x e = false) → insL x false l = l ++ [x]
  | [], _ => rfl
  | e :: t, h => by
    simp only [insL]
    rw [h e (List.mem_cons_self ..), cond_false, nu0' fun y hy => h y (List.mem_cons_of_mem _ hy)]
    rfl
theorem nvl' {m : Img} {e : Entry} (h : ∀ x ∈ m.Entries, lessE x e = true) : nb4' m (snapE e) = m.put (m.Entries ++ [e]) := by
  have hn : ∀ x ∈ m.Entries, isC e.Floor e.Dir x = false := fun x hx => by
    cases hq : isC e.Floor e.Dir x with
    | false => rfl
    | true =>
      have := (npt' (c := e) hq).1
      rw [h x hx] at this; cases this
  have e0 : ∀ (c k : Int) (q : Bool), isC e.Floor e.Dir ⟨e.Floor, e.Dir, c, k, q⟩ = true := fun c k q => by unfold isC; simp
  have f0 : findF e.Floor e.Dir m.Entries 0 = -1 := nmt' hn
  have f1 : ∀ (c k : Int) (q : Bool), findF e.Floor e.Dir (m.Entries ++ [⟨e.Floor, e.Dir, c, k, q⟩]) 0 = ((m.Entries.length : Nat) : Int) := fun c k q => by rw [ns6' (e0 c k q) _ _ hn, Nat.zero_add]
  have g1 : ∀ x : Entry, (m.Entries ++ [x]).getD m.Entries.length noE = x := fun x => by simp
  have s1 : ∀ x y : Entry, (m.Entries ++ [x]).set m.Entries.length y = m.Entries ++ [y] := fun x y => by
    rw [List.set_append_right _ _ (Nat.le_refl _), Nat.sub_self]; rfl
  have a1 : nu' m ⟨1, e.Floor, e.Dir, 0, 0⟩ = m.put (m.Entries ++ [⟨e.Floor, e.Dir, -1, 0, false⟩]) := by
    unfold nu'
    rw [f0]
    simp only [show ((1 : Int) == 4) = false from rfl, show ((1 : Int) == 5) = false from rfl, show ((1 : Int) == 6) = false from rfl, cond_false, cond_true, beq_self_eq_true]
    rw [nu0' (x := ⟨e.Floor, e.Dir, -1, 0, false⟩) fun x hx => ntb' (show lessE x ⟨e.Floor, e.Dir, -1, 0, false⟩ = true from h x hx)]
  have ne : ((((m.Entries.length : Nat) : Int)) == -1) = false := beq_f (by omega)
  have a2 : nu' (m.put (m.Entries ++ [⟨e.Floor, e.Dir, -1, 0, false⟩])) ⟨3, e.Floor, e.Dir, e.Car, 0⟩ = m.put (m.Entries ++ [⟨e.Floor, e.Dir, e.Car, 0, false⟩]) := by
    unfold nu'
    simp only [Img.put, f1, ne, show ((3 : Int) == 4) = false from rfl, show ((3 : Int) == 5) = false from rfl, show ((3 : Int) == 6) = false from rfl, show ((3 : Int) == 2) = false from rfl, cond_false, cond_true, beq_self_eq_true, Int.toNat_natCast, g1, s1, nyx']
  have a3 : nu' (m.put (m.Entries ++ [⟨e.Floor, e.Dir, e.Car, 0, false⟩])) ⟨7, e.Floor, e.Dir, numB e.Moved, e.Moves⟩ = m.put (m.Entries ++ [⟨e.Floor, e.Dir, e.Car, e.Moves, e.Moved⟩]) := by
    unfold nu'
    simp only [Img.put, f1, ne, show ((7 : Int) == 4) = false from rfl, show ((7 : Int) == 5) = false from rfl, show ((7 : Int) == 6) = false from rfl, show ((7 : Int) == 2) = false from rfl, show ((7 : Int) == 3) = false from rfl, cond_false, cond_true, beq_self_eq_true, Int.toNat_natCast, g1, s1, nt2', nwb']
  unfold snapE
  rw [nwy', a1, a2, a3]
theorem ntf' : ∀ (l : List Entry) (m : Img), nbq' (m.Entries ++ l) → nb4' m (l.flatMap snapE) = m.put (m.Entries ++ l)
  | [], m, _ => by simp [nb4', Img.put]
  | e :: t, m, h => by
    have hp := nc1'.1 h
    have hlt : ∀ x ∈ m.Entries, lessE x e = true := fun x hx => (List.pairwise_append.1 hp).2.2 x hx e (List.mem_cons_self ..)
    rw [List.flatMap_cons, nf6', nvl' hlt]
    have h2 : nbq' ((m.put (m.Entries ++ [e])).Entries ++ t) := by
      show nbq' (m.Entries ++ [e] ++ t)
      rw [List.append_assoc]; exact h
    rw [ntf' t _ h2]
    show m.put (m.Entries ++ [e] ++ t) = _
    rw [List.append_assoc]; rfl
theorem nkk' {b : Bldg} {m : Img} (h : ImgOK b m) : nb4' (initV b) (snapV m) = m := by
  unfold snapV
  rw [nf6']
  have h0 := nst' (m := m) h.lp h.lf h.ll b.Cars.length 0 (by omega)
  simp only [List.take_zero, List.nil_append, Nat.sub_zero] at h0
  rw [h.lp]
  rw [show initV b = ⟨List.replicate b.Cars.length 0, List.replicate b.Cars.length false, List.replicate b.Cars.length false, []⟩ from rfl, h0, ntf' _ _ (by show nbq' ([] ++ m.Entries); exact h.so)]
  rfl
theorem nm3' (on : Bool) : 0 ≤ numB on ∧ numB on ≤ 1 := by cases on <;> exact ⟨by decide, by decide⟩
theorem ng9' {b : Bldg} {m : Img} (h : ImgOK b m) : ∀ r ∈ snapV m, nj' b r = true := by
  have hcode := h.code
  intro r hr
  unfold snapV at hr
  rcases List.mem_append.1 hr with hr | hr
  · obtain ⟨i, hi, hr⟩ := List.mem_flatMap.1 hr
    have hi' : i < m.Phases.length := by
      have := List.mem_range'_1.1 hi
      omega
    have hp := h.ph _ (nh0' 0 hi')
    have hlp := h.lp
    have hcar : ∀ k v : Int, carR b ⟨k, 0, 0, i, v⟩ = true := fun k v => by
      unfold carR
      rw [ny'.2 ⟨show (0 : Int) ≤ (i : Int) by omega, show (i : Int) ≤ (b.Cars.length : Int) - 1 by omega⟩]; rfl
    unfold snapC at hr
    simp only [List.mem_cons, List.not_mem_nil, or_false] at hr
    rcases hr with rfl | rfl | rfl
    · unfold nj'
      rw [hcode, hcar, ny'.2 hp]; rfl
    · unfold nj'
      rw [hcode, hcar, ny'.2 (nm3' _)]; rfl
    · unfold nj'
      rw [hcode, hcar, ny'.2 (nm3' _)]; rfl
  · obtain ⟨e, he, hr⟩ := List.mem_flatMap.1 hr
    obtain ⟨h1, h2, h3⟩ := ngz'.1 (h.en e he)
    unfold snapE at hr
    simp only [List.mem_cons, List.not_mem_nil, or_false] at hr
    rcases hr with rfl | rfl | rfl
    · unfold nj'
      rw [hcode, h1]; rfl
    · unfold nj'
      rw [hcode, h1, ny'.2 ⟨h2.1, show e.Car ≤ (b.Cars.length : Int) - 1 by omega⟩]; rfl
    · unfold nj'
      rw [hcode, h1, ny'.2 (nm3' _), ny'.2 h3]; rfl
end Go.Ovl
