/- Layer 10: the snapshot of an image, the program's and the reference's; applied to the first image it makes the image again. -/
import Derived.Test.YthdomhdippmaiaaGreatOvLog3
namespace Go.Ovl
open Go Go.Ab
set_option maxRecDepth 100000
def numB (on : Bool) : Int := bif on then 1 else 0
theorem nox' (on : Bool) : ngm' on = some ((numB on, ()), ()) := by unfold ngm' numB; cases on <;> rfl
def snapC (m : Img) (i : Nat) : List Record := [⟨4, 0, 0, i, m.Phases.getD i 0⟩, ⟨5, 0, 0, i, numB (m.Flags.getD i false)⟩, ⟨6, 0, 0, i, numB (m.Leaving.getD i false)⟩]
def snapE (e : Entry) : List Record := [⟨1, e.Floor, e.Dir, 0, 0⟩, ⟨3, e.Floor, e.Dir, e.Car, 0⟩, ⟨7, e.Floor, e.Dir, numB e.Moved, e.Moves⟩]
def snapV (m : Img) : List Record := (List.range' 0 m.Phases.length).flatMap (snapC m) ++ m.Entries.flatMap snapE
theorem ngt' {α : Type} (f : Nat → List α) : ∀ (k i : Nat) (s : List α), foldN (fun i s => s ++ f i) k i s = s ++ (List.range' i k).flatMap f
  | 0, i, s => by simp [foldN]
  | k + 1, i, s => by
    simp only [foldN]
    rw [ngt' f k (i + 1), List.range'_succ, List.flatMap_cons, List.append_assoc]
theorem nkb' {α β : Type} (f : α → List β) (d : α) : ∀ (l : List α) (i k : Nat), i + k = l.length → (List.range' i k).flatMap (fun i => f (l.getD i d)) = (l.drop i).flatMap f
  | l, i, 0, h => by
    obtain rfl : i = l.length := by omega
    simp
  | l, i, k + 1, h => by
    rw [List.range'_succ, List.flatMap_cons, nkb' f d l (i + 1) k (by omega), nc1' d (show i < l.length by omega), List.flatMap_cons]
theorem n0e' (l : List Entry) : (List.range' 0 l.length).flatMap (fun i => snapE (l.getD i noE)) = l.flatMap snapE := by
  rw [nkb' snapE noE l 0 l.length (by omega), List.drop_zero]
section
variable {m : Img} (hf : m.fit)
include hf
theorem np4' {out : List Record} (ho : out.length ≤ 300000) : ng2' (((), m.Entries, (m.Entries.length : Int), (0 : Int), ()), ((out, ()), ())) = some (((), ()), ((out ++ m.Entries.flatMap snapE, ()), ())) := by
  have hl := hf.e
  have h := ndr' (step := fun x => nd2' x.1.2.1 x.1.2.2.1 x.1.2.2.2.1 x.2.1.1) m.Entries.length (fun i s => (((), m.Entries, (m.Entries.length : Int), (i : Int), ()), ((s, ()), ()))) (fun i s => s ++ snapE (m.Entries.getD i noE)) (fun i s => s.length = out.length + 3 * i) (fun s => (((), ()), ((s, ()), ()))) (fun i s hi hs => by
    refine ⟨?_, by rw [List.length_append, hs]; show _ + 3 = _; omega⟩
    show nd2' m.Entries (m.Entries.length : Int) (i : Int) s = _
    have b1 : ∀ r : Record, Nat.ble (s.length + [r].length) 2147483648 = true := fun r => nbn' (by rw [List.length_singleton]; omega)
    have b2 : ∀ r r' : Record, Nat.ble ((s ++ [r]).length + [r'].length) 2147483648 = true := fun r r' => nbn' (by rw [List.length_append, List.length_singleton, List.length_singleton]; omega)
    have b3 : ∀ r r' r'' : Record, Nat.ble ((s ++ [r] ++ [r']).length + [r''].length) 2147483648 = true := fun r r' r'' => nbn' (by rw [List.length_append, List.length_append, List.length_singleton, List.length_singleton, List.length_singleton]; omega)
    unfold nd2' ne7'
    simp only [decide_eq_true (show (i : Int) < (m.Entries.length : Int) by omega), nc' (show (0 : Int) ≤ (i : Int) by omega) (show (i : Int) < (m.Entries.length : Int) by omega), cond_true, Int.toNat_natCast, nox', Option.bind_some, b1, b2, b3, wrap1 hi (show m.Entries.length ≤ ng' by unfold ng'; omega)]
    simp only [List.append_assoc]
    rfl) (fun s _ => by
    show nd2' m.Entries (m.Entries.length : Int) (m.Entries.length : Int) s = _
    unfold nd2'
    simp only [decide_eq_false (Int.lt_irrefl (m.Entries.length : Int)), cond_false]) m.Entries.length 0 out (by omega) rfl
  have h' := nf' h.1 (by omega)
  rw [ngt', n0e'] at h'
  exact h'
theorem npx' (h1 : m.Flags.length = m.Phases.length) (h2 : m.Leaving.length = m.Phases.length) : ng0' (((), (), (m.Phases.length : Int), (0 : Int), ()), (m.tup, (([] : List Record), ()), ())) = some (((), (), ()), (m.tup, ((List.range' 0 m.Phases.length).flatMap (snapC m), ()), ())) := by
  have hl := hf.p
  have h := ndr' (step := fun x => nd4' x.1.2.2.1 x.1.2.2.2.1 x.2.1.1 x.2.1.2.1 x.2.1.2.2.1 x.2.1.2.2.2.1 x.2.2.1.1) m.Phases.length (fun i s => (((), (), (m.Phases.length : Int), (i : Int), ()), (m.tup, (s, ()), ()))) (fun i s => s ++ snapC m i) (fun i s => s.length = 3 * i) (fun s => (((), (), ()), (m.tup, (s, ()), ()))) (fun i s hi hs => by
    refine ⟨?_, by rw [List.length_append, hs]; show _ + 3 = _; omega⟩
    show nd4' (m.Phases.length : Int) (i : Int) m.Phases m.Flags m.Leaving m.Entries s = _
    have b1 : ∀ r : Record, Nat.ble (s.length + [r].length) 2147483648 = true := fun r => nbn' (by rw [List.length_singleton]; omega)
    have b2 : ∀ r r' : Record, Nat.ble ((s ++ [r]).length + [r'].length) 2147483648 = true := fun r r' => nbn' (by rw [List.length_append, List.length_singleton, List.length_singleton]; omega)
    have b3 : ∀ r r' r'' : Record, Nat.ble ((s ++ [r] ++ [r']).length + [r''].length) 2147483648 = true := fun r r' r'' => nbn' (by rw [List.length_append, List.length_append, List.length_singleton, List.length_singleton, List.length_singleton]; omega)
    unfold nd4' ne4'
    simp only [decide_eq_true (show (i : Int) < (m.Phases.length : Int) by omega), nc' (show (0 : Int) ≤ (i : Int) by omega) (show (i : Int) < (m.Phases.length : Int) by omega), nc' (show (0 : Int) ≤ (i : Int) by omega) (show (i : Int) < (m.Flags.length : Int) by omega), nc' (show (0 : Int) ≤ (i : Int) by omega) (show (i : Int) < (m.Leaving.length : Int) by omega), cond_true, Int.toNat_natCast, nox', Option.bind_some, b1, b2, b3, wrap1 hi (show m.Phases.length ≤ ng' by unfold ng'; omega)]
    simp only [List.append_assoc]
    rfl) (fun s _ => by
    show nd4' (m.Phases.length : Int) (m.Phases.length : Int) m.Phases m.Flags m.Leaving m.Entries s = _
    unfold nd4'
    simp only [decide_eq_false (Int.lt_irrefl (m.Phases.length : Int)), cond_false]; rfl) m.Phases.length 0 [] (by omega) rfl
  have h' := nf' h.1 (by omega)
  rw [ngt', List.nil_append] at h'
  exact h'
end
theorem nmw' {α β : Type} (f : α → List β) (hf : ∀ x, (f x).length = 3) : ∀ l : List α, (l.flatMap f).length = 3 * l.length
  | [] => rfl
  | a :: t => by rw [List.flatMap_cons, List.length_append, hf, nmw' f hf t, List.length_cons]; omega
theorem nuj' (m : Img) (n : Nat) : ((List.range' 0 n).flatMap (snapC m)).length = 3 * n := by rw [nmw' _ fun _ => rfl, List.length_range']
theorem nvt' (m : Img) : (snapV m).length = 3 * (m.Phases.length + m.Entries.length) := by
  unfold snapV
  rw [List.length_append, nuj', nmw' _ fun _ => rfl]; omega
def snapR (b : Bldg) (m : Img) : List Record := bif m.ok b then snapV m else []
section
variable {b : Bldg} (hb : b.small) {m : Img} (hf : m.fit)
include hb hf
theorem nst' : nin' b.Floors b.Debounce b.Room b.Park b.Empty b.Full b.Over b.Cars m.Phases m.Flags m.Leaving m.Entries = some ((snapR b m, ()), ()) := by
  have hmx : 100000 ≤ maxLen := by decide
  have hp := hf.p
  have he := hf.e
  unfold nin' snapR
  rw [nkz' hb m (by omega) (by omega)]
  simp only [Option.bind_some]
  cases hok : m.ok b with
  | false => rfl
  | true =>
    have hm := Img.ok_iff.1 hok
    have l0 := npx' hf (by rw [hm.lf, hm.lp]) (by rw [hm.ll, hm.lp])
    have l1 := np4' hf (out := (List.range' 0 m.Phases.length).flatMap (snapC m)) (by rw [nuj']; omega)
    simp only [Img.tup] at l0
    simp only [Bool.not_true, cond_false, cond_true, l0, l1, Option.bind_some]
    rfl
end
theorem ni5' (m : Img) : ∀ (a c : List Record), nci' m (a ++ c) = nci' (nci' m a) c
  | [], _ => rfl
  | r :: t, c => by
    show nci' (ncl' m r) (t ++ c) = nci' (nci' (ncl' m r) t) c
    exact ni5' (ncl' m r) t c
theorem ntj' {α : Type} (l : List α) (z d : α) {k n : Nat} (hk : k < n) (hl : l.length = n) : (l.take k ++ List.replicate (n - k) z).set k (l.getD k d) = l.take (k + 1) ++ List.replicate (n - (k + 1)) z := by
  have h1 : (l.take k).length = k := by rw [List.length_take]; omega
  rw [List.set_append_right _ _ (by omega), h1, Nat.sub_self, show n - k = (n - (k + 1)) + 1 by omega, List.replicate_succ, List.set_cons_zero]
  have h2 : k < l.length := by omega
  rw [show l.getD k d = l[k] by simp [h2]]
  rw [List.take_succ_eq_append_getElem h2, List.append_assoc]
  rfl
theorem nzk' (m : Img) (a c d : Record) : nci' m [a, c, d] = ncl' (ncl' (ncl' m a) c) d := rfl
theorem nzq' (on : Bool) : (numB on == 1) = on := by cases on <;> rfl
theorem nye' {m : Img} {n k : Nat} (hk : k < n) (h1 : m.Phases.length = n) (h2 : m.Flags.length = n) (h3 : m.Leaving.length = n) :
    nci' ⟨m.Phases.take k ++ List.replicate (n - k) 0, m.Flags.take k ++ List.replicate (n - k) false, m.Leaving.take k ++ List.replicate (n - k) false, []⟩ (snapC m k) = ⟨m.Phases.take (k + 1) ++ List.replicate (n - (k + 1)) 0, m.Flags.take (k + 1) ++ List.replicate (n - (k + 1)) false, m.Leaving.take (k + 1) ++ List.replicate (n - (k + 1)) false, []⟩ := by
  have e1 := ntj' m.Phases 0 0 hk h1
  have e2 := ntj' m.Flags false false hk h2
  have e3 := ntj' m.Leaving false false hk h3
  unfold snapC
  rw [nzk']
  unfold ncl'
  simp only [show ((4 : Int) == 4) = true from rfl, show ((5 : Int) == 4) = false from rfl, show ((5 : Int) == 5) = true from rfl, show ((6 : Int) == 4) = false from rfl, show ((6 : Int) == 5) = false from rfl, show ((6 : Int) == 6) = true from rfl, cond_true, cond_false, Int.toNat_natCast, nzq', e1, e2, e3]
theorem nuv' {m : Img} {n : Nat} (h1 : m.Phases.length = n) (h2 : m.Flags.length = n) (h3 : m.Leaving.length = n) : ∀ j k : Nat, k + j = n →
    nci' ⟨m.Phases.take k ++ List.replicate (n - k) 0, m.Flags.take k ++ List.replicate (n - k) false, m.Leaving.take k ++ List.replicate (n - k) false, []⟩ ((List.range' k j).flatMap (snapC m)) = ⟨m.Phases, m.Flags, m.Leaving, []⟩
  | 0, k, h => by
    obtain rfl : k = n := by omega
    rw [Nat.sub_self]
    simp only [List.replicate_zero, List.append_nil]
    rw [List.take_of_length_le (by omega), List.take_of_length_le (by omega), List.take_of_length_le (by omega)]
    rfl
  | j + 1, k, h => by
    rw [List.range'_succ, List.flatMap_cons, ni5', nye' (by omega) h1 h2 h3]
    exact nuv' h1 h2 h3 j (k + 1) (by omega)
theorem nur' {F D : Int} {x : Entry} (hx : isC F D x = true) : ∀ (l : List Entry) (i : Nat), (∀ e ∈ l, isC F D e = false) → findF F D (l ++ [x]) i = ((i + l.length : Nat) : Int)
  | [], i, _ => by simp [findF, hx]
  | e :: t, i, h => by
    rw [List.cons_append]
    simp only [findF]
    rw [h e (List.mem_cons_self ..), cond_false, nur' hx t (i + 1) fun y hy => h y (List.mem_cons_of_mem _ hy), List.length_cons]
    congr 1; omega
theorem nw6' {x : Entry} : ∀ {l : List Entry}, (∀ e ∈ l, lessE x e = false) → insL x false l = l ++ [x]
  | [], _ => rfl
  | e :: t, h => by
    simp only [insL]
    rw [h e (List.mem_cons_self ..), cond_false, nw6' fun y hy => h y (List.mem_cons_of_mem _ hy)]
    rfl
theorem nyv' {m : Img} {e : Entry} (h : ∀ x ∈ m.Entries, lessE x e = true) : nci' m (snapE e) = m.put (m.Entries ++ [e]) := by
  have hn : ∀ x ∈ m.Entries, isC e.Floor e.Dir x = false := fun x hx => by
    cases hq : isC e.Floor e.Dir x with
    | false => rfl
    | true =>
      have := (nre' (c := e) hq).1
      rw [h x hx] at this; cases this
  have e0 : ∀ (c k : Int) (q : Bool), isC e.Floor e.Dir ⟨e.Floor, e.Dir, c, k, q⟩ = true := fun c k q => by unfold isC; simp
  have f0 : findF e.Floor e.Dir m.Entries 0 = -1 := noc' hn
  have f1 : ∀ (c k : Int) (q : Bool), findF e.Floor e.Dir (m.Entries ++ [⟨e.Floor, e.Dir, c, k, q⟩]) 0 = ((m.Entries.length : Nat) : Int) := fun c k q => by rw [nur' (e0 c k q) _ _ hn, Nat.zero_add]
  have g1 : ∀ x : Entry, (m.Entries ++ [x]).getD m.Entries.length noE = x := fun x => by simp
  have s1 : ∀ x y : Entry, (m.Entries ++ [x]).set m.Entries.length y = m.Entries ++ [y] := fun x y => by
    rw [List.set_append_right _ _ (Nat.le_refl _), Nat.sub_self]; rfl
  have a1 : ncl' m ⟨1, e.Floor, e.Dir, 0, 0⟩ = m.put (m.Entries ++ [⟨e.Floor, e.Dir, -1, 0, false⟩]) := by
    unfold ncl'
    rw [f0]
    simp only [show ((1 : Int) == 4) = false from rfl, show ((1 : Int) == 5) = false from rfl, show ((1 : Int) == 6) = false from rfl, cond_false, cond_true, beq_self_eq_true]
    rw [nw6' (x := ⟨e.Floor, e.Dir, -1, 0, false⟩) fun x hx => nuq' (show lessE x ⟨e.Floor, e.Dir, -1, 0, false⟩ = true from h x hx)]
  have ne : ((((m.Entries.length : Nat) : Int)) == -1) = false := beq_f (by omega)
  have a2 : ncl' (m.put (m.Entries ++ [⟨e.Floor, e.Dir, -1, 0, false⟩])) ⟨3, e.Floor, e.Dir, e.Car, 0⟩ = m.put (m.Entries ++ [⟨e.Floor, e.Dir, e.Car, 0, false⟩]) := by
    unfold ncl'
    simp only [Img.put, f1, ne, show ((3 : Int) == 4) = false from rfl, show ((3 : Int) == 5) = false from rfl, show ((3 : Int) == 6) = false from rfl, show ((3 : Int) == 2) = false from rfl, cond_false, cond_true, beq_self_eq_true, Int.toNat_natCast, g1, s1, n05']
  have a3 : ncl' (m.put (m.Entries ++ [⟨e.Floor, e.Dir, e.Car, 0, false⟩])) ⟨7, e.Floor, e.Dir, numB e.Moved, e.Moves⟩ = m.put (m.Entries ++ [⟨e.Floor, e.Dir, e.Car, e.Moves, e.Moved⟩]) := by
    unfold ncl'
    simp only [Img.put, f1, ne, show ((7 : Int) == 4) = false from rfl, show ((7 : Int) == 5) = false from rfl, show ((7 : Int) == 6) = false from rfl, show ((7 : Int) == 2) = false from rfl, show ((7 : Int) == 3) = false from rfl, cond_false, cond_true, beq_self_eq_true, Int.toNat_natCast, g1, s1, nwh', nzq']
  unfold snapE
  rw [nzk', a1, a2, a3]
theorem nui' : ∀ (l : List Entry) (m : Img), ncb' (m.Entries ++ l) → nci' m (l.flatMap snapE) = m.put (m.Entries ++ l)
  | [], m, _ => by simp [nci', Img.put]
  | e :: t, m, h => by
    have hp := ndn'.1 h
    have hlt : ∀ x ∈ m.Entries, lessE x e = true := fun x hx => (List.pairwise_append.1 hp).2.2 x hx e (List.mem_cons_self ..)
    rw [List.flatMap_cons, ni5', nyv' hlt]
    have h2 : ncb' ((m.put (m.Entries ++ [e])).Entries ++ t) := by
      show ncb' (m.Entries ++ [e] ++ t)
      rw [List.append_assoc]; exact h
    rw [nui' t _ h2]
    show m.put (m.Entries ++ [e] ++ t) = _
    rw [List.append_assoc]; rfl
theorem nzx' {b : Bldg} {m : Img} (h : ImgOK b m) : nci' (initV b) (snapV m) = m := by
  unfold snapV
  rw [ni5']
  have h0 := nuv' (m := m) h.lp h.lf h.ll b.Cars.length 0 (by omega)
  simp only [List.take_zero, List.nil_append, Nat.sub_zero] at h0
  rw [h.lp]
  rw [show initV b = ⟨List.replicate b.Cars.length 0, List.replicate b.Cars.length false, List.replicate b.Cars.length false, []⟩ from rfl, h0, nui' _ _ (by show ncb' ([] ++ m.Entries); exact h.so)]
  rfl
theorem noq' (on : Bool) : 0 ≤ numB on ∧ numB on ≤ 1 := by cases on <;> exact ⟨by decide, by decide⟩
theorem nr7' {b : Bldg} {m : Img} (h : ImgOK b m) : ∀ r ∈ snapV m, n4' b r = true := by
  have hcode := h.code
  intro r hr
  unfold snapV at hr
  rcases List.mem_append.1 hr with hr | hr
  · obtain ⟨i, hi, hr⟩ := List.mem_flatMap.1 hr
    have hi' : i < m.Phases.length := by
      have := List.mem_range'_1.1 hi
      omega
    have hp := h.ph _ (nes' 0 hi')
    have hlp := h.lp
    have hcar : ∀ k v : Int, carR b ⟨k, 0, 0, i, v⟩ = true := fun k v => by
      unfold carR
      rw [nv'.2 ⟨show (0 : Int) ≤ (i : Int) by omega, show (i : Int) ≤ (b.Cars.length : Int) - 1 by omega⟩]; rfl
    unfold snapC at hr
    simp only [List.mem_cons, List.not_mem_nil, or_false] at hr
    rcases hr with rfl | rfl | rfl
    · unfold n4'
      rw [hcode, hcar, nv'.2 hp]; rfl
    · unfold n4'
      rw [hcode, hcar, nv'.2 (noq' _)]; rfl
    · unfold n4'
      rw [hcode, hcar, nv'.2 (noq' _)]; rfl
  · obtain ⟨e, he, hr⟩ := List.mem_flatMap.1 hr
    obtain ⟨h1, h2, h3⟩ := nfw'.1 (h.en e he)
    unfold snapE at hr
    simp only [List.mem_cons, List.not_mem_nil, or_false] at hr
    rcases hr with rfl | rfl | rfl
    · unfold n4'
      rw [hcode, h1]; rfl
    · unfold n4'
      rw [hcode, h1, nv'.2 ⟨h2.1, show e.Car ≤ (b.Cars.length : Int) - 1 by omega⟩]; rfl
    · unfold n4'
      rw [hcode, h1, nv'.2 (noq' _), nv'.2 h3]; rfl
end Go.Ovl
