/- Layer 9: the bytes of a record, and the records of bytes. -/
import Derived.Test.YthdomhdippmaiaaGreatOvCrc
import Derived.Test.YthdomhdippmaiaaGreatOvLog4
namespace Go.Ovl
open Go Go.Ab
set_option maxRecDepth 100000
def u8n (n : Int) : UInt8 := UInt8.ofNat n.toNat
theorem nmh' {n : Int} (h : 0 ≤ n ∧ n < 256) : ((u8n n).toNat : Int) = n := by
  unfold u8n
  rw [UInt8.toNat_ofNat']
  omega
def txt (l : List UInt8) : ByteArray := ⟨l.toArray⟩
theorem nig' (l : List UInt8) : bl (txt l) = l := bl_mk l
theorem n45' (a c : List UInt8) : txt a ++ txt c = txt (a ++ c) := nwe' (by rw [n26', nig', nig', nig'])
theorem njo' (l : List UInt8) : (txt l).size = l.length := by rw [← nhc', nig']
theorem nwf' (l : List Int) : textU l = txt (l.map u8n) := rfl
def rec5 (r : Record) : List UInt8 := [u8n r.Kind, u8n r.Floor, u8n r.Dir, u8n (r.Car + 2), u8n r.Value]
def encL (r : Record) : List UInt8 := rec5 r ++ [u8n ((sum8L (rec5 r) : Nat) : Int)]
theorem nkx' (r : Record) : (encL r).length = 6 := rfl
theorem nhq' {b : Bldg} (hb : b.small) {f d : Int} (h : nbf' b f d = true) : (0 ≤ f ∧ f < 100) ∧ (1 ≤ d ∧ d ≤ 2) := by
  have lo := hb.lo
  have hi := hb.hi
  unfold nbf' callB at h
  simp only [Bool.and_eq_true, Bool.or_eq_true, beq_iff_eq, nv'] at h
  omega
structure RecOK (r : Record) : Prop where
  k : 1 ≤ r.Kind ∧ r.Kind ≤ 7
  f : 0 ≤ r.Floor ∧ r.Floor < 100
  d : 0 ≤ r.Dir ∧ r.Dir < 100
  c : -2 ≤ r.Car ∧ r.Car < 100
  v : 0 ≤ r.Value ∧ r.Value < 256
theorem nrc' {b : Bldg} (hb : b.small) (hc : b.Cars.length ≤ 100) {r : Record} (h : n4' b r = true) : RecOK r := by
  have hk := (nrb' h).2
  have hcar : (r.Kind = 4 ∨ r.Kind = 5 ∨ r.Kind = 6) → r.Floor = 0 ∧ r.Dir = 0 := fun hq => by
    unfold n4' carR at h
    rcases hq with q | q | q
    all_goals
      rw [q] at h
      simp only [show ((4 : Int) == 1) = false from rfl, show ((4 : Int) == 2) = false from rfl, show ((4 : Int) == 3) = false from rfl, show ((5 : Int) == 1) = false from rfl, show ((5 : Int) == 2) = false from rfl, show ((5 : Int) == 3) = false from rfl, show ((5 : Int) == 4) = false from rfl, show ((6 : Int) == 1) = false from rfl, show ((6 : Int) == 2) = false from rfl, show ((6 : Int) == 3) = false from rfl, show ((6 : Int) == 4) = false from rfl, show ((6 : Int) == 5) = false from rfl, beq_self_eq_true, cond_true, cond_false, Bool.and_eq_true, beq_iff_eq] at h
      exact h.2.1.2
  rcases hk with h1 | h1 | h1 | h1 | h1 | h1 | h1
  · have := nhq' hb h1.2.1
    exact ⟨by omega, this.1, by omega, by omega, by omega⟩
  · have := nhq' hb h1.2.1
    exact ⟨by omega, this.1, by omega, by omega, by omega⟩
  · have := nhq' hb h1.2.1
    exact ⟨by omega, this.1, by omega, by omega, by omega⟩
  · have := hcar (by omega)
    exact ⟨by omega, by omega, by omega, by omega, by omega⟩
  · have := hcar (by omega)
    exact ⟨by omega, by omega, by omega, by omega, by omega⟩
  · have := hcar (by omega)
    exact ⟨by omega, by omega, by omega, by omega, by omega⟩
  · have := nhq' hb h1.2.1
    exact ⟨by omega, this.1, by omega, by omega, by omega⟩
theorem text5 {r : Record} (h : RecOK r) : textU [IntKind.u8.wrap r.Kind, IntKind.u8.wrap r.Floor, IntKind.u8.wrap r.Dir, IntKind.u8.wrap (IntKind.i64.wrap (r.Car + 2)), IntKind.u8.wrap r.Value] = txt (rec5 r) := by
  obtain ⟨h1, h2, h3, h4, h5⟩ := h
  rw [nmd' (n := r.Kind) (by omega) (by omega), nmd' (n := r.Floor) (by omega) (by omega), nmd' (n := r.Dir) (by omega) (by omega), nb' (n := r.Car + 2) (by omega) (by omega), nmd' (n := r.Car + 2) (by omega) (by omega), nmd' (n := r.Value) (by omega) (by omega)]
  rfl
def encR (b : Bldg) (r : Record) : ByteArray := bif n4' b r then txt (encL r) else txt []
section
variable {b : Bldg} (hb : b.small) (hc : b.Cars.length ≤ 100)
include hb hc
theorem nru' (r : Record) : nht' b.Floors b.Debounce b.Room b.Park b.Empty b.Full b.Over b.Cars r.Kind r.Floor r.Dir r.Car r.Value = some ((encR b r, (bif n4' b r then 0 else 1), ()), ()) := by
  unfold nht' encR
  rw [nnf' hb hc r]
  simp only [Option.bind_some]
  cases hv : n4' b r with
  | false => rfl
  | true =>
    have h := nrc' hb hc hv
    simp only [Bool.not_true, cond_false, cond_true, text5 h]
    rw [nqv' (by rw [njo']; show 5 ≤ 1000000; omega)]
    simp only [Option.bind_some, nig', nwf']
    rw [nbn' (by rw [njo', njo']; show 5 + 1 ≤ 4611686018427387904; omega), n45']
    rfl
end
def fld (l : List UInt8) (i : Nat) : Int := ((l.getD i 0).toNat : Int)
def recL (l : List UInt8) : Record := ⟨fld l 0, fld l 1, fld l 2, fld l 3 - 2, fld l 4⟩
def decL (b : Bldg) (l : List UInt8) : Option Record :=
  bif l.length == 6 && (((((sum8L (l.take 5) : Nat) : Int)) == fld l 5) && n4' b (recL l)) then some (recL l) else none
theorem npc' (l : List UInt8) (i : Nat) : 0 ≤ fld l i ∧ fld l i < 256 := by
  have h : (l.getD i 0).toNat < 256 := UInt8.toNat_lt _
  unfold fld; omega
theorem n2l' {b : Bldg} {l : List UInt8} {r : Record} (h : decL b l = some r) : n4' b r = true := by
  unfold decL at h
  cases hq : (l.length == 6 && (((((sum8L (l.take 5) : Nat) : Int)) == fld l 5) && n4' b (recL l))) with
  | false => rw [hq] at h; cases h
  | true =>
    rw [hq] at h
    cases h
    rw [Bool.and_eq_true, Bool.and_eq_true] at hq
    exact hq.2.2
theorem n5m' {b : Bldg} (hb : b.small) (hc : b.Cars.length ≤ 100) {r : Record} (h : n4' b r = true) : decL b (encL r) = some r := by
  obtain ⟨h1, h2, h3, h4, h5⟩ := nrc' hb hc h
  have hs := n47' (rec5 r)
  have e : recL (encL r) = r := by
    show Record.mk ((u8n r.Kind).toNat : Int) ((u8n r.Floor).toNat : Int) ((u8n r.Dir).toNat : Int) (((u8n (r.Car + 2)).toNat : Int) - 2) ((u8n r.Value).toNat : Int) = r
    rw [nmh' (by omega), nmh' (by omega), nmh' (by omega), nmh' (by omega), nmh' (by omega), show r.Car + 2 - 2 = r.Car by omega]
  have e5 : fld (encL r) 5 = ((sum8L (rec5 r) : Nat) : Int) := by
    show ((u8n ((sum8L (rec5 r) : Nat) : Int)).toNat : Int) = _
    exact nmh' (by omega)
  unfold decL
  rw [e, h, e5, show (encL r).take 5 = rec5 r from rfl, nkx']
  simp
theorem nrm' {b : Bldg} (hb : b.small) (hc : b.Cars.length ≤ 100) (hcode : b.code = 0) (s : ByteArray) (_hs : s.size ≤ 1000000) :
    ∃ (e : Int) (r0 : Record), nh1' b.Floors b.Debounce b.Room b.Park b.Empty b.Full b.Over b.Cars s = some (((), e, ()), ((r0.Kind, r0.Floor, r0.Dir, r0.Car, r0.Value, ()), ())) ∧ (e != 0) = (decL b (bl s)).isNone ∧ ∀ r, decL b (bl s) = some r → r0 = r := by
  unfold nh1'
  rw [ncm', hcode]
  simp only [Option.bind_some, bne_self_eq_false, cond_false]
  unfold decL
  by_cases h6 : s.size = 6
  · have l6 : (bl s).length = 6 := by rw [nhc']; exact h6
    have ib : ∀ i : Int, 0 ≤ i → i < 6 → inB i s.size = true := fun i h h' => nc' h (by omega)
    have x5 : bl (s.extract 0 5) = (bl s).take 5 := by rw [nxh']; rfl
    rw [show (((s.size : Nat) : Int) != 6) = false by rw [h6]; rfl, decide_eq_true (show (5 : Int) ≤ ((s.size : Nat) : Int) by omega), nqv' (by rw [← nhc', x5, List.length_take]; omega), x5]
    simp only [cond_false, cond_true, Option.bind_some, ib 5 (by omega) (by omega), ib 0 (by omega) (by omega), ib 1 (by omega) (by omega), ib 2 (by omega) (by omega), ib 3 (by omega) (by omega), ib 4 (by omega) (by omega), nvb']
    rw [l6, show Int.toNat 5 = 5 from rfl, show Int.toNat 0 = 0 from rfl, show Int.toNat 1 = 1 from rfl, show Int.toNat 2 = 2 from rfl, show Int.toNat 3 = 3 from rfl, show Int.toNat 4 = 4 from rfl]
    simp only [show ∀ i : Nat, (((bl s).getD i 0).toNat : Int) = fld (bl s) i from fun _ => rfl]
    have f0 := npc' (bl s) 0
    have f1 := npc' (bl s) 1
    have f2 := npc' (bl s) 2
    have f3 := npc' (bl s) 3
    have f4 := npc' (bl s) 4
    rw [nb' (n := fld (bl s) 0) (by omega) (by omega), nb' (n := fld (bl s) 1) (by omega) (by omega), nb' (n := fld (bl s) 2) (by omega) (by omega), nb' (n := fld (bl s) 3) (by omega) (by omega), nb' (n := fld (bl s) 3 - 2) (by omega) (by omega), nb' (n := fld (bl s) 4) (by omega) (by omega)]
    simp only [bne]
    cases hq : (((sum8L ((bl s).take 5) : Nat) : Int)) == fld (bl s) 5 with
    | false => exact ⟨5, ⟨0, 0, 0, 0, 0⟩, rfl, rfl, fun r h => by cases h⟩
    | true =>
      have hv := nnf' hb hc (recL (bl s))
      unfold recL at hv
      simp only at hv
      simp only [Bool.not_true, cond_false, hv, Option.bind_some]
      show ∃ e r0, (bif !(n4' b (recL (bl s))) then _ else _) = _ ∧ _
      cases n4' b (recL (bl s)) with
      | false => exact ⟨9, ⟨0, 0, 0, 0, 0⟩, rfl, rfl, fun r h => by cases h⟩
      | true => exact ⟨0, recL (bl s), rfl, rfl, fun r h => Option.some.inj h⟩
  · rw [show (((s.size : Nat) : Int) != 6) = true from bne_t (by omega), show ((bl s).length == 6) = false from beq_f (by rw [nhc']; exact h6)]
    exact ⟨4, ⟨0, 0, 0, 0, 0⟩, rfl, rfl, fun r h => by cases h⟩
def readL (b : Bldg) : Nat → List UInt8 → List Record
  | 0, _ => []
  | k + 1, l => if 6 ≤ l.length then match decL b (l.take 6) with | some r => r :: readL b k (l.drop 6) | none => [] else []
def readV (b : Bldg) (s : ByteArray) : List Record := readL b s.size (bl s)
theorem nps' (b : Bldg) : ∀ (k : Nat) (l : List UInt8), 6 * (readL b k l).length ≤ l.length
  | 0, _ => by simp [readL]
  | k + 1, l => by
    simp only [readL]
    split
    · split
      · rename_i h _ r _
        have := nps' b k (l.drop 6)
        rw [List.length_drop] at this
        rw [List.length_cons]; omega
      · simp
    · simp
theorem nnr' (b : Bldg) : ∀ (k : Nat) (l : List UInt8), ∀ r ∈ readL b k l, n4' b r = true
  | 0, _, _, h => by simp [readL] at h
  | k + 1, l, r, h => by
    simp only [readL] at h
    split at h
    · split at h
      · rename_i _ _ r' hr
        rcases List.mem_cons.1 h with rfl | h
        · exact n2l' hr
        · exact nnr' b k _ r h
      · cases h
    · cases h
theorem nwi' {b : Bldg} (hb : b.small) (hc : b.Cars.length ≤ 100) {t : List UInt8} (ht : t.length < 6) : ∀ (rs : List Record) (k : Nat), rs.length ≤ k → (∀ r ∈ rs, n4' b r = true) → readL b k (rs.flatMap encL ++ t) = rs
  | [], 0, _, _ => rfl
  | [], k + 1, _, _ => by
    simp only [readL, List.flatMap_nil, List.nil_append]
    rw [if_neg (by omega)]
  | r :: rs, 0, h, _ => by simp at h
  | r :: rs, k + 1, h, hv => by
    have e1 : (r :: rs).flatMap encL ++ t = encL r ++ (rs.flatMap encL ++ t) := by rw [List.flatMap_cons, List.append_assoc]
    have e2 : (encL r ++ (rs.flatMap encL ++ t)).take 6 = encL r := List.take_left' (nkx' r)
    have e3 : (encL r ++ (rs.flatMap encL ++ t)).drop 6 = rs.flatMap encL ++ t := List.drop_left' (nkx' r)
    simp only [readL]
    rw [e1, e2, e3, n5m' hb hc (hv r (List.mem_cons_self ..)), if_pos (by rw [List.length_append, nkx']; omega), nwi' hb hc ht rs k (by simp at h; omega) fun x hx => hv x (List.mem_cons_of_mem _ hx)]
theorem ntl' {b : Bldg} (hb : b.small) (hc : b.Cars.length ≤ 100) (hcode : b.code = 0) (s : ByteArray) (hs : s.size ≤ 1000000) :
    ∃ n : Int, njb' b.Floors b.Debounce b.Room b.Park b.Empty b.Full b.Over b.Cars s = some ((readV b s, n, ()), ()) := by
  have key : ∀ (k n : Nat) (l : List Record), s.size ≤ n + 6 * k → n ≤ s.size → l.length ≤ n → ∃ y : Int, iter (fun x => nc8' x.1.1 x.1.2.2.1 x.1.2.2.2.1 x.2.1.1 x.2.1.2.1 x.2.1.2.2.1 x.2.1.2.2.2.1 x.2.1.2.2.2.2.1 x.2.1.2.2.2.2.2.1 x.2.1.2.2.2.2.2.2.1 x.2.1.2.2.2.2.2.2.2.1) (k + 1) ((s, (), l, (n : Int), ()), (b.tup, ())) = some ((l ++ readL b k ((bl s).drop n), y, ()), ()) := by
    intro k
    induction k with
    | zero =>
      intro n l h1 h2 _
      refine ⟨(n : Int), n6' ?_⟩
      show nc8' s l (n : Int) b.Floors b.Debounce b.Room b.Park b.Empty b.Full b.Over b.Cars = _
      unfold nc8'
      rw [nb' (n := (n : Int) + 6) (by omega) (by omega), decide_eq_false (show ¬ (n : Int) + 6 ≤ (s.size : Int) by omega)]
      simp only [cond_false, readL, List.append_nil]
    | succ k ih =>
      intro n l h1 h2 h3
      have w : IntKind.i64.wrap ((n : Int) + 6) = ((n + 6 : Nat) : Int) := by rw [nb' (by omega) (by omega)]; omega
      by_cases g : n + 6 ≤ s.size
      · have hbl : ((bl s).drop n).length = s.size - n := by rw [List.length_drop, nhc']
        have hx : bl (s.extract n (n + 6)) = ((bl s).drop n).take 6 := by rw [nxh', show n + 6 - n = 6 by omega]
        obtain ⟨e, r0, d1, d2, d3⟩ := nrm' hb hc hcode (s.extract n (n + 6)) (by rw [← nhc', hx, List.length_take]; omega)
        rw [hx] at d2 d3
        have hstep : ∀ X, (bif (e != 0) then some (Sum.inr ((l, (n : Int), ()), ())) else some (Sum.inl ((s, (), (l ++ [r0]), ((n + 6 : Nat) : Int), ()), (b.tup, ())))) = X → nc8' s l (n : Int) b.Floors b.Debounce b.Room b.Park b.Empty b.Full b.Over b.Cars = X := by
          rintro X rfl
          unfold nc8'
          simp only [w, decide_eq_true (show ((n + 6 : Nat) : Int) ≤ (s.size : Int) by omega), decide_eq_true (show (0 : Int) ≤ ((n + 6 : Nat) : Int) by omega), decide_eq_true (show (0 : Int) ≤ (n : Int) by omega), Int.toNat_natCast, decide_eq_true (show (n : Int) ≤ ((n + 6 : Nat) : Int) by omega), Bool.and_self, cond_true, d1, Option.bind_some]
          rw [nbn' (show l.length + [Record.mk r0.Kind r0.Floor r0.Dir r0.Car r0.Value].length ≤ 2147483648 by rw [List.length_singleton]; omega)]
          rfl
        cases hd : decL b (((bl s).drop n).take 6) with
        | none =>
          rw [hd] at d2
          rw [d2] at hstep
          refine ⟨(n : Int), (n6' (hstep _ rfl)).trans ?_⟩
          simp only [readL, hbl, hd]
          rw [if_pos (by omega), List.append_nil]
        | some r =>
          rw [hd] at d2
          rw [d2] at hstep
          obtain rfl := d3 r hd
          obtain ⟨y, hy⟩ := ih (n + 6) (l ++ [r0]) (by omega) g (by rw [List.length_append, List.length_singleton]; omega)
          refine ⟨y, (nb4' (hstep _ rfl)).trans (hy.trans ?_)⟩
          simp only [readL, hbl, hd]
          rw [if_pos (by omega), List.append_assoc, List.drop_drop]
          rfl
      · refine ⟨(n : Int), n6' ?_⟩
        show nc8' s l (n : Int) b.Floors b.Debounce b.Room b.Park b.Empty b.Full b.Over b.Cars = _
        unfold nc8'
        rw [w, decide_eq_false (show ¬ ((n + 6 : Nat) : Int) ≤ (s.size : Int) by omega)]
        simp only [cond_false, readL]
        rw [if_neg (by rw [List.length_drop, nhc']; omega), List.append_nil]
  obtain ⟨y, hy⟩ := key s.size 0 [] (by omega) (by omega) (by simp)
  have hy' := nf' hy (by omega)
  refine ⟨y, ?_⟩
  unfold njb'
  rw [show nh6' ((s, (), [], (0 : Int), ()), ((b.Floors, b.Debounce, b.Room, b.Park, b.Empty, b.Full, b.Over, b.Cars, ()), ())) = _ from hy']
  rw [List.drop_zero, List.nil_append]
  rfl
end Go.Ovl
