/- Layer 9: the bytes of a record, and the records of bytes. -/
import Derived.Test.YthdomhdippmaiaaOvC
import Derived.Test.YthdomhdippmaiaaDefs2
import Derived.Test.YthdomhdippmaiaaOvA
import Derived.Test.YthdomhdippmaiaaOvB
namespace Go.Ovl
open Go Go.Ab
set_option maxRecDepth 100000
def u8n (n : Int) : UInt8 := UInt8.ofNat n.toNat
theorem nks' {n : Int} (h : 0 ≤ n ∧ n < 256) : ((u8n n).toNat : Int) = n := by
  unfold u8n
  rw [UInt8.toNat_ofNat']
  omega
def txt (l : List UInt8) : ByteArray := ⟨l.toArray⟩
theorem nfm' (l : List UInt8) : bl (txt l) = l := bl_mk l
theorem n4l' (s : ByteArray) : txt (bl s) = s := nrn' (nfm' _)
theorem nxk' (a c : List UInt8) : txt a ++ txt c = txt (a ++ c) := nrn' (by rw [nz5', nfm', nfm', nfm'])
theorem nff' (l : List UInt8) : (txt l).size = l.length := by rw [← ncb', nfm']
theorem n2f' (l : List Int) : textU l = txt (l.map u8n) := rfl
def rec5 (r : Record) : List UInt8 := [u8n r.Kind, u8n r.Floor, u8n r.Dir, u8n (r.Car + 2), u8n r.Value]
def encL (r : Record) : List UInt8 := rec5 r ++ [u8n ((sum8L (rec5 r) : Nat) : Int)]
theorem ni4' (r : Record) : (encL r).length = 6 := rfl
theorem njp' {b : Bldg} (hb : b.small) {f d : Int} (h : n1' b f d = true) : (0 ≤ f ∧ f < 100) ∧ (1 ≤ d ∧ d ≤ 2) := by
  have lo := hb.lo
  have hi := hb.hi
  unfold n1' callB at h
  simp only [Bool.and_eq_true, Bool.or_eq_true, beq_iff_eq, nw'] at h
  omega
structure RecOK (r : Record) : Prop where
  k : 1 ≤ r.Kind ∧ r.Kind ≤ 7
  f : 0 ≤ r.Floor ∧ r.Floor < 100
  d : 0 ≤ r.Dir ∧ r.Dir < 100
  c : -2 ≤ r.Car ∧ r.Car < 100
  v : 0 ≤ r.Value ∧ r.Value < 256
theorem npr' {b : Bldg} (hb : b.small) (hc : b.Cars.length ≤ 100) {r : Record} (h : nr' b r = true) : RecOK r := by
  have hk := (nps' h).2
  have hcar : (r.Kind = 4 ∨ r.Kind = 5 ∨ r.Kind = 6) → r.Floor = 0 ∧ r.Dir = 0 := fun hq => by
    unfold nr' carR at h
    rcases hq with q | q | q
    all_goals
      rw [q] at h
      simp only [show ((4 : Int) == 1) = false from rfl, show ((4 : Int) == 2) = false from rfl, show ((4 : Int) == 3) = false from rfl, show ((5 : Int) == 1) = false from rfl, show ((5 : Int) == 2) = false from rfl, show ((5 : Int) == 3) = false from rfl, show ((5 : Int) == 4) = false from rfl, show ((6 : Int) == 1) = false from rfl, show ((6 : Int) == 2) = false from rfl, show ((6 : Int) == 3) = false from rfl, show ((6 : Int) == 4) = false from rfl, show ((6 : Int) == 5) = false from rfl, beq_self_eq_true, cond_true, cond_false, Bool.and_eq_true, beq_iff_eq] at h
      exact h.2.1.2
  rcases hk with h1 | h1 | h1 | h1 | h1 | h1 | h1
  · have := njp' hb h1.2.1
    exact ⟨by omega, this.1, by omega, by omega, by omega⟩
  · have := njp' hb h1.2.1
    exact ⟨by omega, this.1, by omega, by omega, by omega⟩
  · have := njp' hb h1.2.1
    exact ⟨by omega, this.1, by omega, by omega, by omega⟩
  · have := hcar (by omega)
    exact ⟨by omega, by omega, by omega, by omega, by omega⟩
  · have := hcar (by omega)
    exact ⟨by omega, by omega, by omega, by omega, by omega⟩
  · have := hcar (by omega)
    exact ⟨by omega, by omega, by omega, by omega, by omega⟩
  · have := njp' hb h1.2.1
    exact ⟨by omega, this.1, by omega, by omega, by omega⟩
theorem text5 {r : Record} (h : RecOK r) : textU [IntKind.u8.wrap r.Kind, IntKind.u8.wrap r.Floor, IntKind.u8.wrap r.Dir, IntKind.u8.wrap (IntKind.i64.wrap (r.Car + 2)), IntKind.u8.wrap r.Value] = txt (rec5 r) := by
  obtain ⟨h1, h2, h3, h4, h5⟩ := h
  rw [nja' (n := r.Kind) (by omega) (by omega), nja' (n := r.Floor) (by omega) (by omega), nja' (n := r.Dir) (by omega) (by omega), nb' (n := r.Car + 2) (by omega) (by omega), nja' (n := r.Car + 2) (by omega) (by omega), nja' (n := r.Value) (by omega) (by omega)]
  rfl
def encR (b : Bldg) (r : Record) : ByteArray := bif nr' b r then txt (encL r) else txt []
section
variable {b : Bldg} (hb : b.small) (hc : b.Cars.length ≤ 100)
include hb hc
theorem nun' (r : Record) : nil' b.Floors b.Debounce b.Room b.Park b.Empty b.Full b.Over b.Cars r.Kind r.Floor r.Dir r.Car r.Value = some ((encR b r, (bif nr' b r then 0 else 1), ()), ()) := by
  unfold nil' encR
  rw [nlg' hb hc r]
  simp only [Option.bind_some]
  cases hv : nr' b r with
  | false => rfl
  | true =>
    have h := npr' hb hc hv
    simp only [Bool.not_true, cond_false, cond_true, text5 h]
    rw [np1' (by rw [nff']; show 5 ≤ 1000000; omega)]
    simp only [Option.bind_some, nfm', n2f']
    rw [nbk' (by rw [nff', nff']; show 5 + 1 ≤ 4611686018427387904; omega), nxk']
    rfl
end
def fld (l : List UInt8) (i : Nat) : Int := ((l.getD i 0).toNat : Int)
def recL (l : List UInt8) : Record := ⟨fld l 0, fld l 1, fld l 2, fld l 3 - 2, fld l 4⟩
def decL (b : Bldg) (l : List UInt8) : Option Record :=
  bif l.length == 6 && (((((sum8L (l.take 5) : Nat) : Int)) == fld l 5) && nr' b (recL l)) then some (recL l) else none
theorem ng0' (l : List UInt8) (i : Nat) : 0 ≤ fld l i ∧ fld l i < 256 := by
  have h : (l.getD i 0).toNat < 256 := UInt8.toNat_lt _
  unfold fld; omega
theorem nzh' {b : Bldg} {l : List UInt8} {r : Record} (h : decL b l = some r) : nr' b r = true := by
  unfold decL at h
  cases hq : (l.length == 6 && (((((sum8L (l.take 5) : Nat) : Int)) == fld l 5) && nr' b (recL l))) with
  | false => rw [hq] at h; cases h
  | true =>
    rw [hq] at h
    cases h
    rw [Bool.and_eq_true, Bool.and_eq_true] at hq
    exact hq.2.2
theorem n3o' {b : Bldg} (hb : b.small) (hc : b.Cars.length ≤ 100) {r : Record} (h : nr' b r = true) : decL b (encL r) = some r := by
  obtain ⟨h1, h2, h3, h4, h5⟩ := npr' hb hc h
  have hs := nxn' (rec5 r)
  have e : recL (encL r) = r := by
    show Record.mk ((u8n r.Kind).toNat : Int) ((u8n r.Floor).toNat : Int) ((u8n r.Dir).toNat : Int) (((u8n (r.Car + 2)).toNat : Int) - 2) ((u8n r.Value).toNat : Int) = r
    rw [nks' (by omega), nks' (by omega), nks' (by omega), nks' (by omega), nks' (by omega), show r.Car + 2 - 2 = r.Car by omega]
  have e5 : fld (encL r) 5 = ((sum8L (rec5 r) : Nat) : Int) := by
    show ((u8n ((sum8L (rec5 r) : Nat) : Int)).toNat : Int) = _
    exact nks' (by omega)
  unfold decL
  rw [e, h, e5, show (encL r).take 5 = rec5 r from rfl, ni4']
  simp
theorem np5' {b : Bldg} (hb : b.small) (hc : b.Cars.length ≤ 100) (hcode : b.code = 0) (s : ByteArray) (_hs : s.size ≤ 1000000) :
    ∃ (e : Int) (r0 : Record), ngb' b.Floors b.Debounce b.Room b.Park b.Empty b.Full b.Over b.Cars s = some (((), e, ()), ((r0.Kind, r0.Floor, r0.Dir, r0.Car, r0.Value, ()), ())) ∧ (e != 0) = (decL b (bl s)).isNone ∧ ∀ r, decL b (bl s) = some r → r0 = r := by
  unfold ngb'
  rw [ndx', hcode]
  simp only [Option.bind_some, bne_self_eq_false, cond_false]
  unfold decL
  by_cases h6 : s.size = 6
  · have l6 : (bl s).length = 6 := by rw [ncb']; exact h6
    have ib : ∀ i : Int, 0 ≤ i → i < 6 → inB i s.size = true := fun i h h' => nd' h (by omega)
    have x5 : bl (s.extract 0 5) = (bl s).take 5 := by rw [noa']; rfl
    rw [show (((s.size : Nat) : Int) != 6) = false by rw [h6]; rfl, decide_eq_true (show (5 : Int) ≤ ((s.size : Nat) : Int) by omega), nw7' (by rw [← ncb', x5, List.length_take]; omega), x5]
    simp only [cond_false, cond_true, Option.bind_some, ib 5 (by omega) (by omega), ib 0 (by omega) (by omega), ib 1 (by omega) (by omega), ib 2 (by omega) (by omega), ib 3 (by omega) (by omega), ib 4 (by omega) (by omega), nlt']
    rw [l6, show Int.toNat 5 = 5 from rfl, show Int.toNat 0 = 0 from rfl, show Int.toNat 1 = 1 from rfl, show Int.toNat 2 = 2 from rfl, show Int.toNat 3 = 3 from rfl, show Int.toNat 4 = 4 from rfl]
    simp only [show ∀ i : Nat, (((bl s).getD i 0).toNat : Int) = fld (bl s) i from fun _ => rfl]
    have f0 := ng0' (bl s) 0
    have f1 := ng0' (bl s) 1
    have f2 := ng0' (bl s) 2
    have f3 := ng0' (bl s) 3
    have f4 := ng0' (bl s) 4
    rw [nb' (n := fld (bl s) 0) (by omega) (by omega), nb' (n := fld (bl s) 1) (by omega) (by omega), nb' (n := fld (bl s) 2) (by omega) (by omega), nb' (n := fld (bl s) 3) (by omega) (by omega), nb' (n := fld (bl s) 3 - 2) (by omega) (by omega), nb' (n := fld (bl s) 4) (by omega) (by omega)]
    simp only [bne]
    cases hq : (((sum8L ((bl s).take 5) : Nat) : Int)) == fld (bl s) 5 with
    | false => exact ⟨5, ⟨0, 0, 0, 0, 0⟩, rfl, rfl, fun r h => by cases h⟩
    | true =>
      have hv := nq8' hb hc (recL (bl s))
      unfold recL at hv
      simp only at hv
      simp only [Bool.not_true, cond_false, hv, Option.bind_some]
      show ∃ e r0, (bif !(nr' b (recL (bl s))) then _ else _) = _ ∧ _
      cases nr' b (recL (bl s)) with
      | false => exact ⟨9, ⟨0, 0, 0, 0, 0⟩, rfl, rfl, fun r h => by cases h⟩
      | true => exact ⟨0, recL (bl s), rfl, rfl, fun r h => Option.some.inj h⟩
  · rw [show (((s.size : Nat) : Int) != 6) = true from bne_t (by omega), show ((bl s).length == 6) = false from beq_f (by rw [ncb']; exact h6)]
    exact ⟨4, ⟨0, 0, 0, 0, 0⟩, rfl, rfl, fun r h => by cases h⟩
def readL (b : Bldg) : Nat → List UInt8 → List Record
  | 0, _ => []
  | k + 1, l => if 6 ≤ l.length then match decL b (l.take 6) with | some r => r :: readL b k (l.drop 6) | none => [] else []
def readV (b : Bldg) (s : ByteArray) : List Record := readL b s.size (bl s)
theorem nj5' (b : Bldg) : ∀ (k : Nat) (l : List UInt8), 6 * (readL b k l).length ≤ l.length
  | 0, _ => by simp [readL]
  | k + 1, l => by
    simp only [readL]
    split
    · split
      · rename_i h _ r _
        have := nj5' b k (l.drop 6)
        rw [List.length_drop] at this
        rw [List.length_cons]; omega
      · simp
    · simp
theorem ngz' (b : Bldg) : ∀ (k : Nat) (l : List UInt8), ∀ r ∈ readL b k l, nr' b r = true
  | 0, _, _, h => by simp [readL] at h
  | k + 1, l, r, h => by
    simp only [readL] at h
    split at h
    · split at h
      · rename_i _ _ r' hr
        rcases List.mem_cons.1 h with rfl | h
        · exact nzh' hr
        · exact ngz' b k _ r h
      · cases h
    · cases h
theorem nvj' {b : Bldg} (hb : b.small) (hc : b.Cars.length ≤ 100) {t : List UInt8} (ht : t.length < 6) : ∀ (rs : List Record) (k : Nat), rs.length ≤ k → (∀ r ∈ rs, nr' b r = true) → readL b k (rs.flatMap encL ++ t) = rs
  | [], 0, _, _ => rfl
  | [], k + 1, _, _ => by
    simp only [readL, List.flatMap_nil, List.nil_append]
    rw [if_neg (by omega)]
  | r :: rs, 0, h, _ => by simp at h
  | r :: rs, k + 1, h, hv => by
    have e1 : (r :: rs).flatMap encL ++ t = encL r ++ (rs.flatMap encL ++ t) := by rw [List.flatMap_cons, List.append_assoc]
    have e2 : (encL r ++ (rs.flatMap encL ++ t)).take 6 = encL r := List.take_left' (ni4' r)
    have e3 : (encL r ++ (rs.flatMap encL ++ t)).drop 6 = rs.flatMap encL ++ t := List.drop_left' (ni4' r)
    simp only [readL]
    rw [e1, e2, e3, n3o' hb hc (hv r (List.mem_cons_self ..)), if_pos (by rw [List.length_append, ni4']; omega), nvj' hb hc ht rs k (by simp at h; omega) fun x hx => hv x (List.mem_cons_of_mem _ hx)]
theorem nso' {b : Bldg} (hb : b.small) (hc : b.Cars.length ≤ 100) (hcode : b.code = 0) (s : ByteArray) (hs : s.size ≤ 1000000) :
    ∃ n : Int, nha' b.Floors b.Debounce b.Room b.Park b.Empty b.Full b.Over b.Cars s = some ((readV b s, n, ()), ()) := by
  have key : ∀ (k n : Nat) (l : List Record), s.size ≤ n + 6 * k → n ≤ s.size → l.length ≤ n → ∃ y : Int, iter (fun x => nb6' x.1.1 x.1.2.2.1 x.1.2.2.2.1 x.2.1.1 x.2.1.2.1 x.2.1.2.2.1 x.2.1.2.2.2.1 x.2.1.2.2.2.2.1 x.2.1.2.2.2.2.2.1 x.2.1.2.2.2.2.2.2.1 x.2.1.2.2.2.2.2.2.2.1) (k + 1) ((s, (), l, (n : Int), ()), (b.tup, ())) = some ((l ++ readL b k ((bl s).drop n), y, ()), ()) := by
    intro k
    induction k with
    | zero =>
      intro n l h1 h2 _
      refine ⟨(n : Int), ns' ?_⟩
      show nb6' s l (n : Int) b.Floors b.Debounce b.Room b.Park b.Empty b.Full b.Over b.Cars = _
      unfold nb6'
      rw [nb' (n := (n : Int) + 6) (by omega) (by omega), decide_eq_false (show ¬ (n : Int) + 6 ≤ (s.size : Int) by omega)]
      simp only [cond_false, readL, List.append_nil]
    | succ k ih =>
      intro n l h1 h2 h3
      have w : IntKind.i64.wrap ((n : Int) + 6) = ((n + 6 : Nat) : Int) := by rw [nb' (by omega) (by omega)]; omega
      by_cases g : n + 6 ≤ s.size
      · have hbl : ((bl s).drop n).length = s.size - n := by rw [List.length_drop, ncb']
        have hx : bl (s.extract n (n + 6)) = ((bl s).drop n).take 6 := by rw [noa', show n + 6 - n = 6 by omega]
        obtain ⟨e, r0, d1, d2, d3⟩ := np5' hb hc hcode (s.extract n (n + 6)) (by rw [← ncb', hx, List.length_take]; omega)
        rw [hx] at d2 d3
        have hstep : ∀ X, (bif (e != 0) then some (Sum.inr ((l, (n : Int), ()), ())) else some (Sum.inl ((s, (), (l ++ [r0]), ((n + 6 : Nat) : Int), ()), (b.tup, ())))) = X → nb6' s l (n : Int) b.Floors b.Debounce b.Room b.Park b.Empty b.Full b.Over b.Cars = X := by
          rintro X rfl
          unfold nb6'
          simp only [w, decide_eq_true (show ((n + 6 : Nat) : Int) ≤ (s.size : Int) by omega), decide_eq_true (show (0 : Int) ≤ ((n + 6 : Nat) : Int) by omega), decide_eq_true (show (0 : Int) ≤ (n : Int) by omega), Int.toNat_natCast, decide_eq_true (show (n : Int) ≤ ((n + 6 : Nat) : Int) by omega), Bool.and_self, cond_true, d1, Option.bind_some]
          rw [nbk' (show l.length + [Record.mk r0.Kind r0.Floor r0.Dir r0.Car r0.Value].length ≤ 2147483648 by rw [List.length_singleton]; omega)]
          rfl
        cases hd : decL b (((bl s).drop n).take 6) with
        | none =>
          rw [hd] at d2
          rw [d2] at hstep
          refine ⟨(n : Int), (ns' (hstep _ rfl)).trans ?_⟩
          simp only [readL, hbl, hd]
          rw [if_pos (by omega), List.append_nil]
        | some r =>
          rw [hd] at d2
          rw [d2] at hstep
          obtain rfl := d3 r hd
          obtain ⟨y, hy⟩ := ih (n + 6) (l ++ [r0]) (by omega) g (by rw [List.length_append, List.length_singleton]; omega)
          refine ⟨y, (nbd' (hstep _ rfl)).trans (hy.trans ?_)⟩
          simp only [readL, hbl, hd]
          rw [if_pos (by omega), List.append_assoc, List.drop_drop]
          rfl
      · refine ⟨(n : Int), ns' ?_⟩
        show nb6' s l (n : Int) b.Floors b.Debounce b.Room b.Park b.Empty b.Full b.Over b.Cars = _
        unfold nb6'
        rw [w, decide_eq_false (show ¬ ((n + 6 : Nat) : Int) ≤ (s.size : Int) by omega)]
        simp only [cond_false, readL]
        rw [if_neg (by rw [List.length_drop, ncb']; omega), List.append_nil]
  obtain ⟨y, hy⟩ := key s.size 0 [] (by omega) (by omega) (by simp)
  have hy' := no' hy (by omega)
  refine ⟨y, ?_⟩
  unfold nha'
  rw [show nga' ((s, (), [], (0 : Int), ()), ((b.Floors, b.Debounce, b.Room, b.Park, b.Empty, b.Full, b.Over, b.Cars, ()), ())) = _ from hy']
  rw [List.drop_zero, List.nil_append]
  rfl
end Go.Ovl
namespace Go.Ovl
open Go Go.Ab
structure Sto where
  h0 : ByteArray
  h1 : ByteArray
  sel : Int
def Sto.get (s : Sto) (half : Int) : ByteArray := if half = 0 then s.h0 else s.h1
def Sto.set (s : Sto) (half : Int) (x : ByteArray) : Sto := if half = 0 then { s with h0 := x } else { s with h1 := x }
def Sto.no : Sto := ⟨noB, noB, 0⟩
def Sto.cur (s : Sto) : ByteArray := if s.sel = 1 then s.h1 else s.h0
def Sto.ok (room : Int) (s : Sto) : Prop := 1 ≤ room ∧ room ≤ 65536 ∧ s.h0.size ≤ room ∧ s.h1.size ≤ room ∧ (s.sel = 0 ∨ s.sel = 1)
instance (room : Int) (s : Sto) : Decidable (s.ok room) := by unfold Sto.ok; infer_instance
def Sto.tup (s : Sto) : ByteArray × ByteArray × Int × Unit := (s.h0, (s.h1, (s.sel, ())))
def Sto.chk (room : Int) (s : Sto) (half bud : Int) : Int := if s.ok room then if (half ≠ 0 ∧ half ≠ 1) ∨ bud < 0 then 2 else 0 else 1
def Sto.write (room : Int) (s : Sto) (half : Int) (d : ByteArray) (bud : Int) : Sto × Int × Int :=
  if s.chk room half bud ≠ 0 then (.no, 0, s.chk room half bud)
  else if room < (s.get half).size + d.size then (.no, 0, 7)
  else if bud < d.size then (s.set half (s.get half ++ d.extract 0 bud.toNat), 0, 8)
  else (s.set half (s.get half ++ d), bud - d.size, 0)
def Sto.act (room : Int) (s : Sto) (half bud : Int) (t : Sto) : Sto × Int × Int :=
  if s.chk room half bud ≠ 0 then (.no, 0, s.chk room half bud) else if bud = 0 then (s, 0, 8) else (t, bud - 1, 0)
def Sto.erase (room : Int) (s : Sto) (half bud : Int) : Sto × Int × Int := s.act room half bud (s.set half noB)
def Sto.choose (room : Int) (s : Sto) (half bud : Int) : Sto × Int × Int := s.act room half bud { s with sel := half }
def Sto.out (r : Sto × Int × Int) : (Unit × Int × Int × Unit) × ((ByteArray × ByteArray × Int × Unit) × Unit) := (((), (r.2.1, (r.2.2, ()))), ((r.1.h0, (r.1.h1, (r.1.sel, ()))), ()))
theorem nqi' {room : Int} {s : Sto} {half bud : Int} (h : s.chk room half bud = 0) : s.ok room ∧ (half = 0 ∨ half = 1) ∧ 0 ≤ bud := by
  unfold Sto.chk at h
  split at h
  · split at h
    · cases h
    · rename_i h1 h2; refine ⟨h1, ?_, ?_⟩ <;> omega
  · cases h
theorem nn7' (h0 h1 : ByteArray) (sel : Int) : neb' h0 h1 sel = some ((Sto.cur ⟨h0, h1, sel⟩, ()), ()) := by
  unfold neb' Sto.cur
  by_cases h : sel = 1 <;> simp [h, beq_f]
end Go.Ovl
namespace Go.Ovl
open Go Go.Ab
set_option maxRecDepth 100000
theorem nz9' (b : Bldg) (r : Record) : (bl (encR b r)).length ≤ 6 := by
  unfold encR
  cases nr' b r with
  | true => rw [cond_true, nfm', ni4']; omega
  | false => rw [cond_false, nfm']; simp
theorem nyq' {b : Bldg} {r : Record} (h : nr' b r = true) : encR b r = txt (encL r) := by unfold encR; rw [h]; rfl
theorem nwn' {b : Bldg} : ∀ {rs : List Record}, (∀ r ∈ rs, nr' b r = true) → rs.flatMap (fun r => bl (encR b r)) = rs.flatMap encL
  | [], _ => rfl
  | r :: t, h => by
    rw [List.flatMap_cons, List.flatMap_cons, nyq' (h r (List.mem_cons_self ..)), nfm', nwn' fun x hx => h x (List.mem_cons_of_mem _ hx)]
theorem ns0' (rs : List Record) : (rs.flatMap encL).length = 6 * rs.length := by
  induction rs with
  | nil => rfl
  | cons r t ih => rw [List.flatMap_cons, List.length_append, ih, ni4', List.length_cons]; omega
section
variable {b : Bldg} (hb : b.small) (hc : b.Cars.length ≤ 100)
include hb hc
end
def nck' (b : Bldg) (s : Sto) (m : Img) (bud : Int) : Sto × Int × Int :=
  bif !(decide (s.ok b.Room)) then (Sto.no, 0, 1) else bif decide (bud < 0) then (Sto.no, 0, 1) else bif !(m.ok b) then (Sto.no, 0, 1) else
  bif ((s.erase b.Room (1 - s.sel) bud).2.2 == 0) then
    (bif (((s.erase b.Room (1 - s.sel) bud).1.write b.Room (1 - s.sel) (txt ((snapV m).flatMap encL)) (s.erase b.Room (1 - s.sel) bud).2.1).2.2 == 0) then
      ((s.erase b.Room (1 - s.sel) bud).1.write b.Room (1 - s.sel) (txt ((snapV m).flatMap encL)) (s.erase b.Room (1 - s.sel) bud).2.1).1.choose b.Room (1 - s.sel) ((s.erase b.Room (1 - s.sel) bud).1.write b.Room (1 - s.sel) (txt ((snapV m).flatMap encL)) (s.erase b.Room (1 - s.sel) bud).2.1).2.1
    else (s.erase b.Room (1 - s.sel) bud).1.write b.Room (1 - s.sel) (txt ((snapV m).flatMap encL)) (s.erase b.Room (1 - s.sel) bud).2.1)
  else s.erase b.Room (1 - s.sel) bud
theorem n3x' (room : Int) (s : Sto) (half bud : Int) (t : Sto) (hb : bud < 9223372036854775808) : (s.act room half bud t).2.1 < 9223372036854775808 := by
  unfold Sto.act
  split
  · show (0 : Int) < _; omega
  · split
    · show (0 : Int) < _; omega
    · show bud - 1 < _; omega
theorem nzv' (room : Int) (s : Sto) (half : Int) (d : ByteArray) (bud : Int) (hb : bud < 9223372036854775808) : (s.write room half d bud).2.1 < 9223372036854775808 := by
  unfold Sto.write
  split
  · show (0 : Int) < _; omega
  · split
    · show (0 : Int) < _; omega
    · split
      · show (0 : Int) < _; omega
      · show bud - (d.size : Int) < _; omega
theorem nw2' {b : Bldg} {rs : List Record} (hv : ∀ r ∈ rs, nr' b r = true) (hl : rs.length ≤ 90000) (m0 m : Img) (hm : ImgOK b m) (hml : m.Entries.length = 0) :
    ngs' (((), (), rs, (rs.length : Int), (0 : Int), ()), (m0.tup, m.tup, ())) = some (((), (), ()), (m0.tup, (nba' m rs).tup, ())) := by
  have hcars := ncq' hm.code
  have h := ncd' (step := fun x => ndn' x.1.2.2.1 x.1.2.2.2.1 x.1.2.2.2.2.1 x.2.1.1 x.2.1.2.1 x.2.1.2.2.1 x.2.1.2.2.2.1 x.2.2.1.1 x.2.2.1.2.1 x.2.2.1.2.2.1 x.2.2.1.2.2.2.1) rs.length
    (fun i (m : Img) => (((), (), rs, (rs.length : Int), (i : Int), ()), (m0.tup, m.tup, ()))) (fun i m => n9' m (rs.getD i (Record.mk 0 0 0 0 0))) (fun i m => ImgOK b m ∧ m.Entries.length ≤ i) (fun m => (((), (), ()), (m0.tup, m.tup, ()))) (fun i m hi hs => by
      obtain ⟨hm, hle⟩ := hs
      have hr := hv _ (nfg' (Record.mk 0 0 0 0 0) hi)
      obtain ⟨a1, a2⟩ := nlv' hm hr
      refine ⟨?_, a1, by omega⟩
      show ndn' rs (rs.length : Int) (i : Int) m0.Phases m0.Flags m0.Leaving m0.Entries m.Phases m.Flags m.Leaving m.Entries = _
      unfold ndn'
      simp only [decide_eq_true (show (i : Int) < (rs.length : Int) by omega), nd' (show (0 : Int) ≤ (i : Int) by omega) (show (i : Int) < (rs.length : Int) by omega), cond_true, Int.toNat_natCast, wrap1 hi (show rs.length ≤ n4' by unfold n4'; omega)]
      rw [nuo' hm.so (by omega) (rs.getD i (Record.mk 0 0 0 0 0)) fun hk => by
        have h0 := nke' hr hk
        have h1 := hm.lp
        have h2 := hm.lf
        have h3 := hm.ll
        omega]
      rfl) (fun m _ => by
      show ndn' rs (rs.length : Int) (rs.length : Int) m0.Phases m0.Flags m0.Leaving m0.Entries m.Phases m.Flags m.Leaving m.Entries = _
      unfold ndn'
      simp only [decide_eq_false (Int.lt_irrefl (rs.length : Int)), cond_false]
      rfl) rs.length 0 m (by omega) ⟨hm, by omega⟩
  have h' := no' h.1 (by omega)
  have e : ∀ (l : List Record) (m : Img), l.foldl n9' m = nba' m l := fun l => by
    induction l with
    | nil => exact fun m => rfl
    | cons r t ih => exact fun m => ih (n9' m r)
  rw [ng3' n9' (Record.mk 0 0 0 0 0) rs rs.length 0 m (by omega), List.drop_zero, e] at h'
  exact h'
def n3' (b : Bldg) (s : Sto) : Img := nba' (initV b) (readV b s.cur)
theorem nul' {b : Bldg} (hb : b.small) (hcode : b.code = 0) (s : Sto) (hs : s.cur.size ≤ 500000) :
    ndu' b.Floors b.Debounce b.Room b.Park b.Empty b.Full b.Over b.Cars s.h0 s.h1 s.sel = some (((), ()), ((n3' b s).tup, ())) := by
  have hcars := ncq' hcode
  obtain ⟨n, hr⟩ := nso' hb (by omega) hcode s.cur (by omega)
  have hlen : (readV b s.cur).length ≤ 90000 := by
    have := nj5' b s.cur.size (bl s.cur)
    rw [ncb'] at this
    unfold readV; omega
  have hl := nw2' (b := b) (rs := readV b s.cur) (fun r hr => ngz' b _ _ r hr) hlen Img.none (initV b) (nho' hcode) rfl
  unfold ndu'
  rw [nsz', hcode, nn7']
  simp only [Option.bind_some, beq_self_eq_true, cond_true]
  rw [show Sto.cur ⟨s.h0, s.h1, s.sel⟩ = s.cur from rfl, hr]
  simp only [Option.bind_some]
  simp only [Img.tup, Img.none] at hl ⊢
  rw [hl]
  rfl
end Go.Ovl
namespace Go.Ovl
open Go Go.Ab
set_option maxRecDepth 100000
end Go.Ovl
namespace Go.Ovl
open Go Go.Ab
theorem bindI {α β : Type} {o : Option α} {a : α} {f : α → Option β} {r : Option β} (h : o = some a) (h2 : f a = r) : Option.bind o f = r := by
  subst h; exact h2
theorem n26' {α : Type} {l : List α} {i : Nat} (d : α) (hi : i < l.length) : l.drop i = l.getD i d :: l.drop (i + 1) := by
  rw [List.drop_eq_getElem_cons hi, List.getD_eq_getElem?_getD, List.getElem?_eq_getElem hi]; rfl
theorem nvh' {X Y : Type} {step : X → Option (Sum X Y)} (N : Nat) (g : Nat → X) (y : Y) (h1 : ∀ i, i < N → step (g i) = some (.inl (g (i + 1)))) (h2 : step (g N) = some (.inr y)) : ∀ m i : Nat, i + m = N → iter step (m + 1) (g i) = some y
  | 0, i, hi => by
    obtain rfl : i = N := by omega
    exact ns' h2
  | m + 1, i, hi => (nbd' (h1 i (by omega))).trans (nvh' N g y h1 h2 m (i + 1) (by omega))
theorem nom' {X Y α : Type} {step : X → Option (Sum X Y)} (l : List α) (d : α) (p : α → Bool) (g : Nat → X) (y : Y) (z : α → Y)
    (h1 : ∀ i, i < l.length → step (g i) = some (bif p (l.getD i d) then .inl (g (i + 1)) else .inr (z (l.getD i d)))) (h2 : step (g l.length) = some (.inr y)) :
    ∀ m i : Nat, i + m = l.length → iter step (m + 1) (g i) = some (match (l.drop i).find? (fun x => !p x) with | none => y | some x => z x)
  | 0, i, hi => by
    obtain rfl : i = l.length := by omega
    rw [List.drop_length]
    exact ns' h2
  | m + 1, i, hi => by
    have hlt : i < l.length := by omega
    rw [n26' d hlt]
    have h := h1 i hlt
    cases hp : p (l.getD i d) with
    | true =>
      rw [hp, cond_true] at h
      rw [nbd' h, nom' l d p g y z h1 h2 m (i + 1) (by omega), List.find?_cons, hp]
      rfl
    | false =>
      rw [hp, cond_false] at h
      rw [ns' h, List.find?_cons, hp]
      rfl
theorem nwg' {α β : Type} (p : α → Bool) (y z : β) (l : List α) : (match l.find? (fun x => !p x) with | none => y | some _ => z) = bif l.all p then y else z := by
  induction l with
  | nil => rfl
  | cons a l ih =>
    rw [List.find?_cons, List.all_cons]
    cases p a
    · rfl
    · exact ih
end Go.Ovl
namespace Go.Ovl
open Go Go.Ab
set_option maxRecDepth 100000
def nmg' : Debounced := Debounced.mk 0 false false false false 0 0 0 0 0 0 0 0 0 0 0 0 0 0 0 0 0 0 0 0 0 0 0 0 0 0 0 0 0 0 0 0 0 0 0 0
def nqb' : NewCar := NewCar.mk 0 0 0 0 0 false 0 0 0 0 0 0 0 false
def nqn' : Loaded := Loaded.mk 0
def nsi' : Calls := Calls.mk 0 0
def Belief.tup (x : Belief) : Int × Int × Int × List Duty × Int × Bool × Unit := (x.Floor, x.Dir, x.Door, x.Duties, x.Still, x.Late, ())
structure Mch where
  Image : Img
  Store : Sto
  Contacts : List Debounced
  Beliefs : List Belief
  Cars : List NewCar
  Loads : List Loaded
  Expect : List Int
  Lit : List Calls
  Tick : Int
  Faults : Int
  Refused : Int
def Mch.tup (m : Mch) : List Int × List Bool × List Bool × List Entry × ByteArray × ByteArray × Int × List Debounced × List Belief × List NewCar × List Loaded × List Int × List Calls × Int × Int × Int × Unit := (m.Image.Phases, m.Image.Flags, m.Image.Leaving, m.Image.Entries, m.Store.h0, m.Store.h1, m.Store.sel, m.Contacts, m.Beliefs, m.Cars, m.Loads, m.Expect, m.Lit, m.Tick, m.Faults, m.Refused, ())
structure Mch.fit (m : Mch) : Prop where
  im : m.Image.fit
  co : m.Contacts.length ≤ 100000
  be : m.Beliefs.length ≤ 100000
  du : ∀ x ∈ m.Beliefs, x.Duties.length ≤ 100000
  ca : m.Cars.length ≤ 100000
  lo : m.Loads.length ≤ 100000
  ex : m.Expect.length ≤ 100000
  li : m.Lit.length ≤ 100000
section
variable {a c : Mch} (ha : a.fit)
include ha
end
end Go.Ovl
namespace Go.Ovl
open Go Go.Ab
set_option maxRecDepth 100000
section
variable {s : Sto} {room half bud : Int} (hs : s.ok room) (hh : half = 0 ∨ half = 1) (hb : 0 ≤ bud)
include hs hh hb
theorem nz4' : s.chk room half bud = 0 := by
  unfold Sto.chk
  rw [if_pos hs, if_neg (by omega)]
theorem n19' {t : List UInt8} (hr : ((s.get half).size : Int) + (t.length : Int) ≤ room) : s.write room half (txt t) bud = if bud < (t.length : Int) then (s.set half (s.get half ++ txt (t.take bud.toNat)), 0, 8) else (s.set half (s.get half ++ txt t), bud - (t.length : Int), 0) := by
  have he : (txt t).extract 0 bud.toNat = txt (t.take bud.toNat) := nrn' (by rw [noa', nfm', nfm']; simp)
  unfold Sto.write
  rw [nz4' hs hh hb, if_neg (by omega), nff', if_neg (by omega), he]
theorem n1f' (t : Sto) : s.act room half bud t = if bud = 0 then (s, 0, 8) else (t, bud - 1, 0) := by
  unfold Sto.act
  rw [nz4' hs hh hb, if_neg (by omega)]
end
theorem nq0' {s : Sto} {room half : Int} (hs : s.ok room) {x : ByteArray} (hx : (x.size : Int) ≤ room) : (s.set half x).ok room := by
  obtain ⟨h1, h2, h3, h4, h5⟩ := hs
  unfold Sto.set Sto.ok
  split
  · exact ⟨h1, h2, hx, h4, h5⟩
  · exact ⟨h1, h2, h3, hx, h5⟩
theorem n45' {s : Sto} {room half : Int} (hs : s.ok room) (hh : half = 0 ∨ half = 1) : Sto.ok room { s with sel := half } := by
  obtain ⟨h1, h2, h3, h4, _⟩ := hs
  exact ⟨h1, h2, h3, h4, hh⟩
theorem ntd' {s : Sto} {room : Int} (hs : s.ok room) : s.sel = 0 ∨ s.sel = 1 := hs.2.2.2.2
theorem ns9' {s : Sto} (hh : s.sel = 0 ∨ s.sel = 1) (x : ByteArray) : (s.set (1 - s.sel) x).cur = s.cur := by
  obtain ⟨h0, h1, sel⟩ := s
  rcases hh with h | h <;>
    (simp only at h
     subst h
     simp [Sto.cur, Sto.set])
theorem nt9' {s : Sto} (hh : s.sel = 0 ∨ s.sel = 1) (x : ByteArray) : (s.set (1 - s.sel) x).get (1 - s.sel) = x := by
  obtain ⟨h0, h1, sel⟩ := s
  rcases hh with h | h <;>
    (simp only at h
     subst h
     simp [Sto.set, Sto.get])
theorem nt3' {s : Sto} (hh : s.sel = 0 ∨ s.sel = 1) (x y : ByteArray) : (s.set (1 - s.sel) x).set (1 - s.sel) y = s.set (1 - s.sel) y := by
  obtain ⟨h0, h1, sel⟩ := s
  rcases hh with h | h <;>
    (simp only at h
     subst h
     simp [Sto.set])
theorem nyi' {s : Sto} (hh : s.sel = 0 ∨ s.sel = 1) (x : ByteArray) : Sto.cur { s.set (1 - s.sel) x with sel := 1 - s.sel } = x := by
  obtain ⟨h0, h1, sel⟩ := s
  rcases hh with h | h <;>
    (simp only at h
     subst h
     simp [Sto.cur, Sto.set])
theorem n0x' {b : Bldg} (hb : b.small) (hc : b.Cars.length ≤ 100) {s : Sto} {rs : List Record} {t : List UInt8} (h : bl s.cur = rs.flatMap encL ++ t) (ht : t.length < 6) (hv : ∀ r ∈ rs, nr' b r = true) : n3' b s = nba' (initV b) rs := by
  unfold n3' readV
  have hl : s.cur.size = 6 * rs.length + t.length := by rw [← ncb', h, List.length_append, ns0']
  rw [h, nvj' hb hc ht rs s.cur.size (by omega) hv]
structure Jst (b : Bldg) (s : Sto) (m : Img) : Prop where
  ok : s.ok b.Room
  img : ImgOK b m
  rs : ∃ rs : List Record, bl s.cur = rs.flatMap encL ∧ (∀ r ∈ rs, nr' b r = true) ∧ nba' (initV b) rs = m
  fits : 18 * ((b.Cars.length : Int) + (m.Entries.length : Int)) + 6 ≤ b.Room
theorem nvo' {b : Bldg} {m : Img} (h : ImgOK b m) : (((snapV m).flatMap encL).length : Int) = 18 * ((b.Cars.length : Int) + (m.Entries.length : Int)) := by
  rw [ns0', nug', h.lp]; omega
theorem nyt' {b : Bldg} {s : Sto} {m : Img} (hs : s.ok b.Room) (hm : ImgOK b m) {bud : Int} (hb0 : 0 ≤ bud) (hfit : 18 * ((b.Cars.length : Int) + (m.Entries.length : Int)) ≤ b.Room) :
    (2 + 18 * ((b.Cars.length : Int) + (m.Entries.length : Int)) ≤ bud ∧ nck' b s m bud = ({ s.set (1 - s.sel) (txt ((snapV m).flatMap encL)) with sel := 1 - s.sel }, bud - (2 + 18 * ((b.Cars.length : Int) + (m.Entries.length : Int))), 0)) ∨
    (bud < 2 + 18 * ((b.Cars.length : Int) + (m.Entries.length : Int)) ∧ ∃ s', nck' b s m bud = (s', 0, 8) ∧ s'.ok b.Room ∧ s'.cur = s.cur) := by
  have hsel := ntd' hs
  have hh : 1 - s.sel = 0 ∨ 1 - s.sel = 1 := by omega
  have hL := nvo' hm
  have hroom := hs.1
  have he : s.erase b.Room (1 - s.sel) bud = if bud = 0 then (s, 0, 8) else (s.set (1 - s.sel) noB, bud - 1, 0) := n1f' hs hh hb0 _
  unfold nck'
  rw [decide_eq_true hs, decide_eq_false (show ¬ bud < 0 by omega), Img.ok_iff.2 hm]
  simp only [Bool.not_true, cond_false]
  generalize hT : (snapV m).flatMap encL = T at hL ⊢
  by_cases h0 : bud = 0
  · right
    rw [he, if_pos h0]
    exact ⟨by omega, s, rfl, hs, rfl⟩
  · rw [if_neg h0] at he
    rw [he]
    have hs1 : (s.set (1 - s.sel) noB).ok b.Room := nq0' hs (by show (0 : Int) ≤ _; omega)
    have hw := n19' (t := T) hs1 hh (show 0 ≤ bud - 1 by omega) (by rw [nt9' hsel]; show ((0 : Nat) : Int) + _ ≤ _; omega)
    rw [nt9' hsel, nt3' hsel, nt3' hsel] at hw
    have nb : ∀ x : ByteArray, noB ++ x = x := fun x => nrn' (by rw [nz5']; rfl)
    rw [nb, nb] at hw
    simp only [beq_self_eq_true, cond_true, hw]
    by_cases h1 : bud - 1 < (T.length : Int)
    · right
      rw [if_pos h1]
      refine ⟨by omega, _, rfl, nq0' hs ?_, ns9' hsel _⟩
      rw [nff', List.length_take]
      omega
    · rw [if_neg h1]
      have hs2 : (s.set (1 - s.sel) (txt T)).ok b.Room := nq0' hs (by rw [nff']; omega)
      have hc := n1f' hs2 hh (show 0 ≤ bud - 1 - (T.length : Int) by omega) { s.set (1 - s.sel) (txt T) with sel := 1 - s.sel }
      have hc' : (s.set (1 - s.sel) (txt T)).choose b.Room (1 - s.sel) (bud - 1 - (T.length : Int)) = _ := hc
      simp only [beq_self_eq_true, cond_true, hc']
      by_cases h2 : bud - 1 - (T.length : Int) = 0
      · right
        rw [if_pos h2]
        exact ⟨by omega, _, rfl, hs2, ns9' hsel _⟩
      · left
        rw [if_neg h2, show bud - 1 - (T.length : Int) - 1 = bud - (2 + 18 * ((b.Cars.length : Int) + (m.Entries.length : Int))) by omega]
        exact ⟨by omega, rfl⟩
theorem Jst.replay {b : Bldg} (hb : b.small) {s : Sto} {m : Img} (hj : Jst b s m) : n3' b s = m := by
  have hcars := ncq' hj.img.code
  obtain ⟨rs, e1, e2, e3⟩ := hj.rs
  rw [n0x' hb (by omega) (rs := rs) (t := []) (by rw [e1, List.append_nil]) (by simp) e2, e3]
theorem Jst.first {b : Bldg} (hcode : b.code = 0) : Jst b Sto.no (initV b) := by
  have hr := nz7' hcode
  have hcars := ncq' hcode
  refine ⟨⟨by omega, by omega, ?_, ?_, .inl rfl⟩, nho' hcode, ⟨[], rfl, (fun r h => by cases h), rfl⟩, ?_⟩
  · show (0 : Int) ≤ _; omega
  · show (0 : Int) ≤ _; omega
  · show 18 * ((b.Cars.length : Int) + ((0 : Nat) : Int)) + 6 ≤ _; omega
theorem n4c' {s : Sto} {room : Int} (hs : s.ok room) : (s.cur.size : Int) ≤ room := by
  obtain ⟨_, _, h3, h4, _⟩ := hs
  unfold Sto.cur
  split
  · exact h4
  · exact h3
end Go.Ovl
namespace Go.Ovl
open Go Go.Ab
set_option maxRecDepth 100000
def n1m' (s : Sto) (m : Img) (bud e : Int) : (Unit × Unit × Int × Int × Unit) × ((ByteArray × ByteArray × Int × Unit) × (List Int × List Bool × List Bool × List Entry × Unit) × Unit) := (((), (), bud, e, ()), ((s.h0, s.h1, s.sel, ()), m.tup, ()))
def nbr' (b : Bldg) (s : Sto) (bud : Int) : Sto × Img × Int × Int :=
  bif (nck' b s (n3' b s) bud).2.2 != 0 then ((nck' b s (n3' b s) bud).1, Img.none, 0, (nck' b s (n3' b s) bud).2.2)
  else ((nck' b s (n3' b s) bud).1, n3' b s, (nck' b s (n3' b s) bud).2.1, 0)
theorem nlw' {b : Bldg} (hcode : b.code = 0) (s : Sto) (hs : s.cur.size ≤ 500000) : ImgOK b (n3' b s) ∧ (n3' b s).Entries.length ≤ 90000 ∧ (n3' b s).fit := by
  have hc := ncq' hcode
  obtain ⟨h1, h2⟩ := nl6' (nho' hcode) (rs := readV b s.cur) fun r hr => ngz' b _ _ r hr
  have h3 := nj5' b s.cur.size (bl s.cur)
  rw [ncb'] at h3
  have h4 : (initV b).Entries.length = 0 := rfl
  have h5 : (readV b s.cur).length = (readL b s.cur.size (bl s.cur)).length := rfl
  have g1 := h1.lp
  have g2 := h1.lf
  have g3 := h1.ll
  exact ⟨h1, by show (nba' (initV b) (readV b s.cur)).Entries.length ≤ _; omega, by show (nba' (initV b) (readV b s.cur)).Phases.length ≤ _; omega, by show (nba' (initV b) (readV b s.cur)).Flags.length ≤ _; omega, by show (nba' (initV b) (readV b s.cur)).Leaving.length ≤ _; omega, by show (nba' (initV b) (readV b s.cur)).Entries.length ≤ _; omega⟩
end Go.Ovl
namespace Go.Ovl
open Go Go.Ab
set_option maxRecDepth 100000
def fitsV (b : Bldg) (m : Img) : Bool := m.ok b && decide (18 * ((b.Cars.length : Int) + (m.Entries.length : Int)) + 6 ≤ b.Room)
theorem fitW {a b : Nat} (h : a ≤ 100000) (h' : b ≤ 100000) : IntKind.i64.wrap (IntKind.i64.wrap (18 * IntKind.i64.wrap ((a : Int) + (b : Int))) + 6) = 18 * ((a : Int) + (b : Int)) + 6 := by
  rw [nb' (n := (a : Int) + (b : Int)) (by omega) (by omega), nb' (n := 18 * ((a : Int) + (b : Int))) (by omega) (by omega), nb' (by omega) (by omega)]
def noc' : Belief := ⟨-1, 0, 0, [], 0, false⟩
def carAt (b : Bldg) (i : Nat) : Car := b.Cars.getD i ⟨0, 0, 0, 0, 0, 0, 0, 0, 0⟩
def nku' (b : Bldg) (e : Entry) : Int := bif decide (0 ≤ e.Car) then (carAt b e.Car.toNat).Deadline else 0
def Mch.none : Mch := ⟨Img.none, Sto.no, [], [], [], [], [], [], 0, 0, 0⟩
def nj1' (b : Bldg) (m : Img) (s : Sto) : Mch := ⟨m, s, List.replicate b.Cars.length nmg', List.replicate b.Cars.length noc', List.replicate b.Cars.length nqb', List.replicate b.Cars.length nqn', m.Entries.map (nku' b), List.replicate b.Cars.length nsi', 0, 0, 0⟩
def Mch.withB (m : Mch) (l : List Belief) : Mch := { m with Beliefs := l }
def Mch.withE (m : Mch) (l : List Int) : Mch := { m with Expect := l }
theorem nwd' {α : Type} (a : α) : ∀ k i : Nat, (List.range' i k).flatMap (fun _ => [a]) = List.replicate k a
  | 0, _ => rfl
  | k + 1, i => by rw [List.range'_succ, List.flatMap_cons, nwd' a k (i + 1), List.replicate_succ]; rfl
theorem n2g' {α β : Type} (f : α → β) (l : List α) : l.flatMap (fun x => [f x]) = l.map f := by
  induction l with
  | nil => rfl
  | cons a t ih => rw [List.flatMap_cons, ih]; rfl
def ndk' (b : Bldg) (m : Img) (s : Sto) : Mch × Int := bif fitsV b m && decide (s.ok b.Room) then (nj1' b m s, 0) else (Mch.none, 1)
def bootV (b : Bldg) (s : Sto) (bud : Int) : Mch × Int × Int :=
  bif (nbr' b s bud).2.2.2 != 0 then ({ Mch.none with Store := (nbr' b s bud).1 }, 0, (nbr' b s bud).2.2.2)
  else bif (ndk' b (nbr' b s bud).2.1 (nbr' b s bud).1).2 != 0 then (Mch.none, 0, (ndk' b (nbr' b s bud).2.1 (nbr' b s bud).1).2)
  else ((ndk' b (nbr' b s bud).2.1 (nbr' b s bud).1).1, (nbr' b s bud).2.2.1, 0)
theorem n21' {b : Bldg} (hcode : b.code = 0) (s : Sto) (hs : s.cur.size ≤ 500000) (bud : Int) : (nbr' b s bud).2.1.fit := by
  obtain ⟨_, _, hf⟩ := nlw' hcode s hs
  unfold nbr'
  cases (nck' b s (n3' b s) bud).2.2 != 0 with
  | true => exact ⟨Nat.zero_le _, Nat.zero_le _, Nat.zero_le _, Nat.zero_le _⟩
  | false => exact hf
end Go.Ovl
namespace Go.Ovl
open Go Go.Ab
set_option maxRecDepth 100000
end Go.Ovl
namespace Go.Ovl
open Go Go.Ab
set_option maxRecDepth 100000
theorem n3d' {b : Bldg} {m : Img} (hm : ImgOK b m) (hfit : 18 * ((b.Cars.length : Int) + (m.Entries.length : Int)) + 6 ≤ b.Room) : fitsV b m = true := by
  unfold fitsV
  rw [Img.ok_iff.2 hm, decide_eq_true hfit]; rfl
theorem np9' {b : Bldg} {m : Img} (hm : ImgOK b m) (hfit : 18 * ((b.Cars.length : Int) + (m.Entries.length : Int)) + 6 ≤ b.Room) {s : Sto} (hs : s.ok b.Room) : ndk' b m s = (nj1' b m s, 0) := by
  unfold ndk'
  rw [n3d' hm hfit, decide_eq_true hs]; rfl
theorem n3m' {b : Bldg} (_hb : b.small) {s : Sto} {m : Img} (hs : s.ok b.Room) (hm : ImgOK b m) (hrep : n3' b s = m) (hfit : 18 * ((b.Cars.length : Int) + (m.Entries.length : Int)) + 6 ≤ b.Room) {bud : Int} (hb0 : 0 ≤ bud) :
    (2 + 18 * ((b.Cars.length : Int) + (m.Entries.length : Int)) ≤ bud ∧ bootV b s bud = (nj1' b m { s.set (1 - s.sel) (txt ((snapV m).flatMap encL)) with sel := 1 - s.sel }, bud - (2 + 18 * ((b.Cars.length : Int) + (m.Entries.length : Int))), 0) ∧ Jst b { s.set (1 - s.sel) (txt ((snapV m).flatMap encL)) with sel := 1 - s.sel } m) ∨
    (bud < 2 + 18 * ((b.Cars.length : Int) + (m.Entries.length : Int)) ∧ ∃ s', bootV b s bud = ({ Mch.none with Store := s' }, 0, 8) ∧ s'.ok b.Room ∧ n3' b s' = m) := by
  have hsel := ntd' hs
  unfold bootV nbr'
  rw [hrep]
  rcases nyt' hs hm hb0 (by omega) with ⟨q1, q2⟩ | ⟨q1, s', q2, q3, q4⟩
  · left
    have hj : Jst b { s.set (1 - s.sel) (txt ((snapV m).flatMap encL)) with sel := 1 - s.sel } m := by
      refine ⟨n45' (nq0' hs ?_) (by omega), hm, ⟨snapV m, ?_, nr0' hm, nye' hm⟩, hfit⟩
      · rw [nff', nvo' hm]; omega
      · rw [nyi' hsel, nfm']
    rw [q2]
    refine ⟨q1, ?_, hj⟩
    simp only [bne_self_eq_false, cond_false]
    rw [np9' hm hfit hj.ok]
    rfl
  · right
    rw [q2]
    refine ⟨q1, s', rfl, q3, ?_⟩
    rw [← hrep]
    unfold n3'
    rw [q4]
def sB26 : Bldg := bld10 4 2 90
end Go.Ovl
namespace Go.Ovl
open Go Go.Ab
theorem nhm' (room : Int) (h0 h1 : ByteArray) (sel : Int) : ndf' room h0 h1 sel = some ((decide (Sto.ok room ⟨h0, h1, sel⟩), ()), ()) := by
  unfold ndf' Sto.ok
  by_cases a : 1 ≤ room
  · by_cases b : room ≤ 65536
    · by_cases c : (h0.size : Int) ≤ room
      · by_cases d : (h1.size : Int) ≤ room
        · by_cases e : sel = 0
          · simp [a, b, c, d, e]
          · by_cases f : sel = 1 <;> simp [a, b, c, d, e, f, beq_f]
        · simp [a, b, c, d]
      · simp [a, b, c]
    · simp [a, b]
  · simp [a]
theorem njg' (room : Int) (h0 h1 : ByteArray) (sel half bud : Int) : nf2' room h0 h1 sel half bud = some ((Sto.chk room ⟨h0, h1, sel⟩ half bud, ()), ()) := by
  unfold nf2' Sto.chk
  rw [nhm']
  by_cases a : Sto.ok room ⟨h0, h1, sel⟩
  · by_cases b : half = 0
    · by_cases c : bud < 0 <;> simp [a, b, c]
    · by_cases d : half = 1
      · by_cases c : bud < 0 <;> simp [a, c, d]
      · simp [a, b, d, bne_t]
  · simp [a]
theorem n1p' (room : Int) (h0 h1 : ByteArray) (sel half bud : Int) (hb : bud < 9223372036854775808) : njj' room h0 h1 sel half bud = some (Sto.out (Sto.erase room ⟨h0, h1, sel⟩ half bud)) := by
  unfold njj' Sto.erase Sto.act
  rw [njg']
  generalize hc : Sto.chk room ⟨h0, h1, sel⟩ half bud = c
  by_cases h : c = 0
  · subst h
    obtain ⟨_, hh, hb0⟩ := nqi' hc
    by_cases h2 : bud = 0
    · simp [h2, Sto.out]
    · have hin : inB half 2 = true := nd' (by omega) (by omega)
      rw [nb' (n := bud - 1) (by omega) (by omega)]
      have e : (bud == 0) = false := by simpa using h2
      rcases hh with rfl | rfl <;> simp [hin, e, h2, Sto.out, Sto.set, noB] <;> rfl
  · simp [h, Sto.out, Sto.no, noB, bne_t]
theorem nyw' (room : Int) (h0 h1 : ByteArray) (sel half bud : Int) (hb : bud < 9223372036854775808) : nik' room h0 h1 sel half bud = some (Sto.out (Sto.choose room ⟨h0, h1, sel⟩ half bud)) := by
  unfold nik' Sto.choose Sto.act
  rw [njg']
  generalize hc : Sto.chk room ⟨h0, h1, sel⟩ half bud = c
  by_cases h : c = 0
  · subst h
    obtain ⟨_, hh, hb0⟩ := nqi' hc
    by_cases h2 : bud = 0
    · simp [h2, Sto.out]
    · rw [nb' (n := bud - 1) (by omega) (by omega)]
      have e : (bud == 0) = false := by simpa using h2
      simp [e, h2, Sto.out]
  · simp [h, Sto.out, Sto.no, noB, bne_t]
theorem nqs' (h0 h1 : ByteArray) (sel : Int) : nft' h0 h1 sel = some ((Sto.cur ⟨h0, h1, sel⟩, ()), ()) := by
  unfold nft' Sto.cur
  by_cases h : sel = 1 <;> simp [h, beq_f]
theorem nxr' {s : Sto} {half : Int} (hh : half = 0 ∨ half = 1) (x : ByteArray) : (s.set half x).get half = x := by rcases hh with rfl | rfl <;> rfl
theorem set_set {s : Sto} {half : Int} (hh : half = 0 ∨ half = 1) (x y : ByteArray) : (s.set half x).set half y = s.set half y := by rcases hh with rfl | rfl <;> rfl
theorem nxx' {s : Sto} {half : Int} (hh : half = 0 ∨ half = 1) : s.set half (s.get half) = s := by rcases hh with rfl | rfl <;> rfl
theorem ntv' {s : Sto} {half : Int} (hh : half = 0 ∨ half = 1) : List.getD [s.h0, s.h1] half.toNat (ByteArray.mk (Array.mk [])) = s.get half := by rcases hh with rfl | rfl <;> rfl
theorem n1a' {s : Sto} {half : Int} (hh : half = 0 ∨ half = 1) (x : ByteArray) : ((bif Nat.beq half.toNat 0 then x else s.h0), ((bif Nat.beq half.toNat 1 then x else s.h1), (s.sel, ()))) = (s.set half x).tup := by
  rcases hh with rfl | rfl <;> rfl
theorem nus' {half : Int} {d : ByteArray} {bud i : Int} {s t : Sto} (h : (d.size : Int) ≤ i) :
    nbu' half d bud i s.h0 s.h1 s.sel t.h0 t.h1 t.sel = some (.inr (.inl ((bud, ((), ((), ()))), (s.tup, (t.tup, ()))))) := by
  unfold nbu'
  have e : decide (i < (d.size : Int)) = false := by simp; omega
  rw [e]; rfl
theorem nsf' {half : Int} {d : ByteArray} {i : Int} {s t : Sto} (h : i < (d.size : Int)) :
    nbu' half d 0 i s.h0 s.h1 s.sel t.h0 t.h1 t.sel = some (.inr (.inr (((), (0, (8, ()))), (s.tup, ())))) := by
  unfold nbu'
  have e : decide (i < (d.size : Int)) = true := by simpa using h
  rw [e]; rfl
theorem nwm' {half : Int} (hh : half = 0 ∨ half = 1) {d : ByteArray} {bud : Int} {i : Nat} {s t : Sto} (h : i < d.size) (hd : d.size < 1000000) (hb : 0 < bud) (hb' : bud < 9223372036854775808) (hs : (s.get half).size < 1000000) :
    nbu' half d bud i s.h0 s.h1 s.sel t.h0 t.h1 t.sel =
      some (.inl ((half, (d, (bud - 1, ((), ((), (((i + 1 : Nat) : Int), ())))))), ((s.set half (s.get half ++ d.extract i (i + 1))).tup, (t.tup, ())))) := by
  unfold nbu'
  have e : decide ((i : Int) < (d.size : Int)) = true := by simp; omega
  have e1 : (bud == 0) = false := beq_f (by omega)
  have e2 : inB half 2 = true := nd' (by omega) (by omega)
  have w : IntKind.i64.wrap ((i : Int) + 1) = ((i + 1 : Nat) : Int) := by rw [nb' (by omega) (by omega)]; omega
  have w2 : IntKind.i64.wrap (bud - 1) = bud - 1 := nb' (by omega) (by omega)
  have e3 : (decide ((0 : Int) ≤ ((i + 1 : Nat) : Int)) && decide (((i + 1 : Nat) : Int) ≤ (d.size : Int))) = true := by simp; omega
  have e4 : (decide ((0 : Int) ≤ (i : Int)) && decide ((i : Int) ≤ ((Int.toNat ((i + 1 : Nat) : Int) : Nat) : Int))) = true := by simp; omega
  have e5 : Int.toNat ((i + 1 : Nat) : Int) = i + 1 := by omega
  have e6 : Int.toNat (i : Int) = i := by omega
  simp only [e, e1, e2, w, w2, e3, e4, cond_true, cond_false, ntv' hh]
  simp only [e5, e6]
  have e7 : Nat.ble ((s.get half).size + (d.extract i (i + 1)).size) 4611686018427387904 = true := nbk' (by simp; omega)
  rw [e7, cond_true, n1a' hh]
  rfl
theorem nv0' {half : Int} (hh : half = 0 ∨ half = 1) {d : ByteArray} {t : Sto} (hd : d.size ≤ 65536) : ∀ (n i : Nat) (bud : Int) (s : Sto), d.size - i = n → i ≤ d.size → 0 ≤ bud → bud < 9223372036854775808 → (s.get half).size + (d.size - i) ≤ 65536 →
    iter (fun x => nbu' x.1.1 x.1.2.1 x.1.2.2.1 x.1.2.2.2.2.2.1 x.2.1.1 x.2.1.2.1 x.2.1.2.2.1 x.2.2.1.1 x.2.2.1.2.1 x.2.2.1.2.2.1) (n + 1)
        ((half, (d, (bud, ((), ((), ((i : Int), ())))))), (s.tup, (t.tup, ()))) =
      some (if bud < (d.size : Int) - i then .inr (((), (0, (8, ()))), ((s.set half (s.get half ++ d.extract i (i + bud.toNat))).tup, ()))
        else .inl ((bud - ((d.size : Int) - i), ((), ((), ()))), ((s.set half (s.get half ++ d.extract i d.size)).tup, (t.tup, ()))))
  | 0, i, bud, s, hn, hi, hb, hb', hs => by
    have : i = d.size := by omega
    subst this
    refine ns' (y := _) ?_
    rw [if_neg (by omega), nuf', nq4', nxx' hh]
    show nbu' half d bud (d.size : Int) s.h0 s.h1 s.sel t.h0 t.h1 t.sel = _
    rw [nus' (Int.le_refl _)]
    simp
  | n + 1, i, bud, s, hn, hi, hb, hb', hs => by
    by_cases h0 : bud = 0
    · subst h0
      refine ns' (y := _) ?_
      rw [if_pos (by omega)]
      show nbu' half d 0 (i : Int) s.h0 s.h1 s.sel t.h0 t.h1 t.sel = _
      rw [nsf' (by omega)]
      simp only [Int.toNat_zero, Nat.add_zero, nuf', nq4', nxx' hh]
    · rw [nbd' (show nbu' half d bud (i : Int) s.h0 s.h1 s.sel t.h0 t.h1 t.sel = _ from nwm' hh (by omega) (by omega) (by omega) hb' (by omega)),
        nv0' hh hd n (i + 1) (bud - 1) _ (by omega) (by omega) (by omega) (by omega) (by rw [nxr' hh]; simp; omega)]
      rw [nxr' hh, set_set hh, set_set hh, ByteArray.append_assoc, ByteArray.append_assoc]
      by_cases h1 : bud < (d.size : Int) - i
      · rw [if_pos h1, if_pos (by omega), nu4' d (by omega) (by omega), show i + 1 + (bud - 1).toNat = i + bud.toNat by omega]
      · rw [if_neg h1, if_neg (by omega), nu4' d (by omega) (by omega)]
        congr 3
        have : bud - 1 - ((d.size : Int) - ((i + 1 : Nat) : Int)) = bud - ((d.size : Int) - i) := by omega
        rw [this]
theorem nsw' (room : Int) (h0 h1 : ByteArray) (sel half : Int) (d : ByteArray) (bud : Int) (hb : bud < 9223372036854775808) (hd : d.size < 1000000) :
    ng1' room h0 h1 sel half d bud = some (Sto.out (Sto.write room ⟨h0, h1, sel⟩ half d bud)) := by
  unfold ng1' Sto.write
  rw [njg']
  generalize hc : Sto.chk room ⟨h0, h1, sel⟩ half bud = c
  by_cases h : c = 0
  · subst h
    obtain ⟨⟨o1, o2, o3, o4, o5⟩, hh, hb0⟩ := nqi' hc
    simp only at o3 o4
    have hin : inB half 2 = true := nd' (by omega) (by omega)
    have hg : List.getD [h0, h1] half.toNat (ByteArray.mk (Array.mk [])) = Sto.get ⟨h0, h1, sel⟩ half := ntv' (s := ⟨h0, h1, sel⟩) hh
    have hgs : ((Sto.get ⟨h0, h1, sel⟩ half).size : Int) ≤ room := by rcases hh with rfl | rfl <;> simpa [Sto.get]
    simp only [Option.bind_some, hin, cond_true, hg]
    rw [nb' (n := ((Sto.get ⟨h0, h1, sel⟩ half).size : Int) + d.size) (by omega) (by omega)]
    by_cases h2 : room < ((Sto.get ⟨h0, h1, sel⟩ half).size : Int) + d.size
    · simp [h2, Sto.out, Sto.no, noB]
    · have hl := nv0' (t := Sto.no) hh (d := d) (by omega) d.size 0 bud ⟨h0, h1, sel⟩ (by omega) (by omega) hb0 hb (by omega)
      have hl' : nfu' ((half, (d, (bud, ((), ((), ((0 : Int), ())))))), ((Sto.tup ⟨h0, h1, sel⟩), (Sto.no.tup, ()))) = _ := no' hl (by omega)
      have e : decide (room < ((Sto.get ⟨h0, h1, sel⟩ half).size : Int) + d.size) = false := by simpa using h2
      have z : ((0 : Int) != 0) = false := rfl
      simp only [z, cond_false, h2, if_false, ne_eq, not_true_eq_false]
      show (nfu' ((half, (d, (bud, ((), ((), ((0 : Int), ())))))), ((Sto.tup ⟨h0, h1, sel⟩), (Sto.no.tup, ())))).bind _ = _
      rw [hl']
      by_cases h3 : bud < d.size
      · rw [if_pos (by omega), if_pos h3]
        simp [Sto.out, Sto.tup]
      · rw [if_neg (by omega), if_neg h3]
        simp [Sto.out, Sto.tup]
  · simp [h, Sto.out, Sto.no, noB, bne_t]
end Go.Ovl
namespace Go.Ovl
open Go Go.Ab
set_option maxRecDepth 100000
theorem nuu' {b : Bldg} (hb : b.small) (hc : b.Cars.length ≤ 100) {rs : List Record} (hl : rs.length ≤ 100000) : ngx' b.Floors b.Debounce b.Room b.Park b.Empty b.Full b.Over b.Cars rs = some ((txt (rs.flatMap fun r => bl (encR b r)), ()), ()) := by
  have h := ncd' (step := fun x => nd3' x.1.1 x.1.2.2.1 x.1.2.2.2.1 x.2.1.1 x.2.1.2.1 x.2.1.2.2.1 x.2.1.2.2.2.1 x.2.1.2.2.2.2.1 x.2.1.2.2.2.2.2.1 x.2.1.2.2.2.2.2.2.1 x.2.1.2.2.2.2.2.2.2.1) rs.length (fun i (l : List UInt8) => ((rs, (), txt l, (i : Int), ()), (b.tup, ()))) (fun i l => l ++ bl (encR b (rs.getD i (Record.mk 0 0 0 0 0)))) (fun i l => l.length ≤ 6 * i) (fun l => ((txt l, ()), ())) (fun i l hi hs => by
    have he := nz9' b (rs.getD i (Record.mk 0 0 0 0 0))
    refine ⟨?_, by rw [List.length_append]; omega⟩
    show nd3' rs (txt l) (i : Int) b.Floors b.Debounce b.Room b.Park b.Empty b.Full b.Over b.Cars = _
    unfold nd3'
    simp only [decide_eq_true (show (i : Int) < (rs.length : Int) by omega), nd' (show (0 : Int) ≤ (i : Int) by omega) (show (i : Int) < (rs.length : Int) by omega), cond_true, Int.toNat_natCast, nun' hb hc, Option.bind_some, wrap1 hi (show rs.length ≤ n4' by unfold n4'; omega)]
    rw [nbk' (show (txt l).size + (encR b (rs.getD i (Record.mk 0 0 0 0 0))).size ≤ 4611686018427387904 by rw [nff', ← ncb']; omega)]
    rw [show txt l ++ encR b (rs.getD i (Record.mk 0 0 0 0 0)) = txt (l ++ bl (encR b (rs.getD i (Record.mk 0 0 0 0 0)))) by rw [← nxk', n4l']]
    rfl) (fun l _ => by
    show nd3' rs (txt l) (rs.length : Int) b.Floors b.Debounce b.Room b.Park b.Empty b.Full b.Over b.Cars = _
    unfold nd3'
    simp only [decide_eq_false (Int.lt_irrefl (rs.length : Int)), cond_false]) rs.length 0 [] (by omega) (by simp)
  have h' := no' h.1 (by omega)
  rw [nhw' (fun i => bl (encR b (rs.getD i (Record.mk 0 0 0 0 0)))), List.nil_append, nkp' (fun r => bl (encR b r)) (Record.mk 0 0 0 0 0) rs 0 rs.length (by omega), List.drop_zero] at h'
  unfold ngx'
  rw [show nhd' ((rs, (), ByteArray.mk (Array.mk []), (0 : Int), ()), ((b.Floors, b.Debounce, b.Room, b.Park, b.Empty, b.Full, b.Over, b.Cars, ()), ())) = _ from h']
  rfl
end Go.Ovl
namespace Go.Ovl
open Go Go.Ab
set_option maxRecDepth 100000
end Go.Ovl
